/- Contracts and plain facts that the claim is built on, joined out of smaller texts; no condition. -/
import Derived.Test.YtncmobkhenfhpaaGreatB23
set_option linter.unusedVariables false
set_option linter.unusedSimpArgs false
set_option maxRecDepth 100000
set_option maxHeartbeats 40000000
namespace Go.Proofs.YtncmobkhenfhpaaGreat
open Go.RowKit
open Pl
section
section
variable {P:Program} {ops:Array Oper} {Q:Exit→Act→World→Prop} {md:Region.Mode} {S:World→Prop} {n:Nat}
def AnyF (P:Program) (md:Region.Mode) (ops:Array Oper) (Q:Exit→Act→World→Prop) (S:World→Prop) (n:Nat):Nat→Array Bool→Act→World→Prop
 | 0,listed,a,w=>Region.ready md ops listed=[]∧Q .normal a w
 | fuel+1,listed,a,w=>(Region.ready md ops listed=[]→Q .normal a w)∧
  ∀i∈Region.ready md ops listed,wpOp P ops Q i (fun a' w'=>(n≤i∨S w')∧AnyF P md ops Q S n fuel (listed.setIfInBounds i true) a' w') a w
theorem AnyF.any:∀(fuel:Nat) (listed:Array Bool) (a:Act) (w:World),AnyF P md ops Q S n fuel listed a w→wpAny P md ops Q fuel listed a w
 | 0,_,_,_,h=>h
 | fuel+1,_,_,_,h=>⟨h.1,fun i hi=>wpOp_mono (fun a' w' h'=>AnyF.any fuel _ a' w' h'.2) (h.2 i hi)⟩
end
end
namespace Pl
theorem pigeon:∀(m n:Nat) (f:Nat→Nat),m < n→(∀k,k < n→f k < m)→∃i j,i < j∧j < n∧f i=f j
 | 0,n,f,h,hf=>absurd (hf 0 (by omega)) (by omega)
 | m+1,n,f,h,hf=>by
  by_cases hk:∃k,k < n∧f k=m
  ·obtain ⟨k,hkn,hfk⟩:=hk
   by_cases h2:∃l,l < n∧l≠k∧f l=m
   ·obtain ⟨l,hl,hne,hfl⟩:=h2
    rcases Nat.lt_or_ge l k with e | e
    ·exact ⟨l,k,e,hkn,by rw [hfl,hfk]⟩
    ·exact ⟨k,l,by omega,hl,by rw [hfl,hfk]⟩
   ·obtain ⟨i,j,hij,hj,he⟩:=pigeon m (n - 1) (fun i=>if i < k then f i else f (i+1)) (by omega) fun i hi=>by
     by_cases e:i < k
     ·simp only [if_pos e]
      have:=hf i (by omega)
      have:f i≠m:=fun e'=>h2 ⟨i,by omega,by omega,e'⟩
      omega
     ·simp only [if_neg e]
      have:=hf (i+1) (by omega)
      have:f (i+1)≠m:=fun e'=>h2 ⟨i+1,by omega,by omega,e'⟩
      omega
    by_cases e1:i < k
    ·by_cases e2:j < k
     ·exact ⟨i,j,hij,by omega,by simpa only [if_pos e1,if_pos e2] using he⟩
     ·exact ⟨i,j+1,by omega,by omega,by simpa only [if_pos e1,if_neg e2] using he⟩
    ·exact ⟨i+1,j+1,by omega,by omega,by simpa only [if_neg e1,if_neg (show ¬j < k by omega)] using he⟩
  ·exact pigeon m n f (by omega) fun k hkn=>by
    have:=hf k hkn
    have:f k≠m:=fun e=>hk ⟨k,hkn,e⟩
    omega
def Inj (n t:Nat) (F:Nat→Nat):Prop:=(∀s,s < t→F s < n)∧∀s u,s < u→u < t→F s≠F u
theorem Inj.eq {n t:Nat} {F:Nat→Nat} (h:Inj n t F) {s u:Nat} (hs:s < t) (hu:u < t) (e:F s=F u):s=u:=by
 rcases Nat.lt_trichotomy s u with g | g | g
 ·exact absurd e (h.2 s u g hu)
 ·exact g
 ·exact absurd e.symm (h.2 u s g hs)
theorem Inj.onto {n:Nat} {F:Nat→Nat} (h:Inj n n F) {i:Nat} (hi:i < n):∃s,s < n∧F s=i:=by
 by_cases e:∃s,s < n∧F s=i
 ·exact e
 ·exfalso
  obtain ⟨a,b,hab,hb,he⟩:=pigeon n (n+1) (fun s=>if s < n then F s else i) (by omega) fun k _=>by
   by_cases e':k < n
   ·simp only [if_pos e'];exact h.1 k e'
   ·simp only [if_neg e'];exact hi
  by_cases e1:b < n
  ·exact h.2 a b hab e1 (by simpa only [if_pos (show a < n by omega),if_pos e1] using he)
  ·exact e ⟨a,by omega,by simpa only [if_pos (show a < n by omega),if_neg e1] using he⟩
theorem Inj.free {n t:Nat} {F:Nat→Nat} (_h:Inj n t F) (ht:t < n):∃i,i < n∧∀s,s < t→F s≠i:=by
 by_cases e:∃i,i < n∧∀s,s < t→F s≠i
 ·exact e
 ·exfalso
  have key:∀i,i < n→∃s,s < t∧F s=i:=fun i hi=>by
   by_cases e':∃s,s < t∧F s=i
   ·exact e'
   ·exact absurd ⟨i,hi,fun s hs he=>e' ⟨s,hs,he⟩⟩ e
  obtain ⟨a,b,hab,hb,he⟩:=pigeon t n (fun i=>if hi:i < n then (key i hi).choose else 0) ht fun k hk=>by
   simp only [dif_pos hk];exact (key k hk).choose_spec.1
  simp only [dif_pos (show a < n by omega),dif_pos hb] at he
  have h1:=(key a (by omega)).choose_spec.2
  have h2:=(key b hb).choose_spec.2
  rw [he] at h1
  omega
theorem Inj.snoc {n t r:Nat} {F:Nat→Nat} (h:Inj n t F) (hr:r < n) (hn:∀s,s < t→F s≠r):Inj n (t+1) (fun s=>if s=t then r else F s):=by
 refine ⟨fun s hs=>?_,fun s u hsu hu=>?_⟩
 ·by_cases e:s=t
  ·simp only [if_pos e];exact hr
  ·simp only [if_neg e];exact h.1 s (by omega)
 ·simp only [if_neg (show s≠t by omega)]
  by_cases e:u=t
  ·simp only [if_pos e];exact hn s (by omega)
  ·simp only [if_neg e];exact h.2 s u hsu (by omega)
theorem sumN_perm {n:Nat} {F:Nat→Nat} (h:Inj n n F) (f:Nat→Rat):sumN (fun k=>f (F k)) n=sumN f n:=by
 have h1:sumN (fun k=>f (F k)) n=sumN (fun k=>sumN (fun j=>if j=F k then f j else 0) n) n:=sumN_congr fun k hk=>by
  rw [sumN_single (h.1 k hk) fun i _ hne=>by rw [if_neg hne],if_pos rfl]
 rw [h1,sumN_swap]
 exact sumN_congr fun j hj=>by
  obtain ⟨s,hs,he⟩:=h.onto hj
  rw [sumN_single hs fun i hi hne=>if_neg fun e=>hne (h.eq hi hs (by omega)),if_pos he.symm]
structure LuInv (n t:Nat) (A a:Mx) (R C:Nat→Nat) (m:Mx):Prop where
 ri:Inj n t R
 ci:Inj n t C
 m0:∀s q,s < t→q≤s→m s (R q)=0
 piv:∀s,s < t→a (R s) (C s)≠0
 e1:∀i j,i < n→j < n→(∀s,s < t→R s≠i)→(∀s,s < t→C s≠j)→A i j=sumN (fun s=>m s i * a (R s) j) t+a i j
 e2:∀i q,i < n→q < t→(∀s,s < t→R s≠i)→A i (C q)=sumN (fun s=>m s i * a (R s) (C q)) (q+1)
 e3:∀p j,p < t→j < n→(∀s,s < p→C s≠j)→A (R p) j=sumN (fun s=>m s (R p) * a (R s) j) p+a (R p) j
 e4:∀p q,p < t→q < p→A (R p) (C q)=sumN (fun s=>m s (R p) * a (R s) (C q)) (q+1)
theorem LuInv.start (n:Nat) (A:Mx) (R C:Nat→Nat) (m:Mx):LuInv n 0 A A R C m where
 ri:=⟨fun s h=>absurd h (by omega),fun s u _ h=>absurd h (by omega)⟩
 ci:=⟨fun s h=>absurd h (by omega),fun s u _ h=>absurd h (by omega)⟩
 m0:=fun s q h=>absurd h (by omega)
 piv:=fun s h=>absurd h (by omega)
 e1:=fun i j _ _ _ _=>by rw [sumN_zero];grind
 e2:=fun i q _ h=>absurd h (by omega)
 e3:=fun p j h=>absurd h (by omega)
 e4:=fun p q h=>absurd h (by omega)
theorem LuInv.step {n t:Nat} {A a:Mx} {R C:Nat→Nat} {m:Mx} (h:LuInv n t A a R C m) {r c:Nat} (hr:r < n) (hc:c < n) (hrf:∀s,s < t→R s≠r) (hcf:∀s,s < t→C s≠c) (hp:a r c≠0)
 {a' m':Mx} {R' C':Nat→Nat} (hR:∀s,s < t→R' s=R s) (hRt:R' t=r) (hC:∀s,s < t→C' s=C s) (hCt:C' t=c)
 (hm:∀s i,s < t→m' s i=m s i) (hmt:∀i,i < n→m' t i=if (∀s,s < t→R s≠i)∧i≠r then a i c / a r c else 0)
 (ha:∀i j,i < n→j < n→a' i j=if ((∀s,s < t→R s≠i)∧i≠r)∧((∀s,s < t→C s≠j)∧j≠c) then a i j - m' t i * a r j else a i j):LuInv n (t+1) A a' R' C' m':=by
 have hmR:∀i,i < n→(∀s,s < t→R s≠i)→i≠r→m' t i * a r c=a i c:=fun i hi h1 h2=>by
  rw [hmt i hi,if_pos ⟨h1,h2⟩];exact Rat.div_mul_cancel hp
 have hR1:∀s,s < t+1→R' s < n:=fun s hs=>by
  rcases Nat.lt_or_ge s t with e | e
  ·rw [hR s e];exact h.ri.1 s e
  ·obtain rfl:s=t:=by omega
   rw [hRt];exact hr
 have hC1:∀s,s < t+1→C' s < n:=fun s hs=>by
  rcases Nat.lt_or_ge s t with e | e
  ·rw [hC s e];exact h.ci.1 s e
  ·obtain rfl:s=t:=by omega
   rw [hCt];exact hc
 -- rows that are taken do not change any more
 have haR:∀s j,s < t+1→j < n→a' (R' s) j=a (R' s) j:=fun s j hs hj=>by
  rw [ha _ _ (hR1 s hs) hj]
  refine if_neg fun e=>?_
  rcases Nat.lt_or_ge s t with g | g
  ·exact e.1.1 s g (hR s g).symm
  ·obtain rfl:s=t:=by omega
   exact e.1.2 hRt
 have hleft:∀i,(∀s,s < t+1→R' s≠i)→(∀s,s < t→R s≠i)∧i≠r:=fun i hi=>⟨fun s hs e=>hi s (by omega) (by rw [hR s hs];exact e),fun e=>hi t (by omega) (by rw [hRt];exact e.symm)⟩
 have hleftC:∀j,(∀s,s < t+1→C' s≠j)→(∀s,s < t→C s≠j)∧j≠c:=fun j hj=>⟨fun s hs e=>hj s (by omega) (by rw [hC s hs];exact e),fun e=>hj t (by omega) (by rw [hCt];exact e.symm)⟩
 have hsum:∀i j k,k≤t→j < n→sumN (fun s=>m' s i * a' (R' s) j) k=sumN (fun s=>m s i * a (R s) j) k:=fun i j k hk hj=>sumN_congr fun s hs=>by
  rw [hm s i (by omega),haR s j (by omega) hj,hR s (by omega)]
 refine ⟨⟨hR1,fun s u hsu hu=>?_⟩,⟨hC1,fun s u hsu hu=>?_⟩,fun s q hs hq=>?_,fun s hs=>?_,fun i j hi hj h1 h2=>?_,fun i q hi hq h1=>?_,fun p j hp' hj h1=>?_,fun p q hp' hq=>?_⟩
 ·rw [hR s (by omega)]
  rcases Nat.lt_or_ge u t with e | e
  ·rw [hR u e];exact h.ri.2 s u hsu e
  ·obtain rfl:u=t:=by omega
   rw [hRt];exact hrf s hsu
 ·rw [hC s (by omega)]
  rcases Nat.lt_or_ge u t with e | e
  ·rw [hC u e];exact h.ci.2 s u hsu e
  ·obtain rfl:u=t:=by omega
   rw [hCt];exact hcf s hsu
 ·rcases Nat.lt_or_ge s t with e | e
  ·rw [hm s _ e,hR q (by omega)];exact h.m0 s q e hq
  ·obtain rfl:s=t:=by omega
   rw [hmt _ (hR1 q (by omega))]
   refine if_neg fun e=>?_
   rcases Nat.lt_or_ge q s with g | g
   ·exact e.1 q g (hR q g).symm
   ·obtain rfl:q=s:=by omega
    exact e.2 hRt
 ·rw [haR s _ hs (hC1 s hs)]
  rcases Nat.lt_or_ge s t with e | e
  ·rw [hR s e,hC s e];exact h.piv s e
  ·obtain rfl:s=t:=by omega
   rw [hRt,hCt];exact hp
 ·obtain ⟨i1,i2⟩:=hleft i h1
  obtain ⟨j1,j2⟩:=hleftC j h2
  rw [sumN_succ,hsum i j t (Nat.le_refl _) hj,haR t j (by omega) hj,hRt,ha i j hi hj,if_pos ⟨⟨i1,i2⟩,⟨j1,j2⟩⟩,h.e1 i j hi hj i1 j1]
  grind
 ·obtain ⟨i1,i2⟩:=hleft i h1
  rcases Nat.lt_or_ge q t with e | e
  ·rw [hC q e,hsum i _ (q+1) (by omega) (h.ci.1 q e)];exact h.e2 i q hi e i1
  ·obtain rfl:q=t:=by omega
   rw [hCt,sumN_succ,hsum i c q (Nat.le_refl _) hc,haR q c (by omega) hc,hRt,hmR i hi i1 i2,h.e1 i c hi hc i1 hcf]
 ·have hpn:=hR1 p hp'
  rcases Nat.lt_or_ge p t with e | e
  ·rw [haR p j hp' hj,hsum _ j p (by omega) hj,hR p e]
   exact h.e3 p j e hj fun s hs=>by have:=h1 s hs;rwa [hC s (by omega)] at this
  ·obtain rfl:p=t:=by omega
   rw [haR p j hp' hj,hsum _ j p (Nat.le_refl _) hj,hRt]
   exact h.e1 r j hr hj hrf fun s hs=>by have:=h1 s hs;rwa [hC s hs] at this
 ·have hqt:q < t:=by omega
  rw [hC q hqt,hsum _ _ (q+1) (by omega) (h.ci.1 q hqt)]
  rcases Nat.lt_or_ge p t with e | e
  ·rw [hR p e];exact h.e4 p q e hq
  ·obtain rfl:p=t:=by omega
   rw [hRt];exact h.e2 r q hr hqt hrf
def luL (R:Nat→Nat) (m:Mx):Mx:=fun t p=>if p=t then 1 else if t < p then m t (R p) else 0
def luU (R C:Nat→Nat) (a:Mx):Mx:=fun k s=>if s≤k then a (R s) (C k) else 0
structure LuFac (n:Nat) (A:Mx) (R C:Nat→Nat) (L U:Mx):Prop where
 ri:Inj n n R
 ci:Inj n n C
 l0:∀t p,t < n→p < n→p < t→L t p=0
 l1:∀t,t < n→L t t=1
 u0:∀k s,k < n→s < n→k < s→U k s=0
 u1:∀k,k < n→U k k≠0
 eq:∀p k,p < n→k < n→A (R p) (C k)=sumN (fun s=>L s p * U k s) n
theorem LuInv.fac {n:Nat} {A a:Mx} {R C:Nat→Nat} {m:Mx} (h:LuInv n n A a R C m):LuFac n A R C (luL R m) (luU R C a) where
 ri:=h.ri
 ci:=h.ci
 l0:=fun t p _ _ hpt=>by unfold luL;rw [if_neg (by omega),if_neg (by omega)]
 l1:=fun t _=>by unfold luL;rw [if_pos rfl]
 u0:=fun k s _ _ hks=>by unfold luU;rw [if_neg (by omega)]
 u1:=fun k hk=>by unfold luU;rw [if_pos (Nat.le_refl _)];exact h.piv k hk
 eq:=fun p k hp hk=>by
  rcases Nat.lt_or_ge k p with e | e
  ·rw [h.e4 p k hp e,sumN_ext (n:=k+1) (m:=n) (by omega) fun i h1 h2=>by unfold luU;rw [if_neg (by omega)];grind]
   exact sumN_congr fun s hs=>by unfold luL luU;rw [if_neg (by omega),if_pos (by omega),if_pos (by omega)]
  ·rw [h.e3 p (C k) hp (h.ci.1 k hk) fun s hs=>h.ci.2 s k (by omega) hk,sumN_ext (n:=p+1) (m:=n) (by omega) fun i h1 h2=>by unfold luL;rw [if_neg (by omega),if_neg (by omega)];grind,sumN_succ]
   have e2:luL R m p p * luU R C a k p=a (R p) (C k):=by unfold luL luU;rw [if_pos rfl,if_pos e];grind
   rw [e2,sumN_congr (f:=fun s=>luL R m s p * luU R C a k s) (g:=fun s=>m s (R p) * a (R s) (C k)) fun s hs=>by unfold luL luU;rw [if_neg (by omega),if_pos (by omega),if_pos (by omega)]]
def trM (A:Mx):Mx:=fun c r=>A r c
theorem sumN_dist {n m:Nat} {f g:Nat→Rat} {h:Nat→Nat→Rat} (e:∀j,j < n→f j=sumN (fun s=>g s * h s j) m) (y:Nat→Rat):sumN (fun j=>f j * y j) n=sumN (fun s=>g s * sumN (fun j=>h s j * y j) n) m:=by
 rw [sumN_congr (g:=fun j=>sumN (fun s=>g s * (h s j * y j)) m) fun j hj=>by
  rw [e j hj,Rat.mul_comm,← sumN_mul];exact sumN_congr fun s _=>by grind]
 rw [sumN_swap]
 exact sumN_congr fun s _=>sumN_mul _ _ _
theorem LuInv.dep {n t:Nat} {A a:Mx} {R C:Nat→Nat} {m:Mx} (h:LuInv n t A a R C m) (ht:t < n) (hz:∀i j,i < n→j < n→(∀s,s < t→R s≠i)→(∀s,s < t→C s≠j)→a i j=0):¬Indep n (trM A):=by
 obtain ⟨j0,hj0,hfree⟩:=h.ci.free ht
 -- row s of the triangle,with the columns that were taken before it left out
 have hw:∃W:Mx,(∀s j,(∀u,u < s→C u≠j)→W s j=a (R s) j)∧∀s u,u < s→W s (C u)=0:=by
  refine ⟨fun s j=>if ∀u,u < s→C u≠j then a (R s) j else 0,fun s j hs=>if_pos hs,fun s u hu=>if_neg fun g=>g u hu rfl⟩
 obtain ⟨W,hW1,hW0⟩:=hw
 have key:∀k,k≤t→∃y:Nat→Rat,y j0=1∧(∀s,s < t - k→y (C s)=0)∧∀s,t - k≤s→s < t→sumN (fun j=>W s j * y j) n=0:=by
  intro k
  induction k with
  | zero=>exact fun _=>⟨fun j=>if j=j0 then 1 else 0,if_pos rfl,fun s hs=>if_neg fun e=>hfree s (by omega) e,fun s h1 h2=>by omega⟩
  | succ k ih=>
   intro hk
   obtain ⟨y,y1,y2,y3⟩:=ih (by omega)
   obtain ⟨s0,hs0⟩:∃s0,s0+1=t - k:=⟨t - k - 1,by omega⟩
   have hs0t:s0 < t:=by omega
   have hC0:=h.ci.1 s0 hs0t
   obtain ⟨q,hq⟩:∃q,q= -(sumN (fun j=>W s0 j * y j) n) / a (R s0) (C s0):=⟨_,rfl⟩
   have hsum:∀s,sumN (fun j=>W s j * (if j=C s0 then q else y j)) n=sumN (fun j=>W s j * y j) n+W s (C s0) * (q - y (C s0)):=fun s=>by
    have e:sumN (fun j=>W s j * (if j=C s0 then q else y j)) n=sumN (fun j=>W s j * y j+(if j=C s0 then W s (C s0) * (q - y (C s0)) else 0)) n:=sumN_congr fun j _=>by
     by_cases e:j=C s0
     ·rw [if_pos e,if_pos e,e];grind
     ·rw [if_neg e,if_neg e];grind
    rw [e,sumN_add,sumN_one hC0]
   refine ⟨fun j=>if j=C s0 then q else y j,?_,fun s hs=>?_,fun s h1 h2=>?_⟩
   ·show (if j0=C s0 then q else y j0)=1
    rw [if_neg fun e=>hfree s0 hs0t e.symm];exact y1
   ·show (if C s=C s0 then q else y (C s))=0
    rw [if_neg (h.ci.2 s s0 (by omega) hs0t)];exact y2 s (by omega)
   ·rw [hsum s]
    rcases Nat.lt_or_ge s0 s with e | e
    ·rw [hW0 s s0 e,y3 s (by omega) h2];grind
    ·obtain rfl:s=s0:=by omega
     rw [hW1 s (C s) fun u hu=>h.ci.2 u s hu hs0t,y2 s (by omega),hq]
     have hp:=h.piv s hs0t
     have e2: -(sumN (fun j=>W s j * y j) n) / a (R s) (C s) * a (R s) (C s)= -(sumN (fun j=>W s j * y j) n):=Rat.div_mul_cancel hp
     grind
 obtain ⟨y,y1,_,y3⟩:=key t (Nat.le_refl _)
 have hy:∀s,s < t→sumN (fun j=>W s j * y j) n=0:=fun s hs=>y3 s (by omega) hs
 intro hi
 have hall:∀r,r < n→mulC n (trM A) y r=0:=fun r hr=>by
  show sumN (fun c=>A r c * y c) n=0
  by_cases hp:∃p,p < t∧R p=r
  ·obtain ⟨p,hpt,rfl⟩:=hp
   have e:∀j,j < n→A (R p) j=sumN (fun s=>(if s=p then 1 else m s (R p)) * W s j) (p+1):=fun j hj=>by
    rw [sumN_succ,if_pos rfl]
    have e0:sumN (fun s=>(if s=p then 1 else m s (R p)) * W s j) p=sumN (fun s=>m s (R p) * W s j) p:=sumN_congr fun s hs=>by rw [if_neg (by omega)]
    rw [e0]
    by_cases hq:∃q,q < p∧C q=j
    ·obtain ⟨q,hqp,rfl⟩:=hq
     rw [hW0 p q hqp,h.e4 p q hpt hqp,sumN_ext (f:=fun s=>m s (R p) * W s (C q)) (n:=q+1) (m:=p) (by omega) fun s h1 h2=>by rw [hW0 s q (by omega)];grind]
     have e1:sumN (fun s=>m s (R p) * a (R s) (C q)) (q+1)=sumN (fun s=>m s (R p) * W s (C q)) (q+1):=sumN_congr fun s hs=>by rw [hW1 s (C q) fun u hu=>h.ci.2 u q (by omega) (by omega)]
     rw [e1];grind
    ·have hn:∀u,u < p→C u≠j:=fun u hu e=>hq ⟨u,hu,e⟩
     rw [h.e3 p j hpt hj hn,hW1 p j hn]
     have e1:sumN (fun s=>m s (R p) * a (R s) j) p=sumN (fun s=>m s (R p) * W s j) p:=sumN_congr fun s hs=>by rw [hW1 s j fun u hu=>hn u (by omega)]
     rw [e1];grind
   rw [sumN_dist e]
   exact sumN_all0 fun s hs=>by rw [hy s (by omega)];grind
  ·have hrf:∀s,s < t→R s≠r:=fun s hs e=>hp ⟨s,hs,e⟩
   have e:∀j,j < n→A r j=sumN (fun s=>m s r * W s j) t:=fun j hj=>by
    by_cases hq:∃q,q < t∧C q=j
    ·obtain ⟨q,hqt,rfl⟩:=hq
     rw [h.e2 r q hr hqt hrf,sumN_ext (f:=fun s=>m s r * W s (C q)) (n:=q+1) (m:=t) (by omega) fun s h1 h2=>by rw [hW0 s q (by omega)];grind]
     exact sumN_congr fun s hs=>by rw [hW1 s (C q) fun u hu=>h.ci.2 u q (by omega) hqt]
    ·have hn:∀u,u < t→C u≠j:=fun u hu e=>hq ⟨u,hu,e⟩
     rw [h.e1 r j hr hj hrf hn,hz r j hr hj hrf hn]
     have e1:sumN (fun s=>m s r * a (R s) j) t=sumN (fun s=>m s r * W s j) t:=sumN_congr fun s hs=>by rw [hW1 s j fun u hu=>hn u (by omega)]
     rw [e1];grind
   rw [sumN_dist e]
   exact sumN_all0 fun s hs=>by rw [hy s hs];grind
 have:=hi y hall j0 hj0
 rw [y1] at this
 exact absurd this (by decide)
theorem lower_zero {n:Nat} {L:Mx} (h0:∀t p,t < n→p < n→p < t→L t p=0) (h1:∀t,t < n→L t t=1) {z:Nat→Rat} (hz:∀p,p < n→sumN (fun s=>L s p * z s) n=0):∀p,p < n→z p=0:=by
 intro p
 induction p using Nat.strongRecOn with
 | _ p ih=>
  intro hp
  have:=hz p hp
  rw [sumN_single hp fun i hi hne=>by
   rcases Nat.lt_or_ge i p with e | e
   ·rw [ih i e hi];grind
   ·rw [h0 i p hi hp (by omega)];grind,h1 p hp] at this
  grind
theorem upper_zero {n:Nat} {U:Mx} (h0:∀k s,k < n→s < n→k < s→U k s=0) (h1:∀k,k < n→U k k≠0) {w:Nat→Rat} (hw:∀s,s < n→sumN (fun k=>U k s * w k) n=0):∀k,k < n→w k=0:=by
 have key:∀d k,k+d+1=n→w k=0:=by
  intro d
  induction d using Nat.strongRecOn with
  | _ d ih=>
   intro k hk
   have:=hw k (by omega)
   rw [sumN_single (show k < n by omega) fun i hi hne=>by
    rcases Nat.lt_or_ge i k with e | e
    ·rw [h0 i k hi (by omega) e];grind
    ·rw [ih (n - 1 - i) (by omega) i (by omega)];grind] at this
   rcases Rat.mul_eq_zero.1 this with e | e
   ·exact absurd e (h1 k (by omega))
   ·exact e
 exact fun k hk=>key (n - 1 - k) k (by omega)
theorem LuFac.solve {n:Nat} {A:Mx} {R C:Nat→Nat} {L U:Mx} (h:LuFac n A R C L U) {b z x:Nat→Rat} (hz:∀p,p < n→sumN (fun s=>L s p * z s) n=b (R p)) (hx:∀s,s < n→sumN (fun k=>U k s * x (C k)) n=z s):∀r,r < n→mulC n (trM A) x r=b r:=by
 intro r hr
 obtain ⟨p,hp,rfl⟩:=h.ri.onto hr
 show sumN (fun c=>A (R p) c * x c) n=b (R p)
 rw [← sumN_perm h.ci (fun c=>A (R p) c * x c),sumN_dist (f:=fun k=>A (R p) (C k)) (g:=fun s=>L s p) (h:=fun s k=>U k s) (m:=n) (fun k hk=>h.eq p k hp hk) (fun k=>x (C k)),← hz p hp]
 exact sumN_congr fun s hs=>by rw [hx s hs]
theorem LuFac.solveT {n:Nat} {A:Mx} {R C:Nat→Nat} {L U:Mx} (h:LuFac n A R C L U) {d v y:Nat→Rat} (hv:∀k,k < n→sumN (fun s=>U k s * v s) n=d (C k)) (hy:∀s,s < n→sumN (fun p=>L s p * y (R p)) n=v s):∀c,c < n→mulC n A y c=d c:=by
 intro c hc
 obtain ⟨k,hk,rfl⟩:=h.ci.onto hc
 show sumN (fun r=>A r (C k) * y r) n=d (C k)
 rw [← sumN_perm h.ri (fun r=>A r (C k) * y r),sumN_dist (f:=fun p=>A (R p) (C k)) (g:=fun s=>U k s) (h:=fun s p=>L s p) (m:=n) (fun p hp=>by rw [h.eq p k hp hk];exact sumN_congr fun s _=>by grind) (fun p=>y (R p)),← hv k hk]
 exact sumN_congr fun s hs=>by rw [hy s hs]
theorem LuFac.indep {n:Nat} {A:Mx} {R C:Nat→Nat} {L U:Mx} (h:LuFac n A R C L U):Indep n (trM A):=by
 intro y hy
 have h1:∀p,p < n→sumN (fun s=>L s p * sumN (fun k=>U k s * y (C k)) n) n=0:=fun p hp=>by
  rw [← sumN_dist (f:=fun k=>A (R p) (C k)) (g:=fun s=>L s p) (h:=fun s k=>U k s) (m:=n) (fun k hk=>h.eq p k hp hk) (fun k=>y (C k)),sumN_perm h.ci (fun c=>A (R p) c * y c)]
  exact hy (R p) (h.ri.1 p hp)
 have h2:=lower_zero h.l0 h.l1 h1
 have h3:=upper_zero h.u0 h.u1 (w:=fun k=>y (C k)) h2
 intro c hc
 obtain ⟨k,hk,rfl⟩:=h.ci.onto hc
 exact h3 k hk
def repC (cols:Mx) (k:Nat) (v:Nat→Rat):Mx:=fun c=>if c=k then v else cols c
theorem mulC_rep {n k:Nat} {cols:Mx} {v im x c:Nat→Rat} (hk:k < n) (him:∀r,r < n→mulC n cols im r=v r) (h0:im k≠0) (hx:∀r,r < n→mulC n cols x r=c r) {x':Nat→Rat} (hxk:x' k=x k / im k) (hxi:∀i,i < n→i≠k→x' i=x i - im i * x' k):
 ∀r,r < n→mulC n (repC cols k v) x' r=c r:=by
 intro r hr
 have hd:x' k * im k=x k:=by rw [hxk];exact Rat.div_mul_cancel h0
 have e:mulC n (repC cols k v) x' r=sumN (fun i=>cols i r * x i - x' k * (cols i r * im i)+(if i=k then v r * x' k else 0)) n:=sumN_congr fun i hi=>by
  unfold repC
  by_cases e:i=k
  ·subst e;rw [if_pos rfl,if_pos rfl];grind
  ·rw [if_neg e,if_neg e,hxi i hi e];grind
 rw [e,sumN_add,sumN_sub,sumN_mul,sumN_one hk]
 have h1:sumN (fun i=>cols i r * x i) n=c r:=hx r hr
 have h2:sumN (fun i=>cols i r * im i) n=v r:=him r hr
 rw [h1,h2];grind
theorem indep_rep {n k:Nat} {cols:Mx} {v im:Nat→Rat} (hk:k < n) (hi:Indep n cols) (him:∀r,r < n→mulC n cols im r=v r) (h0:im k≠0):Indep n (repC cols k v):=by
 intro y hy
 have h1:∀r,r < n→mulC n cols (fun i=>(if i=k then 0 else y i)+y k * im i) r=0:=fun r hr=>by
  have e:mulC n cols (fun i=>(if i=k then 0 else y i)+y k * im i) r=sumN (fun i=>(repC cols k v i r * y i - (if i=k then v r * y k else 0))+y k * (cols i r * im i)) n:=sumN_congr fun i _=>by
   unfold repC
   by_cases e:i=k
   ·subst e;simp only [if_pos];grind
   ·simp only [if_neg e];grind
  rw [e,sumN_add,sumN_sub,sumN_mul,sumN_one hk]
  have h2:sumN (fun i=>repC cols k v i r * y i) n=0:=hy r hr
  have h3:sumN (fun i=>cols i r * im i) n=v r:=him r hr
  rw [h2,h3];grind
 have h2:=hi _ h1
 have h3:y k=0:=by
  have:=h2 k hk
  simp only [if_pos] at this
  have e:y k * im k=0:=by grind
  rcases Rat.mul_eq_zero.1 e with g | g
  ·exact g
  ·exact absurd g h0
 intro i hi'
 by_cases e:i=k
 ·rw [e];exact h3
 ·have:=h2 i hi'
  simp only [if_neg e,h3] at this
  grind
end Pl
namespace Pl
def fwdN (L:Mx) (b:Nat→Rat):Nat→Nat→Rat
 | 0=>b
 | j+1=>fun i=>if j < i then fwdN L b j i - L j i * fwdN L b j j else fwdN L b j i
theorem fwdN_succ (L:Mx) (b:Nat→Rat) (j i:Nat):fwdN L b (j+1) i=if j < i then fwdN L b j i - L j i * fwdN L b j j else fwdN L b j i:=rfl
theorem fwdN_done (L:Mx) (b:Nat→Rat) (i:Nat):∀d,fwdN L b (i+d) i=fwdN L b i i
 | 0=>rfl
 | d+1=>by rw [← Nat.add_assoc,fwdN_succ,if_neg (by omega)];exact fwdN_done L b i d
theorem fwdN_at {L:Mx} {b:Nat→Rat} {i j:Nat} (h:i≤j):fwdN L b j i=fwdN L b i i:=by
 have:=fwdN_done L b i (j - i)
 rwa [show i+(j - i)=j by omega] at this
theorem fwdN_sum (L:Mx) (b:Nat→Rat) (i:Nat):∀j,j≤i→fwdN L b j i=b i - sumN (fun s=>L s i * fwdN L b s s) j
 | 0,_=>by rw [sumN_zero];show b i=_;grind
 | j+1,h=>by rw [fwdN_succ,if_pos (by omega),sumN_succ,fwdN_sum L b i j (by omega)];grind
theorem fwdN_solves {n:Nat} {L:Mx} {b:Nat→Rat} (h0:∀t p,t < n→p < n→p < t→L t p=0) (h1:∀t,t < n→L t t=1):∀p,p < n→sumN (fun s=>L s p * fwdN L b n s) n=b p:=by
 intro p hp
 rw [sumN_ext (n:=p+1) (by omega) fun i h1' h2=>by rw [h0 i p h2 hp (by omega)];grind,sumN_succ,h1 p hp,fwdN_at (show p≤n by omega),fwdN_sum L b p p (Nat.le_refl _)]
 rw [sumN_congr (g:=fun s=>L s p * fwdN L b s s) fun s hs=>by rw [fwdN_at (show s≤n by omega)]]
 grind
def bwdN (n:Nat) (U:Mx) (z:Nat→Rat):Nat→Nat→Rat
 | 0=>z
 | j+1=>fun i=>if i=n - 1 - j then bwdN n U z j i / U i i else if i < n - 1 - j then bwdN n U z j i - U (n - 1 - j) i * (bwdN n U z j (n - 1 - j) / U (n - 1 - j) (n - 1 - j)) else bwdN n U z j i
theorem bwdN_succ (n:Nat) (U:Mx) (z:Nat→Rat) (j i:Nat):bwdN n U z (j+1) i=if i=n - 1 - j then bwdN n U z j i / U i i else if i < n - 1 - j then bwdN n U z j i - U (n - 1 - j) i * (bwdN n U z j (n - 1 - j) / U (n - 1 - j) (n - 1 - j)) else bwdN n U z j i:=rfl
theorem bwdN_done (n:Nat) (U:Mx) (z:Nat→Rat) (i:Nat) (hi:i < n):∀d,d≤i→bwdN n U z (n - i+d) i=bwdN n U z (n - i) i
 | 0,_=>rfl
 | d+1,h=>by rw [← Nat.add_assoc,bwdN_succ,if_neg (by omega),if_neg (by omega)];exact bwdN_done n U z i hi d (by omega)
theorem bwdN_at {n:Nat} {U:Mx} {z:Nat→Rat} {i j:Nat} (hi:i < n) (h:n - i≤j) (hj:j≤n):bwdN n U z j i=bwdN n U z (n - i) i:=by
 have:=bwdN_done n U z i hi (j - (n - i)) (by omega)
 rwa [show n - i+(j - (n - i))=j by omega] at this
theorem bwdN_own {n:Nat} {U:Mx} {z:Nat→Rat} {i:Nat} (hi:i < n):bwdN n U z (n - i) i=bwdN n U z (n - 1 - i) i / U i i:=by
 rw [show n - i=(n - 1 - i)+1 by omega,bwdN_succ,if_pos (by omega)]
theorem bwdN_sum (n:Nat) (U:Mx) (z:Nat→Rat) (i:Nat):∀j,j+i < n→bwdN n U z j i=z i - sumN (fun t=>U (n - 1 - t) i * bwdN n U z n (n - 1 - t)) j
 | 0,_=>by rw [sumN_zero];show z i=_;grind
 | j+1,h=>by
  rw [bwdN_succ,if_neg (by omega),if_pos (by omega),sumN_succ,bwdN_sum n U z i j (by omega)]
  have e:bwdN n U z n (n - 1 - j)=bwdN n U z j (n - 1 - j) / U (n - 1 - j) (n - 1 - j):=by
   rw [bwdN_at (i:=n - 1 - j) (by omega) (by omega) (Nat.le_refl _),bwdN_own (by omega),show n - 1 - (n - 1 - j)=j by omega]
  rw [e];grind
theorem sumN_rev (f:Nat→Rat):∀n,sumN (fun t=>f (n - 1 - t)) n=sumN f n:=by
 intro n
 have h:Inj n n (fun t=>n - 1 - t):=⟨fun s hs=>by show n - 1 - s < n;omega,fun s u h1 h2 e=>by have e':n - 1 - s=n - 1 - u:=e;omega⟩
 exact sumN_perm h f
theorem bwdN_solves {n:Nat} {U:Mx} {z:Nat→Rat} (h0:∀k s,k < n→s < n→k < s→U k s=0) (h1:∀k,k < n→U k k≠0):∀s,s < n→sumN (fun k=>U k s * bwdN n U z n k) n=z s:=by
 intro s hs
 rw [← sumN_rev,sumN_ext (n:=n - 1 - s+1) (m:=n) (by omega) fun i h1' h2=>by
  show U (n - 1 - i) s * _=0
  rw [h0 (n - 1 - i) s (by omega) hs (by omega)];grind,sumN_succ,show n - 1 - (n - 1 - s)=s by omega,bwdN_at hs (show n - s≤n by omega) (Nat.le_refl _),bwdN_own hs,bwdN_sum n U z s (n - 1 - s) (by omega)]
 have e:=Rat.div_mul_cancel (a:=z s - sumN (fun t=>U (n - 1 - t) s * bwdN n U z n (n - 1 - t)) (n - 1 - s)) (h1 s hs)
 grind
def utN (U:Mx) (d:Nat→Rat):Nat→Nat→Rat
 | 0=>fun _=>0
 | k+1=>fun i=>if i=k then (d k - sumN (fun s=>U k s * utN U d k s) k) / U k k else utN U d k i
theorem utN_succ (U:Mx) (d:Nat→Rat) (k i:Nat):utN U d (k+1) i=if i=k then (d k - sumN (fun s=>U k s * utN U d k s) k) / U k k else utN U d k i:=rfl
theorem utN_at {U:Mx} {d:Nat→Rat} {i:Nat}:∀{j:Nat},i < j→utN U d j i=utN U d (i+1) i
 | 0,h=>by omega
 | j+1,h=>by
  by_cases e:i=j
  ·rw [e]
  ·rw [utN_succ,if_neg e];exact utN_at (by omega)
theorem utN_solves {n:Nat} {U:Mx} {d:Nat→Rat} (h0:∀k s,k < n→s < n→k < s→U k s=0) (h1:∀k,k < n→U k k≠0):∀k,k < n→sumN (fun s=>U k s * utN U d n s) n=d k:=by
 intro k hk
 rw [sumN_ext (n:=k+1) (by omega) fun i h1' h2=>by rw [h0 k i hk h2 (by omega)];grind,sumN_succ,utN_at hk,utN_succ,if_pos rfl]
 rw [sumN_congr (g:=fun s=>U k s * utN U d k s) fun s hs=>by rw [utN_at (show s < n by omega),← utN_at hs]]
 have e:=Rat.div_mul_cancel (a:=d k - sumN (fun s=>U k s * utN U d k s) k) (h1 k hk)
 grind
def ltN (n:Nat) (L:Mx) (w:Nat→Rat):Nat→Nat→Rat
 | 0=>w
 | j+1=>fun i=>if i=n - 1 - j then ltN n L w j i - sumN (fun p=>if p=i then 0 else L i p * ltN n L w j p) n else ltN n L w j i
theorem ltN_succ (n:Nat) (L:Mx) (w:Nat→Rat) (j i:Nat):ltN n L w (j+1) i=if i=n - 1 - j then ltN n L w j i - sumN (fun p=>if p=i then 0 else L i p * ltN n L w j p) n else ltN n L w j i:=rfl
theorem ltN_start {n:Nat} {L:Mx} {w:Nat→Rat} {i:Nat}:∀{j:Nat},j+i < n→ltN n L w j i=w i
 | 0,_=>rfl
 | j+1,h=>by rw [ltN_succ,if_neg (by omega)];exact ltN_start (by omega)
theorem ltN_at {n:Nat} {L:Mx} {w:Nat→Rat} {i:Nat} (hi:i < n):∀{j:Nat},n - i≤j→j≤n→ltN n L w j i=ltN n L w (n - i) i
 | 0,h,_=>by omega
 | j+1,h,hj=>by
  by_cases e:n - i=j+1
  ·rw [e]
  ·rw [ltN_succ,if_neg (by omega)];exact ltN_at hi (by omega) (by omega)
theorem ltN_solves {n:Nat} {L:Mx} {w:Nat→Rat} (h0:∀t p,t < n→p < n→p < t→L t p=0) (h1:∀t,t < n→L t t=1):∀s,s < n→sumN (fun p=>L s p * ltN n L w n p) n=w s:=by
 intro s hs
 have e1:sumN (fun p=>L s p * ltN n L w n p) n=sumN (fun p=>(if p=s then 0 else L s p * ltN n L w (n - 1 - s) p)+(if p=s then ltN n L w n s else 0)) n:=sumN_congr fun p hp=>by
  by_cases e:p=s
  ·rw [if_pos e,if_pos e,e,h1 s hs];grind
  ·rw [if_neg e,if_neg e]
   rcases Nat.lt_or_ge p s with g | g
   ·rw [h0 s p hs hp g];grind
   ·rw [ltN_at hp (show n - p≤n by omega) (Nat.le_refl _),← ltN_at hp (show n - p≤n - 1 - s by omega) (by omega)];grind
 rw [e1,sumN_add,sumN_one hs,ltN_at hs (show n - s≤n by omega) (Nat.le_refl _),show n - s=(n - 1 - s)+1 by omega,ltN_succ,if_pos (by omega),ltN_start (by omega)]
 grind
end Pl
end Go.Proofs.YtncmobkhenfhpaaGreat
