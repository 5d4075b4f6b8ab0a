/- Lemmas of the claim; no condition. -/
import Derived.Test.YtidgdpkcloaheaaGreatQ25
import Derived.Test.YtidgdpkcloaheaaGreatOLbZJ
set_option linter.all false
set_option maxRecDepth 100000
set_option maxHeartbeats 40000000
namespace Go.Proofs.YtidgdpkcloaheaaGreat
open Go.RowKit
namespace Pl
end Pl
open Pl
attribute [local go_sem ↓] Go.wp_at_zero Go.wp_at_succ
theorem Xf.but [Old] {w w':World} {e:TypeId} {v:Value} {cols:List (List En)} (h:Xf w v cols) (hk:Zk e w w') (h0:28≠e) (h1:39≠e) (h2:106≠e):Xf w' v cols:=by
 obtain ⟨cs,g1,g2⟩:=h;exact ⟨cs,hk.row g1 h0,fun k c hc=>by obtain ⟨u,q1,q2⟩:=g2 k c hc;exact ⟨u,q1,q2.but hk h1 h2⟩⟩
namespace Pl
def idM:Mx:=fun r c=>if r=c then 1 else 0
theorem Ztw.gj {n:Nat} {F:Mx→Rat} (h:Ztw n F) {M N0:Mx} (h0:∀r c,r < n→c < n→M r c=N0 r c):∀k,k≤n→∀p N,dN M n k=some p→gj N0 n k=some N→Zao n k N∧F M=p.2 * F N
 | 0,_,p,N,e1,e2=>by
  injection e1 with e1;injection e2 with e2
  subst e1 e2
  exact ⟨fun r c _ hc=>absurd hc (by omega),by rw [h.congr h0];exact (Rat.one_mul _).symm⟩
 | k+1,hk,p,N,e1,e2=>by
  have hg:=Zmy hk e2
  refine ⟨hg.1,?_⟩
  unfold dN at e1
  unfold Pl.gj at e2
  cases hd:dN M n k with
  | none=>rw [hd] at e1;cases e1
  | some p0=>
   cases hj:Pl.gj N0 n k with
   | none=>rw [hj] at e2;cases e2
   | some N1=>
    rw [hd] at e1;rw [hj] at e2
    obtain ⟨hu,hF⟩:=Ztw.gj h h0 k (by omega) p0 N1 hd hj
    have hdn:=Zvk h0 k (by omega)
    rw [hd,hj] at hdn
    obtain ⟨_,ha⟩:=hdn
    simp only [Znn] at e1
    simp only [Wv] at e2
    rw [Zfb (A:=p0.1) (B:=N1) fun s h1 h2=>ha s k h1 h2 (by omega)] at e1
    cases hp:X6 N1 k n with
    | none=>rw [hp] at e1;cases e1
    | some t=>
     rw [hp] at e1 e2
     injection e1 with e1;injection e2 with e2
     subst e1 e2
     obtain ⟨t1,t2,t3⟩:=Va hp
     have hf:swapM N1 k t k k=N1 t k:=by unfold swapM;rw [if_pos rfl]
     have a:swapM p0.1 k t k k=N1 t k:=by unfold swapM;rw [if_pos rfl];exact ha t k t1 t2 (by omega)
     rw [hF,h.step (show k < n by omega) hu hp,hf,a]
     by_cases g:t=k
     ·simp only [if_pos g];grind
     ·simp only [if_neg g];grind
theorem indep_dN {n:Nat} {M:Mx} (hi:XA n (trM M)):∃p,dN M n n=some p:=by
 have:=(Zij (M:=M) (cols:=trM M) fun _ _ _ _=>rfl).2 hi;unfold Zfa at this
 cases e:dN M n n with
 | none=>rw [e] at this;exact absurd rfl this
 | some p=>exact ⟨p,rfl⟩
theorem Ztw.eq {n:Nat} {F:Mx→Rat} (h:Ztw n F) {M:Mx} (hi:XA n (trM M)):F M=Zfa n M * F idM:=by
 obtain ⟨p,hp⟩:=indep_dN hi;obtain ⟨x,hx⟩:=Uh hi fun _=>0
 unfold Xt at hx
 cases hg:Pl.gj (Zbi n (trM M) fun _=>0) n n with
 | none=>rw [hg] at hx;cases hx
 | some N=>
  obtain ⟨hu,hF⟩:=h.gj (N0:=Zbi n (trM M) fun _=>0) (fun r c _ hc=>by unfold Zbi;rw [if_pos hc];rfl) n (JY _) p N hp hg;rw [hF,h.congr (A:=N) (B:=idM) fun r c hr hc=>hu r c hr hc];unfold Zfa;rw [hp]
def skipN (j i:Nat):Nat:=if i < j then i else i+1
def unskN (j m:Nat):Nat:=if m < j then m else m - 1
theorem skip_unsk {j m:Nat} (h:m≠j):skipN j (unskN j m)=m:=by
 unfold unskN skipN;by_cases g:m < j
 ·rw [if_pos g,if_pos g]
 ·rw [if_neg g,if_neg (by omega)];omega
theorem skip_comm {j m:Nat} (h:m≠j) (i:Nat):skipN j (skipN (unskN j m) i)=skipN m (skipN (unskN m j) i):=by
 unfold unskN skipN;(repeat' split);all_goals omega
theorem skip_lt {n j i:Nat} (hi:i < n):skipN j i < n+1:=by
 unfold skipN;split <;> omega
theorem sg_anti {j m:Nat} (h:m≠j):sgN j * sgN (unskN j m)= -(sgN m * sgN (unskN m j)):=by
 unfold unskN;rcases Nat.lt_or_gt_of_ne h with g | g
 ·obtain ⟨k,rfl⟩:∃k,j=k+1:=⟨j - 1,by omega⟩;rw [if_pos g,if_neg (by omega),show k+1 - 1=k from rfl,Zqm];grind
 ·obtain ⟨k,rfl⟩:∃k,m=k+1:=⟨m - 1,by omega⟩;rw [if_neg (by omega),if_pos g,show k+1 - 1=k from rfl,Zqm];grind
theorem sumN_skip (h:Nat→Rat) (j:Nat):∀n,j < n+1→Z6 h n=Z6 (fun m=>if m=j then 0 else h (unskN j m)) (n+1)
 | 0,hj=>by
  obtain rfl:j=0:=by omega
  rw [Y4,ZF,Y4,if_pos rfl];grind
 | n+1,hj=>by
  rcases JX j (n+1) with g | g
  ·rw [ZF,sumN_skip h j n g,ZF _ (n+1),if_neg (by omega)]
   unfold unskN;rw [if_neg (by omega)];rfl
  ·obtain rfl:j=n+1:=by omega
   rw [ZF _ (n+1),if_pos rfl,Rat.add_zero]
   exact Zp fun i hi=>by rw [if_neg (by omega)];unfold unskN;rw [if_pos hi]
def detR:Nat→Mx→(Nat→Nat)→Rat
 | 0,_,_=>1
 | n+1,R,C=>Z6 (fun j=>sgN j * R 0 (C j) * detR n (fun i=>R (i+1)) (fun i=>C (skipN j i))) (n+1)
theorem detR_congr:∀(n:Nat) {R S:Mx} {C D:Nat→Nat},(∀r c,r < n→c < n→R r (C c)=S r (D c))→detR n R C=detR n S D
 | 0,_,_,_,_,_=>rfl
 | n+1,R,S,C,D,h=>by
  unfold detR
  exact Zp fun j hj=>by rw [h 0 j (by omega) hj,detR_congr n fun r c hr hc=>h (r+1) (skipN j c) (by omega) (skip_lt hc)]
theorem detR_lin:∀(n:Nat) {R S T:Mx} {C:Nat→Nat} {a:Nat} (k:Rat),a < n→(∀r c,r < n→r≠a→R r c=S r c∧T r c=S r c)→(∀c,R a c=S a c+k * T a c)→detR n R C=detR n S C+k * detR n T C
 | 0,_,_,_,_,_,_,ha,_,_=>absurd ha (by omega)
 | n+1,R,S,T,C,0,k,ha,h1,h2=>by
  unfold detR
  rw [← Xn,← WY]
  exact Zp fun j hj=>by
   rw [h2,detR_congr n (R:=fun i=>R (i+1)) (S:=fun i=>S (i+1)) (D:=fun i=>C (skipN j i)) fun r c hr hc=>(h1 (r+1) _ (by omega) (by omega)).1,
    detR_congr n (R:=fun i=>T (i+1)) (S:=fun i=>S (i+1)) (D:=fun i=>C (skipN j i)) fun r c hr hc=>(h1 (r+1) _ (by omega) (by omega)).2]
   grind
 | n+1,R,S,T,C,a+1,k,ha,h1,h2=>by
  unfold detR
  rw [← Xn,← WY]
  exact Zp fun j hj=>by
   rw [(h1 0 (C j) (by omega) (by omega)).1,(h1 0 (C j) (by omega) (by omega)).2,
    detR_lin n (R:=fun i=>R (i+1)) (S:=fun i=>S (i+1)) (T:=fun i=>T (i+1)) (a:=a) k (by omega) (fun r c hr hne=>h1 (r+1) c (by omega) (by omega)) (fun c=>h2 c)]
   grind
theorem detR_swap0 (n:Nat) (R:Mx) (C:Nat→Nat):detR (n+2) (swapM R 0 1) C= -detR (n+2) R C:=by
 have d:∀(a b:Nat→Rat) (S:Mx),detR (n+2) (fun r=>if r=0 then a else if r=1 then b else S (r - 2)) C=Z6 (fun j=>Z6 (fun m=>if m=j then 0 else sgN j * sgN (unskN j m) * a (C j) * b (C m) * detR n S (fun i=>C (skipN j (skipN (unskN j m) i)))) (n+2)) (n+2):=fun a b S=>by
  show Z6 _ (n+2)=_;refine Zp fun j hj=>?_
  show _ * _ * Z6 _ (n+1)=_;rw [← Xn,sumN_skip _ j (n+1) hj];refine Zp fun m hm=>?_
  by_cases e:m=j
  ·rw [if_pos e,if_pos e]
  ·rw [if_neg e,if_neg e];simp only [skip_unsk e];rw [detR_congr n (S:=S) (D:=fun i=>C (skipN j (skipN (unskN j m) i))) fun r c hr hc=>by
    show (if r+1+1=0 then a else if r+1+1=1 then b else S (r+1+1 - 2)) _=_;rw [if_neg (by omega),if_neg (by omega)];rfl]
   show sgN j * a (C j) * (sgN (unskN j m) * b (C m) * _)=_;grind
 have e1:detR (n+2) (swapM R 0 1) C=detR (n+2) (fun r=>if r=0 then R 1 else if r=1 then R 0 else (fun i=>R (i+2)) (r - 2)) C:=detR_congr _ fun r c hr hc=>by
  unfold swapM;by_cases g:r=0
  ·rw [if_pos g,if_pos g]
  ·by_cases g2:r=1
   ·rw [if_neg g,if_pos g2,if_neg g,if_pos g2]
   ·rw [if_neg g,if_neg g2,if_neg g,if_neg g2];show R r _=R (r - 2+2) _;rw [show r - 2+2=r by omega]
 have e2:detR (n+2) R C=detR (n+2) (fun r=>if r=0 then R 0 else if r=1 then R 1 else (fun i=>R (i+2)) (r - 2)) C:=detR_congr _ fun r c hr hc=>by
  by_cases g:r=0
  ·rw [if_pos g,g]
  ·by_cases g2:r=1
   ·rw [if_neg g,if_pos g2,g2]
   ·rw [if_neg g,if_neg g2];show R r _=R (r - 2+2) _;rw [show r - 2+2=r by omega]
 rw [e1,e2,d (R 1) (R 0) (fun i=>R (i+2)),d (R 0) (R 1) (fun i=>R (i+2)),Ub];rw [show ∀x:Rat,-x=(-1) * x from fun x=>by grind,← Xn];refine Zp fun j hj=>?_
 rw [← Xn];refine Zp fun m hm=>?_
 by_cases e:j=m
 ·rw [if_pos e,if_pos e.symm];grind
 ·rw [if_neg e,if_neg (fun g=>e g.symm),sg_anti (j:=m) (m:=j) e,show (fun i=>C (skipN m (skipN (unskN m j) i)))=(fun i=>C (skipN j (skipN (unskN j m) i))) from funext fun i=>by rw [skip_comm e]];grind
theorem swapM_tail (R:Mx) (a b:Nat):(fun i=>swapM R (a+1) (b+1) (i+1))=swapM (fun i=>R (i+1)) a b:=by
 funext i
 unfold swapM;by_cases g:i=a
 ·rw [if_pos g,if_pos (by omega)]
 ·by_cases g2:i=b
  ·rw [if_neg g,if_pos g2,if_neg (by omega),if_pos (by omega)]
  ·rw [if_neg g,if_neg g2,if_neg (by omega),if_neg (by omega)]
theorem detR_swap1:∀(n:Nat) (R:Mx) (C:Nat→Nat) (a:Nat),a+1 < n→detR n (swapM R a (a+1)) C= -detR n R C
 | 0,_,_,_,h=>absurd h (by omega)
 | 1,_,_,_,h=>absurd h (by omega)
 | n+2,R,C,0,_=>detR_swap0 n R C
 | n+2,R,C,a+1,h=>by
  show Z6 _ (n+2)= -Z6 _ (n+2)
  rw [show ∀x:Rat,-x=(-1) * x from fun x=>by grind,← Xn]
  refine Zp fun j hj=>?_
  rw [swapM_tail,detR_swap1 (n+1) (fun i=>R (i+1)) (fun i=>C (skipN j i)) a (by omega),show swapM R (a+1) (a+1+1) 0=R 0 by unfold swapM;rw [if_neg (by omega),if_neg (by omega)]]
  grind
theorem swapM_three (R:Mx) {a b:Nat} (h:a < b):swapM R a (b+1)=swapM (swapM (swapM R b (b+1)) a b) b (b+1):=by
 funext r
 unfold swapM
 repeat' split
 all_goals first | rfl | (exfalso;omega) | (congr 1 <;> omega)
theorem detR_swap (n:Nat) (C:Nat→Nat):∀(d:Nat) (R:Mx) (a:Nat),a+d+1 < n→detR n (swapM R a (a+d+1)) C= -detR n R C
 | 0,R,a,h=>detR_swap1 n R C a h
 | d+1,R,a,h=>by
  rw [show a+(d+1)+1=(a+d+1)+1 by omega,swapM_three R (by omega),detR_swap1 n _ C _ (by omega),detR_swap n C d _ a (by omega),detR_swap1 n _ C _ (by omega)]
  grind
theorem detR_anti {n a b:Nat} (R:Mx) (C:Nat→Nat) (ha:a < n) (hb:b < n) (h:a≠b):detR n (swapM R a b) C= -detR n R C:=by
 rcases Nat.lt_or_gt_of_ne h with g | g
 ·obtain ⟨d,rfl⟩:∃d,b=a+d+1:=⟨b - a - 1,by omega⟩;exact detR_swap n C d R a hb
 ·obtain ⟨d,rfl⟩:∃d,a=b+d+1:=⟨a - b - 1,by omega⟩;rw [Zke];exact detR_swap n C d R b ha
theorem detR_same {n a b:Nat} {R:Mx} {C:Nat→Nat} (ha:a < n) (hb:b < n) (h:a≠b) (e:∀c,R a c=R b c):detR n R C=0:=by
 have h1:=detR_anti R C ha hb h;have h2:swapM R a b=R:=by
  funext r c;unfold swapM
  by_cases g:r=a
  ·rw [if_pos g,g,e]
  ·by_cases g2:r=b
   ·rw [if_neg g,if_pos g2,g2,e]
   ·rw [if_neg g,if_neg g2]
 rw [h2] at h1;grind
theorem detR_rowF (n:Nat):Ztw n (fun M=>detR n M fun i=>i) where
 congr:=fun h=>detR_congr n h
 swap:=fun A _ _ ha hb h=>detR_anti A _ ha hb h
 add:=fun A a b k ha hb h=>by
  show detR n _ _=detR n A _
  rw [detR_lin n (R:=fun r c=>if r=a then A r c+k * A b c else A r c) (S:=A) (T:=fun r=>if r=a then A b else A r) (a:=a) k ha (fun r c _ hne=>⟨if_neg hne,by rw [if_neg hne]⟩) (fun c=>by rw [if_pos rfl,if_pos rfl]),
   detR_same (R:=fun r=>if r=a then A b else A r) (a:=a) (b:=b) ha hb h fun c=>by simp only [if_pos rfl,if_neg (fun g:b=a=>h g.symm)];rfl]
  grind
 scale:=fun A a k ha=>by
  show detR n _ _=k * detR n A _
  rw [detR_lin n (R:=fun r c=>if r=a then k * A r c else A r c) (S:=fun r c=>if r=a then 0 else A r c) (T:=A) (a:=a) k ha (fun r c _ hne=>⟨by rw [if_neg hne,if_neg hne],by rw [if_neg hne]⟩) (fun c=>by rw [if_pos rfl,if_pos rfl];grind)]
  have:detR n (fun r c=>if r=a then 0 else A r c) (fun i=>i)=0:=by
   have h1:=detR_lin n (R:=fun r c=>if r=a then 0 else A r c) (S:=fun r c=>if r=a then 0 else A r c) (T:=fun r c=>if r=a then 0 else A r c) (C:=fun i=>i) (a:=a) 1 ha (fun r c _ _=>⟨rfl,rfl⟩) (fun c=>by rw [if_pos rfl];grind);grind
  rw [this];grind
def prodN (f:Nat→Rat):Nat→Rat
 | 0=>1
 | n+1=>prodN f n * f n
theorem prodN_congr {f g:Nat→Rat}:∀{n:Nat},(∀i,i < n→f i=g i)→prodN f n=prodN g n
 | 0,_=>rfl
 | n+1,h=>by unfold prodN;rw [prodN_congr fun i hi=>h i (by omega),h n (by omega)]
theorem prodN_head (f:Nat→Rat):∀n,prodN f (n+1)=f 0 * prodN (fun i=>f (i+1)) n
 | 0=>by simp only [prodN];grind
 | n+1=>by
  rw [show prodN f (n+1+1)=prodN f (n+1) * f (n+1) from rfl,prodN_head f n,show prodN (fun i=>f (i+1)) (n+1)=prodN (fun i=>f (i+1)) n * f (n+1) from rfl];grind
theorem detR_lower:∀(n:Nat) {R:Mx} {C:Nat→Nat},(∀r c,r < n→c < n→r < c→R r (C c)=0)→detR n R C=prodN (fun r=>R r (C r)) n
 | 0,_,_,_=>rfl
 | n+1,R,C,h=>by
  unfold detR
  rw [Xh (k:=0) (by omega) fun i hi hne=>by rw [h 0 i (by omega) hi (by omega)];grind,prodN_head,
   detR_lower n fun r c hr hc hlt=>h (r+1) (skipN 0 c) (by omega) (skip_lt hc) (by unfold skipN;rw [if_neg (by omega)];omega)]
  have:∀i,skipN 0 i=i+1:=fun i=>by unfold skipN;rw [if_neg (by omega)]
  simp only [this]
  rw [show sgN 0=1 from rfl];grind
theorem prodN_one:∀n,prodN (fun _=>1) n=1
 | 0=>rfl
 | n+1=>by unfold prodN;rw [prodN_one n];grind
theorem detR_id (n:Nat):detR n idM (fun i=>i)=1:=by
 rw [detR_lower n fun r c _ _ h=>by unfold idM;rw [if_neg (by omega)],prodN_congr (g:=fun _=>1) fun i _=>by unfold idM;rw [if_pos rfl],prodN_one]
theorem detR_eq {n:Nat} {M:Mx} (hi:XA n (trM M)):detR n M (fun i=>i)=Zfa n M:=by
 rw [(detR_rowF n).eq hi,detR_id];grind
def mulX (n:Nat) (A E:Mx):Mx:=fun r c=>Z6 (fun s=>A r s * E s c) n
theorem mulX_rowF (n:Nat) (E:Mx) {F:Mx→Rat} (h:Ztw n F):Ztw n (fun A=>F (mulX n A E)) where
 congr:=fun e=>h.congr fun r c hr _=>Zp fun s hs=>by rw [e r s hr hs]
 swap:=fun A a b ha hb hne=>by
  refine Eq.trans (h.congr fun r c _ _=>?_) (h.swap (mulX n A E) ha hb hne)
  unfold mulX swapM
  by_cases g:r=a
  ·simp only [if_pos g]
  ·by_cases g2:r=b
   ·simp only [if_neg g,if_pos g2]
   ·simp only [if_neg g,if_neg g2]
 add:=fun A a b k ha hb hne=>by
  refine Eq.trans (h.congr fun r c _ _=>?_) (h.add (mulX n A E) k ha hb hne)
  unfold mulX
  by_cases g:r=a
  ·simp only [if_pos g]
   rw [← Xn,← WY]
   exact Zp fun s _=>by grind
  ·simp only [if_neg g]
 scale:=fun A a k ha=>by
  refine Eq.trans (h.congr fun r c _ _=>?_) (h.scale (mulX n A E) k ha)
  unfold mulX
  by_cases g:r=a
  ·simp only [if_pos g]
   rw [← Xn]
   exact Zp fun s _=>by grind
  ·simp only [if_neg g]
theorem Ztw.mul {n:Nat} {F:Mx→Rat} (h:Ztw n F) {A:Mx} (hi:XA n (trM A)) (E:Mx):F (mulX n A E)=Zfa n A * F E:=by
 rw [(mulX_rowF n E h).eq hi,h.congr (A:=mulX n idM E) (B:=E) fun r c hr _=>by
  unfold mulX idM;rw [Xh hr fun i _ hne=>by rw [if_neg (fun g=>hne g.symm)];grind,if_pos rfl];grind]
def SgnP (n:Nat) (P:Nat→Nat) (s:Rat):Prop:=(s=1∨s= -1)∧∀F:Mx→Rat,Ztw n F→∀A:Mx,F (fun r=>A (P r))=s * F A
theorem upper_dN {n:Nat} {U:Mx} (h0:∀r c,r < n→c < n→c < r→U r c=0) (h1:∀r,r < n→U r r≠0):∀k,k≤n→∃N:Mx,dN U n k=some (N,prodN (fun r=>U r r) k)∧∀r c,r < n→c < n→N r c=U r c
 | 0,_=>⟨U,rfl,fun _ _ _ _=>rfl⟩
 | k+1,hk=>by
  obtain ⟨N,e,hN⟩:=upper_dN h0 h1 k (by omega)
  have hp:X6 N k n=some k:=Zjv (JY _) (by omega) (by rw [hN k k (by omega) (by omega)];exact h1 k (by omega)) fun s h1 h2=>absurd h2 (by omega)
  refine ⟨lowE N k n n,?_,fun r c hr hc=>?_⟩
  ·simp only [dN,e,Znn,hp]
   rw [Zcb,hN k k (by omega) (by omega)];simp only [if_true];rfl
  ·unfold lowE
   by_cases g:k < r∧r < n∧k≤c∧c < n
   ·rw [if_pos g,hN r c hr hc,hN r k hr (by omega),h0 r k hr (by omega) g.1];grind
   ·rw [if_neg g,hN r c hr hc]
theorem upper_detQ {n:Nat} {U:Mx} (h0:∀r c,r < n→c < n→c < r→U r c=0) (h1:∀r,r < n→U r r≠0):Zfa n U=prodN (fun r=>U r r) n:=by
 obtain ⟨N,e,_⟩:=upper_dN h0 h1 n (JY _);unfold Zfa;rw [e]
def ordM (C:Nat→Nat):Mx:=fun r k=>if r=C k then 1 else 0
theorem Zeu.det {n:Nat} {A:Mx} {R C:Nat→Nat} {L U:Mx} (h:Zeu n A R C L U) {sR sC:Rat} (hR:SgnP n R sR) (hC:SgnP n C sC):Zfa n A=sR * sC * prodN (fun k=>U k k) n:=by
 have hD:=detR_rowF n;have hA:XA n (trM A):=h.indep
 -- L by rows
 have hL:XA n (trM fun p s=>L s p):=fun z hz=>Zjz h.l0 h.l1 fun p hp=>by have:=hz p hp;exact this
 have a:Zfa n (fun p s=>L s p)=1:=by
  rw [← detR_eq hL,detR_lower n fun r c hr hc hlt=>h.l0 c r hc hr hlt,prodN_congr (g:=fun _=>1) fun i hi=>h.l1 i hi,prodN_one]
 have hU:XA n (trM fun s k=>U k s):=fun z hz=>Zka h.u0 h.u1 fun s hs=>by have:=hz s hs;exact this
 have b:Zfa n (fun s k=>U k s)=prodN (fun k=>U k k) n:=upper_detQ (fun r c hr hc hlt=>h.u0 c r hc hr hlt) h.u1;have e1:detR n (fun p k=>A (R p) (C k)) (fun i=>i)=prodN (fun k=>U k k) n:=by
  rw [hD.congr (B:=mulX n (fun p s=>L s p) (fun s k=>U k s)) fun p k hp hk=>h.eq p k hp hk];refine (hD.mul hL _).trans ?_;rw [a];show 1 * detR n (fun s k=>U k s) (fun i=>i)=_;rw [detR_eq hU,b];grind
 have hQ:detR n (ordM C) (fun i=>i)=sC:=by
  have h1:=hC.2 _ hD (ordM C);have h2:detR n (fun r=>ordM C (C r)) (fun i=>i)=detR n idM (fun i=>i):=by
   refine detR_congr n fun r c hr hc=>?_
   unfold ordM idM;by_cases g:r=c
   ·rw [if_pos g,if_pos (by rw [g])]
   ·rw [if_neg g,if_neg fun e=>g (h.ci.eq hr hc e)]
  have h3:detR n (fun r=>ordM C (C r)) (fun i=>i)=sC * detR n (ordM C) (fun i=>i):=h1;rw [h2,detR_id] at h3;rcases hC.1 with e | e
  ·rw [e] at h3 ⊢;grind
  ·rw [e] at h3 ⊢;grind
 have e2:detR n (fun p k=>A (R p) (C k)) (fun i=>i)=sR * (Zfa n A * sC):=by
  have h1:detR n (fun p=>mulX n A (ordM C) (R p)) (fun i=>i)=sR * detR n (mulX n A (ordM C)) (fun i=>i):=hR.2 _ hD _;have h2:detR n (mulX n A (ordM C)) (fun i=>i)=Zfa n A * detR n (ordM C) (fun i=>i):=hD.mul hA _;rw [h2,hQ] at h1;rw [← h1];refine detR_congr n fun p k hp hk=>?_
  unfold mulX ordM;rw [Xh (h.ci.1 k hk) fun i _ hne=>by rw [if_neg hne];grind,if_pos rfl];grind
 rw [e1] at e2;rcases hR.1 with g1 | g1 <;> rcases hC.1 with g2 | g2 <;> rw [g1,g2] at e2 ⊢ <;> grind
theorem detQ_rep {n k:Nat} {cols:Mx} {v im:Nat→Rat} (hk:k < n) (hi:XA n cols) (him:∀r,r < n→XV n cols im r=v r) (h0:im k≠0):
 Zfa n (trM (Zgu cols k v))=Zfa n (trM cols) * im k:=by
 have hD:=detR_rowF n;have a:=Zne hk hi him h0;have eE:∀s,s≤n→detR n (fun r c=>if r≠k∧r < s∧c=k then im r else if r=k then im k * idM r c else idM r c) (fun i=>i)=im k:=by
  intro s
  induction s with
  | zero=>
   intro _;rw [detR_congr n (S:=fun r c=>if r=k then im k * idM r c else idM r c) (D:=fun i=>i) fun r c _ _=>if_neg (by omega)];refine (hD.scale idM (im k) hk).trans ?_;show im k * detR n idM (fun i=>i)=_;rw [detR_id];grind
  | succ s ih=>
   intro hs;by_cases g:s=k
   ·refine Eq.trans ?_ (ih (by omega));exact detR_congr n fun r c _ _=>by
     by_cases g2:r≠k∧r < s+1∧c=k
     ·rw [if_pos g2,if_pos ⟨g2.1,by omega,g2.2.2⟩]
     ·rw [if_neg g2,if_neg (c:=r≠k∧r < s∧c=k) (by omega)]
   ·refine Eq.trans ?_ (ih (by omega));refine Eq.trans (detR_congr n fun r c hr hc=>?_) (hD.add (fun r c=>if r≠k∧r < s∧c=k then im r else if r=k then im k * idM r c else idM r c) (im s / im k) (show s < n by omega) hk g);by_cases g1:r=s
    ·subst g1;rw [if_pos rfl];have x1:(if r≠k∧r < r∧c=k then im r else if r=k then im k * idM r c else idM r c)=idM r c:=(by rw [if_neg (by omega),if_neg g]);have x2:(if k≠k∧k < r∧c=k then im k else if k=k then im k * idM k c else idM k c)=im k * idM k c:=(by rw [if_neg (by omega),if_pos rfl]);rw [x1,x2];by_cases g3:c=k
     ·rw [if_pos ⟨g,by omega,g3⟩];subst g3;unfold idM;rw [if_neg g,if_pos rfl];grind
     ·rw [if_neg (by omega),if_neg g];unfold idM;rw [if_neg (c:=k=c) (fun x=>g3 x.symm)];grind
    ·rw [if_neg g1];by_cases g2:r≠k∧r < s+1∧c=k
     ·rw [if_pos g2,if_pos ⟨g2.1,by omega,g2.2.2⟩]
     ·rw [if_neg g2,if_neg (c:=r≠k∧r < s∧c=k) (by omega)]
 have e1:detR n (fun r c=>if c=k then im r else idM r c) (fun i=>i)=im k:=by
  rw [← eE n (JY _)];refine detR_congr n fun r c hr hc=>?_
  by_cases g:c=k
  ·rw [if_pos g];by_cases g2:r=k
   ·rw [if_neg (by omega),if_pos g2,g,g2];unfold idM;rw [if_pos rfl];grind
   ·rw [if_pos ⟨g2,hr,g⟩]
  ·rw [if_neg g,if_neg (by omega)];by_cases g2:r=k
   ·rw [if_pos g2];unfold idM;rw [if_neg (by omega)];grind
   ·rw [if_neg g2]
 rw [← detR_eq (M:=trM (Zgu cols k v)) a];rw [detR_congr n (S:=mulX n (trM cols) fun r c=>if c=k then im r else idM r c) (D:=fun i=>i) fun r c hr hc=>?_]
 ·refine (hD.mul (A:=trM cols) hi _).trans ?_;show _ * detR n _ _=_;rw [e1]
 ·unfold mulX trM Zgu;by_cases g:c=k
  ·rw [if_pos g];show v r=_;rw [← him r hr];exact Zp fun s _=>by
    show _=cols s r * (if c=k then im s else idM s c);rw [if_pos g]
  ·rw [if_neg g];refine Eq.symm (Eq.trans (Xh hc fun i _ hne=>?_) ?_)
   ·show cols i r * (if c=k then im i else idM i c)=0;rw [if_neg g];unfold idM;rw [if_neg hne];grind
   ·show cols c r * (if c=k then im c else idM c c)=cols c r;rw [if_neg g];unfold idM;rw [if_pos rfl];grind
theorem Zwn.zero (n:Nat) (P:Nat→Nat):Zwn n P (fun _=>false) 1 where
 pm:=Or.inl rfl
 pre:=fun _ _ h=>absurd h (by decide)
 sg:=fun F hF A=>by
  rw [Rat.one_mul];exact hF.congr fun r c _ _=>by rw [if_neg (by decide)]
theorem Zvl.done {n:Nat} {P:Nat→Nat} {sn:Nat→Bool} {i z l:Nat} {s:Rat} (h:Zvl n P sn i z l s) (hP:Inj n n P) (h0:sn (P z)=true):Zwn n P sn (s * sgN (l+1)):=by
 have a:=hP.1 z h.zl;have hi:P z=i:=Classical.byContradiction fun g=>by
  obtain ⟨q,h1,_,h3,h4⟩:=h.pre (P z) a h0 g;exact h3 (hP.eq h1 h.zl h4)
 refine ⟨?_,fun r hr hs=>?_,fun F hF A=>?_⟩
 ·unfold sgN;rcases h.pm with e | e <;> rw [e] <;> split <;> grind
 ·by_cases e:r=i
  ·exact ⟨z,h.zl,h.zs,by rw [e,hi]⟩
  ·obtain ⟨q,h1,h2,_,h4⟩:=h.pre r hr hs e;exact ⟨q,h1,h2,h4⟩
 ·rw [← h.sg F hF A];refine hF.congr fun r c _ _=>?_
  by_cases e:r=z
  ·rw [e,h.zs,if_pos rfl,if_pos rfl,if_pos rfl,hi]
  ·rw [if_neg e]
theorem Zwn.all {n:Nat} {P:Nat→Nat} {sn:Nat→Bool} {s:Rat} (h:Zwn n P sn s) (ha:∀r,r < n→sn r=true):SgnP n P s:=
 ⟨h.pm,fun F hF A=>by rw [← h.sg F hF A];exact hF.congr fun r c hr _=>by rw [ha r hr,if_pos rfl]⟩
end Pl
theorem bolL_length (n:Nat) (f:Nat→Bool):(Zwo n f).length=n:=by simp [Zwo]
theorem bolL_set {n k:Nat} {f:Nat→Bool} (h:k < n):(Zwo n f).set k (.bool true)=Zwo n (Zqn f k):=by
 refine List.ext_getElem? fun i=>?_
 rcases JX i n with e | e
 ·rw [List.getElem?_set,bolL_length];by_cases c:k=i
  ·subst c;rw [if_pos rfl,if_pos h,Zqo e,UF]
  ·rw [if_neg c,Zqo e,Zqo e,VF (Ne.symm c)]
 ·rw [JU (by rw [List.length_set,bolL_length];exact e),JU (by rw [bolL_length];exact e)]
theorem Zvm.set_ [Old] {base:Nat} {w:World} {g n c:Nat} {f:Nat→Bool} (h:Zvm base w (.slice (some ⟨g,0,none⟩) n c) n f) {k:Nat} (hk:k < n) (hO:Old.n≤base:=by first | assumption | exact Nat.zero_le _ | omega | ((first | with_reducible refine Zb.le ?_ | with_reducible refine Zb.le1 ?_ | with_reducible refine Zb.le2 ?_ | with_reducible refine Zb.le3 ?_);repeat (first | assumption | exact Zb.up (by assumption) hOl | exact Zb.up (Hid.out (by assumption)) hOl | with_reducible refine Zb.set ?_ _ _ | with_reducible refine Zb.mk_ ?_ _ | with_reducible refine Zb.dr ?_ | with_reducible refine Zb.drN ?_ | refine Zb.up (by assumption) ?_ | refine Zb.up (Hid.out (by assumption)) ?_))):Zvm base (w.setCell ⟨g,k,none⟩ (.bool true)) (.slice (some ⟨g,0,none⟩) n c) n (Zqn f k)∧Zk 4 w (w.setCell ⟨g,k,none⟩ (.bool true)):=by
 have o1:=YJ h k (.bool true) (by rw [bolL_length];exact hk);rw [bolL_set hk] at o1;obtain ⟨_,b0,_⟩:=ZI h;exact ⟨o1,Zk.setCell b0 k _⟩
def zbc (n:Nat):Array Value:=madeCells (Value.cells (.bool false)) (n * 1)
theorem zbc_at {n k:Nat} (hk:k < n):(zbc n)[k]? =some (.bool false):=by
 unfold zbc madeCells;simp [hk,Value.cells,Nat.mod_one]
theorem Zvm.zeros (w:World) (n:Nat) (hn:n≤maxLen):Zvm w.heap.size (w.alloc (.cells (zbc n) 4)) (.slice (some ⟨w.heap.size,0,none⟩) n n) n (fun _=>false):=by
 have a:(zbc n).size=n * 1:=size_madeCells _ _;refine ⟨by simp [bolL_length],.inr ⟨w.heap.size,n,zbc n,by simp,JY _,heap_alloc_new w _,by simp,hn,by simpa using a,?_⟩⟩;refine List.ext_getElem? fun i=>?_
 rcases JX i n with e | e
 ·have:=zbc_at e;rw [Zqo e];simp [List.getElem?_take,e,this]
 ·rw [JU (by simp [a];omega),JU (by rw [bolL_length];omega)]
theorem info_boolT:(Tryz.prog.info? 4).map (fun i=>(i.zero,i.size,i.bytes))=some (some (.bool false),1,1):=by kernel_rfl
theorem make_bools (n:Nat) (hn:n≤1099511627776) (w:World):
 (Instr.makeSlice 112 (.int .i64 (n:Int)) (.int .i64 (n:Int))).run Tryz.prog w= .ok (.slice (some ⟨w.heap.size,0,none⟩) n n) (w.alloc (.cells (zbc n) 4)):=by
 obtain ⟨i0,hi,a,b,c⟩:=info_parts info_boolT;have hb:(i0.bytes:Int) * (n:Int)≤281474976710656:=by rw [c];omega
 have hr:=run_make (P:=Tryz.prog) w 112 4 i0 _ Tryz.underlying112 hi a .i64 .i64 n n (by omega) (by omega) hb (by omega);simp only [JP,b] at hr;exact hr
namespace Pl
theorem cntF_le (f:Nat→Bool):∀n,cntF f n≤n
 | 0=>JY _
 | n+1=>by unfold cntF;have:=cntF_le f n;split <;> omega
end Pl
theorem Zwy.below [Old] {w w':World} {g off n:Nat} {R C:Nat→Nat} {L U:Mx} (h:Zwy w g off n R C L U) (hb:Below w.heap.size w w'):Zwy w' g off n R C L U:=by
 obtain ⟨A0,c0,A1,c1,A2,c2,A3,c3,⟨k0,k1,k2,k3⟩,i0,i1,i2,i3⟩:=h;exact ⟨A0,c0,A1,c1,A2,c2,A3,c3,⟨ZH hb k0,ZH hb k1,ZH hb k2,ZH hb k3⟩,i0.below hb,i1.below hb,i2.below hb,i3.below hb⟩
section
attribute [local irreducible] Yi
end
section
attribute [local irreducible] Yi
end
section
attribute [local irreducible] Yi
end
theorem newB_err [Old] (v:Value) (cols:List (List En)) (n:Int) (w:World) (h:Xf w v cols) (hL:Zix cols) (h7:n≤7∨64 < n) (h0: -9223372036854775808≤n) (h1:n≤9223372036854775807) (he:Wx n cols≠0) (he2:Wx n cols≠13) (hOl:Zb w:=by (repeat (first | assumption | exact Zb.up (by assumption) hOl | exact Zb.up (Hid.out (by assumption)) hOl | with_reducible refine Zb.set ?_ _ _ | with_reducible refine Zb.mk_ ?_ _ | with_reducible refine Zb.dr ?_ | with_reducible refine Zb.drN ?_ | refine Zb.up (by assumption) ?_ | refine Zb.up (Hid.out (by assumption)) ?_))):
 Calls Tryz.prog 13 #[.int .i64 n,v] w fun e w'=>e= .returned (.tuple #[.pointer none,.int .i64 (Wx n cols)])∧Below w.heap.size w w':=by
 have Y:=hOl.le;obtain ⟨A,c,rfl,T,a7⟩:=h.shape;have HC:=JZ hL;obtain ⟨l,hl⟩:∃l,cols.length=l:=⟨_,rfl⟩;have HL:=JZ hl;rw [hl] at h T ⊢;have HV:=JZ h;clear h hL;by_cases M:n < 0
 ·have HR:Hid (Wx n cols=5):=JZ (by unfold Wx;rw [if_pos (.inl M)]);clear hl;go_enter Tryz.func13,Tryz.ntmps13;go_wp2;go_ret2;exact ⟨by rw [HR.out];rfl,JR _ _⟩
 ·by_cases N:64 < n
  ·have HR:Hid (Wx n cols=5):=JZ (by unfold Wx;rw [if_pos (.inr N)]);clear hl;go_enter Tryz.func13,Tryz.ntmps13;go_wp2;go_ret2;exact ⟨by rw [HR.out];rfl,JR _ _⟩
  ·obtain ⟨m,rfl⟩:=JT (show 0≤n by omega);have Z:m≤7:=(by omega);have a0:decide ((64:Int) < m)=false:=(by simp;omega);by_cases V:l=m
   ·subst V;have r:YH (l:Int) cols≠0:=fun h=>by
     unfold Wx at he he2;rw [if_neg (by omega),if_neg (by omega),if_neg (by simp [h])] at he he2;split at he
     ·rename_i hz;rw [if_pos hz] at he2;exact he2 rfl
     ·exact he rfl
    have s:Wx (l:Int) cols=YH (l:Int) (cols.drop 0):=by
     unfold Wx;rw [if_neg (by omega),if_neg (by omega),if_pos r];rfl
    have j:YH (l:Int) (cols.drop 0)≠0:=r;obtain ⟨U,q⟩:∃x,Wx (l:Int) cols=x:=⟨_,rfl⟩;rw [q] at s ⊢;have D:=JZ s;have O:=JZ j;have a1:=Zey l (by omega);have u:=Yl.zeros w l (by unfold maxLen;omega);have E:=Zd w (.cells (zvc l) 28);rw [Zbf (L:=Yu cols)] at u;clear hl s q r j he he2;go_enter Tryz.func13,Tryz.ntmps13;go_wp2;generalize w.alloc (.cells (zvc l) 28)=W at *
    go_loopw [26] (fun x wr=>∃k:Nat,k≤l∧x= .int .i64 k∧Yl w.heap.size wr (.slice (some ⟨w.heap.size,0,none⟩) l l) (Zkq l k (Yu cols))∧Below w.heap.size w wr∧YH (l:Int) (cols.drop 0)=YH (l:Int) (cols.drop k)) (fun x _=>l - (intOf x).toNat)
    case atStart=>exact ⟨0,by omega,rfl,u,E,rfl⟩
    case round=>
     clear u E;obtain ⟨k,hk,rfl,hO,d,J⟩:=hrel;have HE:=JZ J;clear J;rcases JX k l with hkl | hkl
     ·obtain ⟨es,he⟩:=XI (cs:=cols) (i:=k) (by rw [HL.out];exact hkl);obtain ⟨b,a8,A1,c1,rfl,a9,a,hm⟩:=HV.out.elem d he;obtain ⟨g1,g2,g3⟩:=HC.out k es he;have a2:(k:Int) < l:=(by omega);have F:=JZ (Zep (n:=(l:Int)) he);have HM:=JZ (Wu he);have P:=JZ g3;obtain ⟨ls,B⟩:∃x,es.length=x:=⟨_,rfl⟩;have a3:=JZ B;have X:ls≤9223372036854775807:=by
       obtain ⟨_,_,e1,e2,e3⟩:=hm.shape;omega
      rw [B] at hm a;have a4:=Zmr es (l:Int);clear he B;go_wp2_with fail;refine (XP _ es (l:Int) _ hm g1 (by omega) (by omega)).mono ?_;rintro _ w2 ⟨rfl,g⟩;have f:=Za d g d.size;by_cases hz:vecErr es (l:Int)=0
      ·have HR:Hid (YH (l:Int) (cols.drop 0)=YH (l:Int) (cols.drop (k+1))):=JZ (by rw [HE.out,F.out,if_pos hz]);have y:Pl.Good l es:=Zbh hz;have R:=JZ (cpyV_spV y);have S:Hid (es.length≤1099511627776):=JZ (by have:=y.len;omega);have G:=hm.below g;have H:=hO.below g;clear g1 g2 g3 a hm y hO d g;go_wp2_with fail;refine (Zbp _ es 12 _ G P.out (by decide) S.out).mono ?_;rintro _ w4 ⟨v2,rfl,e2,C⟩;rw [R.out,← HM.out] at e2;have z:=H.below C;have o:=Za f C f.size;obtain ⟨_,m0,m1,-⟩:=z.at_ (Uo (t:=k) (L:=Yu cols) hkl);obtain ⟨K,_⟩:=z.set_ (k:=k) (by rw [XK];exact hkl) e2.vec;rw [Zdl hkl] at K;have I:=o.setCell (p:=⟨w.heap.size,k,none⟩) (JY _) v2;obtain ⟨A2,n2,c2,rfl⟩:∃A n c,v2= .slice A n c:=by obtain ⟨A,c,e,_⟩:=e2.vec.shape;exact ⟨A,_,c,e⟩
       clear G H z f o e2 C;go_wp2;go_roundw
       case rel=>exact ⟨k+1,by omega,by go_num,K,I,HR.out⟩
       case measure=>simp [intOf];omega
      ·have HR:Hid (U=vecErr es (l:Int)):=JZ (by rw [D.out,HE.out,F.out,if_neg hz]);have a5:(vecErr es (l:Int) !=0)=true:=(by simpa using hz);generalize vecErr es (l:Int)=ER at *;clear hz g1 g2 g3 a hm hO d;go_wp2;go_ret2;exact ⟨by rw [HR.out];rfl,f⟩
     ·exact absurd (HE.out.trans (Zgn (by rw [HL.out];exact hkl))) O.out
   ·have HR:Hid (Wx (m:Int) cols=12):=JZ (by unfold Wx;rw [if_neg (by omega),if_pos (by rw [HL.out];omega)]);have a6:((l:Int) !=(m:Int))=true:=(by simp;omega);clear hl;go_enter Tryz.func13,Tryz.ntmps13;go_wp2;go_ret2;exact ⟨by rw [HR.out];rfl,JR _ _⟩
theorem size_any [Old] (base bi g n K:Nat) (Cs:Mx) (w:World) (hB:Zse base bi w g n K Cs) (hOl:Zb w:=by (repeat (first | assumption | exact Zb.up (by assumption) hOl | exact Zb.up (Hid.out (by assumption)) hOl | with_reducible refine Zb.set ?_ _ _ | with_reducible refine Zb.mk_ ?_ _ | with_reducible refine Zb.dr ?_ | with_reducible refine Zb.drN ?_ | refine Zb.up (by assumption) ?_ | refine Zb.up (Hid.out (by assumption)) ?_))) (hO:Old.n≤base:=by first | assumption | exact Nat.zero_le _ | omega | ((first | with_reducible refine Zb.le ?_ | with_reducible refine Zb.le1 ?_ | with_reducible refine Zb.le2 ?_ | with_reducible refine Zb.le3 ?_);repeat (first | assumption | exact Zb.up (by assumption) hOl | exact Zb.up (Hid.out (by assumption)) hOl | with_reducible refine Zb.set ?_ _ _ | with_reducible refine Zb.mk_ ?_ _ | with_reducible refine Zb.dr ?_ | with_reducible refine Zb.drN ?_ | refine Zb.up (by assumption) ?_ | refine Zb.up (Hid.out (by assumption)) ?_))):
 Calls Tryz.prog 22 #[.pointer (some ⟨g,0,none⟩)] w fun o w'=>o= .returned (.int .i64 (n:Int))∧Below w.heap.size w w':=by
 have a:=hOl.le;obtain ⟨T,gc,cc,k,R,C,im,V,L,Um,CC,s0,s1,s2,s3,vu,hX,-⟩:=hB;have y1:w.cell? ⟨g,0,none⟩=some (.int .i64 (n:Int)):=hX.cellAt 0 rfl;clear hX;go_enter Tryz.func22,Tryz.ntmps22;go_wp2;go_ret;exact ⟨rfl,JR _ _⟩
theorem bcolumn_own [Old] (base bi g n K:Nat) (Cs:Mx) (j:Nat) (w:World) (hB:Zse base bi w g n K Cs) (hj:j < n) (hOl:Zb w:=by (repeat (first | assumption | exact Zb.up (by assumption) hOl | exact Zb.up (Hid.out (by assumption)) hOl | with_reducible refine Zb.set ?_ _ _ | with_reducible refine Zb.mk_ ?_ _ | with_reducible refine Zb.dr ?_ | with_reducible refine Zb.drN ?_ | refine Zb.up (by assumption) ?_ | refine Zb.up (Hid.out (by assumption)) ?_))) (hO:Old.n≤base:=by first | assumption | exact Nat.zero_le _ | omega | ((first | with_reducible refine Zb.le ?_ | with_reducible refine Zb.le1 ?_ | with_reducible refine Zb.le2 ?_ | with_reducible refine Zb.le3 ?_);repeat (first | assumption | exact Zb.up (by assumption) hOl | exact Zb.up (Hid.out (by assumption)) hOl | with_reducible refine Zb.set ?_ _ _ | with_reducible refine Zb.mk_ ?_ _ | with_reducible refine Zb.dr ?_ | with_reducible refine Zb.drN ?_ | refine Zb.up (by assumption) ?_ | refine Zb.up (Hid.out (by assumption)) ?_))):
 Calls Tryz.prog 15 #[.pointer (some ⟨g,0,none⟩),.int .i64 (j:Int)] w fun o w'=>∃v',o= .returned (.tuple #[v',.int .i64 0])∧Wz w.heap.size w' v' (spV (Cs j) n)∧Below w.heap.size w w':=by
 have u:=hOl.le;obtain ⟨T,gc,cc,k,R,C,im,V,L,Um,CC,s0,s1,s2,s3,vu,hX,⟨r,hT,hE,h⟩,hU,hF,hO,-⟩:=hB;have y0:w.cell? ⟨g,0,none⟩=some (.int .i64 (n:Int)):=hX.cellAt 0 rfl;have y1:=hX.cellAt 1 rfl;have v:=hF.n7;have p:Hid (∀i,i < n→Sz K (Cs j i)):=JZ fun i hi=>by rw [← h];exact hU.sz T (JY _) i j hi hj
 have q:Hid (K≤4000000):=JZ (JW (Nat.le_mul_of_pos_left K (Nat.pow_pos (by decide))) hE);obtain ⟨b5,o5,A5,c5,a,_,x0,hm⟩:=hO.vecs.elem (JR _ _) (Zbb (L:=Cs) hj);injection a with a;injection a with a hA6;subst a hA6;simp only [Nat.zero_add] at x0;have b:Hid (∀(k:Nat) (e:En),(spV (Cs j) n)[k]? =some e→e.f.Rs K):=JZ (Zsc p.out);have c:Hid ((spV (Cs j) n).length≤1099511627776):=JZ (by have:=Ve (f:=Cs j) n;omega);have d:Hid (Zla (spV (Cs j) n)=spV (Cs j) n):=JZ (by rw [cpyV_spV (Zqi (Cs j) n)];exact WM fun i hi=>by rw [Zsb,if_pos hi]);obtain ⟨es,l⟩:∃es,spV (Cs j) n=es:=⟨_,rfl⟩;rw [l] at b c d hm x0 ⊢;obtain ⟨ls,m⟩:∃x,es.length=x:=⟨_,rfl⟩;rw [m] at hm x0;have y:(j:Int) < n:=by omega
 have t:decide ((n:Int)≤j)=false:=by simp;omega
 clear hX hU hF h hE hT r hO l m;go_enter Tryz.func15,Tryz.ntmps15;go_wp2_with fail;refine (Zbp _ es K _ hm b.out (by have:=q.out;omega) c.out).mono ?_;rw [d.out];rintro _ w1 ⟨v1,rfl,e1,s⟩;clear y0 y1 x0 hm;go_wp2;go_ret2;exact ⟨_,rfl,e1,s⟩
theorem column_err [Old] (base bi g n K:Nat) (Cs:Mx) (j:Int) (w:World) (hB:Zse base bi w g n K Cs) (hj:j < 0∨(n:Int)≤j) (h0: -9223372036854775808≤j) (h1:j≤9223372036854775807) (hOl:Zb w:=by (repeat (first | assumption | exact Zb.up (by assumption) hOl | exact Zb.up (Hid.out (by assumption)) hOl | with_reducible refine Zb.set ?_ _ _ | with_reducible refine Zb.mk_ ?_ _ | with_reducible refine Zb.dr ?_ | with_reducible refine Zb.drN ?_ | refine Zb.up (by assumption) ?_ | refine Zb.up (Hid.out (by assumption)) ?_))) (hO:Old.n≤base:=by first | assumption | exact Nat.zero_le _ | omega | ((first | with_reducible refine Zb.le ?_ | with_reducible refine Zb.le1 ?_ | with_reducible refine Zb.le2 ?_ | with_reducible refine Zb.le3 ?_);repeat (first | assumption | exact Zb.up (by assumption) hOl | exact Zb.up (Hid.out (by assumption)) hOl | with_reducible refine Zb.set ?_ _ _ | with_reducible refine Zb.mk_ ?_ _ | with_reducible refine Zb.dr ?_ | with_reducible refine Zb.drN ?_ | refine Zb.up (by assumption) ?_ | refine Zb.up (Hid.out (by assumption)) ?_))):
 Calls Tryz.prog 15 #[.pointer (some ⟨g,0,none⟩),.int .i64 j] w fun o w'=>o= .returned (.tuple #[.slice none 0 0,.int .i64 5])∧Below w.heap.size w w':=by
 have b:=hOl.le;obtain ⟨T,gc,cc,k,R,C,im,V,L,Um,CC,s0,s1,s2,s3,vu,hX,-⟩:=hB;have y0:w.cell? ⟨g,0,none⟩=some (.int .i64 (n:Int)):=hX.cellAt 0 rfl;clear hX;by_cases a:j < 0
 ·go_enter Tryz.func15,Tryz.ntmps15;go_wp2;go_ret2;exact ⟨rfl,JR _ _⟩
 ·have hd:decide (j < 0)=false:=by simpa using a
  have c:(n:Int)≤j:=by omega
  go_enter Tryz.func15,Tryz.ntmps15;go_wp2;go_ret2;exact ⟨rfl,JR _ _⟩
namespace Pl
theorem sgN_even {l:Nat} (h:l % 2=0):sgN (l+1)= -1:=by unfold sgN;rw [if_neg (by omega)]
theorem sgN_odd {l:Nat} (h:l % 2≠0):sgN (l+1)=1:=by unfold sgN;rw [if_pos (by omega)]
theorem Zul.room {n:Nat} {P:Nat→Nat} {sn sn2:Nat→Bool} {i l j:Nat} {sg:Int} (h:Zul n P sn sn2 i l j sg) (h0:sn2 j=false):l < n:=by
 obtain ⟨h1,h2,_⟩:=h;have hc:=Zil h0 h2;omega
end Pl
theorem parity_any [Old] (v:Value) (m:Nat) (P:Nat→Nat) (w:World) (h:Vi w v (Zdg m P)) (hP:Inj m m P) (hn:m≤64) (hOl:Zb w:=by (repeat (first | assumption | exact Zb.up (by assumption) hOl | exact Zb.up (Hid.out (by assumption)) hOl | with_reducible refine Zb.set ?_ _ _ | with_reducible refine Zb.mk_ ?_ _ | with_reducible refine Zb.dr ?_ | with_reducible refine Zb.drN ?_ | refine Zb.up (by assumption) ?_ | refine Zb.up (Hid.out (by assumption)) ?_))):
 Calls Tryz.prog 78 #[v] w fun o w'=>∃s:Int,o= .returned (.int .i64 s)∧(s=1∨s= -1)∧SgnP m P (s:Rat)∧Below w.heap.size w w':=by
 have T:=hOl.le;obtain ⟨A,c,rfl,M,a0⟩:=h.shape;rw [Zba] at h M ⊢;have HI:=JZ h;have HP:=JZ hP;have U:=make_bools m (by omega);have E:=Zvm.zeros w m (by unfold maxLen;omega);have F:=Zd w (.cells (zbc m) 4);clear h hP;go_enter Tryz.func78,Tryz.ntmps78;go_wp2;generalize w.alloc (.cells (zbc m) 4)=W at *
 go_loopw [4,13] (fun s x wr=>∃(i:Nat) (sg:Int) (sn:Nat→Bool),i≤m∧x= .int .i64 i∧s= .int .i64 sg∧(sg=1∨sg= -1)∧Below w.heap.size w wr∧Zvm w.heap.size wr (.slice (some ⟨w.heap.size,0,none⟩) m m) m sn∧Zwn m P sn (sg:Rat)∧∀r,r < i→sn r=true) (fun _ x _=>m - (intOf x).toNat)
 case atStart=>exact ⟨0,1,fun _=>false,by omega,rfl,rfl,Or.inl rfl,F,E,Zwn.zero m P,fun r hr=>by omega⟩
 case round=>
  clear E F;obtain ⟨i,sg,sn,hi,rfl,rfl,C,d,hO,hD,y⟩:=hrel;have HD:=JZ hD;have k:=JZ y;clear hD y;rcases JX i m with him | him
  ·have V:(i:Int) < m:=(by omega);have G:Zul m P sn sn i 0 i sg:=⟨by have:=cntF_le sn m;omega,him,fun r hr=>hr,Or.inl ⟨rfl,rfl,rfl⟩⟩;go_wp2
   go_loopw [6,7] (fun u x wx=>∃(l j:Nat) (a:Nat→Bool),u= .int .i64 l∧x= .int .i64 j∧Below w.heap.size w wx∧Zvm w.heap.size wx (.slice (some ⟨w.heap.size,0,none⟩) m m) m a∧Zul m P sn a i l j sg) (fun u _ _=>m - (intOf u).toNat)
   case atStart=>exact ⟨0,i,sn,rfl,rfl,d,hO,G⟩
   case round=>
    clear d hO G;obtain ⟨l,j,a,rfl,rfl,d,hO,hA⟩:=hrel;have HA:=JZ hA;obtain ⟨a1,n,-,-⟩:=hA;have X:(j:Int) < m:=(by omega);obtain ⟨x0,x1⟩:=hO.at_ n
    cases hsj:a j
    ·rw [hsj] at x0;have Y:=HA.out.room hsj;have HN:=JZ (HA.out.step HD.out HP.out hsj);obtain ⟨N,O⟩:=hO.set_ n;have t:=d.setCell (p:=⟨w.heap.size,j,none⟩) (JY _) (.bool true);obtain ⟨b5,o5,R,y0⟩:=HI.out.nat t n;subst R;have Z:=HP.out.1 j n;clear hsj O hO d
     go_upto_region 10 with (fail)
     go_upto_region 11 with (fail)
     clear x0 x1;generalize wr.setCell ⟨w.heap.size,j,none⟩ (.bool true)=W3 at *;go_wp2;go_roundw
     case rel=>exact ⟨l+1,P j,Zqn a j,by go_num,rfl,t,N,HN.out⟩
     case measure=>simp [intOf];omega
    ·rw [hsj] at x0;have H:=JZ hsj;clear hsj;obtain ⟨-,-,f,D⟩:=HA.out;rcases D with ⟨I,hs2,hj⟩ | ⟨hl,z,hz,hI⟩
     ·have b:Hid (∀r,r < i+1→a r=true):=JZ fun r hr=>by
       by_cases e:r=i
       ·rw [e,← hj];exact H.out
       ·exact f r (k.out r (by omega))
      have L:Hid (Zwn m P a (sg:Rat)):=JZ (by rw [hs2];exact HD.out);subst I;clear f hs2 hj;go_wp2;go_roundw
      case rel=>exact ⟨i+1,sg,a,by omega,by go_num,rfl,C,d,hO,L.out,b.out⟩
      case measure=>simp [intOf];omega
     ·have g:=hI.done HP.out (by rw [← hz];exact H.out);have b:Hid (∀r,r < i+1→a r=true):=JZ fun r hr=>by
       by_cases e:r=i
       ·rw [e];exact hI.is
       ·exact f r (k.out r (by omega))
      have I:(0:Int) < (l:Int):=(by omega);have S:0 < l:=(by omega);by_cases q:l % 2=0
      ·have B:Hid (Zwn m P a ((-sg:Int):Rat)):=JZ (by
        rw [sgN_even q] at g;rw [Rat.intCast_neg,show -(sg:Rat)=(sg:Rat) * -1 by grind];exact g)
       have J:(l:Int).tmod 2=0:=(by rw [Int.tmod_eq_emod_of_nonneg (by omega)];omega);have K: -sg=1∨ -sg= -1:=(by omega);clear f hz hI g q hl;go_wp2;go_roundw
       case rel=>exact ⟨i+1,-sg,a,by omega,by go_num,by go_num,K,d,hO,B.out,b.out⟩
       case measure=>simp [intOf];omega
      ·have B:Hid (Zwn m P a (sg:Rat)):=JZ (by
        rw [sgN_odd q] at g;rw [show (sg:Rat)=(sg:Rat) * 1 by grind];exact g)
       have J:(l:Int).tmod 2=1:=(by rw [Int.tmod_eq_emod_of_nonneg (by omega)];omega);clear f hz hI g q hl;go_wp2;go_roundw
       case rel=>exact ⟨i+1,sg,a,by omega,by go_num,rfl,C,d,hO,B.out,b.out⟩
       case measure=>simp [intOf];omega
  ·obtain rfl:m=i:=by omega
   go_wp2;go_ret;exact ⟨sg,rfl,C,HD.out.all k.out,d⟩
section
def SgAt (U:World) (n:Nat) (R C:Nat→Nat) (s3:Value) (wx:World):Prop:=∃a b:Int,s3= .int .i64 (a * b)∧(a=1∨a= -1)∧(b=1∨b= -1)∧SgnP n R (a:Rat)∧SgnP n C (b:Rat)∧Below U.heap.size U wx
theorem SgAt.mk {U wx:World} {n:Nat} {R C:Nat→Nat} {a b:Int} (ha:a=1∨a= -1) (hb:b=1∨b= -1) (h1:SgnP n R (a:Rat)) (h2:SgnP n C (b:Rat)) (hS:Below U.heap.size U wx):SgAt U n R C (.int .i64 (wrap64 (a * b))) wx:=by
 refine ⟨a,b,?_,ha,hb,h1,h2,hS⟩;exact congrArg (Value.int .i64) (by rcases ha with rfl | rfl <;> rcases hb with rfl | rfl <;> (unfold wrap64;decide))
namespace Pl
theorem Sz_prodN {f:Nat→Rat} {K n:Nat} (h:∀i,i < n→Sz K (f i)):∀k,k≤n→Sz (1+k * K) (prodN f k)
 | 0,_=>by simpa [prodN] using Sz_one
 | k+1,hk=>(V5 (Sz_prodN h k (by omega)) (h k (by omega))).mono (by rw [Nat.add_mul k 1];omega)
theorem fromInts_q {z:Int} (hz:z=1∨z= -1):Rat.divInt z 1=(z:Rat):=by rcases hz with rfl | rfl <;> rfl
end Pl
theorem fromInts_sg [Old] (z:Int) (w:World) (hz:z=1∨z= -1) (hOl:Zb w:=by (repeat (first | assumption | exact Zb.up (by assumption) hOl | exact Zb.up (Hid.out (by assumption)) hOl | with_reducible refine Zb.set ?_ _ _ | with_reducible refine Zb.mk_ ?_ _ | with_reducible refine Zb.dr ?_ | with_reducible refine Zb.drN ?_ | refine Zb.up (by assumption) ?_ | refine Zb.up (Hid.out (by assumption)) ?_))):Calls Tryz.prog 69 #[.int .i64 z,.int .i64 1] w fun e w'=>∃v',e= .returned (.tuple #[v',.int .i64 0])∧Zm w' v' (canF (z:Rat))∧Below w.heap.size w w':=by
 have a:=hOl.le;refine (Zed z 1 w (by omega) (by omega) (by omega) (by omega)).mono ?_;rintro e w' ⟨v',h1,h2,h3⟩;rw [if_neg (by omega)] at h1 h2;exact ⟨v',h1,by rw [← fromInts_q hz];exact h2,h3⟩
attribute [local irreducible] Yi
theorem facdet_any [Old] (g off n E:Nat) (A:Mx) (R C:Nat→Nat) (L U:Mx) (w:World) (h:Zwy w g off n R C L U) (hF:Znq n E A R C L U) (hOl:Zb w:=by (repeat (first | assumption | exact Zb.up (by assumption) hOl | exact Zb.up (Hid.out (by assumption)) hOl | with_reducible refine Zb.set ?_ _ _ | with_reducible refine Zb.mk_ ?_ _ | with_reducible refine Zb.dr ?_ | with_reducible refine Zb.drN ?_ | refine Zb.up (by assumption) ?_ | refine Zb.up (Hid.out (by assumption)) ?_))):
 Calls Tryz.prog 49 #[.pointer (some ⟨g,off,none⟩)] w fun o w'=>∃v',o= .returned v'∧Zm w' v' (canF (Zfa n A))∧Below w.heap.size w w':=by
 have aw:=hOl.le;have l:=JZ hF;have aa:=JZ hF.fac.ri;have ab:=JZ hF.fac.ci;have I:n≤64:=by have:=hF.n7;omega
 have ax:=hF.n7;have hR:=Bk.new w 36 [.bool false,.slice none 0 0,.bool false,.slice none 0 0];have b:=Zd w (.cells [.bool false,.slice none 0 0,.bool false,.slice none 0 0].toArray 36);have h':=h.below b;obtain ⟨am,r⟩:∃q,Zfa n A=q:=⟨_,rfl⟩;rw [r];have Y:=JZ r;clear r h hF;go_enter Tryz.func49,Tryz.ntmps49;go_wp2_with fail;generalize w.alloc _=W at *;obtain ⟨A0,c0,A1,c1,A2,c2,A3,c3,⟨k0,k1,k2,k3⟩,i0,i1,i2,i3⟩:=h'
 go_cut [3] (fun s3 wx=>SgAt W n R C s3 wx)
 case first=>
  have K0:=Zr k0;have K1:=Zr k1;have e:=Zj W;clear k0 k1 k2 k3;refine Xg 12 (.go 0 (.go 1 (.go 2 (.go 3 (.go 5 (.go 6 (.go 7 (.go 8 (.go 4 (.go 9 (.go 10 (.go 11 .done)))))))))))) (by kernel_rfl) (by kernel_rfl) ?_;repeat ((first | (refine Yg (v:=?_) rfl rfl rfl ?_ ?_;rotate_left;(· (intro _ d;go_simp;(try go_bits);(try with_reducible rfl)))) | (refine YA (v:=?_) rfl rfl rfl ?_ ?_;rotate_left;(· (intro _ d;go_simp;(try go_bits);(try with_reducible rfl)))) | refine YB rfl rfl rfl ?_ | refine Yh rfl rfl rfl (by assumption) ?_);(try simp only [Act.put,pu1,pu2,pu3,pu4,pu5,pu6]))
  refine ZQ rfl rfl (fun KR hKR=>?_);go_simp;with_reducible refine (parity_any _ n R _ (i0.below e) aa.out I).mono ?_
  rintro _ w6 ⟨sa,rfl,y,F,H⟩;have a:=Za e H e.size;refine hKR.out _ _ (Or.inr a) ?_;clear hKR KR;(try simp only [Act.put,pu1,pu2,pu3,pu4,pu5,pu6]);refine ZQ rfl rfl (fun KR hKR=>?_);go_simp;with_reducible refine (parity_any _ n C _ (i1.below a) ab.out I).mono ?_
  rintro _ w7 ⟨sb,rfl,B,G,aq⟩;have Z:=Za a aq a.size;refine hKR.out _ _ (Or.inr Z) ?_;clear hKR KR;(try simp only [Act.put,pu1,pu2,pu3,pu4,pu5,pu6]);repeat ((first | (refine Yg (v:=?_) rfl rfl rfl ?_ ?_;rotate_left;(· (intro _ d;go_simp;(try go_bits);(try with_reducible rfl)))) | (refine YA (v:=?_) rfl rfl rfl ?_ ?_;rotate_left;(· (intro _ d;go_simp;(try go_bits);(try with_reducible rfl)))) | refine YB rfl rfl rfl ?_ | refine Yh rfl rfl rfl (by assumption) ?_);(try simp only [Act.put,pu1,pu2,pu3,pu4,pu5,pu6]))
  refine Y7 ?_;go_wp2_with fail
  go_meet
  exact SgAt.mk y B F G Z
 case rest=>
  obtain ⟨sa,sb,rfl,y,B,F,G,hS⟩:=hcut;have j:=Za b hS b.size;have M:=hR.later hS;have I3:=JZ (i3.below hS);have a0:=cell_later hS k3;obtain ⟨au,av⟩:=i3.cap;obtain ⟨z,hz⟩:∃z:Int,sa * sb=z:=⟨_,rfl⟩;have ac:z=1∨z= -1:=by rw [← hz];rcases y with rfl | rfl <;> rcases B with rfl | rfl <;> decide
  have a1:(z:Rat)=(sa:Rat) * (sb:Rat):=by rw [← hz];exact Rat.intCast_mul _ _
  rw [hz];obtain ⟨DQ,t⟩:∃D:Nat→Rat,D=fun k=>(z:Rat) * prodN (fun k=>U k k) k:=⟨_,rfl⟩
  have ad:Hid (DQ n=am):=JZ (by rw [← Y.out,l.out.fac.det F G,t,a1]);have ae:Hid ((z:Rat)=DQ 0):=JZ (by rw [t];show (z:Rat)=(z:Rat) * 1;grind);have af:Hid (∀k,DQ (k+1)=DQ k * U k k):=JZ fun k=>by rw [t];show (z:Rat) * (prodN _ k * U k k)=(z:Rat) * prodN _ k * U k k;grind
  have ag:Hid (∀k,k≤n→Sz 60000000 (DQ k)):=JZ fun k hk=>by
   rw [t];have h1:Sz 1 (z:Rat):=Zrz (by omega) (by omega);have h2:=Sz_prodN (f:=fun k=>U k k) (n:=n) (fun i hi=>l.out.uB i i hi hi) k hk;have h3:=l.out.e2;have h4:k * (2 * E)≤7 * 8000000:=Nat.mul_le_mul (by omega) (by omega);exact (V5 h1 h2).mono (by omega)
  clear b hR hS i0 i1 i2 i3 k0 k1 k2 k3 y B F G hz a1 t;go_wp2_with fail;refine (fromInts_sg z _ ac).mono ?_;rw [ae.out];rintro _ w2 ⟨v2,rfl,e2,m⟩;obtain ⟨d0,S⟩:∃q,DQ 0=q:=⟨_,rfl⟩;rw [S] at e2;obtain ⟨A1,An,Ac,A2,Am,Ad,rfl,_,_⟩:=id e2;obtain ⟨W3,an,a6,p⟩:=Zah w2 (.bool (canF d0).num.neg) (.slice A1 An Ac) (.bool (canF d0).den.neg) (.slice A2 Am Ad);have J:=Za (Za j m j.size) p (Za j m j.size).size;have a2:=(M.later m).later p;have e3:=e2.below p;have a3:=JZ ((I3.out.below m).below p);have ar:w.heap.size < w2.heap.size:=(M.later m).lt;have ah:=cell_later p (cell_later m a0);clear j M e2 m a0 I3 p;go_wp2;clear an ah;generalize w2.heap.size=gd at *
  go_loopw [29] (fun x wr=>∃(k:Nat) (A1 A2:Option Addr) (An Ac Am Ad:Nat),k≤n∧x= .int .i64 k∧Below w.heap.size w wr∧Xf wr (.slice A3 n c3) (vcL n U)∧Bk wr w.heap.size 36 [.bool false,.slice none 0 0,.bool false,.slice none 0 0]∧Bk wr gd 36 [.bool (canF (DQ k)).num.neg,.slice A1 An Ac,.bool (canF (DQ k)).den.neg,.slice A2 Am Ad]∧Zm wr (.agg #[.bool (canF (DQ k)).num.neg,.slice A1 An Ac,.bool (canF (DQ k)).den.neg,.slice A2 Am Ad]) (canF (DQ k))) (fun x _=>n - (intOf x).toNat)
  case atStart=>exact ⟨0,A1,A2,An,Ac,Am,Ad,by omega,rfl,J,a3.out,a2,by rw [S];exact a6,by rw [S];exact e3⟩
  case round=>
   clear J a2 a6 e3 a3;obtain ⟨k,A1,A2,An,Ac,Am,Ad,hk,rfl,b,T,hR,hD,hd⟩:=hrel;rcases JX k n with hkn | hkn
   ·obtain ⟨b5,o5,A5,c5,ao,y0,V⟩:=T.vc (JR _ _) hkn;subst ao;have a4:=JZ (Zqq (f:=U k) hkn (l.out.fac.u1 k hkn) fun s h1 h2=>l.out.fac.u0 k s hkn h2 h1);have u:Hid (DQ k * U k k=DQ (k+1)):=JZ (af.out k).symm;have N:(canF (DQ k)).Sm:=(ag.out k hk).rs.sm (by decide);have O:(canF (U k k)).Sm:=(l.out.uB k k hkn hkn).rs.sm (by have:=l.out.e2;omega);have ay:(k:Int) < n:=(by omega);obtain ⟨dq,a7⟩:∃q,DQ k=q:=⟨_,rfl⟩;obtain ⟨dn,X⟩:∃q,DQ (k+1)=q:=⟨_,rfl⟩;obtain ⟨uq,ap⟩:∃q,U k k=q:=⟨_,rfl⟩;rw [a7] at hD hd u N;rw [X] at u;rw [ap] at u a4 O;have K:=JZ X;obtain ⟨ls,a8⟩:∃x,(spV (U k) n).length=x:=⟨_,rfl⟩;rw [a8] at V y0;clear a7 X a8;obtain ⟨z0,z1,z2,z3⟩:=hD.four
    go_upto_region 6 with (fail)
    have Y0:=Zr z0;have Y1:=Zr z1;have Y2:=Zr z2;have Y3:=Zr z3;have e:=Zj wr;clear y0 z0 z1 z2 z3;refine Zt 4 [0,1,2,3,4] (by kernel_rfl) (by kernel_rfl) ?_;repeat ((first | (refine Zc (v:=?_) rfl rfl rfl ?_ ?_;rotate_left;(· (intro _ d;go_simp;(try go_bits);(try with_reducible rfl)))) | (refine Ze (v:=?_) rfl rfl rfl ?_ ?_;rotate_left;(· (intro _ d;go_simp;(try go_bits);(try with_reducible rfl)))) | refine Zf rfl rfl rfl ?_);(try simp only [Act.put,pu1,pu2,pu3,pu4,pu5,pu6]))
    refine Zg rfl rfl (fun KR hKR=>?_);go_simp;(with_reducible refine (Zev _ (spV (U k) n) ⟨(k:Int),canF uq⟩ _ (V.below e) a4.out).mono ?_);rintro _ w6 ⟨v6,rfl,e6,H⟩;have a:=Za e H e.size;replace e6:Zm w6 v6 (canF uq):=e6;obtain ⟨E1,En,Ec,E2,Em,Ed,rfl,_,_⟩:=id e6;refine hKR.out _ _ (Or.inr a) ?_;clear hKR KR;(try simp only [Act.put,pu1,pu2,pu3,pu4,pu5,pu6]);repeat ((first | (refine Zc (v:=?_) rfl rfl rfl ?_ ?_;rotate_left;(· (intro _ d;go_simp;(try go_bits);(try with_reducible rfl)))) | (refine Ze (v:=?_) rfl rfl rfl ?_ ?_;rotate_left;(· (intro _ d;go_simp;(try go_bits);(try with_reducible rfl)))) | refine Zf rfl rfl rfl ?_);(try simp only [Act.put,pu1,pu2,pu3,pu4,pu5,pu6]))
    refine Zg rfl rfl (fun KR hKR=>?_);go_simp;(with_reducible refine (Zcq _ _ (canF dq) (canF uq) _ (hd.below a) e6 N O).mono ?_);rw [ZG,ZG,u.out];rintro _ w8 ⟨v8,rfl,e8,a9⟩;have c:=Za a a9 a.size;obtain ⟨C1,Cn,Cc,C2,Cm,Cd,rfl,_,_⟩:=id e8;obtain ⟨t0,t1,t2,t3⟩:=(hD.later c).four;obtain ⟨f0,f1,f2,f3⟩:=(hD.later c).fourF;refine hKR.out _ _ (Or.inr c) ?_;clear hKR KR;(try simp only [Act.put,pu1,pu2,pu3,pu4,pu5,pu6]);repeat ((first | (refine Zc (v:=?_) rfl rfl rfl ?_ ?_;rotate_left;(· (intro _ d;go_simp;(try go_bits);(try with_reducible rfl)))) | (refine Ze (v:=?_) rfl rfl rfl ?_ ?_;rotate_left;(· (intro _ d;go_simp;(try go_bits);(try with_reducible rfl)))) | refine Zf rfl rfl rfl ?_);(try simp only [Act.put,pu1,pu2,pu3,pu4,pu5,pu6]))
    refine Zg rfl rfl (fun KR hKR=>?_);go_simp;refine hKR.out _ _ (Or.inl (by decide)) ?_;clear hKR KR;(try simp only [Act.put,pu1,pu2,pu3,pu4,pu5,pu6]);refine Zv ?_;have P:=(hD.later c).but4 (.bool (canF dn).num.neg) (.slice C1 Cn Cc) (.bool (canF dn).den.neg) (.slice C2 Cm Cd);have ai:=(hR.later c).far4 (show w.heap.size≠gd by omega) (.bool (canF dn).num.neg) (.slice C1 Cn Cc) (.bool (canF dn).den.neg) (.slice C2 Cm Cd);have aj:=(hD.later c).set4 (.bool (canF dn).num.neg) (.slice C1 Cn Cc) (.bool (canF dn).den.neg) (.slice C2 Cm Cd);have ak:=e8.keep (P.keep (by decide));have a5:=Z5 (Za b c b.size) (show w.heap.size≤gd by omega) (.bool (canF dn).num.neg) (.slice C1 Cn Cc) (.bool (canF dn).den.neg) (.slice C2 Cm Cd);have al:=(T.below c).but P (by decide) (by decide) (by decide);clear Y0 Y1 Y2 Y3 e a c H a9 e6 e8 b T hR hD hd V P t0 t1 t2 t3 f0 f1 f2 f3 N O;go_wp2;go_roundw
    case rel=>exact ⟨k+1,C1,C2,Cn,Cc,Cm,Cd,by omega,by go_num,a5,al,ai,by rw [K.out];exact aj,by rw [K.out];exact ak⟩
    case measure=>simp [intOf];omega
   ·obtain rfl:n=k:=by omega
    rw [ad.out] at hD hd;obtain ⟨z0,z1,z2,z3⟩:=hD.four;obtain ⟨t0,t1,t2,t3⟩:=hR.four;obtain ⟨f0,f1,f2,f3⟩:=hR.fourF;go_wp2;refine Zn Tryz.results49 Tryz.underlying36 (by kernel_rfl) rfl (hR.set4 _ _ _ _) rfl ?_;exact Yr hR hd b (JY _)
theorem bdet_any [Old] (base bi g n K:Nat) (Cs:Mx) (w:World) (hB:Zse base bi w g n K Cs) (hOl:Zb w:=by (repeat (first | assumption | exact Zb.up (by assumption) hOl | exact Zb.up (Hid.out (by assumption)) hOl | with_reducible refine Zb.set ?_ _ _ | with_reducible refine Zb.mk_ ?_ _ | with_reducible refine Zb.dr ?_ | with_reducible refine Zb.drN ?_ | refine Zb.up (by assumption) ?_ | refine Zb.up (Hid.out (by assumption)) ?_))) (hO:Old.n≤base:=by first | assumption | exact Nat.zero_le _ | omega | ((first | with_reducible refine Zb.le ?_ | with_reducible refine Zb.le1 ?_ | with_reducible refine Zb.le2 ?_ | with_reducible refine Zb.le3 ?_);repeat (first | assumption | exact Zb.up (by assumption) hOl | exact Zb.up (Hid.out (by assumption)) hOl | with_reducible refine Zb.set ?_ _ _ | with_reducible refine Zb.mk_ ?_ _ | with_reducible refine Zb.dr ?_ | with_reducible refine Zb.drN ?_ | refine Zb.up (by assumption) ?_ | refine Zb.up (Hid.out (by assumption)) ?_))):
 Calls Tryz.prog 24 #[.pointer (some ⟨g,0,none⟩)] w fun o w'=>∃v',o= .returned v'∧Zm w' v' (canF (Zfa n (trM Cs)))∧Below w.heap.size w w':=by
 have ax:=hOl.le;obtain ⟨T,gc,cc,k,R,C,im,V,L,Um,CC,s0,s1,s2,s3,vu,hX,⟨ao,hT,hE,a7⟩,hU,hF,hO,i0,i1,v2,v3,M⟩:=hB;obtain ⟨Au,cu,rfl,av,aw⟩:=M.shape;have A:=Zvt hX i0 i1 v2 v3;have y0:w.cell? ⟨g,6,none⟩=some (.slice Au T cu):=hX.cellAt 6 rfl;have ay:=hF.n7;have ae:Hid (1≤K):=JZ (Nat.pos_of_ne_zero fun e=>by have:=hF.e1;subst e;simp at this);have HE:=JZ hE;have HF:=JZ hF;have HU:=JZ hU;have af:=JZ M;obtain ⟨DQ,u⟩:∃D:Nat→Rat,D=fun t=>Zfa n (trM (CC t)):=⟨_,rfl⟩
 have ag:Hid (Zfa n (trM (CC 0))=DQ 0):=JZ (by rw [u]);have ah:Hid (DQ T=Zfa n (trM Cs)):=JZ (by rw [u,← a7]);have ai:Hid (∀t,t < T→DQ t * im t (k t)=DQ (t+1)):=JZ fun t ht=>by
  rw [u];show Zfa n (trM (CC t)) * _=Zfa n (trM (CC (t+1)));rw [hU.step t ht,detQ_rep (hU.kn t ht) (hU.indep t (by omega)) (hU.img t ht) (hU.nz t ht)]
 have aj:Hid (∀t,t≤T→Sz (5^n * K) (DQ t)):=JZ fun t ht=>by
  rw [u];show Sz _ (Zfa n (trM (CC t)));unfold Zfa
  cases hd:dN (trM (CC t)) n n with
  | none=>exact Sz_zero.mono hF.e1
  | some p=>exact (Zwm (K:=K) (fun r c hr hc=>hU.sz t ht r c hr hc) ae.out (JY _) hd).2
 have hR:=Bk.new w 36 [.bool false,.slice none 0 0,.bool false,.slice none 0 0];have b:=Zd w (.cells [.bool false,.slice none 0 0,.bool false,.slice none 0 0].toArray 36);rw [← ah.out];obtain ⟨tq,N⟩:∃q,DQ T=q:=⟨_,rfl⟩;rw [N];have ak:=JZ N;clear N;have i:=A.below b;have X:=cell_later b y0;clear hX ao hE a7 hU hF hO i0 i1 v2 v3 M u A y0;go_enter Tryz.func24,Tryz.ntmps24;go_wp2_with fail;generalize w.alloc _=W at *;refine (facdet_any g 2 n (5^n * K) (trM (CC 0)) R C L Um _ i HF.out).mono ?_;rw [ag.out];rintro _ w2 ⟨v2,rfl,e2,y⟩;obtain ⟨d0,O⟩:∃q,DQ 0=q:=⟨_,rfl⟩;rw [O] at e2;obtain ⟨A1,An,Ac,A2,Am,Ad,rfl,_,_⟩:=id e2;obtain ⟨W3,ap,a8,a⟩:=Zah w2 (.bool (canF d0).num.neg) (.slice A1 An Ac) (.bool (canF d0).den.neg) (.slice A2 Am Ad);have j:=Za b y b.size;have E:=Za j a j.size;have Y:=(hR.later y).later a;have e3:=e2.below a;have au:w.heap.size < w2.heap.size:=(hR.later y).lt;have y3:=cell_later a (cell_later y X);clear b j hR e2 y i X a;go_wp2;clear ap y3;generalize w2.heap.size=gd at *
 go_loopw [15] (fun x wr=>∃(t:Nat) (A1 A2:Option Addr) (An Ac Am Ad:Nat),t≤T∧x= .int .i64 t∧Below w.heap.size w wr∧Bk wr w.heap.size 36 [.bool false,.slice none 0 0,.bool false,.slice none 0 0]∧Bk wr gd 36 [.bool (canF (DQ t)).num.neg,.slice A1 An Ac,.bool (canF (DQ t)).den.neg,.slice A2 Am Ad]∧Zm wr (.agg #[.bool (canF (DQ t)).num.neg,.slice A1 An Ac,.bool (canF (DQ t)).den.neg,.slice A2 Am Ad]) (canF (DQ t))) (fun x _=>T - (intOf x).toNat)
 case atStart=>exact ⟨0,A1,A2,An,Ac,Am,Ad,by omega,rfl,E,Y,by rw [O];exact a8,by rw [O];exact e3⟩
 case round=>
  clear E Y a8 e3;obtain ⟨t,A1,A2,An,Ac,Am,Ad,ht,rfl,b,hR,hD,hd⟩:=hrel;rcases JX t T with htl | htl
  ·obtain ⟨gu,B,d,rfl,-,⟨u0,u1⟩,⟨d1,d2⟩,a9⟩:=af.out.elem b htl;have H:=HU.out.kn t htl;have z:=JZ (ai.out t htl);have I:(canF (DQ t)).Sm:=(aj.out t ht).rs.sm (by have:=HE.out;omega);have J:(canF (im t (k t))).Sm:=(HU.out.imB t htl (k t) H).rs.sm (by have:=HE.out;omega);obtain ⟨dq,aa⟩:∃q,DQ t=q:=⟨_,rfl⟩;obtain ⟨dn,P⟩:∃q,DQ (t+1)=q:=⟨_,rfl⟩;rw [aa] at hD hd z I;rw [P] at z;have F:=JZ P;obtain ⟨b5,o5,E1,En,Ec,E2,Em,Ed,aq,_,⟨x0,x1,x2,x3⟩,S⟩:=a9.elem (JR _ _) (Z7 (f:=im t) H);subst aq;obtain ⟨uq,ab⟩:∃q,im t (k t)=q:=⟨_,rfl⟩;rw [ab] at z J x0 x2 S;obtain ⟨kt,ac⟩:∃q,k t=q:=⟨_,rfl⟩;rw [ac] at u0 x0 x1 x2 x3 H;have az:(kt:Int) < n:=(by omega);have b0:(t:Int) < T:=(by omega);obtain ⟨W1,ar,hV,a⟩:∃W1,wr.alloc (.cells #[.int .i64 (kt:Int),.slice (some ⟨b5,o5,none⟩) n d] 87)=W1∧Bk W1 wr.heap.size 87 [.int .i64 (kt:Int),.slice (some ⟨b5,o5,none⟩) n d]∧Below wr.heap.size wr W1:=⟨_,rfl,Bk.new wr _ _,Zd wr _⟩;have Z:=hR.later a;have l:=hD.later a;have a0:=hd.below a;have G:=S.below a;have m:=Za b a b.size;clear hR hD hd S b a9 aa P ab ac
   go_upto_region 5 with (fail)
   clear ar;obtain ⟨v0,v1,-,-⟩:=hV.two;have a1:=cell_later a x0;have a2:=cell_later a x1;have a3:=cell_later a x2;have a4:=cell_later a x3;obtain ⟨z0,z1,z2,z3⟩:=l.four;have V0:=Zr v0;have V1:=Zr v1;have X0:=Zr a1;have X1:=Zr a2;have X2:=Zr a3;have X3:=Zr a4;have Z0:=Zr z0;have Z1:=Zr z1;have Z2:=Zr z2;have Z3:=Zr z3;have hD:=l;have hd:=a0;have s:=Zj W1;clear v0 v1 x0 x1 x2 x3 a1 a2 a3 a4 z0 z1 z2 z3 u0 u1 a hV;refine Zt 8 [0,1,2,3,4,5,6,7,8] (by kernel_rfl) (by kernel_rfl) ?_;repeat ((first | (refine Zc (v:=?_) rfl rfl rfl ?_ ?_;rotate_left;(· (intro _ U;go_simp;(try go_bits);(try with_reducible rfl)))) | (refine Ze (v:=?_) rfl rfl rfl ?_ ?_;rotate_left;(· (intro _ U;go_simp;(try go_bits);(try with_reducible rfl)))) | refine Zf rfl rfl rfl ?_);(try simp only [Act.put,pu1,pu2,pu3,pu4,pu5,pu6]))
   refine Zg rfl rfl (fun KR hKR=>?_);go_simp;(with_reducible refine (Zcq _ _ (canF dq) (canF uq) _ (hd.below s) (G.below s) I J).mono ?_);rw [ZG,ZG,z.out];rintro _ w8 ⟨v8,rfl,e8,ad⟩;have h:=Za s ad s.size;obtain ⟨C1,Cn,Cc,C2,Cm,Cd,rfl,_,_⟩:=id e8;obtain ⟨t0,t1,t2,t3⟩:=(hD.later h).four;obtain ⟨f0,f1,f2,f3⟩:=(hD.later h).fourF;refine hKR.out _ _ (Or.inr h) ?_;clear hKR KR;(try simp only [Act.put,pu1,pu2,pu3,pu4,pu5,pu6]);repeat ((first | (refine Zc (v:=?_) rfl rfl rfl ?_ ?_;rotate_left;(· (intro _ U;go_simp;(try go_bits);(try with_reducible rfl)))) | (refine Ze (v:=?_) rfl rfl rfl ?_ ?_;rotate_left;(· (intro _ U;go_simp;(try go_bits);(try with_reducible rfl)))) | refine Zf rfl rfl rfl ?_);(try simp only [Act.put,pu1,pu2,pu3,pu4,pu5,pu6]))
   refine Zg rfl rfl (fun KR hKR=>?_);go_simp;refine hKR.out _ _ (Or.inl (by decide)) ?_;clear hKR KR;(try simp only [Act.put,pu1,pu2,pu3,pu4,pu5,pu6]);refine Zv ?_;have a5:=(l.later h).but4 (.bool (canF dn).num.neg) (.slice C1 Cn Cc) (.bool (canF dn).den.neg) (.slice C2 Cm Cd);have al:=(Z.later h).far4 (show w.heap.size≠gd by omega) (.bool (canF dn).num.neg) (.slice C1 Cn Cc) (.bool (canF dn).den.neg) (.slice C2 Cm Cd);have am:=(l.later h).set4 (.bool (canF dn).num.neg) (.slice C1 Cn Cc) (.bool (canF dn).den.neg) (.slice C2 Cm Cd);have an:=e8.keep (a5.keep (by decide));have a6:=Z5 (Za m h m.size) (show w.heap.size≤gd by omega) (.bool (canF dn).num.neg) (.slice C1 Cn Cc) (.bool (canF dn).den.neg) (.slice C2 Cm Cd);clear V0 V1 X0 X1 X2 X3 Z0 Z1 Z2 Z3 s h ad e8 m Z l a0 G hD hd a5 t0 t1 t2 t3 f0 f1 f2 f3 I J;go_wp2;go_roundw
   case rel=>exact ⟨t+1,C1,C2,Cn,Cc,Cm,Cd,by omega,by go_num,a6,al,by rw [F.out];exact am,by rw [F.out];exact an⟩
   case measure=>simp [intOf];omega
  ·obtain rfl:T=t:=by omega
   rw [ak.out] at hD hd;obtain ⟨z0,z1,z2,z3⟩:=hD.four;obtain ⟨t0,t1,t2,t3⟩:=hR.four;obtain ⟨f0,f1,f2,f3⟩:=hR.fourF;go_wp2;refine Zn Tryz.results24 Tryz.underlying36 (by kernel_rfl) rfl (hR.set4 _ _ _ _) rfl ?_;exact Yr hR hd b (JY _)
end
section
attribute [local irreducible] Yi
end
section
attribute [local irreducible] Yi
end
section
attribute [local irreducible] Yi
end
theorem cancopy_any [Old] (v1 v2:Value) (es:List En) (w:World) (h:Wy w v1 (Zla es)) (h2:Wy w v2 es) (hs:∀(k:Nat) (e:En),es[k]? =some e→e.f.Sh) (hOl:Zb w:=by (repeat (first | assumption | exact Zb.up (by assumption) hOl | exact Zb.up (Hid.out (by assumption)) hOl | with_reducible refine Zb.set ?_ _ _ | with_reducible refine Zb.mk_ ?_ _ | with_reducible refine Zb.dr ?_ | with_reducible refine Zb.drN ?_ | refine Zb.up (by assumption) ?_ | refine Zb.up (Hid.out (by assumption)) ?_))):
 Calls Tryz.prog 17 #[v1,v2] w fun o w'=>o= .returned (.bool true)∧Below w.heap.size w w':=by
 have E:=hOl.le;obtain ⟨A,c,rfl,t,G⟩:=h.shape;obtain ⟨B,d,rfl,y,H⟩:=h2.shape;have n:(Zla es).length=es.length:=by simp [Zla]
 rw [n] at h t ⊢;obtain ⟨l,hl⟩:∃l,es.length=l:=⟨_,rfl⟩;rw [hl] at h t h2 y ⊢;have H1:=JZ h;have H2:=JZ h2;have HL:=JZ hl;have HS:=JZ hs;clear h h2 hl hs n;go_enter Tryz.func17,Tryz.ntmps17;go_wp2
 go_loopw [5] (fun i wr=>∃k:Nat,k≤l∧i= .int .i64 k∧Below w.heap.size w wr) (fun i _=>l - (intOf i).toNat)
 case atStart=>exact ⟨0,by omega,rfl,JR _ _⟩
 case round=>
  obtain ⟨k,hk,rfl,a⟩:=hrel;rcases JX k l with hkl | hkl
  ·obtain ⟨e,he⟩:∃e,es[k]? =some e:=⟨es[k]'(by rw [HL.out];exact hkl),JQ (by rw [HL.out];exact hkl)⟩;have p:(Zla es)[k]? =some ⟨e.idx,canF e.f.q⟩:=(by simp [Zla,he]);obtain ⟨b1,o1,A1,n1,c1,A2,n2,c2,rfl,_,⟨x0,x1,x2,x3,x4⟩,m⟩:=H1.out.elem a p;obtain ⟨b2,o2,A3,n3,c3,A4,n4,c4,rfl,_,⟨y0,y1,y2,y3,y4⟩,u⟩:=H2.out.elem a he;have r:=HS.out k e he;have F:(k:Int) < l:=(by omega);clear he p
   dsimp only at x0 x1 x3 m
   obtain ⟨f,hf⟩:∃f,e.f=f:=⟨_,rfl⟩;obtain ⟨z,hz⟩:∃z,e.idx=z:=⟨_,rfl⟩;rw [hf] at x1 x3 m y1 y3 u r;rw [hz] at x0 y0;have x:Hid (Zgl (canF f.q) (canF f.q)=true):=JZ (Zjr _);clear hf hz;go_wp2_with fail;have X0:=Zr x0;have X1:=Zr x1;have X2:=Zr x2;have X3:=Zr x3;have X4:=Zr x4;have Y0:=Zr y0;have Y1:=Zr y1;have Y2:=Zr y2;have Y3:=Zr y3;have Y4:=Zr y4;have j:=Zj wr;clear x0 x1 x2 x3 x4 y0 y1 y2 y3 y4;refine Zt 26 [0,1,2,3,4,5,6,7,8,9,10,11,12,13,14,15,16,17,18,19,20,21,22,23,24,25] (by kernel_rfl) (by kernel_rfl) ?_;repeat ((first | (refine Zc (v:=?_) rfl rfl rfl ?_ ?_;rotate_left;(· (intro _ b;go_simp;(try go_bits);(try with_reducible rfl)))) | (refine Ze (v:=?_) rfl rfl rfl ?_ ?_;rotate_left;(· (intro _ b;go_simp;(try go_bits);(try with_reducible rfl)))) | refine Zf rfl rfl rfl ?_);(try simp only [Act.put,pu1,pu2,pu3,pu4,pu5,pu6]))
   refine Zg rfl rfl (fun KR hKR=>?_);go_simp;(with_reducible refine (YY _ f _ (u.below j) r).mono ?_);rintro _ w8 ⟨v8,rfl,e8,C⟩;have g:=Za j C j.size;refine hKR.out _ _ (Or.inr g) ?_;clear hKR KR;(try simp only [Act.put,pu1,pu2,pu3,pu4,pu5,pu6]);repeat ((first | (refine Zc (v:=?_) rfl rfl rfl ?_ ?_;rotate_left;(· (intro _ b;go_simp;(try go_bits);(try with_reducible rfl)))) | (refine Ze (v:=?_) rfl rfl rfl ?_ ?_;rotate_left;(· (intro _ b;go_simp;(try go_bits);(try with_reducible rfl)))) | refine Zf rfl rfl rfl ?_);(try simp only [Act.put,pu1,pu2,pu3,pu4,pu5,pu6]))
   refine Zg rfl rfl (fun KR hKR=>?_);go_simp;(with_reducible refine (Zkt _ _ (canF f.q) (canF f.q) _ (m.below g) e8).mono ?_);rw [x.out];rintro _ w9 ⟨rfl,D⟩;have s:=Za g D g.size;refine hKR.out _ _ (Or.inr s) ?_;clear hKR KR;(try simp only [Act.put,pu1,pu2,pu3,pu4,pu5,pu6]);repeat ((first | (refine Zc (v:=?_) rfl rfl rfl ?_ ?_;rotate_left;(· (intro _ b;go_simp;(try go_bits);(try with_reducible rfl)))) | (refine Ze (v:=?_) rfl rfl rfl ?_ ?_;rotate_left;(· (intro _ b;go_simp;(try go_bits);(try with_reducible rfl)))) | refine Zf rfl rfl rfl ?_);(try simp only [Act.put,pu1,pu2,pu3,pu4,pu5,pu6]))
   refine Zv ?_;clear X0 X1 X2 X3 X4 Y0 Y1 Y2 Y3 Y4;go_wp2;go_roundw
   case rel=>exact ⟨k+1,by omega,by go_num,Za a s a.size⟩
   case measure=>simp [intOf];omega
  ·obtain rfl:k=l:=by omega
   go_wp2;go_ret;exact ⟨rfl,a⟩
namespace Pl
theorem vErr_13 {n:Int}:∀(es:List En) (p:Option Int),Vw n es p≠13
 | [],p=>by simp [Vw]
 | e::es,p=>by
  rw [Vw]
  by_cases h1:e.idx < 0∨n≤e.idx
  ·rw [if_pos h1];decide
  ·rw [if_neg h1]
   by_cases h2:leP p e.idx=true
   ·rw [if_pos h2];decide
   ·rw [if_neg h2]
    by_cases h3:e.f.q=0
    ·rw [if_pos h3];decide
    ·rw [if_neg h3];exact vErr_13 es _
theorem vecErr_13 (es:List En) (n:Int):vecErr es n≠13:=by
 unfold vecErr;by_cases h1:n < 0∨4096 < n
 ·rw [if_pos h1];decide
 ·rw [if_neg h1];exact vErr_13 es none
theorem colsErr_13 {n:Int}:∀cs:List (List En),YH n cs≠13
 | []=>by simp [YH]
 | c::cs=>by
  rw [YH]
  by_cases h:vecErr c n=0
  ·rw [if_pos h];exact colsErr_13 cs
  ·rw [if_neg h];exact vecErr_13 c n
theorem chkErr_13 {n:Int} {cols:List (List En)} (h:Wx n cols=13) (hL:Zix cols) (h7:n≤7∨64 < n):∃m:Nat,n=(m:Int)∧cols.length=m∧m≤7∧(∀(k:Nat) (c:List En),cols[k]? =some c→Good m c∧∀(j:Nat) (e:En),c[j]? =some e→e.f.Rs 12)∧¬XA m (Yu cols):=by
 unfold Wx at h;by_cases h1:n < 0∨64 < n
 ·rw [if_pos h1] at h;omega
 ·rw [if_neg h1] at h;by_cases h2:(cols.length:Int)≠n
  ·rw [if_pos h2] at h;omega
  ·rw [if_neg h2] at h;by_cases h3:YH n cols≠0
   ·rw [if_pos h3] at h;exact absurd h (colsErr_13 cols)
   ·rw [if_neg h3] at h;by_cases h4:Zfa n.toNat (trM (Yu cols))=0
    ·obtain ⟨m,rfl⟩:=JT (show 0≤n by omega);refine ⟨m,rfl,by omega,by omega,fun k c hc=>⟨Zbh (VI (by simpa using h3) k c hc),(hL k c hc).2.2⟩,fun hi=>?_⟩;exact (Zij (M:=trM (Yu cols)) (cols:=Yu cols) fun _ _ _ _=>rfl).2 hi h4
    ·rw [if_neg h4] at h;omega
end Pl
theorem newB_bad [Old] (v:Value) (cols:List (List En)) (n:Int) (w:World) (h:Xf w v cols) (hL:Zix cols) (h7:n≤7∨64 < n) (h0: -9223372036854775808≤n) (h1:n≤9223372036854775807) (he:Wx n cols≠0) (hOl:Zb w:=by (repeat (first | assumption | exact Zb.up (by assumption) hOl | exact Zb.up (Hid.out (by assumption)) hOl | with_reducible refine Zb.set ?_ _ _ | with_reducible refine Zb.mk_ ?_ _ | with_reducible refine Zb.dr ?_ | with_reducible refine Zb.drN ?_ | refine Zb.up (by assumption) ?_ | refine Zb.up (Hid.out (by assumption)) ?_))):
 Calls Tryz.prog 13 #[.int .i64 n,v] w fun e w'=>e= .returned (.tuple #[.pointer none,.int .i64 (Wx n cols)])∧Below w.heap.size w w':=by
 have d:=hOl.le;by_cases a:Wx n cols=13
 ·obtain ⟨m,rfl,hl,hm,hg,b⟩:=chkErr_13 a hL h7;rw [a];refine (Zqz v m 12 cols (Yu cols) w h hl hm (by omega) (JW (JS 12 (Nat.pow_le_pow_right (by decide) hm)) (by decide)) hg (fun k c hc=>Wu hc)).mono ?_;rintro o w' ⟨hb,⟨g,rfl,hi,_⟩ | ⟨rfl,_⟩⟩
  ·exact absurd hi b
  ·exact ⟨rfl,hb⟩
 ·exact newB_err v cols n w h hL h7 h0 h1 he a
theorem basisMakes_any [Old] (n:Int) (v:Value) (k:Int) (cols:List (List En)) (w:World) (h0: -9223372036854775808≤n) (h1:n≤9223372036854775807) (h:Xf w v cols) (hi:∀(j:Nat) (es:List En),cols[j]? =some es→EnI es) (hk0: -9223372036854775808≤k) (hk1:k≤9223372036854775807) (hOl:Zb w:=by (repeat (first | assumption | exact Zb.up (by assumption) hOl | exact Zb.up (Hid.out (by assumption)) hOl | with_reducible refine Zb.set ?_ _ _ | with_reducible refine Zb.mk_ ?_ _ | with_reducible refine Zb.dr ?_ | with_reducible refine Zb.drN ?_ | refine Zb.up (by assumption) ?_ | refine Zb.up (Hid.out (by assumption)) ?_))):
 Calls Tryz.prog 5 #[.int .i64 n,v,.int .i64 k] w fun e w'=>e= .returned (.bool true)∧Below w.heap.size w w':=by
 have X:=hOl.le;obtain ⟨A1,c1,rfl,R,a2⟩:=h.shape;obtain ⟨l,hl⟩:∃l,cols.length=l:=⟨_,rfl⟩;rw [hl] at h R ⊢;have F:=JZ hl;clear hl;have HV:=JZ h;have HI:=JZ hi;clear h hi;go_enter Tryz.func5,Tryz.ntmps5;go_wp2_with fail;refine (Zup _ cols n _ HV.out h0 h1).mono ?_;rintro _ w1 ⟨b1,rfl,N,x⟩
 cases b1
 case false=>
  go_wp2_with fail;refine (Zuo _).mono ?_;rintro _ wz ⟨rfl,s⟩;go_wp2;go_ret;exact ⟨rfl,Za x s x.size⟩
 case true=>
  obtain ⟨I,h7⟩:=N rfl;have HL:=JZ (I.c HI.out);clear N I;by_cases hz:Wx n cols=0
  case neg=>
   go_wp2_with fail;refine (newB_bad _ cols n _ (HV.out.below x) HL.out h7 h0 h1 hz).mono ?_;rintro _ w2 ⟨rfl,hb⟩;have y:=Za x hb x.size;clear hb;go_wp2_with fail;refine (Zun _ cols n _ (HV.out.below y) HL.out h7 h0 h1).mono ?_;rintro _ w3 ⟨rfl,hb⟩;have p:=Za y hb y.size;clear hb;generalize Wx n cols=ce at *;have Y:(ce==0)=false:=(by simpa using hz);have Z:(ce !=0)=true:=(by simpa using hz);go_wp2_with fail;refine (Zuo _).mono ?_;rintro _ wz ⟨rfl,s⟩;go_wp2;go_ret;exact ⟨rfl,Za p s p.size⟩
  case pos=>
   have HZ:=JZ hz;obtain ⟨m,rfl,hR⟩:=Zvw hz HL.out h7;have HR:=JZ hR;clear hz h7 hR;obtain rfl:m=l:=by rw [← F.out,HR.out.len]
   clear F;go_wp2_with fail;refine (Zqz _ m 12 cols (Yu cols) _ (HV.out.below x) HR.out.len HR.out.n7 (by omega) (JW HR.out.fit (by decide)) HR.out.gK (fun k c hc=>Wu hc)).mono ?_;rintro _ w2 ⟨hb,⟨g,rfl,-,D⟩ | ⟨rfl,T⟩⟩
   case inr=>exact absurd HR.out.ind T
   case inl=>
    have HB:=JZ (D 0);have y:=Za x hb x.size;clear D hb;go_wp2_with fail;refine (Zun _ cols (m:Int) _ (HV.out.below y) HL.out (.inl (by have:=HR.out.n7;omega)) h0 h1).mono ?_;rw [HZ.out];rintro _ w3 ⟨rfl,hb⟩;have B:=JZ (HB.out.below hb);clear HB;have HB:=B;clear B;have p:=Za y hb y.size;clear hb;have a0:=HR.out.len;have a1:=HR.out.n7;rcases Decidable.em (k < 0) with hka | hka
    ·go_wp2_with fail;refine (column_err _ 0 g m 12 _ k _ HB.out (.inl hka) hk0 hk1).mono ?_;rintro _ w4 ⟨rfl,hb⟩;have d:=JZ (HB.out.below hb);clear HB;have HB:=d;clear d;have q:=Za p hb p.size;clear hb;go_wp2_with fail;refine (size_any _ 0 g m 12 _ _ HB.out).mono ?_;rintro _ w5 ⟨rfl,hb⟩;have f:=JZ (HB.out.below hb);clear HB;have HB:=f;clear f;have t:=Za q hb q.size;clear hb;go_wp2_with fail;refine (bdet_any _ 0 g m 12 _ _ HB.out).mono ?_;rintro _ w6 ⟨u1,rfl,g1,hb⟩;have o:=Za t hb t.size;clear hb;have a:=JZ g1;clear g1;go_wp2_with fail;refine (Zrf _ cols m 12 _ (HV.out.below o) HR.out.len HR.out.n7 (by omega) (JW HR.out.fit (by decide)) (fun k c hc=>⟨(HR.out.good k c hc).2.1,(HR.out.gK k c hc).2⟩)).mono ?_;rintro _ w7 ⟨u2,rfl,g2,hb⟩;have i:=JZ (a.out.below hb);clear a;have a:=i;clear i;have r:=Za o hb o.size;clear hb;have z:=JZ g2;clear g2;go_wp2_with fail;refine (Zkt _ _ (canF (Zfa m (trM (Yu cols)))) (canF (Zfa m (trM (Yu cols)))) _ a.out z.out).mono ?_;rw [Zjr];rintro _ w8 ⟨rfl,hb⟩;have u:=Za r hb r.size;clear hb;go_wp2_with fail;refine (Zuo _).mono ?_;rintro _ wz ⟨rfl,s⟩;go_wp2;go_ret;exact ⟨rfl,Za u s u.size⟩
    ·have U:decide (k < 0)=false:=(by simpa using hka);rcases Decidable.em ((m:Int)≤k) with hkb | hkb
     ·go_wp2_with fail;refine (column_err _ 0 g m 12 _ k _ HB.out (.inr hkb) hk0 hk1).mono ?_;rintro _ w4 ⟨rfl,hb⟩;have d:=JZ (HB.out.below hb);clear HB;have HB:=d;clear d;have q:=Za p hb p.size;clear hb;go_wp2_with fail;refine (size_any _ 0 g m 12 _ _ HB.out).mono ?_;rintro _ w5 ⟨rfl,hb⟩;have f:=JZ (HB.out.below hb);clear HB;have HB:=f;clear f;have t:=Za q hb q.size;clear hb;go_wp2_with fail;refine (bdet_any _ 0 g m 12 _ _ HB.out).mono ?_;rintro _ w6 ⟨u1,rfl,g1,hb⟩;have o:=Za t hb t.size;clear hb;have a:=JZ g1;clear g1;go_wp2_with fail;refine (Zrf _ cols m 12 _ (HV.out.below o) HR.out.len HR.out.n7 (by omega) (JW HR.out.fit (by decide)) (fun k c hc=>⟨(HR.out.good k c hc).2.1,(HR.out.gK k c hc).2⟩)).mono ?_;rintro _ w7 ⟨u2,rfl,g2,hb⟩;have i:=JZ (a.out.below hb);clear a;have a:=i;clear i;have r:=Za o hb o.size;clear hb;have z:=JZ g2;clear g2;go_wp2_with fail;refine (Zkt _ _ (canF (Zfa m (trM (Yu cols)))) (canF (Zfa m (trM (Yu cols)))) _ a.out z.out).mono ?_;rw [Zjr];rintro _ w8 ⟨rfl,hb⟩;have u:=Za r hb r.size;clear hb;go_wp2_with fail;refine (Zuo _).mono ?_;rintro _ wz ⟨rfl,s⟩;go_wp2;go_ret;exact ⟨rfl,Za u s u.size⟩
     ·have V:decide ((m:Int)≤k)=false:=(by simpa using hkb);obtain ⟨j,rfl⟩:=JT (show 0≤k by omega);have hj:j < m:=(by omega);obtain ⟨c,J,K,S,L,M⟩:=HR.out.at_ hj;go_wp2_with fail;refine (bcolumn_own _ 0 g m 12 _ j _ HB.out hj).mono ?_;rintro _ w4 ⟨v4,rfl,e4,hb⟩;have d:=JZ (HB.out.below hb);clear HB;have HB:=d;clear d;have G:=JZ (e4.vec);have q:=Za p hb p.size;clear hb;clear e4;obtain ⟨b,a3,A4,c4,rfl,a4,E,hm⟩:=HV.out.elem q J;have O:Hid (Wy w4 v4 (Zla c)):=JZ (by have:=G.out;rw [M,← cpyV_spV K] at this;exact this);have P:=JZ L;clear G J K S L M;go_wp2_with fail;refine (cancopy_any _ _ c _ O.out hm (fun k e he=>(P.out k e he).sh (by decide))).mono ?_;rintro _ w5 ⟨rfl,hb⟩;have f:=JZ (HB.out.below hb);clear HB;have HB:=f;clear f;have t:=Za q hb q.size;clear hb;clear E hm;go_wp2_with fail;refine (size_any _ 0 g m 12 _ _ HB.out).mono ?_;rintro _ w6 ⟨rfl,hb⟩;have C:=JZ (HB.out.below hb);clear HB;have HB:=C;clear C;have o:=Za t hb t.size;clear hb;go_wp2_with fail;refine (bdet_any _ 0 g m 12 _ _ HB.out).mono ?_;rintro _ w7 ⟨u1,rfl,g1,hb⟩;have r:=Za o hb o.size;clear hb;have a:=JZ g1;clear g1;go_wp2_with fail;refine (Zrf _ cols m 12 _ (HV.out.below r) HR.out.len HR.out.n7 (by omega) (JW HR.out.fit (by decide)) (fun k c hc=>⟨(HR.out.good k c hc).2.1,(HR.out.gK k c hc).2⟩)).mono ?_;rintro _ w8 ⟨u2,rfl,g2,hb⟩;have A:=JZ (a.out.below hb);clear a;have a:=A;clear A;have u:=Za r hb r.size;clear hb;have z:=JZ g2;clear g2;go_wp2_with fail;refine (Zkt _ _ (canF (Zfa m (trM (Yu cols)))) (canF (Zfa m (trM (Yu cols)))) _ a.out z.out).mono ?_;rw [Zjr];rintro _ w9 ⟨rfl,hb⟩;have H:=Za u hb u.size;clear hb;go_wp2_with fail;refine (Zuo _).mono ?_;rintro _ wz ⟨rfl,s⟩;go_wp2;go_ret;exact ⟨rfl,Za H s H.size⟩
end Go.Proofs.YtidgdpkcloaheaaGreat
