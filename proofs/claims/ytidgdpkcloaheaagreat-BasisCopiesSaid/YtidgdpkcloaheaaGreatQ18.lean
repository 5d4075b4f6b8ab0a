/- Lemmas of the claim; no condition. -/
import Derived.Test.YtidgdpkcloaheaaGreatQ14
set_option linter.all false
set_option maxRecDepth 100000
set_option maxHeartbeats 40000000
namespace Go.Proofs.YtidgdpkcloaheaaGreat
open Go.RowKit
open Pl
namespace Pl
theorem WY (f g:Nat→Rat) (n:Nat):Z6 (fun i=>f i+g i) n=Z6 f n+Z6 g n:=by
 induction n with
 | zero=>simp [Y4,Rat.add_zero]
 | succ n ih=>rw [ZF,ZF,ZF,ih];grind
theorem Xn (c:Rat) (f:Nat→Rat) (n:Nat):Z6 (fun i=>c * f i) n=c * Z6 f n:=by
 induction n with
 | zero=>simp [Y4,Rat.mul_zero]
 | succ n ih=>rw [ZF,ZF,ih];grind
theorem Vx (n:Nat):Z6 (fun _=>0) n=0:=by
 induction n with
 | zero=>rfl
 | succ n ih=>rw [ZF,ih,Rat.add_zero]
theorem Ub (f:Nat→Nat→Rat) (n m:Nat):Z6 (fun i=>Z6 (fun j=>f i j) m) n=Z6 (fun j=>Z6 (fun i=>f i j) n) m:=by
 induction n with
 | zero=>simp only [Y4];rw [Vx]
 | succ n ih=>
  rw [ZF,ih,← WY];rfl
theorem WZ {n k:Nat} (hk:k < n) (c:Rat):Z6 (fun i=>if i=k then c else 0) n=c:=by
 induction n with
 | zero=>omega
 | succ n ih=>
  rw [ZF];by_cases h:n=k
  ·subst h;rw [if_pos rfl,Zp (g:=fun _=>0) (fun i hi=>if_neg (by omega)),Vx,Rat.zero_add]
  ·rw [if_neg h,ih (by omega),Rat.add_zero]
end Pl
namespace Pl
theorem Zih (f g:Nat→Rat) (n:Nat):Z6 (fun i=>f i - g i) n=Z6 f n - Z6 g n:=by
 induction n with
 | zero=>rw [Y4,Y4,Y4];grind
 | succ n ih=>rw [ZF,ZF,ZF,ih];grind
theorem WL {f:Nat→Rat} {n:Nat} (h:∀i,i < n→f i=0):Z6 f n=0:=by
 rw [Zp h];exact Vx n
theorem Xh {f:Nat→Rat} {n k:Nat} (hk:k < n) (h:∀i,i < n→i≠k→f i=0):Z6 f n=f k:=by
 rw [Zp (g:=fun i=>if i=k then f k else 0) fun i hi=>?_]
 ·exact WZ hk (f k)
 ·by_cases e:i=k
  ·rw [if_pos e,e]
  ·rw [if_neg e,h i hi e]
theorem Wp {f:Nat→Rat} {n m:Nat} (hm:n≤m) (h:∀i,n≤i→i < m→f i=0):Z6 f m=Z6 f n:=by
 induction m with
 | zero=>
  obtain rfl:n=0:=by omega
  rfl
 | succ m ih=>
  rcases JX n (m+1) with e | e
  ·rw [ZF,h m (by omega) (by omega),ih (by omega) fun i h1 h2=>h i h1 (by omega)];grind
  ·obtain rfl:n=m+1:=by omega
   rfl
def Zca (m:Nat) (M:Mx) (y:Nat→Rat) (r:Nat):Rat:=Z6 (fun c=>M r c * y c) m
def UO (m:Nat) (M:Mx) (y:Nat→Rat):Prop:=∀r,r < m→Zca m M y r=M r m
def Zao (m k:Nat) (M:Mx):Prop:=∀r c,r < m→c < k→M r c=if r=c then 1 else 0
theorem Zet {m:Nat} {A B C:Mx} {y:Nat→Rat} {r s t:Nat} {a b:Rat} (h:∀c,c < m→A r c=a * B s c+b * C t c):Zca m A y r=a * Zca m B y s+b * Zca m C y t:=by
 unfold Zca;rw [← Xn,← Xn,← WY];exact Zp fun c hc=>by rw [h c hc];grind
theorem UO.swap {m k t:Nat} {M:Mx} {y:Nat→Rat} (hk:k < m) (ht:t < m):UO m (swapM M k t) y↔UO m M y:=by
 have a:∀N:Mx,UO m N y→UO m (swapM N k t) y:=fun N h r hr=>by
  unfold Zca swapM;by_cases e1:r=k
  ·simp only [if_pos e1];exact h t ht
  ·by_cases e2:r=t
   ·simp only [if_neg e1,if_pos e2];exact h k hk
   ·simp only [if_neg e1,if_neg e2];exact h r hr
 refine ⟨fun h=>?_,a M⟩;have:=a _ h;have e:swapM (swapM M k t) k t=M:=by
  funext r c
  unfold swapM;by_cases e1:r=k
  ·subst e1;simp only [if_pos];by_cases e2:t=r
   ·subst e2;simp
   ·simp [e2]
  ·by_cases e2:r=t
   ·subst e2;simp [e1]
   ·simp [e1,e2]
 rwa [e] at this
theorem UO.scale {m k:Nat} {M:Mx} {y:Nat→Rat} {f:Rat} (hk:k < m) (hf:f≠0) (hz:∀c,c < k→M k c=0):UO m (scaleTo M k (m+1) f) y↔UO m M y:=by
 have d:∀r,r < m→r≠k→∀c,scaleTo M k (m+1) f r c=M r c:=fun r _ hne c=>by unfold scaleTo;rw [if_neg (by omega)]
 have g:∀c,c < m+1→scaleTo M k (m+1) f k c=M k c / f:=fun c hc=>by
  unfold scaleTo;by_cases e:k≤c
  ·rw [if_pos ⟨rfl,e,hc⟩]
  ·rw [if_neg (by omega),hz c (by omega)];grind
 have hs:Zca m (scaleTo M k (m+1) f) y k=Zca m M y k / f:=by
  rw [Zet (B:=M) (C:=M) (s:=k) (t:=k) (a:=1 / f) (b:=0) fun c hc=>by rw [g c (by omega)];grind];grind
 constructor
 ·intro h r hr;by_cases e:r=k
  ·subst e;have:=h r hr;rw [hs,g m (by omega)] at this;have h2:Zca m M y r / f * f=M r m / f * f:=by rw [this]
   rwa [Rat.div_mul_cancel hf,Rat.div_mul_cancel hf] at h2
  ·have:=h r hr;rw [d r hr e] at this;rw [← this];unfold Zca;exact Zp fun c _=>by rw [d r hr e]
 ·intro h r hr;by_cases e:r=k
  ·subst e;rw [hs,g m (by omega),h r hr]
  ·rw [d r hr e,← h r hr];unfold Zca;exact Zp fun c _=>by rw [d r hr e]
theorem UO.elim {m k:Nat} {M:Mx} {y:Nat→Rat} (hk:k < m) (hz:∀c,c < k→M k c=0):UO m (ZL M k m m) y↔UO m M y:=by
 have d:∀c,ZL M k m m k c=M k c:=fun c=>Wo c
 have f:∀r,r < m→r≠k→∀c,c≤m→ZL M k m m r c=M r c - M r k * M k c:=fun r hr hne c hc=>by
  unfold ZL;by_cases e:k≤c
  ·rw [if_pos ⟨hne,hr,e,hc⟩]
  ·rw [if_neg (by omega),hz c (by omega)];grind
 have hs:∀r,r < m→r≠k→Zca m (ZL M k m m) y r=Zca m M y r - M r k * Zca m M y k:=fun r hr hne=>by
  rw [Zet (B:=M) (C:=M) (s:=r) (t:=k) (a:=1) (b:= -(M r k)) fun c hc=>by rw [f r hr hne c (by omega)];grind];grind
 have g:Zca m (ZL M k m m) y k=Zca m M y k:=Zp fun c _=>by rw [d]
 constructor
 ·intro h;have h0:Zca m M y k=M k m:=by rw [← g,h k hk,d]
  intro r hr;by_cases e:r=k
  ·subst e;exact h0
  ·have:=h r hr;rw [hs r hr e,f r hr e m (JY _),h0] at this;grind
 ·intro h r hr;by_cases e:r=k
  ·subst e;rw [g,d];exact h r hr
  ·rw [hs r hr e,f r hr e m (JY _),h r hr,h k hk]
theorem Zjy {m k:Nat} {M M':Mx} (hk:k < m) (hu:Zao m k M) (e:Wv M k m=some M'):Zao m (k+1) M'∧∀y,UO m M' y↔UO m M y:=by
 unfold Wv at e
 cases hf:X6 M k m with
 | none=>rw [hf] at e;cases e
 | some t=>
  rw [hf] at e;injection e with e;obtain ⟨h1,h2,h3⟩:=Va hf;have hS:∀c,swapM M k t k c=M t c:=fun c=>by unfold swapM;rw [if_pos rfl]
  have hp:swapM M k t k k≠0:=by rw [hS];exact h3
  have us:Zao m k (swapM M k t):=fun r c hr hc=>by
   unfold swapM;by_cases e1:r=k
   ·rw [if_pos e1,hu t c h2 hc,if_neg (by omega),if_neg (by omega)]
   ·rw [if_neg e1];by_cases e2:r=t
    ·rw [if_pos e2,hu k c hk hc,if_neg (by omega),if_neg (by omega)]
    ·rw [if_neg e2];exact hu r c hr hc
  have hz:∀c,c < k→swapM M k t k c=0:=fun c hc=>by rw [us k c hk hc,if_neg (by omega)]
  have d:∀y,UO m (swapM M k t) y↔UO m M y:=fun y=>UO.swap hk h2
  generalize swapM M k t=N at *;obtain ⟨f,b⟩:∃f,N k k=f:=⟨_,rfl⟩;rw [b] at hp e;have g:∀c,c < k→scaleTo N k (m+1) f k c=0:=fun c hc=>by unfold scaleTo;rw [if_neg (by omega)];exact hz c hc
  have a:scaleTo N k (m+1) f k k=1:=by
   unfold scaleTo;rw [if_pos ⟨rfl,JY _,by omega⟩,b];rw [Rat.div_def];exact Rat.mul_inv_cancel f hp
  have u2:Zao m k (scaleTo N k (m+1) f):=fun r c hr hc=>by
   unfold scaleTo;rw [if_neg (by omega)];exact us r c hr hc
  have h:∀y,UO m (scaleTo N k (m+1) f) y↔UO m N y:=fun y=>UO.scale hk hp hz
  generalize scaleTo N k (m+1) f=Q at *;subst e;refine ⟨fun r c hr hc=>?_,fun y=>(UO.elim hk g).trans ((h y).trans (d y))⟩;by_cases ec:c=k
  ·subst ec;by_cases er:r=c
   ·subst er;rw [Wo,a,if_pos rfl]
   ·unfold ZL;rw [if_pos ⟨er,hr,JY _,by omega⟩,a,if_neg er];grind
  ·unfold ZL;rw [if_neg (by omega)];exact u2 r c hr (by omega)
theorem Zmy {m:Nat} {M:Mx}:∀{k:Nat} {M':Mx},k≤m→gj M m k=some M'→Zao m k M'∧∀y,UO m M' y↔UO m M y
 | 0,M',_,e=>by
  unfold gj at e
  injection e with e
  subst e
  exact ⟨fun r c _ hc=>by omega,fun y=>Iff.rfl⟩
 | k+1,M',hk,e=>by
  unfold gj at e
  cases hg:gj M m k with
  | none=>rw [hg] at e;cases e
  | some N=>
   rw [hg] at e
   obtain ⟨h1,h2⟩:=Zmy (by omega) hg
   obtain ⟨h3,h4⟩:=Zjy (by omega) h1 e
   exact ⟨h3,fun y=>(h4 y).trans (h2 y)⟩
theorem Zqg {m:Nat} {M:Mx} (hu:Zao m m M) (y:Nat→Rat):UO m M y↔∀r,r < m→y r=M r m:=by
 have a:∀r,r < m→Zca m M y r=y r:=fun r hr=>by
  unfold Zca;rw [Xh hr fun i hi hne=>by rw [hu r i hr hi,if_neg (fun e=>hne e.symm)];grind,hu r r hr hr,if_pos rfl];grind
 exact ⟨fun h r hr=>by rw [← a r hr];exact h r hr,fun h r hr=>by rw [a r hr];exact h r hr⟩
def XV (m:Nat) (cols:Mx) (y:Nat→Rat) (r:Nat):Rat:=Z6 (fun c=>cols c r * y c) m
theorem Zmz {m:Nat} {cols:Mx} {b y:Nat→Rat}:UO m (Zbi m cols b) y↔∀r,r < m→XV m cols y r=b r:=by
 have d:∀r,Zca m (Zbi m cols b) y r=XV m cols y r:=fun r=>Zp fun c hc=>by unfold Zbi;rw [if_pos hc]
 have a:∀r,Zbi m cols b r m=b r:=fun r=>by unfold Zbi;rw [if_neg (by omega)]
 exact ⟨fun h r hr=>by rw [← d,h r hr,a],fun h r hr=>by rw [d,h r hr,a]⟩
theorem Vd {m:Nat} {cols:Mx} {b x:Nat→Rat} (h:Xt m cols b=some x) (y:Nat→Rat):(∀r,r < m→XV m cols y r=b r)↔∀k,k < m→y k=x k:=by
 unfold Xt at h
 cases hg:gj (Zbi m cols b) m m with
 | none=>rw [hg] at h;cases h
 | some M=>
  rw [hg] at h;injection h with h;subst h;obtain ⟨h1,h2⟩:=Zmy (JY m) hg;rw [← Zmz,← h2 y,Zqg h1]
theorem Zna (m:Nat) (cols:Mx) (r:Nat):XV m cols (fun _=>0) r=0:=WL fun c _=>by grind
def XA (m:Nat) (cols:Mx):Prop:=∀y:Nat→Rat,(∀r,r < m→XV m cols y r=0)→∀k,k < m→y k=0
theorem Zcw {m:Nat} {cols:Mx} {b x:Nat→Rat} (h:Xt m cols b=some x):XA m cols:=by
 have hs:=Zal (m:=m) (cols:=cols) b fun _=>0
 rw [h] at hs;obtain ⟨z,hz⟩:=Option.isSome_iff_exists.1 hs.symm;have h0:=(Vd hz fun _=>0).1 fun r _=>Zna m cols r
 intro y hy k hk;rw [(Vd hz y).1 hy k hk,← h0 k hk]
theorem Zcx {m k:Nat} {M M':Mx} (h:∀r,r < m→M r m=0) (hk:k < m) (e:Wv M k m=some M'):∀r,r < m→M' r m=0:=by
 unfold Wv at e
 cases hf:X6 M k m with
 | none=>rw [hf] at e;cases e
 | some t=>
  rw [hf] at e;injection e with e;obtain ⟨h1,h2,h3⟩:=Va hf;have hs:∀r,r < m→swapM M k t r m=0:=fun r hr=>by
   unfold swapM;split
   ·exact h t h2
   ·split
    ·exact h k hk
    ·exact h r hr
  generalize swapM M k t=N at *;have hc:∀r,r < m→scaleTo N k (m+1) (N k k) r m=0:=fun r hr=>by
   unfold scaleTo;split
   ·rw [hs r hr];grind
   ·exact hs r hr
  generalize scaleTo N k (m+1) (N k k)=Q at *;subst e;intro r hr;unfold ZL;split
  ·rw [hc r hr,hc k hk];grind
  ·exact hc r hr
theorem Znb {m:Nat} {M:Mx} (h:∀r,r < m→M r m=0):∀{k:Nat} {M':Mx},k≤m→gj M m k=some M'→∀r,r < m→M' r m=0
 | 0,M',_,e=>by unfold gj at e;injection e with e;subst e;exact h
 | k+1,M',hk,e=>by
  unfold gj at e
  cases hg:gj M m k with
  | none=>rw [hg] at e;cases e
  | some N=>rw [hg] at e;exact Zcx (Znb h (by omega) hg) (by omega) e
theorem Znc {m:Nat} {M:Mx}:∀{n:Nat},n≤m→gj M m n=none→∃k N,k < n∧gj M m k=some N∧X6 N k m=none
 | 0,_,e=>by unfold gj at e;cases e
 | n+1,hn,e=>by
  cases hg:gj M m n with
  | none=>
   obtain ⟨k,N,h1,h2,h3⟩:=Znc (by omega) hg
   exact ⟨k,N,by omega,h2,h3⟩
  | some N=>
   refine ⟨n,N,by omega,hg,?_⟩
   unfold gj at e
   rw [hg] at e
   simp only at e
   unfold Wv at e
   cases hf:X6 N n m with
   | none=>rfl
   | some t=>rw [hf] at e;cases e
theorem Zap {m:Nat} {cols:Mx} {b:Nat→Rat} (h:Xt m cols b=none):¬XA m cols:=by
 have hs:=Zal (m:=m) (cols:=cols) b fun _=>0
 rw [h] at hs;have h0:Xt m cols (fun _=>0)=none:=by
  cases e:Xt m cols (fun _=>0) with
  | none=>rfl
  | some x=>rw [e] at hs;cases hs
 unfold Xt at h0;have hg:gj (Zbi m cols fun _=>0) m m=none:=by
  cases e:gj (Zbi m cols fun _=>0) m m with
  | none=>rfl
  | some x=>rw [e] at h0;cases h0
 obtain ⟨k,N,hk,hN,hf⟩:=Znc (JY m) hg;obtain ⟨h1,h2⟩:=Zmy (by omega) hN;have hz:=Zjw hf;have hr:=Znb (fun r _=>by unfold Zbi;rw [if_neg (by omega)]) (by omega) hN;intro hi;have hy:UO m N (fun c=>if c < k then -(N c k) else if c=k then 1 else 0):=fun r hrm=>by
  rw [hr r hrm];show Z6 (fun c=>N r c * (if c < k then -(N c k) else if c=k then 1 else 0)) m=0;rw [Wp (n:=k+1) (by omega) fun i i1 i2=>by rw [if_neg (by omega),if_neg (by omega)];grind,ZF,if_neg (Nat.lt_irrefl k),if_pos rfl];rcases JX r k with hrk | hrk
  ·rw [Xh hrk fun i hi2 hne=>by rw [h1 r i hrm hi2,if_neg (fun e=>hne e.symm)];grind,h1 r r hrm hrk,if_pos rfl,if_pos hrk];grind
  ·rw [WL fun i hi2=>by rw [h1 r i hrm hi2,if_neg (by omega)];grind,hz r hrk hrm];grind
 have:=hi _ (Zmz.1 ((h2 _).1 hy)) k hk;simp at this
theorem Uh {m:Nat} {cols:Mx} (h:XA m cols) (b:Nat→Rat):∃x,Xt m cols b=some x:=by
 cases e:Xt m cols b with
 | none=>exact absurd h (Zap e)
 | some x=>exact ⟨x,rfl⟩
theorem Znd {m:Nat} {cols:Mx} {b x:Nat→Rat} (hi:XA m cols) (hx:∀r,r < m→XV m cols x r=b r):∃z,Xt m cols b=some z∧∀k,k < m→z k=x k:=by
 obtain ⟨z,hz⟩:=Uh hi b;exact ⟨z,hz,fun k hk=>((Vd hz x).1 hx k hk).symm⟩
end Pl
namespace Pl
theorem pigeon:∀(m n:Nat) (f:Nat→Nat),m < n→(∀k,k < n→f k < m)→∃i j,i < j∧j < n∧f i=f j
 | 0,n,f,h,hf=>absurd (hf 0 (by omega)) (by omega)
 | m+1,n,f,h,hf=>by
  by_cases hk:∃k,k < n∧f k=m
  ·obtain ⟨k,hkn,hfk⟩:=hk
   by_cases h2:∃l,l < n∧l≠k∧f l=m
   ·obtain ⟨l,hl,hne,hfl⟩:=h2
    rcases JX l k with e | e
    ·exact ⟨l,k,e,hkn,by rw [hfl,hfk]⟩
    ·exact ⟨k,l,by omega,hl,by rw [hfl,hfk]⟩
   ·obtain ⟨i,j,hij,hj,he⟩:=pigeon m (n - 1) (fun i=>if i < k then f i else f (i+1)) (by omega) fun i hi=>by
     by_cases e:i < k
     ·simp only [if_pos e]
      have:=hf i (by omega)
      have:f i≠m:=fun e'=>h2 ⟨i,by omega,by omega,e'⟩
      omega
     ·simp only [if_neg e]
      have:=hf (i+1) (by omega)
      have:f (i+1)≠m:=fun e'=>h2 ⟨i+1,by omega,by omega,e'⟩
      omega
    by_cases e1:i < k
    ·by_cases e2:j < k
     ·exact ⟨i,j,hij,by omega,by simpa only [if_pos e1,if_pos e2] using he⟩
     ·exact ⟨i,j+1,by omega,by omega,by simpa only [if_pos e1,if_neg e2] using he⟩
    ·exact ⟨i+1,j+1,by omega,by omega,by simpa only [if_neg e1,if_neg (show ¬j < k by omega)] using he⟩
  ·exact pigeon m n f (by omega) fun k hkn=>by
    have:=hf k hkn
    have:f k≠m:=fun e=>hk ⟨k,hkn,e⟩
    omega
def Inj (n t:Nat) (F:Nat→Nat):Prop:=(∀s,s < t→F s < n)∧∀s u,s < u→u < t→F s≠F u
theorem Inj.eq {n t:Nat} {F:Nat→Nat} (h:Inj n t F) {s u:Nat} (hs:s < t) (hu:u < t) (e:F s=F u):s=u:=by
 rcases Nat.lt_trichotomy s u with g | g | g
 ·exact absurd e (h.2 s u g hu)
 ·exact g
 ·exact absurd e.symm (h.2 u s g hs)
theorem Inj.onto {n:Nat} {F:Nat→Nat} (h:Inj n n F) {i:Nat} (hi:i < n):∃s,s < n∧F s=i:=by
 by_cases e:∃s,s < n∧F s=i
 ·exact e
 ·exfalso;obtain ⟨a,b,c,hb,he⟩:=pigeon n (n+1) (fun s=>if s < n then F s else i) (by omega) fun k _=>by
   by_cases e':k < n
   ·simp only [if_pos e'];exact h.1 k e'
   ·simp only [if_neg e'];exact hi
  by_cases e1:b < n
  ·exact h.2 a b c e1 (by simpa only [if_pos (show a < n by omega),if_pos e1] using he)
  ·exact e ⟨a,by omega,by simpa only [if_pos (show a < n by omega),if_neg e1] using he⟩
theorem Inj.free {n t:Nat} {F:Nat→Nat} (_h:Inj n t F) (ht:t < n):∃i,i < n∧∀s,s < t→F s≠i:=by
 by_cases e:∃i,i < n∧∀s,s < t→F s≠i
 ·exact e
 ·exfalso;have c:∀i,i < n→∃s,s < t∧F s=i:=fun i hi=>by
   by_cases e':∃s,s < t∧F s=i
   ·exact e'
   ·exact absurd ⟨i,hi,fun s hs he=>e' ⟨s,hs,he⟩⟩ e
  obtain ⟨a,b,d,hb,he⟩:=pigeon t n (fun i=>if hi:i < n then (c i hi).choose else 0) ht fun k hk=>by
   simp only [dif_pos hk];exact (c k hk).choose_spec.1
  simp only [dif_pos (show a < n by omega),dif_pos hb] at he;have h1:=(c a (by omega)).choose_spec.2;have h2:=(c b hb).choose_spec.2;rw [he] at h1;omega
theorem Zaq {n:Nat} {F:Nat→Nat} (h:Inj n n F) (f:Nat→Rat):Z6 (fun k=>f (F k)) n=Z6 f n:=by
 have h1:Z6 (fun k=>f (F k)) n=Z6 (fun k=>Z6 (fun j=>if j=F k then f j else 0) n) n:=Zp fun k hk=>by
  rw [Xh (h.1 k hk) fun i _ hne=>by rw [if_neg hne],if_pos rfl]
 rw [h1,Ub];exact Zp fun j hj=>by
  obtain ⟨s,hs,he⟩:=h.onto hj;rw [Xh hs fun i hi hne=>if_neg fun e=>hne (h.eq hi hs (by omega)),if_pos he.symm]
structure VA (n t:Nat) (A a:Mx) (R C:Nat→Nat) (m:Mx):Prop where
 ri:Inj n t R
 ci:Inj n t C
 m0:∀s q,s < t→q≤s→m s (R q)=0
 piv:∀s,s < t→a (R s) (C s)≠0
 e1:∀i j,i < n→j < n→(∀s,s < t→R s≠i)→(∀s,s < t→C s≠j)→A i j=Z6 (fun s=>m s i * a (R s) j) t+a i j
 e2:∀i q,i < n→q < t→(∀s,s < t→R s≠i)→A i (C q)=Z6 (fun s=>m s i * a (R s) (C q)) (q+1)
 e3:∀p j,p < t→j < n→(∀s,s < p→C s≠j)→A (R p) j=Z6 (fun s=>m s (R p) * a (R s) j) p+a (R p) j
 e4:∀p q,p < t→q < p→A (R p) (C q)=Z6 (fun s=>m s (R p) * a (R s) (C q)) (q+1)
theorem VA.start (n:Nat) (A:Mx) (R C:Nat→Nat) (m:Mx):VA n 0 A A R C m where
 ri:=⟨fun s h=>absurd h (by omega),fun s u _ h=>absurd h (by omega)⟩
 ci:=⟨fun s h=>absurd h (by omega),fun s u _ h=>absurd h (by omega)⟩
 m0:=fun s q h=>absurd h (by omega)
 piv:=fun s h=>absurd h (by omega)
 e1:=fun i j _ _ _ _=>by rw [Y4];grind
 e2:=fun i q _ h=>absurd h (by omega)
 e3:=fun p j h=>absurd h (by omega)
 e4:=fun p q h=>absurd h (by omega)
theorem VA.step {n t:Nat} {A a:Mx} {R C:Nat→Nat} {m:Mx} (h:VA n t A a R C m) {r c:Nat} (hr:r < n) (hc:c < n) (hrf:∀s,s < t→R s≠r) (hcf:∀s,s < t→C s≠c) (hp:a r c≠0)
 {a' m':Mx} {R' C':Nat→Nat} (hR:∀s,s < t→R' s=R s) (hRt:R' t=r) (hC:∀s,s < t→C' s=C s) (hCt:C' t=c)
 (hm:∀s i,s < t→m' s i=m s i) (hmt:∀i,i < n→m' t i=if (∀s,s < t→R s≠i)∧i≠r then a i c / a r c else 0)
 (ha:∀i j,i < n→j < n→a' i j=if ((∀s,s < t→R s≠i)∧i≠r)∧((∀s,s < t→C s≠j)∧j≠c) then a i j - m' t i * a r j else a i j):VA n (t+1) A a' R' C' m':=by
 have y:∀i,i < n→(∀s,s < t→R s≠i)→i≠r→m' t i * a r c=a i c:=fun i hi h1 h2=>by
  rw [hmt i hi,if_pos ⟨h1,h2⟩];exact Rat.div_mul_cancel hp
 have l:∀s,s < t+1→R' s < n:=fun s hs=>by
  rcases JX s t with e | e
  ·rw [hR s e];exact h.ri.1 s e
  ·obtain rfl:s=t:=by omega
   rw [hRt];exact hr
 have x:∀s,s < t+1→C' s < n:=fun s hs=>by
  rcases JX s t with e | e
  ·rw [hC s e];exact h.ci.1 s e
  ·obtain rfl:s=t:=by omega
   rw [hCt];exact hc
 -- rows that are taken do not change any more
 have d:∀s j,s < t+1→j < n→a' (R' s) j=a (R' s) j:=fun s j hs hj=>by
  rw [ha _ _ (l s hs) hj];refine if_neg fun e=>?_
  rcases JX s t with g | g
  ·exact e.1.1 s g (hR s g).symm
  ·obtain rfl:s=t:=by omega
   exact e.1.2 hRt
 have f:∀i,(∀s,s < t+1→R' s≠i)→(∀s,s < t→R s≠i)∧i≠r:=fun i hi=>⟨fun s hs e=>hi s (by omega) (by rw [hR s hs];exact e),fun e=>hi t (by omega) (by rw [hRt];exact e.symm)⟩
 have o:∀j,(∀s,s < t+1→C' s≠j)→(∀s,s < t→C s≠j)∧j≠c:=fun j hj=>⟨fun s hs e=>hj s (by omega) (by rw [hC s hs];exact e),fun e=>hj t (by omega) (by rw [hCt];exact e.symm)⟩
 have b:∀i j k,k≤t→j < n→Z6 (fun s=>m' s i * a' (R' s) j) k=Z6 (fun s=>m s i * a (R s) j) k:=fun i j k hk hj=>Zp fun s hs=>by
  rw [hm s i (by omega),d s j (by omega) hj,hR s (by omega)]
 refine ⟨⟨l,fun s u hsu hu=>?_⟩,⟨x,fun s u hsu hu=>?_⟩,fun s q hs hq=>?_,fun s hs=>?_,fun i j hi hj h1 h2=>?_,fun i q hi hq h1=>?_,fun p j hp' hj h1=>?_,fun p q hp' hq=>?_⟩
 ·rw [hR s (by omega)];rcases JX u t with e | e
  ·rw [hR u e];exact h.ri.2 s u hsu e
  ·obtain rfl:u=t:=by omega
   rw [hRt];exact hrf s hsu
 ·rw [hC s (by omega)];rcases JX u t with e | e
  ·rw [hC u e];exact h.ci.2 s u hsu e
  ·obtain rfl:u=t:=by omega
   rw [hCt];exact hcf s hsu
 ·rcases JX s t with e | e
  ·rw [hm s _ e,hR q (by omega)];exact h.m0 s q e hq
  ·obtain rfl:s=t:=by omega
   rw [hmt _ (l q (by omega))];refine if_neg fun e=>?_
   rcases JX q s with g | g
   ·exact e.1 q g (hR q g).symm
   ·obtain rfl:q=s:=by omega
    exact e.2 hRt
 ·rw [d s _ hs (x s hs)];rcases JX s t with e | e
  ·rw [hR s e,hC s e];exact h.piv s e
  ·obtain rfl:s=t:=by omega
   rw [hRt,hCt];exact hp
 ·obtain ⟨i1,i2⟩:=f i h1;obtain ⟨j1,j2⟩:=o j h2;rw [ZF,b i j t (JY _) hj,d t j (by omega) hj,hRt,ha i j hi hj,if_pos ⟨⟨i1,i2⟩,⟨j1,j2⟩⟩,h.e1 i j hi hj i1 j1];grind
 ·obtain ⟨i1,i2⟩:=f i h1;rcases JX q t with e | e
  ·rw [hC q e,b i _ (q+1) (by omega) (h.ci.1 q e)];exact h.e2 i q hi e i1
  ·obtain rfl:q=t:=by omega
   rw [hCt,ZF,b i c q (JY _) hc,d q c (by omega) hc,hRt,y i hi i1 i2,h.e1 i c hi hc i1 hcf]
 ·have z:=l p hp';rcases JX p t with e | e
  ·rw [d p j hp' hj,b _ j p (by omega) hj,hR p e];exact h.e3 p j e hj fun s hs=>by have:=h1 s hs;rwa [hC s (by omega)] at this
  ·obtain rfl:p=t:=by omega
   rw [d p j hp' hj,b _ j p (JY _) hj,hRt];exact h.e1 r j hr hj hrf fun s hs=>by have:=h1 s hs;rwa [hC s hs] at this
 ·have v:q < t:=by omega
  rw [hC q v,b _ _ (q+1) (by omega) (h.ci.1 q v)];rcases JX p t with e | e
  ·rw [hR p e];exact h.e4 p q e hq
  ·obtain rfl:p=t:=by omega
   rw [hRt];exact h.e2 r q hr v hrf
def luL (R:Nat→Nat) (m:Mx):Mx:=fun t p=>if p=t then 1 else if t < p then m t (R p) else 0
def luU (R C:Nat→Nat) (a:Mx):Mx:=fun k s=>if s≤k then a (R s) (C k) else 0
structure Zeu (n:Nat) (A:Mx) (R C:Nat→Nat) (L U:Mx):Prop where
 ri:Inj n n R
 ci:Inj n n C
 l0:∀t p,t < n→p < n→p < t→L t p=0
 l1:∀t,t < n→L t t=1
 u0:∀k s,k < n→s < n→k < s→U k s=0
 u1:∀k,k < n→U k k≠0
 eq:∀p k,p < n→k < n→A (R p) (C k)=Z6 (fun s=>L s p * U k s) n
theorem VA.fac {n:Nat} {A a:Mx} {R C:Nat→Nat} {m:Mx} (h:VA n n A a R C m):Zeu n A R C (luL R m) (luU R C a) where
 ri:=h.ri
 ci:=h.ci
 l0:=fun t p _ _ hpt=>by unfold luL;rw [if_neg (by omega),if_neg (by omega)]
 l1:=fun t _=>by unfold luL;rw [if_pos rfl]
 u0:=fun k s _ _ hks=>by unfold luU;rw [if_neg (by omega)]
 u1:=fun k hk=>by unfold luU;rw [if_pos (JY _)];exact h.piv k hk
 eq:=fun p k hp hk=>by
  rcases JX k p with e | e
  ·rw [h.e4 p k hp e,Wp (n:=k+1) (m:=n) (by omega) fun i h1 h2=>by unfold luU;rw [if_neg (by omega)];grind]
   exact Zp fun s hs=>by unfold luL luU;rw [if_neg (by omega),if_pos (by omega),if_pos (by omega)]
  ·rw [h.e3 p (C k) hp (h.ci.1 k hk) fun s hs=>h.ci.2 s k (by omega) hk,Wp (n:=p+1) (m:=n) (by omega) fun i h1 h2=>by unfold luL;rw [if_neg (by omega),if_neg (by omega)];grind,ZF]
   have e2:luL R m p p * luU R C a k p=a (R p) (C k):=by unfold luL luU;rw [if_pos rfl,if_pos e];grind
   rw [e2,Zp (f:=fun s=>luL R m s p * luU R C a k s) (g:=fun s=>m s (R p) * a (R s) (C k)) fun s hs=>by unfold luL luU;rw [if_neg (by omega),if_pos (by omega),if_pos (by omega)]]
def trM (A:Mx):Mx:=fun c r=>A r c
theorem Ui {n m:Nat} {f g:Nat→Rat} {h:Nat→Nat→Rat} (e:∀j,j < n→f j=Z6 (fun s=>g s * h s j) m) (y:Nat→Rat):Z6 (fun j=>f j * y j) n=Z6 (fun s=>g s * Z6 (fun j=>h s j * y j) n) m:=by
 rw [Zp (g:=fun j=>Z6 (fun s=>g s * (h s j * y j)) m) fun j hj=>by
  rw [e j hj,Rat.mul_comm,← Xn];exact Zp fun s _=>by grind]
 rw [Ub];exact Zp fun s _=>Xn _ _ _
theorem VA.dep {n t:Nat} {A a:Mx} {R C:Nat→Nat} {m:Mx} (h:VA n t A a R C m) (ht:t < n) (hz:∀i j,i < n→j < n→(∀s,s < t→R s≠i)→(∀s,s < t→C s≠j)→a i j=0):¬XA n (trM A):=by
 obtain ⟨j0,H,l⟩:=h.ci.free ht
 -- row s of the triangle,with the columns that were taken before it left out
 have hw:∃W:Mx,(∀s j,(∀u,u < s→C u≠j)→W s j=a (R s) j)∧∀s u,u < s→W s (C u)=0:=by
  refine ⟨fun s j=>if ∀u,u < s→C u≠j then a (R s) j else 0,fun s j hs=>if_pos hs,fun s u hu=>if_neg fun g=>g u hu rfl⟩
 obtain ⟨W,d,o⟩:=hw;have F:∀k,k≤t→∃y:Nat→Rat,y j0=1∧(∀s,s < t - k→y (C s)=0)∧∀s,t - k≤s→s < t→Z6 (fun j=>W s j * y j) n=0:=by
  intro k
  induction k with
  | zero=>exact fun _=>⟨fun j=>if j=j0 then 1 else 0,if_pos rfl,fun s hs=>if_neg fun e=>l s (by omega) e,fun s h1 h2=>by omega⟩
  | succ k ih=>
   intro hk;obtain ⟨y,y1,y2,y3⟩:=ih (by omega);obtain ⟨s0,I⟩:∃s0,s0+1=t - k:=⟨t - k - 1,by omega⟩;have b:s0 < t:=(by omega);have G:=h.ci.1 s0 b;obtain ⟨q,hq⟩:∃q,q= -(Z6 (fun j=>W s0 j * y j) n) / a (R s0) (C s0):=⟨_,rfl⟩;have x:∀s,Z6 (fun j=>W s j * (if j=C s0 then q else y j)) n=Z6 (fun j=>W s j * y j) n+W s (C s0) * (q - y (C s0)):=fun s=>by
    have e:Z6 (fun j=>W s j * (if j=C s0 then q else y j)) n=Z6 (fun j=>W s j * y j+(if j=C s0 then W s (C s0) * (q - y (C s0)) else 0)) n:=Zp fun j _=>by
     by_cases e:j=C s0
     ·rw [if_pos e,if_pos e,e];grind
     ·rw [if_neg e,if_neg e];grind
    rw [e,WY,WZ G]
   refine ⟨fun j=>if j=C s0 then q else y j,?_,fun s hs=>?_,fun s h1 h2=>?_⟩
   ·show (if j0=C s0 then q else y j0)=1;rw [if_neg fun e=>l s0 b e.symm];exact y1
   ·show (if C s=C s0 then q else y (C s))=0;rw [if_neg (h.ci.2 s s0 (by omega) b)];exact y2 s (by omega)
   ·rw [x s];rcases JX s0 s with e | e
    ·rw [o s s0 e,y3 s (by omega) h2];grind
    ·obtain rfl:s=s0:=by omega
     rw [d s (C s) fun u hu=>h.ci.2 u s hu b,y2 s (by omega),hq];have hp:=h.piv s b;have e2: -(Z6 (fun j=>W s j * y j) n) / a (R s) (C s) * a (R s) (C s)= -(Z6 (fun j=>W s j * y j) n):=Rat.div_mul_cancel hp;grind
 obtain ⟨y,y1,_,y3⟩:=F t (JY _);have hy:∀s,s < t→Z6 (fun j=>W s j * y j) n=0:=fun s hs=>y3 s (by omega) hs
 intro hi;have z:∀r,r < n→XV n (trM A) y r=0:=fun r hr=>by
  show Z6 (fun c=>A r c * y c) n=0;by_cases hp:∃p,p < t∧R p=r
  ·obtain ⟨p,B,rfl⟩:=hp;have e:∀j,j < n→A (R p) j=Z6 (fun s=>(if s=p then 1 else m s (R p)) * W s j) (p+1):=fun j hj=>by
    rw [ZF,if_pos rfl];have e0:Z6 (fun s=>(if s=p then 1 else m s (R p)) * W s j) p=Z6 (fun s=>m s (R p) * W s j) p:=Zp fun s hs=>by rw [if_neg (by omega)]
    rw [e0];by_cases hq:∃q,q < p∧C q=j
    ·obtain ⟨q,D,rfl⟩:=hq;rw [o p q D,h.e4 p q B D,Wp (f:=fun s=>m s (R p) * W s (C q)) (n:=q+1) (m:=p) (by omega) fun s h1 h2=>by rw [o s q (by omega)];grind];have e1:Z6 (fun s=>m s (R p) * a (R s) (C q)) (q+1)=Z6 (fun s=>m s (R p) * W s (C q)) (q+1):=Zp fun s hs=>by rw [d s (C q) fun u hu=>h.ci.2 u q (by omega) (by omega)]
     rw [e1];grind
    ·have hn:∀u,u < p→C u≠j:=fun u hu e=>hq ⟨u,hu,e⟩
     rw [h.e3 p j B hj hn,d p j hn];have e1:Z6 (fun s=>m s (R p) * a (R s) j) p=Z6 (fun s=>m s (R p) * W s j) p:=Zp fun s hs=>by rw [d s j fun u hu=>hn u (by omega)]
     rw [e1];grind
   rw [Ui e];exact WL fun s hs=>by rw [hy s (by omega)];grind
  ·have v:∀s,s < t→R s≠r:=fun s hs e=>hp ⟨s,hs,e⟩
   have e:∀j,j < n→A r j=Z6 (fun s=>m s r * W s j) t:=fun j hj=>by
    by_cases hq:∃q,q < t∧C q=j
    ·obtain ⟨q,E,rfl⟩:=hq;rw [h.e2 r q hr E v,Wp (f:=fun s=>m s r * W s (C q)) (n:=q+1) (m:=t) (by omega) fun s h1 h2=>by rw [o s q (by omega)];grind];exact Zp fun s hs=>by rw [d s (C q) fun u hu=>h.ci.2 u q (by omega) E]
    ·have hn:∀u,u < t→C u≠j:=fun u hu e=>hq ⟨u,hu,e⟩
     rw [h.e1 r j hr hj v hn,hz r j hr hj v hn];have e1:Z6 (fun s=>m s r * a (R s) j) t=Z6 (fun s=>m s r * W s j) t:=Zp fun s hs=>by rw [d s j fun u hu=>hn u (by omega)]
     rw [e1];grind
   rw [Ui e];exact WL fun s hs=>by rw [hy s hs];grind
 have:=hi y z j0 H;rw [y1] at this;exact absurd this (by decide)
theorem Zjz {n:Nat} {L:Mx} (h0:∀t p,t < n→p < n→p < t→L t p=0) (h1:∀t,t < n→L t t=1) {z:Nat→Rat} (hz:∀p,p < n→Z6 (fun s=>L s p * z s) n=0):∀p,p < n→z p=0:=by
 intro p
 induction p using Nat.strongRecOn with
 | _ p ih=>
  intro hp;have:=hz p hp;rw [Xh hp fun i hi hne=>by
   rcases JX i p with e | e
   ·rw [ih i e hi];grind
   ·rw [h0 i p hi hp (by omega)];grind,h1 p hp] at this
  grind
theorem Zka {n:Nat} {U:Mx} (h0:∀k s,k < n→s < n→k < s→U k s=0) (h1:∀k,k < n→U k k≠0) {w:Nat→Rat} (hw:∀s,s < n→Z6 (fun k=>U k s * w k) n=0):∀k,k < n→w k=0:=by
 have a:∀d k,k+d+1=n→w k=0:=by
  intro d
  induction d using Nat.strongRecOn with
  | _ d ih=>
   intro k hk;have:=hw k (by omega);rw [Xh (show k < n by omega) fun i hi hne=>by
    rcases JX i k with e | e
    ·rw [h0 i k hi (by omega) e];grind
    ·rw [ih (n - 1 - i) (by omega) i (by omega)];grind] at this
   rcases Rat.mul_eq_zero.1 this with e | e
   ·exact absurd e (h1 k (by omega))
   ·exact e
 exact fun k hk=>a (n - 1 - k) k (by omega)
theorem Zeu.solve {n:Nat} {A:Mx} {R C:Nat→Nat} {L U:Mx} (h:Zeu n A R C L U) {b z x:Nat→Rat} (hz:∀p,p < n→Z6 (fun s=>L s p * z s) n=b (R p)) (hx:∀s,s < n→Z6 (fun k=>U k s * x (C k)) n=z s):∀r,r < n→XV n (trM A) x r=b r:=by
 intro r hr;obtain ⟨p,hp,rfl⟩:=h.ri.onto hr;show Z6 (fun c=>A (R p) c * x c) n=b (R p);rw [← Zaq h.ci (fun c=>A (R p) c * x c),Ui (f:=fun k=>A (R p) (C k)) (g:=fun s=>L s p) (h:=fun s k=>U k s) (m:=n) (fun k hk=>h.eq p k hp hk) (fun k=>x (C k)),← hz p hp];exact Zp fun s hs=>by rw [hx s hs]
theorem Zeu.indep {n:Nat} {A:Mx} {R C:Nat→Nat} {L U:Mx} (h:Zeu n A R C L U):XA n (trM A):=by
 intro y hy;have h1:∀p,p < n→Z6 (fun s=>L s p * Z6 (fun k=>U k s * y (C k)) n) n=0:=fun p hp=>by
  rw [← Ui (f:=fun k=>A (R p) (C k)) (g:=fun s=>L s p) (h:=fun s k=>U k s) (m:=n) (fun k hk=>h.eq p k hp hk) (fun k=>y (C k)),Zaq h.ci (fun c=>A (R p) c * y c)];exact hy (R p) (h.ri.1 p hp)
 have h2:=Zjz h.l0 h.l1 h1;have h3:=Zka h.u0 h.u1 (w:=fun k=>y (C k)) h2;intro c hc;obtain ⟨k,hk,rfl⟩:=h.ci.onto hc;exact h3 k hk
def Zgu (cols:Mx) (k:Nat) (v:Nat→Rat):Mx:=fun c=>if c=k then v else cols c
theorem Zqh {n k:Nat} {cols:Mx} {v im x c:Nat→Rat} (hk:k < n) (him:∀r,r < n→XV n cols im r=v r) (h0:im k≠0) (hx:∀r,r < n→XV n cols x r=c r) {x':Nat→Rat} (hxk:x' k=x k / im k) (hxi:∀i,i < n→i≠k→x' i=x i - im i * x' k):
 ∀r,r < n→XV n (Zgu cols k v) x' r=c r:=by
 intro r hr;have hd:x' k * im k=x k:=by rw [hxk];exact Rat.div_mul_cancel h0
 have e:XV n (Zgu cols k v) x' r=Z6 (fun i=>cols i r * x i - x' k * (cols i r * im i)+(if i=k then v r * x' k else 0)) n:=Zp fun i hi=>by
  unfold Zgu;by_cases e:i=k
  ·subst e;rw [if_pos rfl,if_pos rfl];grind
  ·rw [if_neg e,if_neg e,hxi i hi e];grind
 rw [e,WY,Zih,Xn,WZ hk];have h1:Z6 (fun i=>cols i r * x i) n=c r:=hx r hr;have h2:Z6 (fun i=>cols i r * im i) n=v r:=him r hr;rw [h1,h2];grind
theorem Zne {n k:Nat} {cols:Mx} {v im:Nat→Rat} (hk:k < n) (hi:XA n cols) (him:∀r,r < n→XV n cols im r=v r) (h0:im k≠0):XA n (Zgu cols k v):=by
 intro y hy;have h1:∀r,r < n→XV n cols (fun i=>(if i=k then 0 else y i)+y k * im i) r=0:=fun r hr=>by
  have e:XV n cols (fun i=>(if i=k then 0 else y i)+y k * im i) r=Z6 (fun i=>(Zgu cols k v i r * y i - (if i=k then v r * y k else 0))+y k * (cols i r * im i)) n:=Zp fun i _=>by
   unfold Zgu;by_cases e:i=k
   ·subst e;simp only [if_pos];grind
   ·simp only [if_neg e];grind
  rw [e,WY,Zih,Xn,WZ hk];have h2:Z6 (fun i=>Zgu cols k v i r * y i) n=0:=hy r hr;have h3:Z6 (fun i=>cols i r * im i) n=v r:=him r hr;rw [h2,h3];grind
 have h2:=hi _ h1;have h3:y k=0:=by
  have:=h2 k hk;simp only [if_pos] at this;have e:y k * im k=0:=by grind
  rcases Rat.mul_eq_zero.1 e with g | g
  ·exact g
  ·exact absurd g h0
 intro i a;by_cases e:i=k
 ·rw [e];exact h3
 ·have:=h2 i a;simp only [if_neg e,h3] at this;grind
end Pl
namespace Pl
def VG (L:Mx) (b:Nat→Rat):Nat→Nat→Rat
 | 0=>b
 | j+1=>fun i=>if j < i then VG L b j i - L j i * VG L b j j else VG L b j i
theorem Zaw (L:Mx) (b:Nat→Rat) (j i:Nat):VG L b (j+1) i=if j < i then VG L b j i - L j i * VG L b j j else VG L b j i:=rfl
theorem Zfc (L:Mx) (b:Nat→Rat) (i:Nat):∀d,VG L b (i+d) i=VG L b i i
 | 0=>rfl
 | d+1=>by rw [← Nat.add_assoc,Zaw,if_neg (by omega)];exact Zfc L b i d
theorem Zda {L:Mx} {b:Nat→Rat} {i j:Nat} (h:i≤j):VG L b j i=VG L b i i:=by
 have:=Zfc L b i (j - i)
 rwa [show i+(j - i)=j by omega] at this
theorem Zdb (L:Mx) (b:Nat→Rat) (i:Nat):∀j,j≤i→VG L b j i=b i - Z6 (fun s=>L s i * VG L b s s) j
 | 0,_=>by rw [Y4];show b i=_;grind
 | j+1,h=>by rw [Zaw,if_pos (by omega),ZF,Zdb L b i j (by omega)];grind
theorem Zgy {n:Nat} {L:Mx} {b:Nat→Rat} (h0:∀t p,t < n→p < n→p < t→L t p=0) (h1:∀t,t < n→L t t=1):∀p,p < n→Z6 (fun s=>L s p * VG L b n s) n=b p:=by
 intro p hp;rw [Wp (n:=p+1) (by omega) fun i h1' h2=>by rw [h0 i p h2 hp (by omega)];grind,ZF,h1 p hp,Zda (show p≤n by omega),Zdb L b p p (JY _)];rw [Zp (g:=fun s=>L s p * VG L b s s) fun s hs=>by rw [Zda (show s≤n by omega)]];grind
def VJ (n:Nat) (U:Mx) (z:Nat→Rat):Nat→Nat→Rat
 | 0=>z
 | j+1=>fun i=>if i=n - 1 - j then VJ n U z j i / U i i else if i < n - 1 - j then VJ n U z j i - U (n - 1 - j) i * (VJ n U z j (n - 1 - j) / U (n - 1 - j) (n - 1 - j)) else VJ n U z j i
theorem Ul (n:Nat) (U:Mx) (z:Nat→Rat) (j i:Nat):VJ n U z (j+1) i=if i=n - 1 - j then VJ n U z j i / U i i else if i < n - 1 - j then VJ n U z j i - U (n - 1 - j) i * (VJ n U z j (n - 1 - j) / U (n - 1 - j) (n - 1 - j)) else VJ n U z j i:=rfl
theorem Zfd (n:Nat) (U:Mx) (z:Nat→Rat) (i:Nat) (hi:i < n):∀d,d≤i→VJ n U z (n - i+d) i=VJ n U z (n - i) i
 | 0,_=>rfl
 | d+1,h=>by rw [← Nat.add_assoc,Ul,if_neg (by omega),if_neg (by omega)];exact Zfd n U z i hi d (by omega)
theorem UG {n:Nat} {U:Mx} {z:Nat→Rat} {i j:Nat} (hi:i < n) (h:n - i≤j) (hj:j≤n):VJ n U z j i=VJ n U z (n - i) i:=by
 have:=Zfd n U z i hi (j - (n - i)) (by omega)
 rwa [show n - i+(j - (n - i))=j by omega] at this
theorem Zim {n:Nat} {U:Mx} {z:Nat→Rat} {i:Nat} (hi:i < n):VJ n U z (n - i) i=VJ n U z (n - 1 - i) i / U i i:=by
 rw [show n - i=(n - 1 - i)+1 by omega,Ul,if_pos (by omega)]
theorem Zdc (n:Nat) (U:Mx) (z:Nat→Rat) (i:Nat):∀j,j+i < n→VJ n U z j i=z i - Z6 (fun t=>U (n - 1 - t) i * VJ n U z n (n - 1 - t)) j
 | 0,_=>by rw [Y4];show z i=_;grind
 | j+1,h=>by
  rw [Ul,if_neg (by omega),if_pos (by omega),ZF,Zdc n U z i j (by omega)]
  have e:VJ n U z n (n - 1 - j)=VJ n U z j (n - 1 - j) / U (n - 1 - j) (n - 1 - j):=by
   rw [UG (i:=n - 1 - j) (by omega) (by omega) (JY _),Zim (by omega),show n - 1 - (n - 1 - j)=j by omega]
  rw [e];grind
theorem Zqp (f:Nat→Rat):∀n,Z6 (fun t=>f (n - 1 - t)) n=Z6 f n:=by
 intro n;have h:Inj n n (fun t=>n - 1 - t):=⟨fun s hs=>by show n - 1 - s < n;omega,fun s u h1 h2 e=>by have e':n - 1 - s=n - 1 - u:=e;omega⟩;exact Zaq h f
theorem Zax {n:Nat} {U:Mx} {z:Nat→Rat} (h0:∀k s,k < n→s < n→k < s→U k s=0) (h1:∀k,k < n→U k k≠0):∀s,s < n→Z6 (fun k=>U k s * VJ n U z n k) n=z s:=by
 intro s hs;rw [← Zqp,Wp (n:=n - 1 - s+1) (m:=n) (by omega) fun i h1' h2=>by
  show U (n - 1 - i) s * _=0;rw [h0 (n - 1 - i) s (by omega) hs (by omega)];grind,ZF,show n - 1 - (n - 1 - s)=s by omega,UG hs (show n - s≤n by omega) (JY _),Zim hs,Zdc n U z s (n - 1 - s) (by omega)]
 have e:=Rat.div_mul_cancel (a:=z s - Z6 (fun t=>U (n - 1 - t) s * VJ n U z n (n - 1 - t)) (n - 1 - s)) (h1 s hs);grind
end Pl
end Go.Proofs.YtidgdpkcloaheaaGreat
