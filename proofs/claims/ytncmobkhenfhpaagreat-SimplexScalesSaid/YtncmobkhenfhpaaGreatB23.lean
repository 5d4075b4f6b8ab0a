/- Contracts and plain facts that the claim is built on, joined out of smaller texts; no condition. -/
import Derived.Test.YtncmobkhenfhpaaGreatB21
set_option linter.unusedVariables false
set_option linter.unusedSimpArgs false
set_option maxRecDepth 100000
set_option maxHeartbeats 40000000
namespace Go.Proofs.YtncmobkhenfhpaaGreat
open Go.RowKit
open Pl
attribute [local go_sem ↓] Go.wp_at_zero Go.wp_at_succ
namespace Pl
abbrev Mx:=Nat→Nat→Rat
def findFrom (M:Mx) (c:Nat):Nat→Nat→Option Nat
 | _,0=>none
 | r,n+1=>if M r c≠0 then some r else findFrom M c (r+1) n
def findP (M:Mx) (k m:Nat):Option Nat:=findFrom M k k (m - k)
theorem findFrom_is {M:Mx} {c:Nat}:∀{n r t:Nat},findFrom M c r n=some t→r≤t∧t < r+n∧M t c≠0
 | 0,_,_,h=>by cases h
 | n+1,r,t,h=>by
  unfold findFrom at h
  split at h
  ·injection h with h;subst h;exact ⟨Nat.le_refl _,by omega,by assumption⟩
  ·have:=findFrom_is h;exact ⟨by omega,by omega,this.2.2⟩
theorem findFrom_zero {M:Mx} {c:Nat}:∀{n r:Nat},findFrom M c r n=none→∀s,r≤s→s < r+n→M s c=0
 | 0,r,_,s,h1,h2=>by omega
 | n+1,r,h,s,h1,h2=>by
  unfold findFrom at h
  split at h
  ·cases h
  ·rename_i h0
   rcases Nat.eq_or_lt_of_le h1 with e | e
   ·subst e;simpa using h0
   ·exact findFrom_zero h s (by omega) (by omega)
theorem findP_is {M:Mx} {k m t:Nat} (h:findP M k m=some t):k≤t∧t < m∧M t k≠0:=by
 have:=findFrom_is h;exact ⟨this.1,by omega,this.2.2⟩
theorem findP_zero {M:Mx} {k m:Nat} (h:findP M k m=none):∀s,k≤s→s < m→M s k=0:=fun s h1 h2=>findFrom_zero h s h1 (by omega)
theorem findFrom_congr {A B:Mx} {c:Nat} (h:∀r,A r c=B r c):∀(n r:Nat),findFrom A c r n=findFrom B c r n
 | 0,_=>rfl
 | n+1,r=>by unfold findFrom;rw [h r,findFrom_congr h n]
def updM (M:Mx) (r i:Nat) (q:Rat):Mx:=fun s c=>if s=r∧c=i then q else M s c
def swapM (M:Mx) (k t:Nat):Mx:=fun r=>if r=k then M t else if r=t then M k else M r
def scaleTo (M:Mx) (k i:Nat) (f:Rat):Mx:=fun r c=>if r=k∧k≤c∧c < i then M r c / f else M r c
def elimAll (M:Mx) (k s m:Nat):Mx:=fun r c=>if r≠k∧r < s∧k≤c∧c≤m then M r c - M r k * M k c else M r c
def gjStep (M:Mx) (k m:Nat):Option Mx:=match findP M k m with
 | none=>none
 | some t=>some (elimAll (scaleTo (swapM M k t) k (m+1) (swapM M k t k k)) k m m)
def gj (M:Mx) (m:Nat):Nat→Option Mx
 | 0=>some M
 | k+1=>match gj M m k with
  | none=>none
  | some M'=>gjStep M' k m
def augM (m:Nat) (cols:Mx) (b:Nat→Rat):Mx:=fun r c=>if c < m then cols c r else b r
def solveQ (m:Nat) (cols:Mx) (b:Nat→Rat):Option (Nat→Rat):=(gj (augM m cols b) m m).map fun M k=>M k m
theorem elimAll_row {M:Mx} {k s m:Nat} (c:Nat):elimAll M k s m k c=M k c:=by
 unfold elimAll;rw [if_neg (by omega)]
def MB (m n K:Nat) (M:Mx):Prop:=∀r c,r < m→c < n→Sz K (M r c)
theorem MB.mono {m n K K':Nat} {M:Mx} (h:MB m n K M) (hk:K≤K'):MB m n K' M:=fun r c h1 h2=>(h r c h1 h2).mono hk
theorem MB.swap {m n K:Nat} {M:Mx} (h:MB m n K M) {k t:Nat} (hk:k < m) (ht:t < m):MB m n K (swapM M k t):=fun r c h1 h2=>by
 unfold swapM;split
 ·exact h t c ht h2
 ·split
  ·exact h k c hk h2
  ·exact h r c h1 h2
theorem MB.scale {m n K:Nat} {M:Mx} (h:MB m n K M) {k i:Nat} {f:Rat} (hf:Sz K f):MB m n (2 * K) (scaleTo M k i f):=fun r c h1 h2=>by
 unfold scaleTo;split
 ·exact (Sz_div (h r c h1 h2) hf).mono (by omega)
 ·exact (h r c h1 h2).mono (by omega)
theorem scale_other {m n K:Nat} {M:Mx} (h:MB m n K M) {k i:Nat} {f:Rat} {r c:Nat} (hr:r < m) (hc:c < n) (hne:r≠k):Sz K (scaleTo M k i f r c):=by
 unfold scaleTo;rw [if_neg (by omega)];exact h r c hr hc
theorem scale_any {m n K:Nat} {M:Mx} (h:MB m n K M) {k i:Nat} {f:Rat} (hf:Sz K f) {r c:Nat} (hr:r < m) (hc:c < n):Sz (2 * K) (scaleTo M k i f r c):=h.scale hf r c hr hc
theorem MB.elim {m n K:Nat} {M:Mx} {k s m':Nat} (hk:k < m) (h1:∀r c,r < m→c < n→r≠k→Sz K (M r c)) (h2:∀c,c < n→Sz (2 * K) (M k c)) (hn:k < n):MB m n (5 * K) (elimAll M k s m'):=fun r c hr hc=>by
 unfold elimAll;split
 ·rename_i h
  have a:=h1 r c hr hc h.1
  have b:=h1 r k hr hn h.1
  have:=Sz_pos a
  exact (Sz_sub a (Sz_mul b (h2 c hc))).mono (by omega)
 ·by_cases e:r=k
  ·subst e;exact (h2 c hc).mono (by omega)
  ·exact (h1 r c hr hc e).mono (by omega)
theorem gjStep_B {M M':Mx} {k m K:Nat} (h:MB m (m+1) K M) (hk:k < m) (e:gjStep M k m=some M'):MB m (m+1) (5 * K) M':=by
 unfold gjStep at e
 cases hf:findP M k m with
 | none=>rw [hf] at e;cases e
 | some t=>
  rw [hf] at e
  injection e with e
  subst e
  obtain ⟨h1,h2,_⟩:=findP_is hf
  have hs:=h.swap hk h2
  exact MB.elim hk (fun r c hr hc hne=>scale_other hs hr hc hne) (fun c hc=>scale_any hs (hs k k hk (by omega)) hk hc) (by omega)
theorem gj_B {M:Mx} {m K:Nat} (h:MB m (m+1) K M):∀{k:Nat} {M':Mx},k≤m→gj M m k=some M'→MB m (m+1) (5^k * K) M'
 | 0,M',_,e=>by unfold gj at e;injection e with e;subst e;simpa using h
 | k+1,M',hk,e=>by
  unfold gj at e
  cases hg:gj M m k with
  | none=>rw [hg] at e;cases e
  | some N=>
   rw [hg] at e
   have:=gjStep_B (gj_B h (by omega) hg) (by omega) e
   exact this.mono (by rw [Nat.pow_succ];grind)
theorem aug_B {m K:Nat} {cols:Mx} {b:Nat→Rat} (h:∀r c,r < m→c < m→Sz K (cols c r)) (hb:∀r,r < m→Sz K (b r)):MB m (m+1) K (augM m cols b):=fun r c hr hc=>by
 unfold augM;split
 ·exact h r c hr (by assumption)
 ·exact hb r hr
theorem solveQ_B {m K:Nat} {cols:Mx} {b x:Nat→Rat} (h:∀r c,r < m→c < m→Sz K (cols c r)) (hb:∀r,r < m→Sz K (b r)) (e:solveQ m cols b=some x):∀r,r < m→Sz (5^m * K) (x r):=by
 unfold solveQ at e
 cases hg:gj (augM m cols b) m m with
 | none=>rw [hg] at e;cases e
 | some N=>
  rw [hg] at e
  injection e with e
  subst e
  exact fun r hr=>gj_B (aug_B h hb) (Nat.le_refl _) hg r m hr (by omega)
def LeftEq (m:Nat) (A B:Mx):Prop:=∀r c,c < m→A r c=B r c
theorem LeftEq.step {m k:Nat} {A B:Mx} (h:LeftEq m A B) (hk:k < m):match gjStep A k m,gjStep B k m with | some A',some B'=>LeftEq m A' B' | none,none=>True | _,_=>False:=by
 unfold gjStep findP
 rw [findFrom_congr (fun r=>h r k hk)]
 cases findFrom B k k (m - k) with
 | none=>trivial
 | some t=>
  have hs:LeftEq m (swapM A k t) (swapM B k t):=fun r c hc=>by
   unfold swapM;split
   ·exact h t c hc
   ·split
    ·exact h k c hc
    ·exact h r c hc
  have h2:LeftEq m (scaleTo (swapM A k t) k (m+1) (swapM A k t k k)) (scaleTo (swapM B k t) k (m+1) (swapM B k t k k)):=fun r c hc=>by
   unfold scaleTo;rw [hs r c hc,hs k k hk]
  show LeftEq m _ _
  intro r c hc
  unfold elimAll
  rw [h2 r c hc,h2 r k hk,h2 k c hc]
theorem LeftEq.gj {m:Nat} {A B:Mx} (h:LeftEq m A B):∀(k:Nat),k≤m→match gj A m k,gj B m k with | some A',some B'=>LeftEq m A' B' | none,none=>True | _,_=>False
 | 0,_=>h
 | k+1,hk=>by
  have ih:=LeftEq.gj h k (by omega)
  unfold Pl.gj
  generalize Pl.gj A m k=X at ih ⊢
  generalize Pl.gj B m k=Y at ih ⊢
  match X,Y,ih with
  | some A',some B',ih=>exact ih.step (by omega)
  | none,none,_=>trivial
theorem solveQ_some {m:Nat} {cols:Mx} (b b':Nat→Rat):(solveQ m cols b).isSome=(solveQ m cols b').isSome:=by
 have h:LeftEq m (augM m cols b) (augM m cols b'):=fun r c hc=>by unfold augM;rw [if_pos hc,if_pos hc]
 have:=h.gj m (Nat.le_refl _)
 unfold solveQ
 generalize Pl.gj (augM m cols b) m m=X at this ⊢
 generalize Pl.gj (augM m cols b') m m=Y at this ⊢
 match X,Y,this with
 | some A',some B',_=>rfl
 | none,none,_=>rfl
end Pl
namespace Pl
def canL (m:Nat) (f:Nat→Rat):List RF:=(List.range m).map fun i=>canF (f i)
theorem canL_length (m:Nat) (f:Nat→Rat):(canL m f).length=m:=by simp [canL]
theorem canL_get {m i:Nat} {f:Nat→Rat} (h:i < m):(canL m f)[i]? =some (canF (f i)):=by simp [canL,h]
theorem canL_qAt {m i:Nat} {f:Nat→Rat} (h:i < m):qAt (canL m f) i=f i:=by rw [qAt_some (canL_get h),canF_q]
theorem canL_congr {m:Nat} {f g:Nat→Rat} (h:∀i,i < m→f i=g i):canL m f=canL m g:=by
 unfold canL
 apply List.map_congr_left
 intro i hi
 rw [h i (List.mem_range.1 hi)]
theorem canL_set {m k:Nat} {f:Nat→Rat} {q:Rat} (h:k < m):(canL m f).set k (canF q)=canL m fun i=>if i=k then q else f i:=by
 apply List.ext_getElem?
 intro i
 rcases Nat.lt_or_ge i m with hi | hi
 ·rw [canL_get hi]
  by_cases hik:i=k
  ·subst hik;rw [List.getElem?_set_self (by rw [canL_length];exact h),if_pos rfl]
  ·rw [List.getElem?_set_ne (by omega),canL_get hi,if_neg hik]
 ·rw [List.getElem?_eq_none (by simp [canL_length];exact hi),List.getElem?_eq_none (by rw [canL_length];exact hi)]
theorem canL_rs {m K:Nat} {f:Nat→Rat} (h:∀i,i < m→Sz K (f i)):RsL K (canL m f):=by
 intro i g hg
 have hi:i < m:=by have:=(List.getElem?_eq_some_iff.1 hg).1;rw [canL_length] at this;exact this
 rw [canL_get hi] at hg
 injection hg with hg
 subst hg
 exact (h i hi).rs
def dQ:List En→(Nat→Rat)→Nat→Rat
 | [],f=>f
 | e::es,f=>dQ es fun i=>if e.idx=(i:Int) then e.f.q else f i
theorem dQ_snoc (es:List En) (e:En) (f:Nat→Rat):dQ (es++[e]) f=fun (i:Nat)=>if e.idx=(i:Int) then e.f.q else dQ es f i:=by
 induction es generalizing f with
 | nil=>rfl
 | cons d es ih=>rw [List.cons_append,dQ,ih];rfl
theorem dQ_take {es:List En} {k:Nat} {e:En} (h:es[k]? =some e) (f:Nat→Rat):dQ (es.take (k+1)) f=fun (i:Nat)=>if e.idx=(i:Int) then e.f.q else dQ (es.take k) f i:=by
 rw [List.take_add_one,h,Option.toList_some,dQ_snoc]
def inR (n:Nat) (es:List En):Prop:=∀(k:Nat) (e:En),es[k]? =some e→0≤e.idx∧e.idx < n
def colQ (es:List En):Nat→Rat:=dQ es fun _=>0
theorem Sz_dQ {es:List En} {f:Nat→Rat} {K:Nat} (h:∀(k:Nat) (e:En),es[k]? =some e→e.f.Rs K) (hK:1≤K) (hf:∀i,Sz K (f i)) (i:Nat):Sz K (dQ es f i):=by
 induction es generalizing f with
 | nil=>exact hf i
 | cons e es ih=>
  rw [dQ]
  refine ih (fun k d hd=>h (k+1) d (by simpa using hd)) (fun i=>?_)
  split
  ·exact (h 0 e rfl).sz hK
  ·exact hf i
theorem Sz_col {es:List En} {K:Nat} (h:∀(k:Nat) (e:En),es[k]? =some e→e.f.Rs K) (hK:1≤K) (i:Nat):Sz K (colQ es i):=Sz_dQ h hK (fun _=>Sz_zero.mono hK) i
end Pl
theorem below_set4' {n g:Nat} {w w':World} (h:Below n w w') (hg:n≤g) (i j k l:Nat) (x y z u:Value):Below n w ((((w'.setCell ⟨g,i,none⟩ x).setCell ⟨g,j,none⟩ y).setCell ⟨g,k,none⟩ z).setCell ⟨g,l,none⟩ u):=(((h.setCell hg _).setCell hg _).setCell hg _).setCell hg _
theorem row_mono {w:World} {base base':Nat} {t:TypeId} {s n:Nat} {v:Value} {xs:List Value} (h:w.ownsRow base t s v n xs) (hb:base'≤base):w.ownsRow base' t s v n xs:=by
 refine ⟨h.1,?_⟩
 rcases h.2 with hn | ⟨g,cap,cur,rfl,hb',rest⟩
 ·exact .inl hn
 ·exact .inr ⟨g,cap,cur,rfl,Nat.le_trans hb hb',rest⟩
namespace Pl
def LPd.col (p:LPd) (j:Int):Nat→Rat:=if 0≤j then (match p.cols[j.toNat]? with | some c=>colQ c | none=>fun _=>0) else fun i=>if (i:Int)= -1 - j then (if qs (qAt p.right i) < 0 then -1 else 1) else 0
theorem LPd.col_pos {p:LPd} {j:Nat} {c:List En} (h:p.cols[j]? =some c):p.col (j:Int)=colQ c:=by
 unfold LPd.col
 rw [if_pos (by omega),Int.toNat_natCast,h]
theorem LPd.col_neg {p:LPd} {r:Nat}:p.col (-1 - (r:Int))=fun i=>if i=r then (if qs (qAt p.right i) < 0 then -1 else 1) else 0:=by
 unfold LPd.col
 rw [if_neg (by omega)]
 funext i
 by_cases h:i=r
 ·rw [if_pos h,if_pos (by omega)]
 ·rw [if_neg h,if_neg (by omega)]
def LPd.In (p:LPd):Prop:=∀(j:Nat) (c:List En),p.cols[j]? =some c→inR p.right.length c
theorem Sz_one:Sz 1 1:=by
 unfold Sz
 exact ⟨digs_lt (by rw [show Int.natAbs (Rat.num 1)=1 from rfl];decide),digs_lt (by rw [show Rat.den 1=1 from rfl];decide)⟩
theorem LPd.Sz_col {p:LPd} {K:Nat} (ok:p.Ok K) (hK:1≤K) (j:Int) (i:Nat):Sz K (p.col j i):=by
 rcases Int.lt_or_le j 0 with h | h
 ·obtain ⟨r,rfl⟩:∃r:Nat,j= -1 - (r:Int):=⟨(-1 - j).toNat,by omega⟩
  rw [LPd.col_neg]
  show Sz K (if i=r then (if qs (qAt p.right i) < 0 then -1 else 1) else 0)
  split
  ·split
   ·exact (Sz_neg Sz_one).mono hK
   ·exact Sz_one.mono hK
  ·exact Sz_zero.mono hK
 ·obtain ⟨r,rfl⟩:=Int.eq_ofNat_of_zero_le h
  cases hc:p.cols[r]? with
  | some c=>rw [LPd.col_pos hc];exact Pl.Sz_col (ok.2.2 _ c hc).2 hK i
  | none=>
   have:p.col (r:Int) i=0:=by unfold LPd.col;rw [if_pos (by omega),Int.toNat_natCast,hc]
   rw [this];exact Sz_zero.mono hK
end Pl
theorem FrsO.far4 {base:Nat} {w:World} {v:Value} {fs:List RF} {g i j k l:Nat} {x y z u:Value} (h:FrsO base w v fs) (hg:g < base):
 ∀W,W=((((w.setCell ⟨g,i,none⟩ x).setCell ⟨g,j,none⟩ y).setCell ⟨g,k,none⟩ z).setCell ⟨g,l,none⟩ u)→KeepBut 48 w W→FrsO base W v fs:=by
 rintro W rfl hk
 obtain ⟨cs,h1,h2⟩:=h
 refine ⟨cs,⟨h1.1,?_⟩,h2.keep (hk.keep (by decide))⟩
 rcases h1.2 with hn | ⟨g',cap,cur,rfl,hb',hgg,rest⟩
 ·exact .inl hn
 ·refine .inr ⟨g',cap,cur,rfl,hb',?_,rest⟩
  have hne:g'≠g:=by omega
  rw [heap_setCell_other _ _ _ _ hne,heap_setCell_other _ _ _ _ hne,heap_setCell_other _ _ _ _ hne,heap_setCell_other _ _ _ _ hne]
  exact hgg
namespace Pl
theorem vErr_in {n:Int} {es:List En} {p:Option Int} (h:vErr n es p=0):∀(k:Nat) (e:En),es[k]? =some e→0≤e.idx∧e.idx < n∧e.f.q≠0:=by
 induction es generalizing p with
 | nil=>intro k e h;simp at h
 | cons d es ih=>
  rw [vErr] at h
  split at h
  ·omega
  ·rename_i h1
   split at h
   ·omega
   ·split at h
    ·omega
    ·rename_i h3
     intro k e hk
     cases k with
     | zero=>simp at hk;subst hk;exact ⟨by omega,by omega,h3⟩
     | succ k=>exact ih h k e (by simpa using hk)
def Inc:Option Int→List En→Prop
 | _,[]=>True
 | p,e::es=>leP p e.idx=false∧Inc (some e.idx) es
theorem vErr_inc {n:Int} {es:List En} {p:Option Int} (h:vErr n es p=0):Inc p es:=by
 induction es generalizing p with
 | nil=>trivial
 | cons d es ih=>
  rw [vErr] at h
  split at h
  ·omega
  ·split at h
   ·omega
   ·rename_i h2
    split at h
    ·omega
    ·exact ⟨by simpa using h2,ih h⟩
theorem vecErr_zero {es:List En} {n:Nat} (h:vecErr es n=0):inR n es∧(∀(k:Nat) (e:En),es[k]? =some e→e.f.q≠0)∧Inc none es:=by
 unfold vecErr at h
 split at h
 ·omega
 ·have:=vErr_in h
  exact ⟨fun k e hk=>⟨(this k e hk).1,(this k e hk).2.1⟩,fun k e hk=>(this k e hk).2.2,vErr_inc h⟩
theorem colsErr_zero {n:Int} {cs:List (List En)} (h:colsErr n cs=0):∀(k:Nat) (c:List En),cs[k]? =some c→vecErr c n=0:=by
 induction cs with
 | nil=>intro k c h;simp at h
 | cons d cs ih=>
  rw [colsErr] at h
  split at h
  ·rename_i h1
   intro k c hk
   cases k with
   | zero=>simp at hk;subst hk;exact h1
   | succ k=>exact ih h k c (by simpa using hk)
  ·rename_i h1;exact absurd h h1
theorem lpErr_zero {p:LPd} (h:lpErr p=0):p.right.length≤64∧p.cols.length≤1200∧p.cost.length=p.cols.length∧p.In∧∀(j:Nat) (c:List En),p.cols[j]? =some c→(∀(k:Nat) (e:En),c[k]? =some e→e.f.q≠0)∧Inc none c:=by
 unfold lpErr at h
 split at h
 ·omega
 ·split at h
  ·omega
  ·refine ⟨by omega,by omega,by omega,fun j c hc=>(vecErr_zero (colsErr_zero h j c hc)).1,fun j c hc=>(vecErr_zero (colsErr_zero h j c hc)).2⟩
end Pl
namespace Pl
def alongQ (es:List En) (ys:List RF) (k:Nat):Rat:=sumN (fun i=>match es[i]? with | some e=>e.f.q * qAt ys e.idx.toNat | none=>0) k
theorem alongQ_succ {es:List En} {k:Nat} {e:En} (h:es[k]? =some e) (ys:List RF):alongQ es ys (k+1)=alongQ es ys k+e.f.q * qAt ys e.idx.toNat:=by
 unfold alongQ
 rw [sumN_succ,h]
theorem Sz_along {es:List En} {ys:List RF} {K:Nat} (he:∀(k:Nat) (e:En),es[k]? =some e→e.f.Rs K) (hy:RsL K ys) (hK:1≤K) (k:Nat):Sz (1+k * (2 * K+1)) (alongQ es ys k):=
 Sz_sum fun i _=>by
  split
  ·rename_i e h
   exact (Sz_mul ((he i e h).sz hK) (hy.qAt hK _)).mono (by omega)
  ·exact Sz_zero.mono (by omega)
end Pl
def zfc (n:Nat):Array Value:=madeCells (Value.cells (.agg #[.bool false,.slice none 0 0,.bool false,.slice none 0 0])) (n * 4)
theorem zfc_at {n k j:Nat} (hk:k < n) (hj:j < 4):(zfc n)[k * 4+j]? =([.bool false,.slice none 0 0,.bool false,.slice none 0 0]:List Value)[j]? :=by
 have hlt:k * 4+j < n * 4:=by omega
 have hm:(k * 4+j) % 4=j:=by omega
 unfold zfc madeCells
 simp [hlt,Value.cells,hm]
 match j,hj with
 | 0,_=>rfl
 | 1,_=>rfl
 | 2,_=>rfl
 | 3,_=>rfl
theorem FrsO.zeros (w:World) (n:Nat) (hn:n≤maxLen):FrsO w.heap.size (w.alloc (.cells (zfc n) 48)) (.slice (some ⟨w.heap.size,0,none⟩) n n) (List.replicate n zeroF):=by
 have hsz:(zfc n).size=n * 4:=size_madeCells _ _
 refine ⟨(zfc n).toList,⟨by simp [hsz],.inr ⟨w.heap.size,n,zfc n,by simp,Nat.le_refl _,heap_alloc_new w _,by simp,hn,hsz,?_⟩⟩,by simp [hsz],fun k f hf=>?_⟩
 ·rw [List.take_of_length_le (by simp [hsz])]
 ·rw [List.getElem?_replicate] at hf
  split at hf
  ·rename_i hk
   injection hf with hf
   subst hf
   refine ⟨_,_,_,_,?_,?_,?_,?_,FracM.zero _⟩
   ·have:=zfc_at (j:=0) hk (by decide);simpa using this
   ·have:=zfc_at (j:=1) hk (by decide);simpa using this
   ·have:=zfc_at (j:=2) hk (by decide);simpa using this
   ·have:=zfc_at (j:=3) hk (by decide);simpa using this
  ·cases hf
theorem make_frac (n:Nat) (hn:n≤1099511627776) (w:World):
 (Instr.makeSlice 23 (.int .i64 (n:Int)) (.int .i64 (n:Int))).run Tryz.prog w= .ok (.slice (some ⟨w.heap.size,0,none⟩) n n) (w.alloc (.cells (zfc n) 48)):=by
 obtain ⟨i0,hi,hz0,hz1,hz2⟩:=info_parts info_frac
 have hb:(i0.bytes:Int) * (n:Int)≤281474976710656:=by rw [hz2];omega
 have hr:=run_make (P:=Tryz.prog) w 23 48 i0 _ Tryz.underlying23 hi hz0 .i64 .i64 n n (by omega) (by omega) hb (by omega)
 simp only [Int.toNat_natCast,hz1] at hr
 exact hr
namespace Pl
theorem zeroF_q:zeroF.q=0:=by unfold RF.q zeroF;rw [canI_z,Rat.divInt_zero]
theorem zeroF_rs (K:Nat):zeroF.Rs K:=by unfold RF.Rs zeroF;simp [val_canI,digs_zero]
theorem Inc_gt {es:List En} {p:Option Int} (h:Inc p es):∀(k:Nat) (e:En),es[k]? =some e→∀i,p=some i→i < e.idx:=by
 induction es generalizing p with
 | nil=>intro k e hk;simp at hk
 | cons d es ih=>
  intro k e hk i hp
  have h1:i < d.idx:=by
   have:=h.1
   subst hp
   simp [leP] at this
   exact this
  cases k with
  | zero=>simp at hk;subst hk;exact h1
  | succ k=>
   have:=ih h.2 k e (by simpa using hk) d.idx rfl
   omega
theorem Inc_lt {es:List En} {p:Option Int} (h:Inc p es):∀(i j:Nat) (d e:En),i < j→es[i]? =some d→es[j]? =some e→d.idx < e.idx:=by
 induction es generalizing p with
 | nil=>intro i j d e _ hi;simp at hi
 | cons c es ih=>
  intro i j d e hij hi hj
  cases i with
  | zero=>
   simp at hi
   subst hi
   cases j with
   | zero=>omega
   | succ j=>exact Inc_gt h.2 j e (by simpa using hj) c.idx rfl
  | succ i=>
   cases j with
   | zero=>omega
   | succ j=>exact ih h.2 i j d e (by omega) (by simpa using hi) (by simpa using hj)
theorem dQ_off {es:List En} {f:Nat→Rat} {i:Nat} (h:∀(k:Nat) (e:En),es[k]? =some e→e.idx≠(i:Int)):dQ es f i=f i:=by
 induction es generalizing f with
 | nil=>rfl
 | cons e es ih=>
  rw [dQ,ih fun k d hd=>h (k+1) d (by simpa using hd),if_neg (h 0 e rfl)]
theorem dQ_fresh {es:List En} {k:Nat} {e:En} (hinc:Inc none es) (he:es[k]? =some e) {f:Nat→Rat} {i:Nat} (hi:e.idx=(i:Int)):dQ (es.take k) f i=f i:=by
 apply dQ_off
 intro j d hd
 rw [List.getElem?_take] at hd
 split at hd
 ·rename_i hj
  have:=Inc_lt hinc j k d e hj hd he
  omega
 ·cases hd
end Pl
namespace Pl
theorem sumN_add (f g:Nat→Rat) (n:Nat):sumN (fun i=>f i+g i) n=sumN f n+sumN g n:=by
 induction n with
 | zero=>simp [sumN_zero,Rat.add_zero]
 | succ n ih=>rw [sumN_succ,sumN_succ,sumN_succ,ih];grind
theorem sumN_mul (c:Rat) (f:Nat→Rat) (n:Nat):sumN (fun i=>c * f i) n=c * sumN f n:=by
 induction n with
 | zero=>simp [sumN_zero,Rat.mul_zero]
 | succ n ih=>rw [sumN_succ,sumN_succ,ih];grind
theorem sumN_const0 (n:Nat):sumN (fun _=>0) n=0:=by
 induction n with
 | zero=>rfl
 | succ n ih=>rw [sumN_succ,ih,Rat.add_zero]
theorem sumN_swap (f:Nat→Nat→Rat) (n m:Nat):sumN (fun i=>sumN (fun j=>f i j) m) n=sumN (fun j=>sumN (fun i=>f i j) n) m:=by
 induction n with
 | zero=>simp only [sumN_zero];rw [sumN_const0]
 | succ n ih=>
  rw [sumN_succ,ih,← sumN_add]
  rfl
theorem sumN_le {f g:Nat→Rat} {n:Nat} (h:∀i,i < n→f i≤g i):sumN f n≤sumN g n:=by
 induction n with
 | zero=>exact Rat.le_refl
 | succ n ih=>
  have h1:=ih fun i hi=>h i (by omega)
  have h2:=h n (by omega)
  rw [sumN_succ,sumN_succ]
  grind
theorem sumN_one {n k:Nat} (hk:k < n) (c:Rat):sumN (fun i=>if i=k then c else 0) n=c:=by
 induction n with
 | zero=>omega
 | succ n ih=>
  rw [sumN_succ]
  by_cases h:n=k
  ·subst h
   rw [if_pos rfl,sumN_congr (g:=fun _=>0) (fun i hi=>if_neg (by omega)),sumN_const0,Rat.zero_add]
  ·rw [if_neg h,ih (by omega),Rat.add_zero]
def dotC (ys:List RF) (f:Nat→Rat) (m:Nat):Rat:=sumN (fun i=>qAt ys i * f i) m
theorem dotC_canL {ys:List RF} {f:Nat→Rat} {m:Nat}:dotQ ys (canL m f) m=dotC ys f m:=sumN_congr fun i hi=>by rw [canL_qAt hi]
theorem alongQ_part {es:List En} {ys:List RF} {m:Nat} (hin:inR m es) (hinc:Inc none es):∀k,k≤es.length→alongQ es ys k=dotC ys (dQ (es.take k) fun _=>0) m:=by
 intro k
 induction k with
 | zero=>
  intro _
  show 0=_
  unfold dotC
  rw [sumN_congr (g:=fun _=>0) (fun i _=>by simp [dQ,Rat.mul_zero]),sumN_const0]
 | succ k ih=>
  intro hk
  obtain ⟨e,he⟩:∃e,es[k]? =some e:=⟨es[k],List.getElem?_eq_getElem (by omega)⟩
  obtain ⟨h0,h1⟩:=hin k e he
  obtain ⟨d,hd⟩:=Int.eq_ofNat_of_zero_le h0
  have hdm:d < m:=by omega
  rw [alongQ_succ he,ih (by omega),dQ_take he]
  have hf:dQ (es.take k) (fun _=>0) d=0:=dQ_fresh hinc he hd
  have:dotC ys (fun i=>if e.idx=(i:Int) then e.f.q else dQ (es.take k) (fun _=>0) i) m=sumN (fun i=>qAt ys i * dQ (es.take k) (fun _=>0) i+if i=d then qAt ys d * e.f.q else 0) m:=sumN_congr fun i _=>by
   show qAt ys i * (if e.idx=(i:Int) then e.f.q else dQ (es.take k) (fun _=>0) i)=_
   by_cases hi:i=d
   ·subst hi;rw [if_pos hd,if_pos rfl,hf];grind
   ·rw [if_neg (show ¬e.idx=(i:Int) by omega),if_neg hi,Rat.add_zero]
  rw [this,sumN_add,sumN_one hdm]
  unfold dotC
  rw [hd,Int.toNat_natCast,Rat.mul_comm e.f.q]
theorem qs_neg {q:Rat}:qs q < 0↔q < 0:=by
 have h:qs q < 0↔q.num < 0:=by unfold qs sgn;split <;> rename_i h <;> (try split) <;> omega
 rw [h,← Rat.not_le,← Rat.num_nonneg];omega
theorem qs_pos {q:Rat}:0 < qs q↔0 < q:=by
 have h:0 < qs q↔0 < q.num:=by unfold qs sgn;split <;> rename_i h <;> (try split) <;> omega
 have h2:q.num=0↔q=0:=Rat.num_eq_zero
 have h3:0≤q.num↔0≤q:=Rat.num_nonneg
 rw [h]
 constructor
 ·intro g
  have:q≠0:=fun e=>by have:=h2.2 e;omega
  have:=h3.1 (by omega)
  grind
 ·intro g
  have h4:q.num≠0:=fun e=>by have:=h2.1 e;grind
  have:=h3.2 (by grind)
  omega
end Pl
namespace Pl
theorem sumN_sub (f g:Nat→Rat) (n:Nat):sumN (fun i=>f i - g i) n=sumN f n - sumN g n:=by
 induction n with
 | zero=>rw [sumN_zero,sumN_zero,sumN_zero];grind
 | succ n ih=>rw [sumN_succ,sumN_succ,sumN_succ,ih];grind
theorem sumN_all0 {f:Nat→Rat} {n:Nat} (h:∀i,i < n→f i=0):sumN f n=0:=by
 rw [sumN_congr h];exact sumN_const0 n
theorem sumN_single {f:Nat→Rat} {n k:Nat} (hk:k < n) (h:∀i,i < n→i≠k→f i=0):sumN f n=f k:=by
 rw [sumN_congr (g:=fun i=>if i=k then f k else 0) fun i hi=>?_]
 ·exact sumN_one hk (f k)
 ·by_cases e:i=k
  ·rw [if_pos e,e]
  ·rw [if_neg e,h i hi e]
theorem sumN_ext {f:Nat→Rat} {n m:Nat} (hm:n≤m) (h:∀i,n≤i→i < m→f i=0):sumN f m=sumN f n:=by
 induction m with
 | zero=>
  obtain rfl:n=0:=by omega
  rfl
 | succ m ih=>
  rcases Nat.lt_or_ge n (m+1) with e | e
  ·rw [sumN_succ,h m (by omega) (by omega),ih (by omega) fun i h1 h2=>h i h1 (by omega)];grind
  ·obtain rfl:n=m+1:=by omega
   rfl
def rowS (m:Nat) (M:Mx) (y:Nat→Rat) (r:Nat):Rat:=sumN (fun c=>M r c * y c) m
def SolM (m:Nat) (M:Mx) (y:Nat→Rat):Prop:=∀r,r < m→rowS m M y r=M r m
def UnitTo (m k:Nat) (M:Mx):Prop:=∀r c,r < m→c < k→M r c=if r=c then 1 else 0
theorem rowS_comb {m:Nat} {A B C:Mx} {y:Nat→Rat} {r s t:Nat} {a b:Rat} (h:∀c,c < m→A r c=a * B s c+b * C t c):rowS m A y r=a * rowS m B y s+b * rowS m C y t:=by
 unfold rowS
 rw [← sumN_mul,← sumN_mul,← sumN_add]
 exact sumN_congr fun c hc=>by rw [h c hc];grind
theorem SolM.swap {m k t:Nat} {M:Mx} {y:Nat→Rat} (hk:k < m) (ht:t < m):SolM m (swapM M k t) y↔SolM m M y:=by
 have key:∀N:Mx,SolM m N y→SolM m (swapM N k t) y:=fun N h r hr=>by
  unfold rowS swapM
  by_cases e1:r=k
  ·simp only [if_pos e1];exact h t ht
  ·by_cases e2:r=t
   ·simp only [if_neg e1,if_pos e2];exact h k hk
   ·simp only [if_neg e1,if_neg e2];exact h r hr
 refine ⟨fun h=>?_,key M⟩
 have:=key _ h
 have e:swapM (swapM M k t) k t=M:=by
  funext r c
  unfold swapM
  by_cases e1:r=k
  ·subst e1;simp only [if_pos]
   by_cases e2:t=r
   ·subst e2;simp
   ·simp [e2]
  ·by_cases e2:r=t
   ·subst e2;simp [e1]
   ·simp [e1,e2]
 rwa [e] at this
theorem SolM.scale {m k:Nat} {M:Mx} {y:Nat→Rat} {f:Rat} (hk:k < m) (hf:f≠0) (hz:∀c,c < k→M k c=0):SolM m (scaleTo M k (m+1) f) y↔SolM m M y:=by
 have hrow:∀r,r < m→r≠k→∀c,scaleTo M k (m+1) f r c=M r c:=fun r _ hne c=>by unfold scaleTo;rw [if_neg (by omega)]
 have hkk:∀c,c < m+1→scaleTo M k (m+1) f k c=M k c / f:=fun c hc=>by
  unfold scaleTo
  by_cases e:k≤c
  ·rw [if_pos ⟨rfl,e,hc⟩]
  ·rw [if_neg (by omega),hz c (by omega)];grind
 have hs:rowS m (scaleTo M k (m+1) f) y k=rowS m M y k / f:=by
  rw [rowS_comb (B:=M) (C:=M) (s:=k) (t:=k) (a:=1 / f) (b:=0) fun c hc=>by rw [hkk c (by omega)];grind]
  grind
 constructor
 ·intro h r hr
  by_cases e:r=k
  ·subst e
   have:=h r hr
   rw [hs,hkk m (by omega)] at this
   have h2:rowS m M y r / f * f=M r m / f * f:=by rw [this]
   rwa [Rat.div_mul_cancel hf,Rat.div_mul_cancel hf] at h2
  ·have:=h r hr
   rw [hrow r hr e] at this
   rw [← this]
   unfold rowS
   exact sumN_congr fun c _=>by rw [hrow r hr e]
 ·intro h r hr
  by_cases e:r=k
  ·subst e
   rw [hs,hkk m (by omega),h r hr]
  ·rw [hrow r hr e,← h r hr]
   unfold rowS
   exact sumN_congr fun c _=>by rw [hrow r hr e]
theorem SolM.elim {m k:Nat} {M:Mx} {y:Nat→Rat} (hk:k < m) (hz:∀c,c < k→M k c=0):SolM m (elimAll M k m m) y↔SolM m M y:=by
 have hkr:∀c,elimAll M k m m k c=M k c:=fun c=>elimAll_row c
 have hr':∀r,r < m→r≠k→∀c,c≤m→elimAll M k m m r c=M r c - M r k * M k c:=fun r hr hne c hc=>by
  unfold elimAll
  by_cases e:k≤c
  ·rw [if_pos ⟨hne,hr,e,hc⟩]
  ·rw [if_neg (by omega),hz c (by omega)];grind
 have hs:∀r,r < m→r≠k→rowS m (elimAll M k m m) y r=rowS m M y r - M r k * rowS m M y k:=fun r hr hne=>by
  rw [rowS_comb (B:=M) (C:=M) (s:=r) (t:=k) (a:=1) (b:= -(M r k)) fun c hc=>by rw [hr' r hr hne c (by omega)];grind]
  grind
 have hsk:rowS m (elimAll M k m m) y k=rowS m M y k:=sumN_congr fun c _=>by rw [hkr]
 constructor
 ·intro h
  have h0:rowS m M y k=M k m:=by rw [← hsk,h k hk,hkr]
  intro r hr
  by_cases e:r=k
  ·subst e;exact h0
  ·have:=h r hr
   rw [hs r hr e,hr' r hr e m (Nat.le_refl _),h0] at this
   grind
 ·intro h r hr
  by_cases e:r=k
  ·subst e;rw [hsk,hkr];exact h r hr
  ·rw [hs r hr e,hr' r hr e m (Nat.le_refl _),h r hr,h k hk]
theorem gjStep_sol {m k:Nat} {M M':Mx} (hk:k < m) (hu:UnitTo m k M) (e:gjStep M k m=some M'):UnitTo m (k+1) M'∧∀y,SolM m M' y↔SolM m M y:=by
 unfold gjStep at e
 cases hf:findP M k m with
 | none=>rw [hf] at e;cases e
 | some t=>
  rw [hf] at e
  injection e with e
  obtain ⟨h1,h2,h3⟩:=findP_is hf
  have hS:∀c,swapM M k t k c=M t c:=fun c=>by unfold swapM;rw [if_pos rfl]
  have hp:swapM M k t k k≠0:=by rw [hS];exact h3
  have us:UnitTo m k (swapM M k t):=fun r c hr hc=>by
   unfold swapM
   by_cases e1:r=k
   ·rw [if_pos e1,hu t c h2 hc,if_neg (by omega),if_neg (by omega)]
   ·rw [if_neg e1]
    by_cases e2:r=t
    ·rw [if_pos e2,hu k c hk hc,if_neg (by omega),if_neg (by omega)]
    ·rw [if_neg e2];exact hu r c hr hc
  have hz:∀c,c < k→swapM M k t k c=0:=fun c hc=>by rw [us k c hk hc,if_neg (by omega)]
  have hsw:∀y,SolM m (swapM M k t) y↔SolM m M y:=fun y=>SolM.swap hk h2
  generalize swapM M k t=N at *
  obtain ⟨f,hfk⟩:∃f,N k k=f:=⟨_,rfl⟩
  rw [hfk] at hp e
  have hz2:∀c,c < k→scaleTo N k (m+1) f k c=0:=fun c hc=>by unfold scaleTo;rw [if_neg (by omega)];exact hz c hc
  have hkk:scaleTo N k (m+1) f k k=1:=by
   unfold scaleTo
   rw [if_pos ⟨rfl,Nat.le_refl _,by omega⟩,hfk]
   rw [Rat.div_def];exact Rat.mul_inv_cancel f hp
  have u2:UnitTo m k (scaleTo N k (m+1) f):=fun r c hr hc=>by
   unfold scaleTo;rw [if_neg (by omega)];exact us r c hr hc
  have hsc:∀y,SolM m (scaleTo N k (m+1) f) y↔SolM m N y:=fun y=>SolM.scale hk hp hz
  generalize scaleTo N k (m+1) f=Q at *
  subst e
  refine ⟨fun r c hr hc=>?_,fun y=>(SolM.elim hk hz2).trans ((hsc y).trans (hsw y))⟩
  by_cases ec:c=k
  ·subst ec
   by_cases er:r=c
   ·subst er;rw [elimAll_row,hkk,if_pos rfl]
   ·unfold elimAll
    rw [if_pos ⟨er,hr,Nat.le_refl _,by omega⟩,hkk,if_neg er];grind
  ·unfold elimAll
   rw [if_neg (by omega)]
   exact u2 r c hr (by omega)
theorem gj_sol {m:Nat} {M:Mx}:∀{k:Nat} {M':Mx},k≤m→gj M m k=some M'→UnitTo m k M'∧∀y,SolM m M' y↔SolM m M y
 | 0,M',_,e=>by
  unfold gj at e
  injection e with e
  subst e
  exact ⟨fun r c _ hc=>by omega,fun y=>Iff.rfl⟩
 | k+1,M',hk,e=>by
  unfold gj at e
  cases hg:gj M m k with
  | none=>rw [hg] at e;cases e
  | some N=>
   rw [hg] at e
   obtain ⟨h1,h2⟩:=gj_sol (by omega) hg
   obtain ⟨h3,h4⟩:=gjStep_sol (by omega) h1 e
   exact ⟨h3,fun y=>(h4 y).trans (h2 y)⟩
theorem sol_unit {m:Nat} {M:Mx} (hu:UnitTo m m M) (y:Nat→Rat):SolM m M y↔∀r,r < m→y r=M r m:=by
 have key:∀r,r < m→rowS m M y r=y r:=fun r hr=>by
  unfold rowS
  rw [sumN_single hr fun i hi hne=>by rw [hu r i hr hi,if_neg (fun e=>hne e.symm)];grind,hu r r hr hr,if_pos rfl];grind
 exact ⟨fun h r hr=>by rw [← key r hr];exact h r hr,fun h r hr=>by rw [key r hr];exact h r hr⟩
def mulC (m:Nat) (cols:Mx) (y:Nat→Rat) (r:Nat):Rat:=sumN (fun c=>cols c r * y c) m
theorem sol_aug {m:Nat} {cols:Mx} {b y:Nat→Rat}:SolM m (augM m cols b) y↔∀r,r < m→mulC m cols y r=b r:=by
 have key:∀r,rowS m (augM m cols b) y r=mulC m cols y r:=fun r=>sumN_congr fun c hc=>by unfold augM;rw [if_pos hc]
 have key2:∀r,augM m cols b r m=b r:=fun r=>by unfold augM;rw [if_neg (by omega)]
 exact ⟨fun h r hr=>by rw [← key,h r hr,key2],fun h r hr=>by rw [key,h r hr,key2]⟩
theorem solveQ_iff {m:Nat} {cols:Mx} {b x:Nat→Rat} (h:solveQ m cols b=some x) (y:Nat→Rat):(∀r,r < m→mulC m cols y r=b r)↔∀k,k < m→y k=x k:=by
 unfold solveQ at h
 cases hg:gj (augM m cols b) m m with
 | none=>rw [hg] at h;cases h
 | some M=>
  rw [hg] at h
  injection h with h
  subst h
  obtain ⟨h1,h2⟩:=gj_sol (Nat.le_refl m) hg
  rw [← sol_aug,← h2 y,sol_unit h1]
theorem mulC_zero (m:Nat) (cols:Mx) (r:Nat):mulC m cols (fun _=>0) r=0:=sumN_all0 fun c _=>by grind
def Indep (m:Nat) (cols:Mx):Prop:=∀y:Nat→Rat,(∀r,r < m→mulC m cols y r=0)→∀k,k < m→y k=0
theorem indep_of_some {m:Nat} {cols:Mx} {b x:Nat→Rat} (h:solveQ m cols b=some x):Indep m cols:=by
 have hs:=solveQ_some (m:=m) (cols:=cols) b fun _=>0
 rw [h] at hs
 obtain ⟨z,hz⟩:=Option.isSome_iff_exists.1 hs.symm
 have h0:=(solveQ_iff hz fun _=>0).1 fun r _=>mulC_zero m cols r
 intro y hy k hk
 rw [(solveQ_iff hz y).1 hy k hk,← h0 k hk]
theorem LeftZero_step {m k:Nat} {M M':Mx} (h:∀r,r < m→M r m=0) (hk:k < m) (e:gjStep M k m=some M'):∀r,r < m→M' r m=0:=by
 unfold gjStep at e
 cases hf:findP M k m with
 | none=>rw [hf] at e;cases e
 | some t=>
  rw [hf] at e
  injection e with e
  obtain ⟨h1,h2,h3⟩:=findP_is hf
  have hs:∀r,r < m→swapM M k t r m=0:=fun r hr=>by
   unfold swapM;split
   ·exact h t h2
   ·split
    ·exact h k hk
    ·exact h r hr
  generalize swapM M k t=N at *
  have hc:∀r,r < m→scaleTo N k (m+1) (N k k) r m=0:=fun r hr=>by
   unfold scaleTo;split
   ·rw [hs r hr];grind
   ·exact hs r hr
  generalize scaleTo N k (m+1) (N k k)=Q at *
  subst e
  intro r hr
  unfold elimAll;split
  ·rw [hc r hr,hc k hk];grind
  ·exact hc r hr
theorem gj_zero {m:Nat} {M:Mx} (h:∀r,r < m→M r m=0):∀{k:Nat} {M':Mx},k≤m→gj M m k=some M'→∀r,r < m→M' r m=0
 | 0,M',_,e=>by unfold gj at e;injection e with e;subst e;exact h
 | k+1,M',hk,e=>by
  unfold gj at e
  cases hg:gj M m k with
  | none=>rw [hg] at e;cases e
  | some N=>rw [hg] at e;exact LeftZero_step (gj_zero h (by omega) hg) (by omega) e
theorem gj_stop {m:Nat} {M:Mx}:∀{n:Nat},n≤m→gj M m n=none→∃k N,k < n∧gj M m k=some N∧findP N k m=none
 | 0,_,e=>by unfold gj at e;cases e
 | n+1,hn,e=>by
  cases hg:gj M m n with
  | none=>
   obtain ⟨k,N,h1,h2,h3⟩:=gj_stop (by omega) hg
   exact ⟨k,N,by omega,h2,h3⟩
  | some N=>
   refine ⟨n,N,by omega,hg,?_⟩
   unfold gj at e
   rw [hg] at e
   simp only at e
   unfold gjStep at e
   cases hf:findP N n m with
   | none=>rfl
   | some t=>rw [hf] at e;cases e
theorem dep_of_none {m:Nat} {cols:Mx} {b:Nat→Rat} (h:solveQ m cols b=none):¬Indep m cols:=by
 have hs:=solveQ_some (m:=m) (cols:=cols) b fun _=>0
 rw [h] at hs
 have h0:solveQ m cols (fun _=>0)=none:=by
  cases e:solveQ m cols (fun _=>0) with
  | none=>rfl
  | some x=>rw [e] at hs;cases hs
 unfold solveQ at h0
 have hg:gj (augM m cols fun _=>0) m m=none:=by
  cases e:gj (augM m cols fun _=>0) m m with
  | none=>rfl
  | some x=>rw [e] at h0;cases h0
 obtain ⟨k,N,hk,hN,hf⟩:=gj_stop (Nat.le_refl m) hg
 obtain ⟨h1,h2⟩:=gj_sol (by omega) hN
 have hz:=findP_zero hf
 have hr:=gj_zero (fun r _=>by unfold augM;rw [if_neg (by omega)]) (by omega) hN
 intro hi
 have hy:SolM m N (fun c=>if c < k then -(N c k) else if c=k then 1 else 0):=fun r hrm=>by
  rw [hr r hrm]
  show sumN (fun c=>N r c * (if c < k then -(N c k) else if c=k then 1 else 0)) m=0
  rw [sumN_ext (n:=k+1) (by omega) fun i i1 i2=>by rw [if_neg (by omega),if_neg (by omega)];grind,sumN_succ,if_neg (Nat.lt_irrefl k),if_pos rfl]
  rcases Nat.lt_or_ge r k with hrk | hrk
  ·rw [sumN_single hrk fun i hi2 hne=>by rw [h1 r i hrm hi2,if_neg (fun e=>hne e.symm)];grind,h1 r r hrm hrk,if_pos rfl,if_pos hrk];grind
  ·rw [sumN_all0 fun i hi2=>by rw [h1 r i hrm hi2,if_neg (by omega)];grind,hz r hrk hrm];grind
 have:=hi _ (sol_aug.1 ((h2 _).1 hy)) k hk
 simp at this
theorem some_of_indep {m:Nat} {cols:Mx} (h:Indep m cols) (b:Nat→Rat):∃x,solveQ m cols b=some x:=by
 cases e:solveQ m cols b with
 | none=>exact absurd h (dep_of_none e)
 | some x=>exact ⟨x,rfl⟩
theorem solveQ_eq {m:Nat} {cols:Mx} {b x:Nat→Rat} (hi:Indep m cols) (hx:∀r,r < m→mulC m cols x r=b r):∃z,solveQ m cols b=some z∧∀k,k < m→z k=x k:=by
 obtain ⟨z,hz⟩:=some_of_indep hi b
 exact ⟨z,hz,fun k hk=>((solveQ_iff hz x).1 hx k hk).symm⟩
end Pl
namespace Pl
def spV (f:Nat→Rat):Nat→List En
 | 0=>[]
 | n+1=>if f n=0 then spV f n else spV f n++[⟨(n:Int),canF (f n)⟩]
theorem spV_skip {f:Nat→Rat} {n:Nat} (h:f n=0):spV f (n+1)=spV f n:=by unfold spV;rw [if_pos h];cases n <;> rfl
theorem spV_next {f:Nat→Rat} {n:Nat} (h:f n≠0):spV f (n+1)=spV f n++[⟨(n:Int),canF (f n)⟩]:=by rw [spV,if_neg h]
theorem spV_congr {f g:Nat→Rat}:∀{n:Nat},(∀i,i < n→f i=g i)→spV f n=spV g n
 | 0,_=>rfl
 | n+1,h=>by rw [spV,spV,h n (by omega),spV_congr fun i hi=>h i (by omega)]
theorem spV_length {f:Nat→Rat}:∀(n:Nat),(spV f n).length≤n
 | 0=>Nat.le_refl _
 | n+1=>by
  have:=spV_length (f:=f) n
  by_cases h:f n=0
  ·rw [spV_skip h];omega
  ·rw [spV_next h,List.length_append];simp;omega
theorem spV_mem {f:Nat→Rat}:∀{n k:Nat} {e:En},(spV f n)[k]? =some e→∃i:Nat,i < n∧e.idx=(i:Int)∧e.f=canF (f i)∧f i≠0
 | 0,k,e,h=>by simp [spV] at h
 | n+1,k,e,h=>by
  by_cases h0:f n=0
  ·rw [spV_skip h0] at h
   obtain ⟨i,h1,h2⟩:=spV_mem h
   exact ⟨i,by omega,h2⟩
  ·rw [spV_next h0] at h
   rcases Nat.lt_or_ge k (spV f n).length with hk | hk
   ·rw [List.getElem?_append_left hk] at h
    obtain ⟨i,h1,h2⟩:=spV_mem h
    exact ⟨i,by omega,h2⟩
   ·rw [List.getElem?_append_right hk] at h
    have hk':k - (spV f n).length=0:=by
     rcases Nat.eq_zero_or_pos (k - (spV f n).length) with e | e
     ·exact e
     ·rw [List.getElem?_eq_none (by simp;omega)] at h;cases h
    rw [hk'] at h
    simp at h
    subst h
    exact ⟨n,by omega,rfl,rfl,h0⟩
theorem spV_inR (f:Nat→Rat) (n:Nat):inR n (spV f n):=fun k e h=>by
 obtain ⟨i,h1,h2,_⟩:=spV_mem h
 omega
theorem spV_dQ (f:Nat→Rat):∀(n i:Nat),colQ (spV f n) i=if i < n then f i else 0
 | 0,i=>by rw [if_neg (by omega)];rfl
 | n+1,i=>by
  have ih:=spV_dQ f n i
  by_cases h0:f n=0
  ·rw [spV_skip h0,ih]
   by_cases e:i < n
   ·rw [if_pos e,if_pos (by omega)]
   ·rw [if_neg e]
    by_cases e2:i=n
    ·subst e2;rw [if_pos (by omega),h0]
    ·rw [if_neg (by omega)]
  ·rw [spV_next h0]
   unfold colQ at ih ⊢
   rw [dQ_snoc]
   simp only
   by_cases e:(n:Int)=(i:Int)
   ·obtain rfl:n=i:=by omega
    rw [if_pos e,if_pos (by omega),canF_q]
   ·rw [if_neg e,ih]
    by_cases e2:i < n
    ·rw [if_pos e2,if_pos (by omega)]
    ·rw [if_neg e2,if_neg (by omega)]
def Good (n:Nat) (es:List En):Prop:=inR n es∧Inc none es∧∀(k:Nat) (e:En),es[k]? =some e→e.f.q≠0
theorem Inc_add {p:Option Int} {es:List En} {e:En} (h:Inc p es) (h1:leP p e.idx=false) (h2:∀(k:Nat) (d:En),es[k]? =some d→d.idx < e.idx):Inc p (es++[e]):=by
 induction es generalizing p with
 | nil=>exact ⟨h1,trivial⟩
 | cons d es ih=>
  refine ⟨h.1,ih h.2 ?_ fun k d' hd=>h2 (k+1) d' (by simpa using hd)⟩
  have:=h2 0 d rfl
  simp [leP];omega
theorem spV_Inc (f:Nat→Rat):∀(n:Nat),Inc none (spV f n)
 | 0=>trivial
 | n+1=>by
  by_cases h0:f n=0
  ·rw [spV_skip h0];exact spV_Inc f n
  ·rw [spV_next h0]
   exact Inc_add (spV_Inc f n) rfl fun k d hd=>by
    obtain ⟨i,h1,h2,_⟩:=spV_mem hd
    show d.idx < (n:Int)
    omega
theorem spV_good (f:Nat→Rat) (n:Nat):Good n (spV f n):=⟨spV_inR f n,spV_Inc f n,fun k e h=>by
 obtain ⟨i,h1,h2,h3,h4⟩:=spV_mem h
 rw [h3,canF_q];exact h4⟩
theorem vErr_good {n:Int} {es:List En} {p:Option Int} (h1:∀(k:Nat) (e:En),es[k]? =some e→0≤e.idx∧e.idx < n) (h2:Inc p es) (h3:∀(k:Nat) (e:En),es[k]? =some e→e.f.q≠0):vErr n es p=0:=by
 induction es generalizing p with
 | nil=>rfl
 | cons e es ih=>
  have a:=h1 0 e rfl
  rw [vErr,if_neg (by omega),if_neg (by rw [h2.1];decide),if_neg (h3 0 e rfl)]
  exact ih (fun k d hd=>h1 (k+1) d (by simpa using hd)) h2.2 fun k d hd=>h3 (k+1) d (by simpa using hd)
theorem Good.err {n:Nat} {es:List En} (h:Good n es) (hn:n≤4096):vecErr es (n:Int)=0:=by
 unfold vecErr
 rw [if_neg (by omega)]
 exact vErr_good h.1 h.2.1 h.2.2
theorem spV_rs {f:Nat→Rat} {n K:Nat} (h:∀i,i < n→Sz K (f i)):∀(k:Nat) (e:En),(spV f n)[k]? =some e→e.f.Rs K:=fun k e he=>by
 obtain ⟨i,h1,h2,h3,h4⟩:=spV_mem he
 rw [h3];exact (h i h1).rs
end Pl
end Go.Proofs.YtncmobkhenfhpaaGreat
