/- Contracts that the claim is built on; no condition. -/
import Derived.Test.YtncmobkhenfhpaaGreatD13
set_option linter.unusedVariables false
set_option linter.unusedSimpArgs false
set_option maxRecDepth 100000
set_option maxHeartbeats 40000000
namespace Go.Proofs.YtncmobkhenfhpaaGreat
open Go.RowKit
open Pl
attribute [local go_sem ↓] Go.wp_at_zero Go.wp_at_succ
namespace Pl
def Yl (m:Nat) (f:Nat→Rat):List RF:=(List.range m).map fun i=>canF (f i)
theorem Zn (m:Nat) (f:Nat→Rat):(Yl m f).length=m:=by simp [Yl]
theorem ZC {m i:Nat} {f:Nat→Rat} (h:i < m):(Yl m f)[i]? =some (canF (f i)):=by simp [Yl,h]
theorem YL {m i:Nat} {f:Nat→Rat} (h:i < m):qAt (Yl m f) i=f i:=by rw [Yv (ZC h),Zt]
theorem Z4 {m:Nat} {f g:Nat→Rat} (h:∀i,i < m→f i=g i):Yl m f=Yl m g:=by
 unfold Yl;apply List.map_congr_left;intro i hi;rw [h i (List.mem_range.1 hi)]
theorem Vh {m k:Nat} {f:Nat→Rat} {q:Rat} (h:k < m):(Yl m f).set k (canF q)=Yl m fun i=>if i=k then q else f i:=by
 apply List.ext_getElem?;intro i;rcases Nat.lt_or_ge i m with hi | hi
 ·rw [ZC hi];by_cases a:i=k
  ·subst a;rw [List.getElem?_set_self (by rw [Zn];exact h),if_pos rfl]
  ·rw [List.getElem?_set_ne (by omega),ZC hi,if_neg a]
 ·rw [List.getElem?_eq_none (by simp [Zn];exact hi),List.getElem?_eq_none (by rw [Zn];exact hi)]
theorem Zgn {m K:Nat} {f:Nat→Rat} (h:∀i,i < m→Sz K (f i)):RsL K (Yl m f):=by
 intro i g hg;have hi:i < m:=by have:=(List.getElem?_eq_some_iff.1 hg).1;rw [Zn] at this;exact this
 rw [ZC hi] at hg;injection hg with hg;subst hg;exact (h i hi).rs
def dQ:List En→(Nat→Rat)→Nat→Rat
 | [],f=>f
 | e::es,f=>dQ es fun i=>if e.idx=(i:Int) then e.f.q else f i
theorem Zgo (es:List En) (e:En) (f:Nat→Rat):dQ (es++[e]) f=fun (i:Nat)=>if e.idx=(i:Int) then e.f.q else dQ es f i:=by
 induction es generalizing f with
 | nil=>rfl
 | cons d es ih=>rw [List.cons_append,dQ,ih];rfl
theorem Zzu {es:List En} {k:Nat} {e:En} (h:es[k]? =some e) (f:Nat→Rat):dQ (es.take (k+1)) f=fun (i:Nat)=>if e.idx=(i:Int) then e.f.q else dQ (es.take k) f i:=by
 rw [List.take_add_one,h,Option.toList_some,Zgo]
def inR (n:Nat) (es:List En):Prop:=∀(k:Nat) (e:En),es[k]? =some e→0≤e.idx∧e.idx < n
def Xt (es:List En):Nat→Rat:=dQ es fun _=>0
theorem Yds {es:List En} {f:Nat→Rat} {K:Nat} (h:∀(k:Nat) (e:En),es[k]? =some e→e.f.Rs K) (hK:1≤K) (hf:∀i,Sz K (f i)) (i:Nat):Sz K (dQ es f i):=by
 induction es generalizing f with
 | nil=>exact hf i
 | cons e es ih=>
  rw [dQ];refine ih (fun k d hd=>h (k+1) d (by simpa using hd)) (fun i=>?_);split
  ·exact (h 0 e rfl).sz hK
  ·exact hf i
theorem Sz_col {es:List En} {K:Nat} (h:∀(k:Nat) (e:En),es[k]? =some e→e.f.Rs K) (hK:1≤K) (i:Nat):Sz K (Xt es i):=Yds h hK (fun _=>Sz_zero.mono hK) i
end Pl
theorem ZA {n g:Nat} {w w':World} (h:Below n w w') (hg:n≤g) (i j k l:Nat) (x y z u:Value):Below n w ((((w'.setCell ⟨g,i,none⟩ x).setCell ⟨g,j,none⟩ y).setCell ⟨g,k,none⟩ z).setCell ⟨g,l,none⟩ u):=(((h.setCell hg _).setCell hg _).setCell hg _).setCell hg _
theorem Vi {w:World} {base base':Nat} {t:TypeId} {s n:Nat} {v:Value} {xs:List Value} (h:w.ownsRow base t s v n xs) (hb:base'≤base):w.ownsRow base' t s v n xs:=by
 refine ⟨h.1,?_⟩;rcases h.2 with hn | ⟨g,cap,cur,rfl,hb',rest⟩
 ·exact .inl hn
 ·exact .inr ⟨g,cap,cur,rfl,Nat.le_trans hb hb',rest⟩
namespace Pl
def LPd.col (p:LPd) (j:Int):Nat→Rat:=if 0≤j then (match p.cols[j.toNat]? with | some c=>Xt c | none=>fun _=>0) else fun i=>if (i:Int)= -1 - j then (if qs (qAt p.right i) < 0 then -1 else 1) else 0
theorem LPd.col_pos {p:LPd} {j:Nat} {c:List En} (h:p.cols[j]? =some c):p.col (j:Int)=Xt c:=by
 unfold LPd.col;rw [if_pos (by omega),Int.toNat_natCast,h]
theorem LPd.col_neg {p:LPd} {r:Nat}:p.col (-1 - (r:Int))=fun i=>if i=r then (if qs (qAt p.right i) < 0 then -1 else 1) else 0:=by
 unfold LPd.col;rw [if_neg (by omega)]
 funext i
 by_cases h:i=r
 ·rw [if_pos h,if_pos (by omega)]
 ·rw [if_neg h,if_neg (by omega)]
def LPd.In (p:LPd):Prop:=∀(j:Nat) (c:List En),p.cols[j]? =some c→inR p.right.length c
theorem Sz_one:Sz 1 1:=by
 unfold Sz;exact ⟨YN (by rw [show Int.natAbs (Rat.num 1)=1 from rfl];decide),YN (by rw [show Rat.den 1=1 from rfl];decide)⟩
theorem LPd.Sz_col {p:LPd} {K:Nat} (ok:p.Ok K) (hK:1≤K) (j:Int) (i:Nat):Sz K (p.col j i):=by
 rcases Int.lt_or_le j 0 with h | h
 ·obtain ⟨r,rfl⟩:∃r:Nat,j= -1 - (r:Int):=⟨(-1 - j).toNat,by omega⟩;rw [LPd.col_neg];show Sz K (if i=r then (if qs (qAt p.right i) < 0 then -1 else 1) else 0);split
  ·split
   ·exact (Zrr Sz_one).mono hK
   ·exact Sz_one.mono hK
  ·exact Sz_zero.mono hK
 ·obtain ⟨r,rfl⟩:=Int.eq_ofNat_of_zero_le h
  cases hc:p.cols[r]? with
  | some c=>rw [LPd.col_pos hc];exact Pl.Sz_col (ok.2.2 _ c hc).2 hK i
  | none=>
   have:p.col (r:Int) i=0:=by unfold LPd.col;rw [if_pos (by omega),Int.toNat_natCast,hc]
   rw [this];exact Sz_zero.mono hK
end Pl
namespace Pl
theorem Zzv {n:Int} {es:List En} {p:Option Int} (h:UR n es p=0):∀(k:Nat) (e:En),es[k]? =some e→0≤e.idx∧e.idx < n∧e.f.q≠0:=by
 induction es generalizing p with
 | nil=>intro k e h;simp at h
 | cons d es ih=>
  rw [UR] at h;split at h
  ·omega
  ·rename_i h1
   split at h
   ·omega
   ·split at h
    ·omega
    ·rename_i h3
     intro k e hk
     cases k with
     | zero=>simp at hk;subst hk;exact ⟨by omega,by omega,h3⟩
     | succ k=>exact ih h k e (by simpa using hk)
def Inc:Option Int→List En→Prop
 | _,[]=>True
 | p,e::es=>leP p e.idx=false∧Inc (some e.idx) es
theorem Zvy {n:Int} {es:List En} {p:Option Int} (h:UR n es p=0):Inc p es:=by
 induction es generalizing p with
 | nil=>trivial
 | cons d es ih=>
  rw [UR] at h;split at h
  ·omega
  ·split at h
   ·omega
   ·rename_i h2
    split at h
    ·omega
    ·exact ⟨by simpa using h2,ih h⟩
theorem Zcw {es:List En} {n:Nat} (h:vecErr es n=0):inR n es∧(∀(k:Nat) (e:En),es[k]? =some e→e.f.q≠0)∧Inc none es:=by
 unfold vecErr at h;split at h
 ·omega
 ·have:=Zzv h;exact ⟨fun k e hk=>⟨(this k e hk).1,(this k e hk).2.1⟩,fun k e hk=>(this k e hk).2.2,Zvy h⟩
theorem Zbb {n:Int} {cs:List (List En)} (h:Xj n cs=0):∀(k:Nat) (c:List En),cs[k]? =some c→vecErr c n=0:=by
 induction cs with
 | nil=>intro k c h;simp at h
 | cons d cs ih=>
  rw [Xj] at h;split at h
  ·rename_i h1
   intro k c hk
   cases k with
   | zero=>simp at hk;subst hk;exact h1
   | succ k=>exact ih h k c (by simpa using hk)
  ·rename_i h1;exact absurd h h1
theorem WN {p:LPd} (h:lpErr p=0):p.right.length≤64∧p.cols.length≤1200∧p.cost.length=p.cols.length∧p.In∧∀(j:Nat) (c:List En),p.cols[j]? =some c→(∀(k:Nat) (e:En),c[k]? =some e→e.f.q≠0)∧Inc none c:=by
 unfold lpErr at h;split at h
 ·omega
 ·split at h
  ·omega
  ·refine ⟨by omega,by omega,by omega,fun j c hc=>(Zcw (Zbb h j c hc)).1,fun j c hc=>(Zcw (Zbb h j c hc)).2⟩
end Pl
def zfc (n:Nat):Array Value:=madeCells (Value.cells (.agg #[.bool false,.slice none 0 0,.bool false,.slice none 0 0])) (n * 4)
theorem Zmx {n k j:Nat} (hk:k < n) (hj:j < 4):(zfc n)[k * 4+j]? =([.bool false,.slice none 0 0,.bool false,.slice none 0 0]:List Value)[j]? :=by
 have a:k * 4+j < n * 4:=by omega
 have hm:(k * 4+j) % 4=j:=by omega
 unfold zfc madeCells;simp [a,Value.cells,hm]
 match j,hj with
 | 0,_=>rfl
 | 1,_=>rfl
 | 2,_=>rfl
 | 3,_=>rfl
theorem Yi.zeros (w:World) (n:Nat) (hn:n≤maxLen):Yi w.heap.size (w.alloc (.cells (zfc n) 48)) (.slice (some ⟨w.heap.size,0,none⟩) n n) (List.replicate n zeroF):=by
 have a:(zfc n).size=n * 4:=size_madeCells _ _;refine ⟨(zfc n).toList,⟨by simp [a],.inr ⟨w.heap.size,n,zfc n,by simp,Nat.le_refl _,heap_alloc_new w _,by simp,hn,a,?_⟩⟩,by simp [a],fun k f hf=>?_⟩
 ·rw [List.take_of_length_le (by simp [a])]
 ·rw [List.getElem?_replicate] at hf;split at hf
  ·rename_i hk
   injection hf with hf;subst hf;refine ⟨_,_,_,_,?_,?_,?_,?_,Zv.zero _⟩
   ·have:=Zmx (j:=0) hk (by decide);simpa using this
   ·have:=Zmx (j:=1) hk (by decide);simpa using this
   ·have:=Zmx (j:=2) hk (by decide);simpa using this
   ·have:=Zmx (j:=3) hk (by decide);simpa using this
  ·cases hf
theorem Wh (n:Nat) (hn:n≤1099511627776) (w:World):
 (Instr.makeSlice 23 (.int .i64 (n:Int)) (.int .i64 (n:Int))).run Tryz.prog w= .ok (.slice (some ⟨w.heap.size,0,none⟩) n n) (w.alloc (.cells (zfc n) 48)):=by
 obtain ⟨i0,hi,a,b,c⟩:=info_parts info_frac;have hb:(i0.bytes:Int) * (n:Int)≤281474976710656:=by rw [c];omega
 have hr:=run_make (P:=Tryz.prog) w 23 48 i0 _ Tryz.underlying23 hi a .i64 .i64 n n (by omega) (by omega) hb (by omega);simp only [Int.toNat_natCast,b] at hr;exact hr
namespace Pl
theorem zeroF_q:zeroF.q=0:=by unfold RF.q zeroF;rw [ZN,Rat.divInt_zero]
theorem Vj (K:Nat):zeroF.Rs K:=by unfold RF.Rs zeroF;simp [YC,digs_zero]
theorem Ycf {es:List En} {p:Option Int} (h:Inc p es):∀(k:Nat) (e:En),es[k]? =some e→∀i,p=some i→i < e.idx:=by
 induction es generalizing p with
 | nil=>intro k e hk;simp at hk
 | cons d es ih=>
  intro k e hk i hp;have h1:i < d.idx:=by
   have:=h.1;subst hp;simp [leP] at this;exact this
  cases k with
  | zero=>simp at hk;subst hk;exact h1
  | succ k=>
   have:=ih h.2 k e (by simpa using hk) d.idx rfl;omega
theorem Zmy {es:List En} {p:Option Int} (h:Inc p es):∀(i j:Nat) (d e:En),i < j→es[i]? =some d→es[j]? =some e→d.idx < e.idx:=by
 induction es generalizing p with
 | nil=>intro i j d e _ hi;simp at hi
 | cons c es ih=>
  intro i j d e a hi hj
  cases i with
  | zero=>
   simp at hi;subst hi
   cases j with
   | zero=>omega
   | succ j=>exact Ycf h.2 j e (by simpa using hj) c.idx rfl
  | succ i=>
   cases j with
   | zero=>omega
   | succ j=>exact ih h.2 i j d e (by omega) (by simpa using hi) (by simpa using hj)
theorem Ycg {es:List En} {f:Nat→Rat} {i:Nat} (h:∀(k:Nat) (e:En),es[k]? =some e→e.idx≠(i:Int)):dQ es f i=f i:=by
 induction es generalizing f with
 | nil=>rfl
 | cons e es ih=>
  rw [dQ,ih fun k d hd=>h (k+1) d (by simpa using hd),if_neg (h 0 e rfl)]
theorem Zwa {es:List En} {k:Nat} {e:En} (hinc:Inc none es) (he:es[k]? =some e) {f:Nat→Rat} {i:Nat} (hi:e.idx=(i:Int)):dQ (es.take k) f i=f i:=by
 apply Ycg;intro j d hd;rw [List.getElem?_take] at hd;split at hd
 ·rename_i hj
  have:=Zmy hinc j k d e hj hd he;omega
 ·cases hd
end Pl
namespace Pl
theorem XU (f g:Nat→Rat) (n:Nat):ZQ (fun i=>f i+g i) n=ZQ f n+ZQ g n:=by
 induction n with
 | zero=>simp [YG,Rat.add_zero]
 | succ n ih=>rw [ZF,ZF,ZF,ih];grind
theorem YD (c:Rat) (f:Nat→Rat) (n:Nat):ZQ (fun i=>c * f i) n=c * ZQ f n:=by
 induction n with
 | zero=>simp [YG,Rat.mul_zero]
 | succ n ih=>rw [ZF,ZF,ih];grind
theorem Vk (n:Nat):ZQ (fun _=>0) n=0:=by
 induction n with
 | zero=>rfl
 | succ n ih=>rw [ZF,ih,Rat.add_zero]
theorem WO (f:Nat→Nat→Rat) (n m:Nat):ZQ (fun i=>ZQ (fun j=>f i j) m) n=ZQ (fun j=>ZQ (fun i=>f i j) n) m:=by
 induction n with
 | zero=>simp only [YG];rw [Vk]
 | succ n ih=>
  rw [ZF,ih,← XU];rfl
theorem XV {n k:Nat} (hk:k < n) (c:Rat):ZQ (fun i=>if i=k then c else 0) n=c:=by
 induction n with
 | zero=>omega
 | succ n ih=>
  rw [ZF];by_cases h:n=k
  ·subst h;rw [if_pos rfl,Zj (g:=fun _=>0) (fun i hi=>if_neg (by omega)),Vk,Rat.zero_add]
  ·rw [if_neg h,ih (by omega),Rat.add_zero]
def Zzw (ys:List RF) (f:Nat→Rat) (m:Nat):Rat:=ZQ (fun i=>qAt ys i * f i) m
theorem Zcz {ys:List RF} {f:Nat→Rat} {m:Nat}:Yec ys (Yl m f) m=Zzw ys f m:=Zj fun i hi=>by rw [YL hi]
theorem Zlh {es:List En} {ys:List RF} {m:Nat} (hin:inR m es) (hinc:Inc none es):∀k,k≤es.length→Zcx es ys k=Zzw ys (dQ (es.take k) fun _=>0) m:=by
 intro k
 induction k with
 | zero=>
  intro _;show 0=_;unfold Zzw;rw [Zj (g:=fun _=>0) (fun i _=>by simp [dQ,Rat.mul_zero]),Vk]
 | succ k ih=>
  intro hk;obtain ⟨e,he⟩:∃e,es[k]? =some e:=⟨es[k],List.getElem?_eq_getElem (by omega)⟩;obtain ⟨h0,h1⟩:=hin k e he;obtain ⟨d,hd⟩:=Int.eq_ofNat_of_zero_le h0;have a:d < m:=by omega
  rw [Zcy he,ih (by omega),Zzu he];have hf:dQ (es.take k) (fun _=>0) d=0:=Zwa hinc he hd;have:Zzw ys (fun i=>if e.idx=(i:Int) then e.f.q else dQ (es.take k) (fun _=>0) i) m=ZQ (fun i=>qAt ys i * dQ (es.take k) (fun _=>0) i+if i=d then qAt ys d * e.f.q else 0) m:=Zj fun i _=>by
   show qAt ys i * (if e.idx=(i:Int) then e.f.q else dQ (es.take k) (fun _=>0) i)=_;by_cases hi:i=d
   ·subst hi;rw [if_pos hd,if_pos rfl,hf];grind
   ·rw [if_neg (show ¬e.idx=(i:Int) by omega),if_neg hi,Rat.add_zero]
  rw [this,XU,XV a];unfold Zzw;rw [hd,Int.toNat_natCast,Rat.mul_comm e.f.q]
theorem Zda {q:Rat}:qs q < 0↔q < 0:=by
 have h:qs q < 0↔q.num < 0:=by unfold qs sgn;split <;> rename_i h <;> (try split) <;> omega
 rw [h,← Rat.not_le,← Rat.num_nonneg];omega
theorem UW {q:Rat}:0 < qs q↔0 < q:=by
 have h:0 < qs q↔0 < q.num:=by unfold qs sgn;split <;> rename_i h <;> (try split) <;> omega
 have h2:q.num=0↔q=0:=Rat.num_eq_zero;have h3:0≤q.num↔0≤q:=Rat.num_nonneg;rw [h];constructor
 ·intro g;have:q≠0:=fun e=>by have:=h2.2 e;omega
  have:=h3.1 (by omega);grind
 ·intro g;have h4:q.num≠0:=fun e=>by have:=h2.1 e;grind
  have:=h3.2 (by grind);omega
end Pl
namespace Pl
theorem Zgp (f g:Nat→Rat) (n:Nat):ZQ (fun i=>f i - g i) n=ZQ f n - ZQ g n:=by
 induction n with
 | zero=>rw [YG,YG,YG];grind
 | succ n ih=>rw [ZF,ZF,ZF,ih];grind
theorem WP {f:Nat→Rat} {n:Nat} (h:∀i,i < n→f i=0):ZQ f n=0:=by
 rw [Zj h];exact Vk n
theorem YT {f:Nat→Rat} {n k:Nat} (hk:k < n) (h:∀i,i < n→i≠k→f i=0):ZQ f n=f k:=by
 rw [Zj (g:=fun i=>if i=k then f k else 0) fun i hi=>?_]
 ·exact XV hk (f k)
 ·by_cases e:i=k
  ·rw [if_pos e,e]
  ·rw [if_neg e,h i hi e]
theorem XW {f:Nat→Rat} {n m:Nat} (hm:n≤m) (h:∀i,n≤i→i < m→f i=0):ZQ f m=ZQ f n:=by
 induction m with
 | zero=>
  obtain rfl:n=0:=by omega
  rfl
 | succ m ih=>
  rcases Nat.lt_or_ge n (m+1) with e | e
  ·rw [ZF,h m (by omega) (by omega),ih (by omega) fun i h1 h2=>h i h1 (by omega)];grind
  ·obtain rfl:n=m+1:=by omega
   rfl
def Zfb (m:Nat) (M:Mx) (y:Nat→Rat) (r:Nat):Rat:=ZQ (fun c=>M r c * y c) m
def Zbi (m:Nat) (M:Mx) (y:Nat→Rat):Prop:=∀r,r < m→Zfb m M y r=M r m
def Zfc (m k:Nat) (M:Mx):Prop:=∀r c,r < m→c < k→M r c=if r=c then 1 else 0
theorem Zjb {m:Nat} {A B C:Mx} {y:Nat→Rat} {r s t:Nat} {a b:Rat} (h:∀c,c < m→A r c=a * B s c+b * C t c):Zfb m A y r=a * Zfb m B y s+b * Zfb m C y t:=by
 unfold Zfb;rw [← YD,← YD,← XU];exact Zj fun c hc=>by rw [h c hc];grind
theorem Zbi.swap {m k t:Nat} {M:Mx} {y:Nat→Rat} (hk:k < m) (ht:t < m):Zbi m (swapM M k t) y↔Zbi m M y:=by
 have a:∀N:Mx,Zbi m N y→Zbi m (swapM N k t) y:=fun N h r hr=>by
  unfold Zfb swapM;by_cases e1:r=k
  ·simp only [if_pos e1];exact h t ht
  ·by_cases e2:r=t
   ·simp only [if_neg e1,if_pos e2];exact h k hk
   ·simp only [if_neg e1,if_neg e2];exact h r hr
 refine ⟨fun h=>?_,a M⟩;have:=a _ h;have e:swapM (swapM M k t) k t=M:=by
  funext r c
  unfold swapM;by_cases e1:r=k
  ·subst e1;simp only [if_pos];by_cases e2:t=r
   ·subst e2;simp
   ·simp [e2]
  ·by_cases e2:r=t
   ·subst e2;simp [e1]
   ·simp [e1,e2]
 rwa [e] at this
theorem Zbi.scale {m k:Nat} {M:Mx} {y:Nat→Rat} {f:Rat} (hk:k < m) (hf:f≠0) (hz:∀c,c < k→M k c=0):Zbi m (scaleTo M k (m+1) f) y↔Zbi m M y:=by
 have d:∀r,r < m→r≠k→∀c,scaleTo M k (m+1) f r c=M r c:=fun r _ hne c=>by unfold scaleTo;rw [if_neg (by omega)]
 have g:∀c,c < m+1→scaleTo M k (m+1) f k c=M k c / f:=fun c hc=>by
  unfold scaleTo;by_cases e:k≤c
  ·rw [if_pos ⟨rfl,e,hc⟩]
  ·rw [if_neg (by omega),hz c (by omega)];grind
 have hs:Zfb m (scaleTo M k (m+1) f) y k=Zfb m M y k / f:=by
  rw [Zjb (B:=M) (C:=M) (s:=k) (t:=k) (a:=1 / f) (b:=0) fun c hc=>by rw [g c (by omega)];grind];grind
 constructor
 ·intro h r hr;by_cases e:r=k
  ·subst e;have:=h r hr;rw [hs,g m (by omega)] at this;have h2:Zfb m M y r / f * f=M r m / f * f:=by rw [this]
   rwa [Rat.div_mul_cancel hf,Rat.div_mul_cancel hf] at h2
  ·have:=h r hr;rw [d r hr e] at this;rw [← this];unfold Zfb;exact Zj fun c _=>by rw [d r hr e]
 ·intro h r hr;by_cases e:r=k
  ·subst e;rw [hs,g m (by omega),h r hr]
  ·rw [d r hr e,← h r hr];unfold Zfb;exact Zj fun c _=>by rw [d r hr e]
theorem Zbi.elim {m k:Nat} {M:Mx} {y:Nat→Rat} (hk:k < m) (hz:∀c,c < k→M k c=0):Zbi m (Xa M k m m) y↔Zbi m M y:=by
 have d:∀c,Xa M k m m k c=M k c:=fun c=>Zct c
 have f:∀r,r < m→r≠k→∀c,c≤m→Xa M k m m r c=M r c - M r k * M k c:=fun r hr hne c hc=>by
  unfold Xa;by_cases e:k≤c
  ·rw [if_pos ⟨hne,hr,e,hc⟩]
  ·rw [if_neg (by omega),hz c (by omega)];grind
 have hs:∀r,r < m→r≠k→Zfb m (Xa M k m m) y r=Zfb m M y r - M r k * Zfb m M y k:=fun r hr hne=>by
  rw [Zjb (B:=M) (C:=M) (s:=r) (t:=k) (a:=1) (b:= -(M r k)) fun c hc=>by rw [f r hr hne c (by omega)];grind];grind
 have g:Zfb m (Xa M k m m) y k=Zfb m M y k:=Zj fun c _=>by rw [d]
 constructor
 ·intro h;have h0:Zfb m M y k=M k m:=by rw [← g,h k hk,d]
  intro r hr;by_cases e:r=k
  ·subst e;exact h0
  ·have:=h r hr;rw [hs r hr e,f r hr e m (Nat.le_refl _),h0] at this;grind
 ·intro h r hr;by_cases e:r=k
  ·subst e;rw [g,d];exact h r hr
  ·rw [hs r hr e,f r hr e m (Nat.le_refl _),h r hr,h k hk]
theorem Zoy {m k:Nat} {M M':Mx} (hk:k < m) (hu:Zfc m k M) (e:VK M k m=some M'):Zfc m (k+1) M'∧∀y,Zbi m M' y↔Zbi m M y:=by
 unfold VK at e
 cases hf:Zgl M k m with
 | none=>rw [hf] at e;cases e
 | some t=>
  rw [hf] at e;injection e with e;obtain ⟨h1,h2,h3⟩:=Zgm hf;have hS:∀c,swapM M k t k c=M t c:=fun c=>by unfold swapM;rw [if_pos rfl]
  have hp:swapM M k t k k≠0:=by rw [hS];exact h3
  have us:Zfc m k (swapM M k t):=fun r c hr hc=>by
   unfold swapM;by_cases e1:r=k
   ·rw [if_pos e1,hu t c h2 hc,if_neg (by omega),if_neg (by omega)]
   ·rw [if_neg e1];by_cases e2:r=t
    ·rw [if_pos e2,hu k c hk hc,if_neg (by omega),if_neg (by omega)]
    ·rw [if_neg e2];exact hu r c hr hc
  have hz:∀c,c < k→swapM M k t k c=0:=fun c hc=>by rw [us k c hk hc,if_neg (by omega)]
  have d:∀y,Zbi m (swapM M k t) y↔Zbi m M y:=fun y=>Zbi.swap hk h2
  generalize swapM M k t=N at *;obtain ⟨f,b⟩:∃f,N k k=f:=⟨_,rfl⟩;rw [b] at hp e;have g:∀c,c < k→scaleTo N k (m+1) f k c=0:=fun c hc=>by unfold scaleTo;rw [if_neg (by omega)];exact hz c hc
  have a:scaleTo N k (m+1) f k k=1:=by
   unfold scaleTo;rw [if_pos ⟨rfl,Nat.le_refl _,by omega⟩,b];rw [Rat.div_def];exact Rat.mul_inv_cancel f hp
  have u2:Zfc m k (scaleTo N k (m+1) f):=fun r c hr hc=>by
   unfold scaleTo;rw [if_neg (by omega)];exact us r c hr hc
  have h:∀y,Zbi m (scaleTo N k (m+1) f) y↔Zbi m N y:=fun y=>Zbi.scale hk hp hz
  generalize scaleTo N k (m+1) f=Q at *;subst e;refine ⟨fun r c hr hc=>?_,fun y=>(Zbi.elim hk g).trans ((h y).trans (d y))⟩;by_cases ec:c=k
  ·subst ec;by_cases er:r=c
   ·subst er;rw [Zct,a,if_pos rfl]
   ·unfold Xa;rw [if_pos ⟨er,hr,Nat.le_refl _,by omega⟩,a,if_neg er];grind
  ·unfold Xa;rw [if_neg (by omega)];exact u2 r c hr (by omega)
theorem Zrw {m:Nat} {M:Mx}:∀{k:Nat} {M':Mx},k≤m→gj M m k=some M'→Zfc m k M'∧∀y,Zbi m M' y↔Zbi m M y
 | 0,M',_,e=>by
  unfold gj at e
  injection e with e
  subst e
  exact ⟨fun r c _ hc=>by omega,fun y=>Iff.rfl⟩
 | k+1,M',hk,e=>by
  unfold gj at e
  cases hg:gj M m k with
  | none=>rw [hg] at e;cases e
  | some N=>
   rw [hg] at e
   obtain ⟨h1,h2⟩:=Zrw (by omega) hg
   obtain ⟨h3,h4⟩:=Zoy (by omega) h1 e
   exact ⟨h3,fun y=>(h4 y).trans (h2 y)⟩
theorem Zwb {m:Nat} {M:Mx} (hu:Zfc m m M) (y:Nat→Rat):Zbi m M y↔∀r,r < m→y r=M r m:=by
 have a:∀r,r < m→Zfb m M y r=y r:=fun r hr=>by
  unfold Zfb;rw [YT hr fun i hi hne=>by rw [hu r i hr hi,if_neg (fun e=>hne e.symm)];grind,hu r r hr hr,if_pos rfl];grind
 exact ⟨fun h r hr=>by rw [← a r hr];exact h r hr,fun h r hr=>by rw [a r hr];exact h r hr⟩
def Y7 (m:Nat) (cols:Mx) (y:Nat→Rat) (r:Nat):Rat:=ZQ (fun c=>cols c r * y c) m
theorem Zrx {m:Nat} {cols:Mx} {b y:Nat→Rat}:Zbi m (Zhy m cols b) y↔∀r,r < m→Y7 m cols y r=b r:=by
 have d:∀r,Zfb m (Zhy m cols b) y r=Y7 m cols y r:=fun r=>Zj fun c hc=>by unfold Zhy;rw [if_pos hc]
 have a:∀r,Zhy m cols b r m=b r:=fun r=>by unfold Zhy;rw [if_neg (by omega)]
 exact ⟨fun h r hr=>by rw [← d,h r hr,a],fun h r hr=>by rw [d,h r hr,a]⟩
theorem X3 {m:Nat} {cols:Mx} {b x:Nat→Rat} (h:Y4 m cols b=some x) (y:Nat→Rat):(∀r,r < m→Y7 m cols y r=b r)↔∀k,k < m→y k=x k:=by
 unfold Y4 at h
 cases hg:gj (Zhy m cols b) m m with
 | none=>rw [hg] at h;cases h
 | some M=>
  rw [hg] at h;injection h with h;subst h;obtain ⟨h1,h2⟩:=Zrw (Nat.le_refl m) hg;rw [← Zrx,← h2 y,Zwb h1]
theorem Zry (m:Nat) (cols:Mx) (r:Nat):Y7 m cols (fun _=>0) r=0:=WP fun c _=>by grind
def YW (m:Nat) (cols:Mx):Prop:=∀y:Nat→Rat,(∀r,r < m→Y7 m cols y r=0)→∀k,k < m→y k=0
theorem Zgq {m:Nat} {cols:Mx} {b x:Nat→Rat} (h:Y4 m cols b=some x):YW m cols:=by
 have hs:=Zcu (m:=m) (cols:=cols) b fun _=>0
 rw [h] at hs;obtain ⟨z,hz⟩:=Option.isSome_iff_exists.1 hs.symm;have h0:=(X3 hz fun _=>0).1 fun r _=>Zry m cols r
 intro y hy k hk;rw [(X3 hz y).1 hy k hk,← h0 k hk]
theorem Zgr {m k:Nat} {M M':Mx} (h:∀r,r < m→M r m=0) (hk:k < m) (e:VK M k m=some M'):∀r,r < m→M' r m=0:=by
 unfold VK at e
 cases hf:Zgl M k m with
 | none=>rw [hf] at e;cases e
 | some t=>
  rw [hf] at e;injection e with e;obtain ⟨h1,h2,h3⟩:=Zgm hf;have hs:∀r,r < m→swapM M k t r m=0:=fun r hr=>by
   unfold swapM;split
   ·exact h t h2
   ·split
    ·exact h k hk
    ·exact h r hr
  generalize swapM M k t=N at *;have hc:∀r,r < m→scaleTo N k (m+1) (N k k) r m=0:=fun r hr=>by
   unfold scaleTo;split
   ·rw [hs r hr];grind
   ·exact hs r hr
  generalize scaleTo N k (m+1) (N k k)=Q at *;subst e;intro r hr;unfold Xa;split
  ·rw [hc r hr,hc k hk];grind
  ·exact hc r hr
theorem Zrz {m:Nat} {M:Mx} (h:∀r,r < m→M r m=0):∀{k:Nat} {M':Mx},k≤m→gj M m k=some M'→∀r,r < m→M' r m=0
 | 0,M',_,e=>by unfold gj at e;injection e with e;subst e;exact h
 | k+1,M',hk,e=>by
  unfold gj at e
  cases hg:gj M m k with
  | none=>rw [hg] at e;cases e
  | some N=>rw [hg] at e;exact Zgr (Zrz h (by omega) hg) (by omega) e
theorem Zsa {m:Nat} {M:Mx}:∀{n:Nat},n≤m→gj M m n=none→∃k N,k < n∧gj M m k=some N∧Zgl N k m=none
 | 0,_,e=>by unfold gj at e;cases e
 | n+1,hn,e=>by
  cases hg:gj M m n with
  | none=>
   obtain ⟨k,N,h1,h2,h3⟩:=Zsa (by omega) hg
   exact ⟨k,N,by omega,h2,h3⟩
  | some N=>
   refine ⟨n,N,by omega,hg,?_⟩
   unfold gj at e
   rw [hg] at e
   simp only at e
   unfold VK at e
   cases hf:Zgl N n m with
   | none=>rfl
   | some t=>rw [hf] at e;cases e
theorem Zli {m:Nat} {cols:Mx} {b:Nat→Rat} (h:Y4 m cols b=none):¬YW m cols:=by
 have hs:=Zcu (m:=m) (cols:=cols) b fun _=>0
 rw [h] at hs;have h0:Y4 m cols (fun _=>0)=none:=by
  cases e:Y4 m cols (fun _=>0) with
  | none=>rfl
  | some x=>rw [e] at hs;cases hs
 unfold Y4 at h0;have hg:gj (Zhy m cols fun _=>0) m m=none:=by
  cases e:gj (Zhy m cols fun _=>0) m m with
  | none=>rfl
  | some x=>rw [e] at h0;cases h0
 obtain ⟨k,N,hk,hN,hf⟩:=Zsa (Nat.le_refl m) hg;obtain ⟨h1,h2⟩:=Zrw (by omega) hN;have hz:=Zos hf;have hr:=Zrz (fun r _=>by unfold Zhy;rw [if_neg (by omega)]) (by omega) hN;intro hi;have hy:Zbi m N (fun c=>if c < k then -(N c k) else if c=k then 1 else 0):=fun r hrm=>by
  rw [hr r hrm];show ZQ (fun c=>N r c * (if c < k then -(N c k) else if c=k then 1 else 0)) m=0;rw [XW (n:=k+1) (by omega) fun i i1 i2=>by rw [if_neg (by omega),if_neg (by omega)];grind,ZF,if_neg (Nat.lt_irrefl k),if_pos rfl];rcases Nat.lt_or_ge r k with hrk | hrk
  ·rw [YT hrk fun i hi2 hne=>by rw [h1 r i hrm hi2,if_neg (fun e=>hne e.symm)];grind,h1 r r hrm hrk,if_pos rfl,if_pos hrk];grind
  ·rw [WP fun i hi2=>by rw [h1 r i hrm hi2,if_neg (by omega)];grind,hz r hrk hrm];grind
 have:=hi _ (Zrx.1 ((h2 _).1 hy)) k hk;simp at this
theorem Xm {m:Nat} {cols:Mx} (h:YW m cols) (b:Nat→Rat):∃x,Y4 m cols b=some x:=by
 cases e:Y4 m cols b with
 | none=>exact absurd h (Zli e)
 | some x=>exact ⟨x,rfl⟩
theorem UX {m:Nat} {cols:Mx} {b x:Nat→Rat} (hi:YW m cols) (hx:∀r,r < m→Y7 m cols x r=b r):∃z,Y4 m cols b=some z∧∀k,k < m→z k=x k:=by
 obtain ⟨z,hz⟩:=Xm hi b;exact ⟨z,hz,fun k hk=>((X3 hz x).1 hx k hk).symm⟩
end Pl
namespace Pl
theorem pigeon:∀(m n:Nat) (f:Nat→Nat),m < n→(∀k,k < n→f k < m)→∃i j,i < j∧j < n∧f i=f j
 | 0,n,f,h,hf=>absurd (hf 0 (by omega)) (by omega)
 | m+1,n,f,h,hf=>by
  by_cases hk:∃k,k < n∧f k=m
  ·obtain ⟨k,hkn,hfk⟩:=hk
   by_cases h2:∃l,l < n∧l≠k∧f l=m
   ·obtain ⟨l,hl,hne,hfl⟩:=h2
    rcases Nat.lt_or_ge l k with e | e
    ·exact ⟨l,k,e,hkn,by rw [hfl,hfk]⟩
    ·exact ⟨k,l,by omega,hl,by rw [hfl,hfk]⟩
   ·obtain ⟨i,j,hij,hj,he⟩:=pigeon m (n - 1) (fun i=>if i < k then f i else f (i+1)) (by omega) fun i hi=>by
     by_cases e:i < k
     ·simp only [if_pos e]
      have:=hf i (by omega)
      have:f i≠m:=fun e'=>h2 ⟨i,by omega,by omega,e'⟩
      omega
     ·simp only [if_neg e]
      have:=hf (i+1) (by omega)
      have:f (i+1)≠m:=fun e'=>h2 ⟨i+1,by omega,by omega,e'⟩
      omega
    by_cases e1:i < k
    ·by_cases e2:j < k
     ·exact ⟨i,j,hij,by omega,by simpa only [if_pos e1,if_pos e2] using he⟩
     ·exact ⟨i,j+1,by omega,by omega,by simpa only [if_pos e1,if_neg e2] using he⟩
    ·exact ⟨i+1,j+1,by omega,by omega,by simpa only [if_neg e1,if_neg (show ¬j < k by omega)] using he⟩
  ·exact pigeon m n f (by omega) fun k hkn=>by
    have:=hf k hkn
    have:f k≠m:=fun e=>hk ⟨k,hkn,e⟩
    omega
def Inj (n t:Nat) (F:Nat→Nat):Prop:=(∀s,s < t→F s < n)∧∀s u,s < u→u < t→F s≠F u
theorem Inj.eq {n t:Nat} {F:Nat→Nat} (h:Inj n t F) {s u:Nat} (hs:s < t) (hu:u < t) (e:F s=F u):s=u:=by
 rcases Nat.lt_trichotomy s u with g | g | g
 ·exact absurd e (h.2 s u g hu)
 ·exact g
 ·exact absurd e.symm (h.2 u s g hs)
theorem Inj.onto {n:Nat} {F:Nat→Nat} (h:Inj n n F) {i:Nat} (hi:i < n):∃s,s < n∧F s=i:=by
 by_cases e:∃s,s < n∧F s=i
 ·exact e
 ·exfalso;obtain ⟨a,b,c,hb,he⟩:=pigeon n (n+1) (fun s=>if s < n then F s else i) (by omega) fun k _=>by
   by_cases e':k < n
   ·simp only [if_pos e'];exact h.1 k e'
   ·simp only [if_neg e'];exact hi
  by_cases e1:b < n
  ·exact h.2 a b c e1 (by simpa only [if_pos (show a < n by omega),if_pos e1] using he)
  ·exact e ⟨a,by omega,by simpa only [if_pos (show a < n by omega),if_neg e1] using he⟩
theorem Inj.free {n t:Nat} {F:Nat→Nat} (_h:Inj n t F) (ht:t < n):∃i,i < n∧∀s,s < t→F s≠i:=by
 by_cases e:∃i,i < n∧∀s,s < t→F s≠i
 ·exact e
 ·exfalso;have c:∀i,i < n→∃s,s < t∧F s=i:=fun i hi=>by
   by_cases e':∃s,s < t∧F s=i
   ·exact e'
   ·exact absurd ⟨i,hi,fun s hs he=>e' ⟨s,hs,he⟩⟩ e
  obtain ⟨a,b,d,hb,he⟩:=pigeon t n (fun i=>if hi:i < n then (c i hi).choose else 0) ht fun k hk=>by
   simp only [dif_pos hk];exact (c k hk).choose_spec.1
  simp only [dif_pos (show a < n by omega),dif_pos hb] at he;have h1:=(c a (by omega)).choose_spec.2;have h2:=(c b hb).choose_spec.2;rw [he] at h1;omega
theorem UY {n:Nat} {F:Nat→Nat} (h:Inj n n F) (f:Nat→Rat):ZQ (fun k=>f (F k)) n=ZQ f n:=by
 have h1:ZQ (fun k=>f (F k)) n=ZQ (fun k=>ZQ (fun j=>if j=F k then f j else 0) n) n:=Zj fun k hk=>by
  rw [YT (h.1 k hk) fun i _ hne=>by rw [if_neg hne],if_pos rfl]
 rw [h1,WO];exact Zj fun j hj=>by
  obtain ⟨s,hs,he⟩:=h.onto hj;rw [YT hs fun i hi hne=>if_neg fun e=>hne (h.eq hi hs (by omega)),if_pos he.symm]
structure Us (n t:Nat) (A a:Mx) (R C:Nat→Nat) (m:Mx):Prop where
 ri:Inj n t R
 ci:Inj n t C
 m0:∀s q,s < t→q≤s→m s (R q)=0
 piv:∀s,s < t→a (R s) (C s)≠0
 e1:∀i j,i < n→j < n→(∀s,s < t→R s≠i)→(∀s,s < t→C s≠j)→A i j=ZQ (fun s=>m s i * a (R s) j) t+a i j
 e2:∀i q,i < n→q < t→(∀s,s < t→R s≠i)→A i (C q)=ZQ (fun s=>m s i * a (R s) (C q)) (q+1)
 e3:∀p j,p < t→j < n→(∀s,s < p→C s≠j)→A (R p) j=ZQ (fun s=>m s (R p) * a (R s) j) p+a (R p) j
 e4:∀p q,p < t→q < p→A (R p) (C q)=ZQ (fun s=>m s (R p) * a (R s) (C q)) (q+1)
theorem Us.start (n:Nat) (A:Mx) (R C:Nat→Nat) (m:Mx):Us n 0 A A R C m where
 ri:=⟨fun s h=>absurd h (by omega),fun s u _ h=>absurd h (by omega)⟩
 ci:=⟨fun s h=>absurd h (by omega),fun s u _ h=>absurd h (by omega)⟩
 m0:=fun s q h=>absurd h (by omega)
 piv:=fun s h=>absurd h (by omega)
 e1:=fun i j _ _ _ _=>by rw [YG];grind
 e2:=fun i q _ h=>absurd h (by omega)
 e3:=fun p j h=>absurd h (by omega)
 e4:=fun p q h=>absurd h (by omega)
theorem Us.step {n t:Nat} {A a:Mx} {R C:Nat→Nat} {m:Mx} (h:Us n t A a R C m) {r c:Nat} (hr:r < n) (hc:c < n) (hrf:∀s,s < t→R s≠r) (hcf:∀s,s < t→C s≠c) (hp:a r c≠0)
 {a' m':Mx} {R' C':Nat→Nat} (hR:∀s,s < t→R' s=R s) (hRt:R' t=r) (hC:∀s,s < t→C' s=C s) (hCt:C' t=c)
 (hm:∀s i,s < t→m' s i=m s i) (hmt:∀i,i < n→m' t i=if (∀s,s < t→R s≠i)∧i≠r then a i c / a r c else 0)
 (ha:∀i j,i < n→j < n→a' i j=if ((∀s,s < t→R s≠i)∧i≠r)∧((∀s,s < t→C s≠j)∧j≠c) then a i j - m' t i * a r j else a i j):Us n (t+1) A a' R' C' m':=by
 have y:∀i,i < n→(∀s,s < t→R s≠i)→i≠r→m' t i * a r c=a i c:=fun i hi h1 h2=>by
  rw [hmt i hi,if_pos ⟨h1,h2⟩];exact Rat.div_mul_cancel hp
 have l:∀s,s < t+1→R' s < n:=fun s hs=>by
  rcases Nat.lt_or_ge s t with e | e
  ·rw [hR s e];exact h.ri.1 s e
  ·obtain rfl:s=t:=by omega
   rw [hRt];exact hr
 have x:∀s,s < t+1→C' s < n:=fun s hs=>by
  rcases Nat.lt_or_ge s t with e | e
  ·rw [hC s e];exact h.ci.1 s e
  ·obtain rfl:s=t:=by omega
   rw [hCt];exact hc
 -- rows that are taken do not change any more
 have d:∀s j,s < t+1→j < n→a' (R' s) j=a (R' s) j:=fun s j hs hj=>by
  rw [ha _ _ (l s hs) hj];refine if_neg fun e=>?_
  rcases Nat.lt_or_ge s t with g | g
  ·exact e.1.1 s g (hR s g).symm
  ·obtain rfl:s=t:=by omega
   exact e.1.2 hRt
 have f:∀i,(∀s,s < t+1→R' s≠i)→(∀s,s < t→R s≠i)∧i≠r:=fun i hi=>⟨fun s hs e=>hi s (by omega) (by rw [hR s hs];exact e),fun e=>hi t (by omega) (by rw [hRt];exact e.symm)⟩
 have o:∀j,(∀s,s < t+1→C' s≠j)→(∀s,s < t→C s≠j)∧j≠c:=fun j hj=>⟨fun s hs e=>hj s (by omega) (by rw [hC s hs];exact e),fun e=>hj t (by omega) (by rw [hCt];exact e.symm)⟩
 have b:∀i j k,k≤t→j < n→ZQ (fun s=>m' s i * a' (R' s) j) k=ZQ (fun s=>m s i * a (R s) j) k:=fun i j k hk hj=>Zj fun s hs=>by
  rw [hm s i (by omega),d s j (by omega) hj,hR s (by omega)]
 refine ⟨⟨l,fun s u hsu hu=>?_⟩,⟨x,fun s u hsu hu=>?_⟩,fun s q hs hq=>?_,fun s hs=>?_,fun i j hi hj h1 h2=>?_,fun i q hi hq h1=>?_,fun p j hp' hj h1=>?_,fun p q hp' hq=>?_⟩
 ·rw [hR s (by omega)];rcases Nat.lt_or_ge u t with e | e
  ·rw [hR u e];exact h.ri.2 s u hsu e
  ·obtain rfl:u=t:=by omega
   rw [hRt];exact hrf s hsu
 ·rw [hC s (by omega)];rcases Nat.lt_or_ge u t with e | e
  ·rw [hC u e];exact h.ci.2 s u hsu e
  ·obtain rfl:u=t:=by omega
   rw [hCt];exact hcf s hsu
 ·rcases Nat.lt_or_ge s t with e | e
  ·rw [hm s _ e,hR q (by omega)];exact h.m0 s q e hq
  ·obtain rfl:s=t:=by omega
   rw [hmt _ (l q (by omega))];refine if_neg fun e=>?_
   rcases Nat.lt_or_ge q s with g | g
   ·exact e.1 q g (hR q g).symm
   ·obtain rfl:q=s:=by omega
    exact e.2 hRt
 ·rw [d s _ hs (x s hs)];rcases Nat.lt_or_ge s t with e | e
  ·rw [hR s e,hC s e];exact h.piv s e
  ·obtain rfl:s=t:=by omega
   rw [hRt,hCt];exact hp
 ·obtain ⟨i1,i2⟩:=f i h1;obtain ⟨j1,j2⟩:=o j h2;rw [ZF,b i j t (Nat.le_refl _) hj,d t j (by omega) hj,hRt,ha i j hi hj,if_pos ⟨⟨i1,i2⟩,⟨j1,j2⟩⟩,h.e1 i j hi hj i1 j1];grind
 ·obtain ⟨i1,i2⟩:=f i h1;rcases Nat.lt_or_ge q t with e | e
  ·rw [hC q e,b i _ (q+1) (by omega) (h.ci.1 q e)];exact h.e2 i q hi e i1
  ·obtain rfl:q=t:=by omega
   rw [hCt,ZF,b i c q (Nat.le_refl _) hc,d q c (by omega) hc,hRt,y i hi i1 i2,h.e1 i c hi hc i1 hcf]
 ·have z:=l p hp';rcases Nat.lt_or_ge p t with e | e
  ·rw [d p j hp' hj,b _ j p (by omega) hj,hR p e];exact h.e3 p j e hj fun s hs=>by have:=h1 s hs;rwa [hC s (by omega)] at this
  ·obtain rfl:p=t:=by omega
   rw [d p j hp' hj,b _ j p (Nat.le_refl _) hj,hRt];exact h.e1 r j hr hj hrf fun s hs=>by have:=h1 s hs;rwa [hC s hs] at this
 ·have v:q < t:=by omega
  rw [hC q v,b _ _ (q+1) (by omega) (h.ci.1 q v)];rcases Nat.lt_or_ge p t with e | e
  ·rw [hR p e];exact h.e4 p q e hq
  ·obtain rfl:p=t:=by omega
   rw [hRt];exact h.e2 r q hr v hrf
def luL (R:Nat→Nat) (m:Mx):Mx:=fun t p=>if p=t then 1 else if t < p then m t (R p) else 0
def luU (R C:Nat→Nat) (a:Mx):Mx:=fun k s=>if s≤k then a (R s) (C k) else 0
structure Zbj (n:Nat) (A:Mx) (R C:Nat→Nat) (L U:Mx):Prop where
 ri:Inj n n R
 ci:Inj n n C
 l0:∀t p,t < n→p < n→p < t→L t p=0
 l1:∀t,t < n→L t t=1
 u0:∀k s,k < n→s < n→k < s→U k s=0
 u1:∀k,k < n→U k k≠0
 eq:∀p k,p < n→k < n→A (R p) (C k)=ZQ (fun s=>L s p * U k s) n
theorem Us.fac {n:Nat} {A a:Mx} {R C:Nat→Nat} {m:Mx} (h:Us n n A a R C m):Zbj n A R C (luL R m) (luU R C a) where
 ri:=h.ri
 ci:=h.ci
 l0:=fun t p _ _ hpt=>by unfold luL;rw [if_neg (by omega),if_neg (by omega)]
 l1:=fun t _=>by unfold luL;rw [if_pos rfl]
 u0:=fun k s _ _ hks=>by unfold luU;rw [if_neg (by omega)]
 u1:=fun k hk=>by unfold luU;rw [if_pos (Nat.le_refl _)];exact h.piv k hk
 eq:=fun p k hp hk=>by
  rcases Nat.lt_or_ge k p with e | e
  ·rw [h.e4 p k hp e,XW (n:=k+1) (m:=n) (by omega) fun i h1 h2=>by unfold luU;rw [if_neg (by omega)];grind]
   exact Zj fun s hs=>by unfold luL luU;rw [if_neg (by omega),if_pos (by omega),if_pos (by omega)]
  ·rw [h.e3 p (C k) hp (h.ci.1 k hk) fun s hs=>h.ci.2 s k (by omega) hk,XW (n:=p+1) (m:=n) (by omega) fun i h1 h2=>by unfold luL;rw [if_neg (by omega),if_neg (by omega)];grind,ZF]
   have e2:luL R m p p * luU R C a k p=a (R p) (C k):=by unfold luL luU;rw [if_pos rfl,if_pos e];grind
   rw [e2,Zj (f:=fun s=>luL R m s p * luU R C a k s) (g:=fun s=>m s (R p) * a (R s) (C k)) fun s hs=>by unfold luL luU;rw [if_neg (by omega),if_pos (by omega),if_pos (by omega)]]
def trM (A:Mx):Mx:=fun c r=>A r c
theorem VM {n m:Nat} {f g:Nat→Rat} {h:Nat→Nat→Rat} (e:∀j,j < n→f j=ZQ (fun s=>g s * h s j) m) (y:Nat→Rat):ZQ (fun j=>f j * y j) n=ZQ (fun s=>g s * ZQ (fun j=>h s j * y j) n) m:=by
 rw [Zj (g:=fun j=>ZQ (fun s=>g s * (h s j * y j)) m) fun j hj=>by
  rw [e j hj,Rat.mul_comm,← YD];exact Zj fun s _=>by grind]
 rw [WO];exact Zj fun s _=>YD _ _ _
theorem Us.dep {n t:Nat} {A a:Mx} {R C:Nat→Nat} {m:Mx} (h:Us n t A a R C m) (ht:t < n) (hz:∀i j,i < n→j < n→(∀s,s < t→R s≠i)→(∀s,s < t→C s≠j)→a i j=0):¬YW n (trM A):=by
 obtain ⟨j0,H,l⟩:=h.ci.free ht
 -- row s of the triangle,with the columns that were taken before it left out
 have hw:∃W:Mx,(∀s j,(∀u,u < s→C u≠j)→W s j=a (R s) j)∧∀s u,u < s→W s (C u)=0:=by
  refine ⟨fun s j=>if ∀u,u < s→C u≠j then a (R s) j else 0,fun s j hs=>if_pos hs,fun s u hu=>if_neg fun g=>g u hu rfl⟩
 obtain ⟨W,d,o⟩:=hw;have F:∀k,k≤t→∃y:Nat→Rat,y j0=1∧(∀s,s < t - k→y (C s)=0)∧∀s,t - k≤s→s < t→ZQ (fun j=>W s j * y j) n=0:=by
  intro k
  induction k with
  | zero=>exact fun _=>⟨fun j=>if j=j0 then 1 else 0,if_pos rfl,fun s hs=>if_neg fun e=>l s (by omega) e,fun s h1 h2=>by omega⟩
  | succ k ih=>
   intro hk;obtain ⟨y,y1,y2,y3⟩:=ih (by omega);obtain ⟨s0,I⟩:∃s0,s0+1=t - k:=⟨t - k - 1,by omega⟩;have b:s0 < t:=(by omega);have G:=h.ci.1 s0 b;obtain ⟨q,hq⟩:∃q,q= -(ZQ (fun j=>W s0 j * y j) n) / a (R s0) (C s0):=⟨_,rfl⟩;have x:∀s,ZQ (fun j=>W s j * (if j=C s0 then q else y j)) n=ZQ (fun j=>W s j * y j) n+W s (C s0) * (q - y (C s0)):=fun s=>by
    have e:ZQ (fun j=>W s j * (if j=C s0 then q else y j)) n=ZQ (fun j=>W s j * y j+(if j=C s0 then W s (C s0) * (q - y (C s0)) else 0)) n:=Zj fun j _=>by
     by_cases e:j=C s0
     ·rw [if_pos e,if_pos e,e];grind
     ·rw [if_neg e,if_neg e];grind
    rw [e,XU,XV G]
   refine ⟨fun j=>if j=C s0 then q else y j,?_,fun s hs=>?_,fun s h1 h2=>?_⟩
   ·show (if j0=C s0 then q else y j0)=1;rw [if_neg fun e=>l s0 b e.symm];exact y1
   ·show (if C s=C s0 then q else y (C s))=0;rw [if_neg (h.ci.2 s s0 (by omega) b)];exact y2 s (by omega)
   ·rw [x s];rcases Nat.lt_or_ge s0 s with e | e
    ·rw [o s s0 e,y3 s (by omega) h2];grind
    ·obtain rfl:s=s0:=by omega
     rw [d s (C s) fun u hu=>h.ci.2 u s hu b,y2 s (by omega),hq];have hp:=h.piv s b;have e2: -(ZQ (fun j=>W s j * y j) n) / a (R s) (C s) * a (R s) (C s)= -(ZQ (fun j=>W s j * y j) n):=Rat.div_mul_cancel hp;grind
 obtain ⟨y,y1,_,y3⟩:=F t (Nat.le_refl _);have hy:∀s,s < t→ZQ (fun j=>W s j * y j) n=0:=fun s hs=>y3 s (by omega) hs
 intro hi;have z:∀r,r < n→Y7 n (trM A) y r=0:=fun r hr=>by
  show ZQ (fun c=>A r c * y c) n=0;by_cases hp:∃p,p < t∧R p=r
  ·obtain ⟨p,B,rfl⟩:=hp;have e:∀j,j < n→A (R p) j=ZQ (fun s=>(if s=p then 1 else m s (R p)) * W s j) (p+1):=fun j hj=>by
    rw [ZF,if_pos rfl];have e0:ZQ (fun s=>(if s=p then 1 else m s (R p)) * W s j) p=ZQ (fun s=>m s (R p) * W s j) p:=Zj fun s hs=>by rw [if_neg (by omega)]
    rw [e0];by_cases hq:∃q,q < p∧C q=j
    ·obtain ⟨q,D,rfl⟩:=hq;rw [o p q D,h.e4 p q B D,XW (f:=fun s=>m s (R p) * W s (C q)) (n:=q+1) (m:=p) (by omega) fun s h1 h2=>by rw [o s q (by omega)];grind];have e1:ZQ (fun s=>m s (R p) * a (R s) (C q)) (q+1)=ZQ (fun s=>m s (R p) * W s (C q)) (q+1):=Zj fun s hs=>by rw [d s (C q) fun u hu=>h.ci.2 u q (by omega) (by omega)]
     rw [e1];grind
    ·have hn:∀u,u < p→C u≠j:=fun u hu e=>hq ⟨u,hu,e⟩
     rw [h.e3 p j B hj hn,d p j hn];have e1:ZQ (fun s=>m s (R p) * a (R s) j) p=ZQ (fun s=>m s (R p) * W s j) p:=Zj fun s hs=>by rw [d s j fun u hu=>hn u (by omega)]
     rw [e1];grind
   rw [VM e];exact WP fun s hs=>by rw [hy s (by omega)];grind
  ·have v:∀s,s < t→R s≠r:=fun s hs e=>hp ⟨s,hs,e⟩
   have e:∀j,j < n→A r j=ZQ (fun s=>m s r * W s j) t:=fun j hj=>by
    by_cases hq:∃q,q < t∧C q=j
    ·obtain ⟨q,E,rfl⟩:=hq;rw [h.e2 r q hr E v,XW (f:=fun s=>m s r * W s (C q)) (n:=q+1) (m:=t) (by omega) fun s h1 h2=>by rw [o s q (by omega)];grind];exact Zj fun s hs=>by rw [d s (C q) fun u hu=>h.ci.2 u q (by omega) E]
    ·have hn:∀u,u < t→C u≠j:=fun u hu e=>hq ⟨u,hu,e⟩
     rw [h.e1 r j hr hj v hn,hz r j hr hj v hn];have e1:ZQ (fun s=>m s r * a (R s) j) t=ZQ (fun s=>m s r * W s j) t:=Zj fun s hs=>by rw [d s j fun u hu=>hn u (by omega)]
     rw [e1];grind
   rw [VM e];exact WP fun s hs=>by rw [hy s hs];grind
 have:=hi y z j0 H;rw [y1] at this;exact absurd this (by decide)
theorem Zoz {n:Nat} {L:Mx} (h0:∀t p,t < n→p < n→p < t→L t p=0) (h1:∀t,t < n→L t t=1) {z:Nat→Rat} (hz:∀p,p < n→ZQ (fun s=>L s p * z s) n=0):∀p,p < n→z p=0:=by
 intro p
 induction p using Nat.strongRecOn with
 | _ p ih=>
  intro hp;have:=hz p hp;rw [YT hp fun i hi hne=>by
   rcases Nat.lt_or_ge i p with e | e
   ·rw [ih i e hi];grind
   ·rw [h0 i p hi hp (by omega)];grind,h1 p hp] at this
  grind
theorem Zpa {n:Nat} {U:Mx} (h0:∀k s,k < n→s < n→k < s→U k s=0) (h1:∀k,k < n→U k k≠0) {w:Nat→Rat} (hw:∀s,s < n→ZQ (fun k=>U k s * w k) n=0):∀k,k < n→w k=0:=by
 have a:∀d k,k+d+1=n→w k=0:=by
  intro d
  induction d using Nat.strongRecOn with
  | _ d ih=>
   intro k hk;have:=hw k (by omega);rw [YT (show k < n by omega) fun i hi hne=>by
    rcases Nat.lt_or_ge i k with e | e
    ·rw [h0 i k hi (by omega) e];grind
    ·rw [ih (n - 1 - i) (by omega) i (by omega)];grind] at this
   rcases Rat.mul_eq_zero.1 this with e | e
   ·exact absurd e (h1 k (by omega))
   ·exact e
 exact fun k hk=>a (n - 1 - k) k (by omega)
theorem Zbj.solve {n:Nat} {A:Mx} {R C:Nat→Nat} {L U:Mx} (h:Zbj n A R C L U) {b z x:Nat→Rat} (hz:∀p,p < n→ZQ (fun s=>L s p * z s) n=b (R p)) (hx:∀s,s < n→ZQ (fun k=>U k s * x (C k)) n=z s):∀r,r < n→Y7 n (trM A) x r=b r:=by
 intro r hr;obtain ⟨p,hp,rfl⟩:=h.ri.onto hr;show ZQ (fun c=>A (R p) c * x c) n=b (R p);rw [← UY h.ci (fun c=>A (R p) c * x c),VM (f:=fun k=>A (R p) (C k)) (g:=fun s=>L s p) (h:=fun s k=>U k s) (m:=n) (fun k hk=>h.eq p k hp hk) (fun k=>x (C k)),← hz p hp];exact Zj fun s hs=>by rw [hx s hs]
theorem Zbj.solveT {n:Nat} {A:Mx} {R C:Nat→Nat} {L U:Mx} (h:Zbj n A R C L U) {d v y:Nat→Rat} (hv:∀k,k < n→ZQ (fun s=>U k s * v s) n=d (C k)) (hy:∀s,s < n→ZQ (fun p=>L s p * y (R p)) n=v s):∀c,c < n→Y7 n A y c=d c:=by
 intro c hc;obtain ⟨k,hk,rfl⟩:=h.ci.onto hc;show ZQ (fun r=>A r (C k) * y r) n=d (C k);rw [← UY h.ri (fun r=>A r (C k) * y r),VM (f:=fun p=>A (R p) (C k)) (g:=fun s=>U k s) (h:=fun s p=>L s p) (m:=n) (fun p hp=>by rw [h.eq p k hp hk];exact Zj fun s _=>by grind) (fun p=>y (R p)),← hv k hk];exact Zj fun s hs=>by rw [hy s hs]
theorem Zbj.indep {n:Nat} {A:Mx} {R C:Nat→Nat} {L U:Mx} (h:Zbj n A R C L U):YW n (trM A):=by
 intro y hy;have h1:∀p,p < n→ZQ (fun s=>L s p * ZQ (fun k=>U k s * y (C k)) n) n=0:=fun p hp=>by
  rw [← VM (f:=fun k=>A (R p) (C k)) (g:=fun s=>L s p) (h:=fun s k=>U k s) (m:=n) (fun k hk=>h.eq p k hp hk) (fun k=>y (C k)),UY h.ci (fun c=>A (R p) c * y c)];exact hy (R p) (h.ri.1 p hp)
 have h2:=Zoz h.l0 h.l1 h1;have h3:=Zpa h.u0 h.u1 (w:=fun k=>y (C k)) h2;intro c hc;obtain ⟨k,hk,rfl⟩:=h.ci.onto hc;exact h3 k hk
def Zaf (cols:Mx) (k:Nat) (v:Nat→Rat):Mx:=fun c=>if c=k then v else cols c
theorem Zgs {n k:Nat} {cols:Mx} {v im x c:Nat→Rat} (hk:k < n) (him:∀r,r < n→Y7 n cols im r=v r) (h0:im k≠0) (hx:∀r,r < n→Y7 n cols x r=c r) {x':Nat→Rat} (hxk:x' k=x k / im k) (hxi:∀i,i < n→i≠k→x' i=x i - im i * x' k):
 ∀r,r < n→Y7 n (Zaf cols k v) x' r=c r:=by
 intro r hr;have hd:x' k * im k=x k:=by rw [hxk];exact Rat.div_mul_cancel h0
 have e:Y7 n (Zaf cols k v) x' r=ZQ (fun i=>cols i r * x i - x' k * (cols i r * im i)+(if i=k then v r * x' k else 0)) n:=Zj fun i hi=>by
  unfold Zaf;by_cases e:i=k
  ·subst e;rw [if_pos rfl,if_pos rfl];grind
  ·rw [if_neg e,if_neg e,hxi i hi e];grind
 rw [e,XU,Zgp,YD,XV hk];have h1:ZQ (fun i=>cols i r * x i) n=c r:=hx r hr;have h2:ZQ (fun i=>cols i r * im i) n=v r:=him r hr;rw [h1,h2];grind
theorem Zdb {n k:Nat} {cols:Mx} {v im:Nat→Rat} (hk:k < n) (hi:YW n cols) (him:∀r,r < n→Y7 n cols im r=v r) (h0:im k≠0):YW n (Zaf cols k v):=by
 intro y hy;have h1:∀r,r < n→Y7 n cols (fun i=>(if i=k then 0 else y i)+y k * im i) r=0:=fun r hr=>by
  have e:Y7 n cols (fun i=>(if i=k then 0 else y i)+y k * im i) r=ZQ (fun i=>(Zaf cols k v i r * y i - (if i=k then v r * y k else 0))+y k * (cols i r * im i)) n:=Zj fun i _=>by
   unfold Zaf;by_cases e:i=k
   ·subst e;simp only [if_pos];grind
   ·simp only [if_neg e];grind
  rw [e,XU,Zgp,YD,XV hk];have h2:ZQ (fun i=>Zaf cols k v i r * y i) n=0:=hy r hr;have h3:ZQ (fun i=>cols i r * im i) n=v r:=him r hr;rw [h2,h3];grind
 have h2:=hi _ h1;have h3:y k=0:=by
  have:=h2 k hk;simp only [if_pos] at this;have e:y k * im k=0:=by grind
  rcases Rat.mul_eq_zero.1 e with g | g
  ·exact g
  ·exact absurd g h0
 intro i a;by_cases e:i=k
 ·rw [e];exact h3
 ·have:=h2 i a;simp only [if_neg e,h3] at this;grind
end Pl
namespace Pl
def spV (f:Nat→Rat):Nat→List En
 | 0=>[]
 | n+1=>if f n=0 then spV f n else spV f n++[⟨(n:Int),canF (f n)⟩]
theorem Y8 {f:Nat→Rat} {n:Nat} (h:f n=0):spV f (n+1)=spV f n:=by unfold spV;rw [if_pos h];cases n <;> rfl
theorem Xn {f:Nat→Rat} {n:Nat} (h:f n≠0):spV f (n+1)=spV f n++[⟨(n:Int),canF (f n)⟩]:=by rw [spV,if_neg h]
theorem Xo {f g:Nat→Rat}:∀{n:Nat},(∀i,i < n→f i=g i)→spV f n=spV g n
 | 0,_=>rfl
 | n+1,h=>by rw [spV,spV,h n (by omega),Xo fun i hi=>h i (by omega)]
theorem X4 {f:Nat→Rat}:∀(n:Nat),(spV f n).length≤n
 | 0=>Nat.le_refl _
 | n+1=>by
  have:=X4 (f:=f) n
  by_cases h:f n=0
  ·rw [Y8 h];omega
  ·rw [Xn h,List.length_append];simp;omega
theorem Ut {f:Nat→Rat}:∀{n k:Nat} {e:En},(spV f n)[k]? =some e→∃i:Nat,i < n∧e.idx=(i:Int)∧e.f=canF (f i)∧f i≠0
 | 0,k,e,h=>by simp [spV] at h
 | n+1,k,e,h=>by
  by_cases h0:f n=0
  ·rw [Y8 h0] at h
   obtain ⟨i,h1,h2⟩:=Ut h
   exact ⟨i,by omega,h2⟩
  ·rw [Xn h0] at h
   rcases Nat.lt_or_ge k (spV f n).length with hk | hk
   ·rw [List.getElem?_append_left hk] at h
    obtain ⟨i,h1,h2⟩:=Ut h
    exact ⟨i,by omega,h2⟩
   ·rw [List.getElem?_append_right hk] at h
    have hk':k - (spV f n).length=0:=by
     rcases Nat.eq_zero_or_pos (k - (spV f n).length) with e | e
     ·exact e
     ·rw [List.getElem?_eq_none (by simp;omega)] at h;cases h
    rw [hk'] at h;simp at h;subst h;exact ⟨n,by omega,rfl,rfl,h0⟩
theorem Zdc (f:Nat→Rat) (n:Nat):inR n (spV f n):=fun k e h=>by
 obtain ⟨i,h1,h2,_⟩:=Ut h
 omega
theorem Zfd (f:Nat→Rat):∀(n i:Nat),Xt (spV f n) i=if i < n then f i else 0
 | 0,i=>by rw [if_neg (by omega)];rfl
 | n+1,i=>by
  have ih:=Zfd f n i
  by_cases h0:f n=0
  ·rw [Y8 h0,ih]
   by_cases e:i < n
   ·rw [if_pos e,if_pos (by omega)]
   ·rw [if_neg e]
    by_cases e2:i=n
    ·subst e2;rw [if_pos (by omega),h0]
    ·rw [if_neg (by omega)]
  ·rw [Xn h0]
   unfold Xt at ih ⊢
   rw [Zgo]
   simp only
   by_cases e:(n:Int)=(i:Int)
   ·obtain rfl:n=i:=by omega
    rw [if_pos e,if_pos (by omega),Zt]
   ·rw [if_neg e,ih]
    by_cases e2:i < n
    ·rw [if_pos e2,if_pos (by omega)]
    ·rw [if_neg e2,if_neg (by omega)]
def Good (n:Nat) (es:List En):Prop:=inR n es∧Inc none es∧∀(k:Nat) (e:En),es[k]? =some e→e.f.q≠0
theorem Zzx {p:Option Int} {es:List En} {e:En} (h:Inc p es) (h1:leP p e.idx=false) (h2:∀(k:Nat) (d:En),es[k]? =some d→d.idx < e.idx):Inc p (es++[e]):=by
 induction es generalizing p with
 | nil=>exact ⟨h1,trivial⟩
 | cons d es ih=>
  refine ⟨h.1,ih h.2 ?_ fun k d' hd=>h2 (k+1) d' (by simpa using hd)⟩;have:=h2 0 d rfl;simp [leP];omega
theorem Zgt (f:Nat→Rat):∀(n:Nat),Inc none (spV f n)
 | 0=>trivial
 | n+1=>by
  by_cases h0:f n=0
  ·rw [Y8 h0];exact Zgt f n
  ·rw [Xn h0]
   exact Zzx (Zgt f n) rfl fun k d hd=>by
    obtain ⟨i,h1,h2,_⟩:=Ut hd
    show d.idx < (n:Int)
    omega
theorem Zbt (f:Nat→Rat) (n:Nat):Good n (spV f n):=⟨Zdc f n,Zgt f n,fun k e h=>by
 obtain ⟨i,h1,h2,h3,h4⟩:=Ut h
 rw [h3,Zt];exact h4⟩
theorem Zsb {n:Int} {es:List En} {p:Option Int} (h1:∀(k:Nat) (e:En),es[k]? =some e→0≤e.idx∧e.idx < n) (h2:Inc p es) (h3:∀(k:Nat) (e:En),es[k]? =some e→e.f.q≠0):UR n es p=0:=by
 induction es generalizing p with
 | nil=>rfl
 | cons e es ih=>
  have a:=h1 0 e rfl;rw [UR,if_neg (by omega),if_neg (by rw [h2.1];decide),if_neg (h3 0 e rfl)];exact ih (fun k d hd=>h1 (k+1) d (by simpa using hd)) h2.2 fun k d hd=>h3 (k+1) d (by simpa using hd)
theorem Good.err {n:Nat} {es:List En} (h:Good n es) (hn:n≤4096):vecErr es (n:Int)=0:=by
 unfold vecErr;rw [if_neg (by omega)];exact Zsb h.1 h.2.1 h.2.2
theorem Zbc {f:Nat→Rat} {n K:Nat} (h:∀i,i < n→Sz K (f i)):∀(k:Nat) (e:En),(spV f n)[k]? =some e→e.f.Rs K:=fun k e he=>by
 obtain ⟨i,h1,h2,h3,h4⟩:=Ut he
 rw [h3];exact (h i h1).rs
end Pl
namespace Pl
def Uu (L:Mx) (b:Nat→Rat):Nat→Nat→Rat
 | 0=>b
 | j+1=>fun i=>if j < i then Uu L b j i - L j i * Uu L b j j else Uu L b j i
theorem Zdd (L:Mx) (b:Nat→Rat) (j i:Nat):Uu L b (j+1) i=if j < i then Uu L b j i - L j i * Uu L b j j else Uu L b j i:=rfl
theorem Zjc (L:Mx) (b:Nat→Rat) (i:Nat):∀d,Uu L b (i+d) i=Uu L b i i
 | 0=>rfl
 | d+1=>by rw [← Nat.add_assoc,Zdd,if_neg (by omega)];exact Zjc L b i d
theorem Zgu {L:Mx} {b:Nat→Rat} {i j:Nat} (h:i≤j):Uu L b j i=Uu L b i i:=by
 have:=Zjc L b i (j - i)
 rwa [show i+(j - i)=j by omega] at this
theorem Zgv (L:Mx) (b:Nat→Rat) (i:Nat):∀j,j≤i→Uu L b j i=b i - ZQ (fun s=>L s i * Uu L b s s) j
 | 0,_=>by rw [YG];show b i=_;grind
 | j+1,h=>by rw [Zdd,if_pos (by omega),ZF,Zgv L b i j (by omega)];grind
theorem Zlj {n:Nat} {L:Mx} {b:Nat→Rat} (h0:∀t p,t < n→p < n→p < t→L t p=0) (h1:∀t,t < n→L t t=1):∀p,p < n→ZQ (fun s=>L s p * Uu L b n s) n=b p:=by
 intro p hp;rw [XW (n:=p+1) (by omega) fun i h1' h2=>by rw [h0 i p h2 hp (by omega)];grind,ZF,h1 p hp,Zgu (show p≤n by omega),Zgv L b p p (Nat.le_refl _)];rw [Zj (g:=fun s=>L s p * Uu L b s s) fun s hs=>by rw [Zgu (show s≤n by omega)]];grind
def Uz (n:Nat) (U:Mx) (z:Nat→Rat):Nat→Nat→Rat
 | 0=>z
 | j+1=>fun i=>if i=n - 1 - j then Uz n U z j i / U i i else if i < n - 1 - j then Uz n U z j i - U (n - 1 - j) i * (Uz n U z j (n - 1 - j) / U (n - 1 - j) (n - 1 - j)) else Uz n U z j i
theorem UZ (n:Nat) (U:Mx) (z:Nat→Rat) (j i:Nat):Uz n U z (j+1) i=if i=n - 1 - j then Uz n U z j i / U i i else if i < n - 1 - j then Uz n U z j i - U (n - 1 - j) i * (Uz n U z j (n - 1 - j) / U (n - 1 - j) (n - 1 - j)) else Uz n U z j i:=rfl
theorem Zjd (n:Nat) (U:Mx) (z:Nat→Rat) (i:Nat) (hi:i < n):∀d,d≤i→Uz n U z (n - i+d) i=Uz n U z (n - i) i
 | 0,_=>rfl
 | d+1,h=>by rw [← Nat.add_assoc,UZ,if_neg (by omega),if_neg (by omega)];exact Zjd n U z i hi d (by omega)
theorem Zap {n:Nat} {U:Mx} {z:Nat→Rat} {i j:Nat} (hi:i < n) (h:n - i≤j) (hj:j≤n):Uz n U z j i=Uz n U z (n - i) i:=by
 have:=Zjd n U z i hi (j - (n - i)) (by omega)
 rwa [show n - i+(j - (n - i))=j by omega] at this
theorem Zmz {n:Nat} {U:Mx} {z:Nat→Rat} {i:Nat} (hi:i < n):Uz n U z (n - i) i=Uz n U z (n - 1 - i) i / U i i:=by
 rw [show n - i=(n - 1 - i)+1 by omega,UZ,if_pos (by omega)]
theorem Zgw (n:Nat) (U:Mx) (z:Nat→Rat) (i:Nat):∀j,j+i < n→Uz n U z j i=z i - ZQ (fun t=>U (n - 1 - t) i * Uz n U z n (n - 1 - t)) j
 | 0,_=>by rw [YG];show z i=_;grind
 | j+1,h=>by
  rw [UZ,if_neg (by omega),if_pos (by omega),ZF,Zgw n U z i j (by omega)]
  have e:Uz n U z n (n - 1 - j)=Uz n U z j (n - 1 - j) / U (n - 1 - j) (n - 1 - j):=by
   rw [Zap (i:=n - 1 - j) (by omega) (by omega) (Nat.le_refl _),Zmz (by omega),show n - 1 - (n - 1 - j)=j by omega]
  rw [e];grind
theorem Zwc (f:Nat→Rat):∀n,ZQ (fun t=>f (n - 1 - t)) n=ZQ f n:=by
 intro n;have h:Inj n n (fun t=>n - 1 - t):=⟨fun s hs=>by show n - 1 - s < n;omega,fun s u h1 h2 e=>by have e':n - 1 - s=n - 1 - u:=e;omega⟩;exact UY h f
theorem Zde {n:Nat} {U:Mx} {z:Nat→Rat} (h0:∀k s,k < n→s < n→k < s→U k s=0) (h1:∀k,k < n→U k k≠0):∀s,s < n→ZQ (fun k=>U k s * Uz n U z n k) n=z s:=by
 intro s hs;rw [← Zwc,XW (n:=n - 1 - s+1) (m:=n) (by omega) fun i h1' h2=>by
  show U (n - 1 - i) s * _=0;rw [h0 (n - 1 - i) s (by omega) hs (by omega)];grind,ZF,show n - 1 - (n - 1 - s)=s by omega,Zap hs (show n - s≤n by omega) (Nat.le_refl _),Zmz hs,Zgw n U z s (n - 1 - s) (by omega)]
 have e:=Rat.div_mul_cancel (a:=z s - ZQ (fun t=>U (n - 1 - t) s * Uz n U z n (n - 1 - t)) (n - 1 - s)) (h1 s hs);grind
def utN (U:Mx) (d:Nat→Rat):Nat→Nat→Rat
 | 0=>fun _=>0
 | k+1=>fun i=>if i=k then (d k - ZQ (fun s=>U k s * utN U d k s) k) / U k k else utN U d k i
theorem Zgx (U:Mx) (d:Nat→Rat) (k i:Nat):utN U d (k+1) i=if i=k then (d k - ZQ (fun s=>U k s * utN U d k s) k) / U k k else utN U d k i:=rfl
theorem Zdf {U:Mx} {d:Nat→Rat} {i:Nat}:∀{j:Nat},i < j→utN U d j i=utN U d (i+1) i
 | 0,h=>by omega
 | j+1,h=>by
  by_cases e:i=j
  ·rw [e]
  ·rw [Zgx,if_neg e];exact Zdf (by omega)
theorem Zpb {n:Nat} {U:Mx} {d:Nat→Rat} (h0:∀k s,k < n→s < n→k < s→U k s=0) (h1:∀k,k < n→U k k≠0):∀k,k < n→ZQ (fun s=>U k s * utN U d n s) n=d k:=by
 intro k hk;rw [XW (n:=k+1) (by omega) fun i h1' h2=>by rw [h0 k i hk h2 (by omega)];grind,ZF,Zdf hk,Zgx,if_pos rfl];rw [Zj (g:=fun s=>U k s * utN U d k s) fun s hs=>by rw [Zdf (show s < n by omega),← Zdf hs]];have e:=Rat.div_mul_cancel (a:=d k - ZQ (fun s=>U k s * utN U d k s) k) (h1 k hk);grind
def ltN (n:Nat) (L:Mx) (w:Nat→Rat):Nat→Nat→Rat
 | 0=>w
 | j+1=>fun i=>if i=n - 1 - j then ltN n L w j i - ZQ (fun p=>if p=i then 0 else L i p * ltN n L w j p) n else ltN n L w j i
theorem U2 (n:Nat) (L:Mx) (w:Nat→Rat) (j i:Nat):ltN n L w (j+1) i=if i=n - 1 - j then ltN n L w j i - ZQ (fun p=>if p=i then 0 else L i p * ltN n L w j p) n else ltN n L w j i:=rfl
theorem Zdg {n:Nat} {L:Mx} {w:Nat→Rat} {i:Nat}:∀{j:Nat},j+i < n→ltN n L w j i=w i
 | 0,_=>rfl
 | j+1,h=>by rw [U2,if_neg (by omega)];exact Zdg (by omega)
theorem Zbd {n:Nat} {L:Mx} {w:Nat→Rat} {i:Nat} (hi:i < n):∀{j:Nat},n - i≤j→j≤n→ltN n L w j i=ltN n L w (n - i) i
 | 0,h,_=>by omega
 | j+1,h,hj=>by
  by_cases e:n - i=j+1
  ·rw [e]
  ·rw [U2,if_neg (by omega)];exact Zbd hi (by omega) (by omega)
theorem Zfe {n:Nat} {L:Mx} {w:Nat→Rat} (h0:∀t p,t < n→p < n→p < t→L t p=0) (h1:∀t,t < n→L t t=1):∀s,s < n→ZQ (fun p=>L s p * ltN n L w n p) n=w s:=by
 intro s hs;have e1:ZQ (fun p=>L s p * ltN n L w n p) n=ZQ (fun p=>(if p=s then 0 else L s p * ltN n L w (n - 1 - s) p)+(if p=s then ltN n L w n s else 0)) n:=Zj fun p hp=>by
  by_cases e:p=s
  ·rw [if_pos e,if_pos e,e,h1 s hs];grind
  ·rw [if_neg e,if_neg e];rcases Nat.lt_or_ge p s with g | g
   ·rw [h0 s p hs hp g];grind
   ·rw [Zbd hp (show n - p≤n by omega) (Nat.le_refl _),← Zbd hp (show n - p≤n - 1 - s by omega) (by omega)];grind
 rw [e1,XU,XV hs,Zbd hs (show n - s≤n by omega) (Nat.le_refl _),show n - s=(n - 1 - s)+1 by omega,U2,if_pos (by omega),Zdg (by omega)];grind
end Pl
theorem Yi.monoB {base base':Nat} {w:World} {v:Value} {fs:List RF} (h:Yi base w v fs) (hb:base'≤base):Yi base' w v fs:=by
 obtain ⟨cs,h1,h2⟩:=h;exact ⟨cs,Vi h1 hb,h2⟩
theorem Yi.own_ge {base:Nat} {w:World} {v:Value} {fs:List RF} (h:Yi base w v fs):∀g,v.ownBlock=some g→base≤g:=by
 obtain ⟨cs,h1,h2⟩:=h;intro g hg;exact (h1.lt g hg).1
end Go.Proofs.YtncmobkhenfhpaaGreat
