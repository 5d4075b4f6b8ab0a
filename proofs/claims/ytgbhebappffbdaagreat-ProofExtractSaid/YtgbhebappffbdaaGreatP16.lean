/- Lemmas of the claim; no condition. -/
import Derived.Test.YtgbhebappffbdaaGreatP14
set_option linter.all false
set_option maxRecDepth 100000
set_option maxHeartbeats 40000000
namespace Go.Proofs.YtgbhebappffbdaaGreat
open Go.RowKit
open Pl
attribute [local go_sem ↓] Go.wp_at_zero Go.wp_at_succ
namespace Pl
def Yj (m:Nat) (f:Nat→Rat):List RF:=(List.range m).map fun i=>canF (f i)
theorem Zm (m:Nat) (f:Nat→Rat):(Yj m f).length=m:=by simp [Yj]
theorem ZK {m i:Nat} {f:Nat→Rat} (h:i < m):(Yj m f)[i]? =some (canF (f i)):=by simp [Yj,h]
theorem YH {m i:Nat} {f:Nat→Rat} (h:i < m):qAt (Yj m f) i=f i:=by rw [Yo (ZK h),Zu]
theorem ZT {m:Nat} {f g:Nat→Rat} (h:∀i,i < m→f i=g i):Yj m f=Yj m g:=by
 unfold Yj;apply List.map_congr_left;intro i hi;rw [h i (List.mem_range.1 hi)]
theorem Vg {m k:Nat} {f:Nat→Rat} {q:Rat} (h:k < m):(Yj m f).set k (canF q)=Yj m fun i=>if i=k then q else f i:=by
 apply List.ext_getElem?;intro i;rcases JX i m with hi | hi
 ·rw [ZK hi];by_cases a:i=k
  ·subst a;rw [List.getElem?_set_self (by rw [Zm];exact h),if_pos rfl]
  ·rw [List.getElem?_set_ne (by omega),ZK hi,if_neg a]
 ·rw [JU (by simp [Zm];exact hi),JU (by rw [Zm];exact hi)]
theorem Zbc {m K:Nat} {f:Nat→Rat} (h:∀i,i < m→Sz K (f i)):RsL K (Yj m f):=by
 intro i g hg;have hi:i < m:=by have:=(List.getElem?_eq_some_iff.1 hg).1;rw [Zm] at this;exact this
 rw [ZK hi] at hg;injection hg with hg;subst hg;exact (h i hi).rs
def nnB (fs:List RF):Bool:=decide (∀i,i < fs.length→0≤qs (qAt fs i))
theorem Zxv {fs:List RF} (h:∀i,i < fs.length→0≤qs (qAt fs i)):nnB fs=true:=by simpa [nnB] using h
theorem Zts {fs:List RF} {i:Nat} (hi:i < fs.length) (h:qs (qAt fs i) < 0):nnB fs=false:=by
 unfold nnB;rw [decide_eq_false];exact fun g=>by have:=g i hi;omega
def eqB (xs ys:List RF):Bool:=decide (xs.length=ys.length∧∀i,i < xs.length→qAt xs i=qAt ys i)
theorem Zdf {p q:Rat}:qs (p - q)=0↔p=q:=by
 rw [Yp];constructor
 ·intro h;rw [← Rat.sub_add_cancel (a:=p) (b:=q),h,Rat.zero_add]
 ·intro h;rw [h,Rat.sub_self]
def dQ:List En→(Nat→Rat)→Nat→Rat
 | [],f=>f
 | e::es,f=>dQ es fun i=>if e.idx=(i:Int) then e.f.q else f i
theorem Zgx (es:List En) (e:En) (f:Nat→Rat):dQ (es++[e]) f=fun (i:Nat)=>if e.idx=(i:Int) then e.f.q else dQ es f i:=by
 induction es generalizing f with
 | nil=>rfl
 | cons d es ih=>rw [List.cons_append,dQ,ih];rfl
theorem Ztt {es:List En} {k:Nat} {e:En} (h:es[k]? =some e) (f:Nat→Rat):dQ (es.take (k+1)) f=fun (i:Nat)=>if e.idx=(i:Int) then e.f.q else dQ (es.take k) f i:=by
 rw [List.take_add_one,h,Option.toList_some,Zgx]
def inR (n:Nat) (es:List En):Prop:=∀(k:Nat) (e:En),es[k]? =some e→0≤e.idx∧e.idx < n
def Wl (es:List En):Nat→Rat:=dQ es fun _=>0
theorem Yeh {es:List En} {f:Nat→Rat} {K:Nat} (h:∀(k:Nat) (e:En),es[k]? =some e→e.f.Rs K) (hK:1≤K) (hf:∀i,Sz K (f i)) (i:Nat):Sz K (dQ es f i):=by
 induction es generalizing f with
 | nil=>exact hf i
 | cons e es ih=>
  rw [dQ];refine ih (fun k d hd=>h (k+1) d (by simpa using hd)) (fun i=>?_);split
  ·exact (h 0 e rfl).sz hK
  ·exact hf i
theorem Sz_col {es:List En} {K:Nat} (h:∀(k:Nat) (e:En),es[k]? =some e→e.f.Rs K) (hK:1≤K) (i:Nat):Sz K (Wl es i):=Yeh h hK (fun _=>Sz_zero.mono hK) i
end Pl
theorem Zw {n g:Nat} {w w':World} (h:Below n w w') (hg:n≤g) (i j k l:Nat) (x y z u:Value):Below n w ((((w'.setCell ⟨g,i,none⟩ x).setCell ⟨g,j,none⟩ y).setCell ⟨g,k,none⟩ z).setCell ⟨g,l,none⟩ u):=(((h.setCell hg _).setCell hg _).setCell hg _).setCell hg _
theorem Wy {w:World} {base base':Nat} {t:TypeId} {s n:Nat} {v:Value} {xs:List Value} (h:w.ownsRow base t s v n xs) (hb:base'≤base):w.ownsRow base' t s v n xs:=by
 refine ⟨h.1,?_⟩;rcases h.2 with hn | ⟨g,cap,cur,rfl,hb',rest⟩
 ·exact .inl hn
 ·exact .inr ⟨g,cap,cur,rfl,JW hb hb',rest⟩
namespace Pl
def LPd.col (p:LPd) (j:Int):Nat→Rat:=if 0≤j then (match p.cols[j.toNat]? with | some c=>Wl c | none=>fun _=>0) else fun i=>if (i:Int)= -1 - j then (if qs (qAt p.right i) < 0 then -1 else 1) else 0
theorem LPd.col_pos {p:LPd} {j:Nat} {c:List En} (h:p.cols[j]? =some c):p.col (j:Int)=Wl c:=by
 unfold LPd.col;rw [if_pos (by omega),JP,h]
theorem LPd.col_neg {p:LPd} {r:Nat}:p.col (-1 - (r:Int))=fun i=>if i=r then (if qs (qAt p.right i) < 0 then -1 else 1) else 0:=by
 unfold LPd.col;rw [if_neg (by omega)]
 funext i
 by_cases h:i=r
 ·rw [if_pos h,if_pos (by omega)]
 ·rw [if_neg h,if_neg (by omega)]
def LPd.In (p:LPd):Prop:=∀(j:Nat) (c:List En),p.cols[j]? =some c→inR p.right.length c
theorem Sz_one:Sz 1 1:=by
 unfold Sz;exact ⟨YT (by rw [show Int.natAbs (Rat.num 1)=1 from rfl];decide),YT (by rw [show Rat.den 1=1 from rfl];decide)⟩
theorem LPd.Sz_col {p:LPd} {K:Nat} (ok:p.Ok K) (hK:1≤K) (j:Int) (i:Nat):Sz K (p.col j i):=by
 rcases Int.lt_or_le j 0 with h | h
 ·obtain ⟨r,rfl⟩:∃r:Nat,j= -1 - (r:Int):=⟨(-1 - j).toNat,by omega⟩;rw [LPd.col_neg];show Sz K (if i=r then (if qs (qAt p.right i) < 0 then -1 else 1) else 0);split
  ·split
   ·exact (Zoa Sz_one).mono hK
   ·exact Sz_one.mono hK
  ·exact Sz_zero.mono hK
 ·obtain ⟨r,rfl⟩:=JT h
  cases hc:p.cols[r]? with
  | some c=>rw [LPd.col_pos hc];exact Pl.Sz_col (ok.2.2 _ c hc).2 hK i
  | none=>
   have:p.col (r:Int) i=0:=by unfold LPd.col;rw [if_pos (by omega),JP,hc]
   rw [this];exact Sz_zero.mono hK
end Pl
theorem Z4.far4 {base:Nat} {w:World} {v:Value} {fs:List RF} {g i j k l:Nat} {x y z u:Value} (h:Z4 base w v fs) (hg:g < base):
 ∀W,W=((((w.setCell ⟨g,i,none⟩ x).setCell ⟨g,j,none⟩ y).setCell ⟨g,k,none⟩ z).setCell ⟨g,l,none⟩ u)→Ze 46 w W→Z4 base W v fs:=by
 rintro W rfl hk;obtain ⟨cs,h1,h2⟩:=h;refine ⟨cs,⟨h1.1,?_⟩,h2.keep (hk.keep (by decide))⟩;rcases h1.2 with hn | ⟨g',cap,cur,rfl,hb',hgg,rest⟩
 ·exact .inl hn
 ·refine .inr ⟨g',cap,cur,rfl,hb',?_,rest⟩;have a:g'≠g:=by omega
  rw [heap_setCell_other _ _ _ _ a,heap_setCell_other _ _ _ _ a,heap_setCell_other _ _ _ _ a,heap_setCell_other _ _ _ _ a];exact hgg
namespace Pl
def YL (p:LPd) (xs:List RF) (k r:Nat):Rat:=ZO (fun j=>qAt xs j * p.col (j:Int) r) k
theorem Zdg (p:LPd) (xs:List RF) (k r:Nat):YL p xs (k+1) r=YL p xs k r+qAt xs k * p.col (k:Int) r:=rfl
theorem Zxw {p:LPd} {xs:List RF} {K:Nat} (ok:p.Ok K) (hx:RsL K xs) (hK:1≤K) (k r:Nat):Sz (1+k * (2 * K+1)) (YL p xs k r):=
 Zjg fun j _=>(XN (hx.qAt hK j) (LPd.Sz_col ok hK j r)).mono (by omega)
end Pl
namespace Pl
theorem Yby {n:Int} {es:List En} {p:Option Int} (h:UD n es p=0):∀(k:Nat) (e:En),es[k]? =some e→0≤e.idx∧e.idx < n∧e.f.q≠0:=by
 induction es generalizing p with
 | nil=>intro k e h;simp at h
 | cons d es ih=>
  rw [UD] at h;split at h
  ·omega
  ·rename_i h1
   split at h
   ·omega
   ·split at h
    ·omega
    ·rename_i h3
     intro k e hk
     cases k with
     | zero=>simp at hk;subst hk;exact ⟨by omega,by omega,h3⟩
     | succ k=>exact ih h k e (by simpa using hk)
def Inc:Option Int→List En→Prop
 | _,[]=>True
 | p,e::es=>leP p e.idx=false∧Inc (some e.idx) es
theorem Zxx {n:Int} {es:List En} {p:Option Int} (h:UD n es p=0):Inc p es:=by
 induction es generalizing p with
 | nil=>trivial
 | cons d es ih=>
  rw [UD] at h;split at h
  ·omega
  ·split at h
   ·omega
   ·rename_i h2
    split at h
    ·omega
    ·exact ⟨by simpa using h2,ih h⟩
theorem Zdh {es:List En} {n:Nat} (h:vecErr es n=0):inR n es∧(∀(k:Nat) (e:En),es[k]? =some e→e.f.q≠0)∧Inc none es:=by
 unfold vecErr at h;split at h
 ·omega
 ·have:=Yby h;exact ⟨fun k e hk=>⟨(this k e hk).1,(this k e hk).2.1⟩,fun k e hk=>(this k e hk).2.2,Zxx h⟩
theorem Zbp {n:Int} {cs:List (List En)} (h:Xi n cs=0):∀(k:Nat) (c:List En),cs[k]? =some c→vecErr c n=0:=by
 induction cs with
 | nil=>intro k c h;simp at h
 | cons d cs ih=>
  rw [Xi] at h;split at h
  ·rename_i h1
   intro k c hk
   cases k with
   | zero=>simp at hk;subst hk;exact h1
   | succ k=>exact ih h k c (by simpa using hk)
  ·rename_i h1;exact absurd h h1
theorem YA {p:LPd} (h:lpErr p=0):p.right.length≤64∧p.cols.length≤1200∧p.cost.length=p.cols.length∧p.In∧∀(j:Nat) (c:List En),p.cols[j]? =some c→(∀(k:Nat) (e:En),c[k]? =some e→e.f.q≠0)∧Inc none c:=by
 unfold lpErr at h;split at h
 ·omega
 ·split at h
  ·omega
  ·refine ⟨by omega,by omega,by omega,fun j c hc=>(Zdh (Zbp h j c hc)).1,fun j c hc=>(Zdh (Zbp h j c hc)).2⟩
def Zbd (p:LPd) (xs:List RF):Bool:=decide (lpErr p=0) && (decide (xs.length=p.cols.length) && (nnB xs && eqB (Yj p.right.length (YL p xs p.cols.length)) p.right))
theorem Ybz {p:LPd} {xs:List RF} (h:lpErr p≠0):Zbd p xs=false:=by simp [Zbd,h]
end Pl
def zfc (n:Nat):Array Value:=madeCells (Value.cells (.agg #[.bool false,.slice none 0 0,.bool false,.slice none 0 0])) (n * 4)
theorem Zoc {n k j:Nat} (hk:k < n) (hj:j < 4):(zfc n)[k * 4+j]? =([.bool false,.slice none 0 0,.bool false,.slice none 0 0]:List Value)[j]? :=by
 have a:k * 4+j < n * 4:=by omega
 have hm:(k * 4+j) % 4=j:=by omega
 unfold zfc madeCells;simp [a,Value.cells,hm]
 match j,hj with
 | 0,_=>rfl
 | 1,_=>rfl
 | 2,_=>rfl
 | 3,_=>rfl
theorem Z4.zeros (w:World) (n:Nat) (hn:n≤maxLen):Z4 w.heap.size (w.alloc (.cells (zfc n) 46)) (.slice (some ⟨w.heap.size,0,none⟩) n n) (List.replicate n zeroF):=by
 have a:(zfc n).size=n * 4:=size_madeCells _ _;refine ⟨(zfc n).toList,⟨by simp [a],.inr ⟨w.heap.size,n,zfc n,by simp,JY _,heap_alloc_new w _,by simp,hn,a,?_⟩⟩,by simp [a],fun k f hf=>?_⟩
 ·rw [List.take_of_length_le (by simp [a])]
 ·rw [List.getElem?_replicate] at hf;split at hf
  ·rename_i hk
   injection hf with hf;subst hf;refine ⟨_,_,_,_,?_,?_,?_,?_,Zt.zero _⟩
   ·have:=Zoc (j:=0) hk (by decide);simpa using this
   ·have:=Zoc (j:=1) hk (by decide);simpa using this
   ·have:=Zoc (j:=2) hk (by decide);simpa using this
   ·have:=Zoc (j:=3) hk (by decide);simpa using this
  ·cases hf
theorem Y1 (n:Nat) (hn:n≤1099511627776) (w:World):
 (Instr.makeSlice 23 (.int .i64 (n:Int)) (.int .i64 (n:Int))).run Tryz.prog w= .ok (.slice (some ⟨w.heap.size,0,none⟩) n n) (w.alloc (.cells (zfc n) 46)):=by
 obtain ⟨i0,hi,a,b,c⟩:=info_parts info_frac;have hb:(i0.bytes:Int) * (n:Int)≤281474976710656:=by rw [c];omega
 have hr:=run_make (P:=Tryz.prog) w 23 46 i0 _ Tryz.underlying23 hi a .i64 .i64 n n (by omega) (by omega) hb (by omega);simp only [JP,b] at hr;exact hr
namespace Pl
theorem zeroF_q:zeroF.q=0:=by unfold RF.q zeroF;rw [ZI,Rat.divInt_zero]
theorem Wz (K:Nat):zeroF.Rs K:=by unfold RF.Rs zeroF;simp [YG,digs_zero]
theorem Zjl (n i:Nat):qAt (List.replicate n zeroF) i=0:=by
 unfold qAt;rw [List.getElem?_replicate];split
 ·rename_i f hf
  split at hf
  ·injection hf with hf;rw [← hf,zeroF_q]
  ·cases hf
 ·rfl
theorem Zdi (K n:Nat):RsL K (List.replicate n zeroF):=fun i f hf=>by
 rw [List.getElem?_replicate] at hf
 split at hf
 ·injection hf with hf;rw [← hf];exact Wz K
 ·cases hf
theorem Yei {es:List En} {p:Option Int} (h:Inc p es):∀(k:Nat) (e:En),es[k]? =some e→∀i,p=some i→i < e.idx:=by
 induction es generalizing p with
 | nil=>intro k e hk;simp at hk
 | cons d es ih=>
  intro k e hk i hp;have h1:i < d.idx:=by
   have:=h.1;subst hp;simp [leP] at this;exact this
  cases k with
  | zero=>simp at hk;subst hk;exact h1
  | succ k=>
   have:=ih h.2 k e (by simpa using hk) d.idx rfl;omega
theorem Zod {es:List En} {p:Option Int} (h:Inc p es):∀(i j:Nat) (d e:En),i < j→es[i]? =some d→es[j]? =some e→d.idx < e.idx:=by
 induction es generalizing p with
 | nil=>intro i j d e _ hi;simp at hi
 | cons c es ih=>
  intro i j d e a hi hj
  cases i with
  | zero=>
   simp at hi;subst hi
   cases j with
   | zero=>omega
   | succ j=>exact Yei h.2 j e (by simpa using hj) c.idx rfl
  | succ i=>
   cases j with
   | zero=>omega
   | succ j=>exact ih h.2 i j d e (by omega) (by simpa using hi) (by simpa using hj)
theorem Yej {es:List En} {f:Nat→Rat} {i:Nat} (h:∀(k:Nat) (e:En),es[k]? =some e→e.idx≠(i:Int)):dQ es f i=f i:=by
 induction es generalizing f with
 | nil=>rfl
 | cons e es ih=>
  rw [dQ,ih fun k d hd=>h (k+1) d (by simpa using hd),if_neg (h 0 e rfl)]
theorem Zoe {es:List En} {k:Nat} {e:En} (hinc:Inc none es) (he:es[k]? =some e) {f:Nat→Rat} {i:Nat} (hi:e.idx=(i:Int)):dQ (es.take k) f i=f i:=by
 apply Yej;intro j d hd;rw [List.getElem?_take] at hd;split at hd
 ·rename_i hj
  have:=Zod hinc j k d e hj hd he;omega
 ·cases hd
end Pl
theorem Zfq (v:Value) (fs:List RF) (n:Nat) (w:World) (h:Xh w v fs) (hn:n≤9223372036854775807):
 Calls Tryz.prog 107 #[v,.int .i64 (n:Int)] w fun e w'=>e= .returned (.bool (decide (fs.length=n) && nnB fs))∧Below w.heap.size w w':=by
 obtain ⟨A,c,rfl,x,y⟩:=h.shape;generalize hl:fs.length=l at *;have HL:=JZ hl;clear hl;by_cases j:l=n
 ·have m:((l:Int) !=(n:Int))=false:=by simp;omega
  rw [decide_eq_true j,Bool.true_and];clear j;go_enter Tryz.func107,Tryz.ntmps107;go_wp2;clear m
  go_loopw [13] (fun i wr=>∃k:Nat,k≤l∧i= .int .i64 k∧Below w.heap.size w wr∧∀i,i < k→0≤qs (qAt fs i)) (fun i _=>l - (intOf i).toNat)
  case atStart=>exact ⟨0,by omega,rfl,JR _ _,fun i hi=>by omega⟩
  case round=>
   obtain ⟨k,hk,rfl,g,hz⟩:=hrel;have HZ:=JZ hz;clear hz;rcases JX k l with hkl | hkl
   ·obtain ⟨f,hf⟩:=Yb (fs:=fs) (i:=k) (by rw [HL.out];exact hkl);obtain ⟨b,z,A1,n1,k1,A2,n2,k2,rfl,B,o,hm⟩:=h.elem g hf;obtain ⟨x1,x2,x3,x4⟩:=o;obtain ⟨W1,t,hV,p⟩:=YN wr (.bool f.num.neg) (.slice A1 n1 k1) (.bool f.den.neg) (.slice A2 n2 k2);obtain ⟨z1,z2,z3,z4⟩:=hV.four;have a:=Za g p g.size;have u:(k:Int) < l:=(by omega);have HQ:=JZ (Yo hf);clear hf;go_wp2_with fail;clear t;refine (Zx _ f _ (hm.below p)).mono ?_;rintro _ w2 ⟨rfl,r⟩;by_cases d:qs f.q < 0
    ·have HR:Hid (nnB fs=false):=JZ (Zts (i:=k) (by rw [HL.out];exact hkl) (by rw [HQ.out];exact d));go_wp2;go_ret;exact ⟨ZE HR.out,Za a r a.size⟩
    ·have HN:=JZ d;have s:decide (qs f.q < 0)=false:=(by simpa using d);clear d;go_wp2;go_roundw
     case rel=>exact ⟨k+1,by omega,by go_num,Za a r a.size,fun i hi=>by
      rcases Nat.eq_or_lt_of_le (Nat.le_of_lt_succ hi) with e | e
      ·subst e;rw [HQ.out];have:=HN.out;omega
      ·exact HZ.out i e⟩
     case measure=>simp [intOf];omega
   ·go_wp2;go_ret;exact ⟨ZE (Zxv fun i hi=>HZ.out i (by rw [HL.out] at hi;omega)),g⟩
 ·have m:((l:Int) !=(n:Int))=true:=by simp;omega
  rw [decide_eq_false j,Bool.false_and];clear j;go_enter Tryz.func107,Tryz.ntmps107;go_wp2;go_ret;exact ⟨rfl,JR _ _⟩
namespace Pl
def Zac (m:Nat) (f:Nat→Rat) (rs:List RF):Bool:=decide (∀i,i < m→f i=qAt rs i)
theorem Zqg {m:Nat} {f:Nat→Rat} {rs:List RF} (h:∀i,i < m→f i=qAt rs i):Zac m f rs=true:=by
 unfold Zac;rw [decide_eq_true];exact h
theorem Zdj {m i:Nat} {f:Nat→Rat} {rs:List RF} (hi:i < m) (h:f i≠qAt rs i):Zac m f rs=false:=by
 unfold Zac;rw [decide_eq_false];exact fun g=>h (g i hi)
def Uo (p:LPd) (xs:List RF) (j:Nat) (es:List En) (k i:Nat):Rat:=YL p xs j i+qAt xs j * dQ (es.take k) (fun _=>0) i
theorem Zqh (p:LPd) (xs:List RF) (j:Nat) (es:List En) (i:Nat):Uo p xs j es 0 i=YL p xs j i:=by
 unfold Uo;simp [dQ,Rat.mul_zero,Rat.add_zero]
theorem Zqi {p:LPd} {xs:List RF} {j:Nat} {es:List En} {k:Nat} {e:En} (he:es[k]? =some e) (hinc:Inc none es) (i:Nat):
 Uo p xs j es (k+1) i=if e.idx=(i:Int) then Uo p xs j es k i+qAt xs j * e.f.q else Uo p xs j es k i:=by
 unfold Uo;rw [Ztt he];simp only;by_cases h:e.idx=(i:Int)
 ·rw [if_pos h,if_pos h,Zoe hinc he h,Rat.mul_zero,Rat.add_zero]
 ·rw [if_neg h,if_neg h]
theorem Ztu {p:LPd} {xs:List RF} {j:Nat} {es:List En} (hc:p.cols[j]? =some es) {k:Nat} (hk:es.length≤k) (i:Nat):Uo p xs j es k i=YL p xs (j+1) i:=by
 unfold Uo;rw [List.take_of_length_le hk,Zdg,LPd.col_pos hc];rfl
theorem Yca {p:LPd} {xs:List RF} {K:Nat} (ok:p.Ok K) (hx:RsL K xs) (hK:1≤K) {j:Nat} {es:List En} (hc:p.cols[j]? =some es) (k i:Nat):Sz (1+(j+1) * (2 * K+1)) (Uo p xs j es k i):=by
 unfold Uo;have h1:=Zxw ok hx hK j i;have h2:Sz K (dQ (es.take k) (fun _=>0) i):=Yeh (fun a e he=>(ok.2.2 j es hc).2 a e (by rw [List.getElem?_take] at he;split at he;exact he;cases he)) hK (fun _=>Sz_zero.mono hK) i;exact (Ztl h1 (XN (hx.qAt hK j) h2)).mono (by rw [Nat.add_mul j 1];omega)
theorem Zmd {p:LPd} {xs:List RF} {j:Nat} (h:qAt xs j=0) (i:Nat):YL p xs (j+1) i=YL p xs j i:=by
 rw [Zdg,h,Rat.zero_mul,Rat.add_zero]
end Pl
def XA (base:Nat) (m K:Nat) (f:Nat→Rat) (wr:World) (v:Value):Prop:=
 ∃fs,Z4 base wr v fs∧fs.length=m∧(∀i,i < m→qAt fs i=f i)∧RsL K fs
theorem XA.below {base m K:Nat} {f:Nat→Rat} {w w':World} {v:Value} (h:XA base m K f w v) (hb:Below w.heap.size w w'):XA base m K f w' v:=by
 obtain ⟨fs,h1,h2,h3,h4⟩:=h;exact ⟨fs,h1.below hb,h2,h3,h4⟩
theorem XA.to {base m K K':Nat} {f g:Nat→Rat} {w:World} {v:Value} (h:XA base m K f w v) (hK:K≤K') (hfg:∀i,i < m→f i=g i):XA base m K' g w v:=by
 obtain ⟨fs,h1,h2,h3,h4⟩:=h;exact ⟨fs,h1,h2,fun i hi=>(h3 i hi).trans (hfg i hi),fun i e he=>(h4 i e he).mono hK⟩
theorem XA.at_ {base m K:Nat} {f:Nat→Rat} {w:World} {g n c:Nat} (h:XA base m K f w (.slice (some ⟨g,0,none⟩) n c)) {k:Nat} (hk:k < m):
 ∃a A n c A' n' c',(w.cell? ⟨g,k * 4,none⟩=some (.bool (RF.num a).neg)∧w.cell? ⟨g,k * 4+1,none⟩=some (.slice A n c)∧w.cell? ⟨g,k * 4+2,none⟩=some (.bool (RF.den a).neg)∧w.cell? ⟨g,k * 4+3,none⟩=some (.slice A' n' c'))∧(w.frozen? ⟨g,k * 4,none⟩=false∧w.frozen? ⟨g,k * 4+1,none⟩=false∧w.frozen? ⟨g,k * 4+2,none⟩=false∧w.frozen? ⟨g,k * 4+3,none⟩=false)∧Zt w (.agg #[.bool a.num.neg,.slice A n c,.bool a.den.neg,.slice A' n' c']) a∧a.q=f k∧a.Rs K:=by
 obtain ⟨fs,h1,h2,h3,h4⟩:=h;obtain ⟨a,ha⟩:=Yb (fs:=fs) (i:=k) (by omega);obtain ⟨x,y,z,u,hc,hf,hm⟩:=h1.at_ ha;obtain ⟨A1,n1,k1,A2,n2,k2,hv,d1,d2⟩:=id hm;simp at hv;obtain ⟨rfl,rfl,rfl,rfl⟩:=hv;exact ⟨a,A1,n1,k1,A2,n2,k2,hc,hf,hm,by rw [← h3 k hk,Yo ha],h4 k a ha⟩
theorem XA.set_ {base m K:Nat} {f f':Nat→Rat} {w:World} {g n c:Nat} (h:XA base m K f w (.slice (some ⟨g,0,none⟩) n c)) {k:Nat} (hk:k < m) {x y z u:Value} {q:Rat} (hm:Zt w (.agg #[x,y,z,u]) (canF q)) (hq:Sz K q) (h1:f' k=q) (h2:∀i,i < m→i≠k→f' i=f i):
 ∀W,W=((((w.setCell ⟨g,k * 4,none⟩ x).setCell ⟨g,k * 4+1,none⟩ y).setCell ⟨g,k * 4+2,none⟩ z).setCell ⟨g,k * 4+3,none⟩ u)→XA base m K f' W (.slice (some ⟨g,0,none⟩) n c)∧Ze 46 w W:=by
 rintro W rfl;obtain ⟨fs,g1,g2,g3,g4⟩:=h;obtain ⟨hO,b⟩:=g1.set_ (k:=k) (by omega) hm;refine ⟨⟨_,hO,by simpa using g2,fun i hi=>?_,fun i e he=>?_⟩,b⟩
 ·by_cases a:i=k
  ·subst a;rw [Yo (List.getElem?_set_self (by omega)),Zu,h1]
  ·rw [h2 i hi a,← g3 i hi];unfold qAt;rw [List.getElem?_set_ne (by omega)]
 ·by_cases a:i=k
  ·subst a;rw [List.getElem?_set_self (by omega)] at he;injection he with he;rw [← he];exact hq.rs
  ·rw [List.getElem?_set_ne (by omega)] at he;exact g4 i e he
end Go.Proofs.YtgbhebappffbdaaGreat
