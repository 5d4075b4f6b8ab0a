/- Lemmas of the claim; no condition. -/
import Derived.Test.YtidgdpkcloaheaaGreatQ18
set_option linter.all false
set_option maxRecDepth 100000
set_option maxHeartbeats 40000000
namespace Go.Proofs.YtidgdpkcloaheaaGreat
open Go.RowKit
open Pl
attribute [local go_sem ↓] Go.wp_at_zero Go.wp_at_succ
namespace Pl
def LPd.Ok (K:Nat) (p:LPd):Prop:=RsL K p.cost∧RsL K p.right∧∀(j:Nat) (c:List En),p.cols[j]? =some c→EnI c∧∀(k:Nat) (e:En),c[k]? =some e→e.f.Rs K
theorem XI {cs:List (List En)} {i:Nat} (h:i < cs.length):∃f,cs[i]? =some f:=⟨cs[i],JQ h⟩
end Pl
theorem Zj (w:World):Below w.heap.size w w.drew:=(JR _ _).drew
namespace Pl
def YT (m:Nat) (f:Nat→Rat):List RF:=(List.range m).map fun i=>canF (f i)
theorem Zu (m:Nat) (f:Nat→Rat):(YT m f).length=m:=by simp [YT]
theorem Z7 {m i:Nat} {f:Nat→Rat} (h:i < m):(YT m f)[i]? =some (canF (f i)):=by simp [YT,h]
theorem Zpu {m i:Nat} {f:Nat→Rat} (h:i < m):qAt (YT m f) i=f i:=by rw [UW (Z7 h),ZG]
theorem Yf {m:Nat} {f g:Nat→Rat} (h:∀i,i < m→f i=g i):YT m f=YT m g:=by
 unfold YT;apply List.map_congr_left;intro i hi;rw [h i (List.mem_range.1 hi)]
theorem V9 {m k:Nat} {f:Nat→Rat} {q:Rat} (h:k < m):(YT m f).set k (canF q)=YT m fun i=>if i=k then q else f i:=by
 apply List.ext_getElem?;intro i;rcases JX i m with hi | hi
 ·rw [Z7 hi];by_cases a:i=k
  ·subst a;rw [List.getElem?_set_self (by rw [Zu];exact h),if_pos rfl]
  ·rw [List.getElem?_set_ne (by omega),Z7 hi,if_neg a]
 ·rw [JU (by simp [Zu];exact hi),JU (by rw [Zu];exact hi)]
theorem Ztl {m K:Nat} {f:Nat→Rat} (h:∀i,i < m→Sz K (f i)):RsL K (YT m f):=by
 intro i g hg;have hi:i < m:=by have:=(List.getElem?_eq_some_iff.1 hg).1;rw [Zu] at this;exact this
 rw [Z7 hi] at hg;injection hg with hg;subst hg;exact (h i hi).rs
def dQ:List En→(Nat→Rat)→Nat→Rat
 | [],f=>f
 | e::es,f=>dQ es fun i=>if e.idx=(i:Int) then e.f.q else f i
theorem Zgo (es:List En) (e:En) (f:Nat→Rat):dQ (es++[e]) f=fun (i:Nat)=>if e.idx=(i:Int) then e.f.q else dQ es f i:=by
 induction es generalizing f with
 | nil=>rfl
 | cons d es ih=>rw [List.cons_append,dQ,ih];rfl
def inR (n:Nat) (es:List En):Prop:=∀(k:Nat) (e:En),es[k]? =some e→0≤e.idx∧e.idx < n
def XZ (es:List En):Nat→Rat:=dQ es fun _=>0
theorem Zwg {es:List En} {f:Nat→Rat} {K:Nat} (h:∀(k:Nat) (e:En),es[k]? =some e→e.f.Rs K) (hK:1≤K) (hf:∀i,Sz K (f i)) (i:Nat):Sz K (dQ es f i):=by
 induction es generalizing f with
 | nil=>exact hf i
 | cons e es ih=>
  rw [dQ];refine ih (fun k d hd=>h (k+1) d (by simpa using hd)) (fun i=>?_);split
  ·exact (h 0 e rfl).sz hK
  ·exact hf i
theorem Sz_col {es:List En} {K:Nat} (h:∀(k:Nat) (e:En),es[k]? =some e→e.f.Rs K) (hK:1≤K) (i:Nat):Sz K (XZ es i):=Zwg h hK (fun _=>Sz_zero.mono hK) i
end Pl
theorem ZB {n g:Nat} {w w':World} (h:Below n w w') (hg:n≤g) (i j k l:Nat) (x y z u:Value):Below n w ((((w'.setCell ⟨g,i,none⟩ x).setCell ⟨g,j,none⟩ y).setCell ⟨g,k,none⟩ z).setCell ⟨g,l,none⟩ u):=(((h.setCell hg _).setCell hg _).setCell hg _).setCell hg _
theorem WX {w:World} {base base':Nat} {t:TypeId} {s n:Nat} {v:Value} {xs:List Value} (h:w.ownsRow base t s v n xs) (hb:base'≤base):w.ownsRow base' t s v n xs:=by
 refine ⟨h.1,?_⟩;rcases h.2 with hn | ⟨g,cap,cur,rfl,hb',rest⟩
 ·exact .inl hn
 ·exact .inr ⟨g,cap,cur,rfl,JW hb hb',rest⟩
namespace Pl
def LPd.col (p:LPd) (j:Int):Nat→Rat:=if 0≤j then (match p.cols[j.toNat]? with | some c=>XZ c | none=>fun _=>0) else fun i=>if (i:Int)= -1 - j then (if qs (qAt p.right i) < 0 then -1 else 1) else 0
theorem LPd.col_pos {p:LPd} {j:Nat} {c:List En} (h:p.cols[j]? =some c):p.col (j:Int)=XZ c:=by
 unfold LPd.col;rw [if_pos (by omega),JP,h]
theorem LPd.col_neg {p:LPd} {r:Nat}:p.col (-1 - (r:Int))=fun i=>if i=r then (if qs (qAt p.right i) < 0 then -1 else 1) else 0:=by
 unfold LPd.col;rw [if_neg (by omega)]
 funext i
 by_cases h:i=r
 ·rw [if_pos h,if_pos (by omega)]
 ·rw [if_neg h,if_neg (by omega)]
def LPd.In (p:LPd):Prop:=∀(j:Nat) (c:List En),p.cols[j]? =some c→inR p.right.length c
theorem Sz_one:Sz 1 1:=by
 unfold Sz;exact ⟨YM (by rw [show Int.natAbs (Rat.num 1)=1 from rfl];decide),YM (by rw [show Rat.den 1=1 from rfl];decide)⟩
theorem LPd.Sz_col {p:LPd} {K:Nat} (ok:p.Ok K) (hK:1≤K) (j:Int) (i:Nat):Sz K (p.col j i):=by
 rcases Int.lt_or_le j 0 with h | h
 ·obtain ⟨r,rfl⟩:∃r:Nat,j= -1 - (r:Int):=⟨(-1 - j).toNat,by omega⟩;rw [LPd.col_neg];show Sz K (if i=r then (if qs (qAt p.right i) < 0 then -1 else 1) else 0);split
  ·split
   ·exact (Zen Sz_one).mono hK
   ·exact Sz_one.mono hK
  ·exact Sz_zero.mono hK
 ·obtain ⟨r,rfl⟩:=JT h
  cases hc:p.cols[r]? with
  | some c=>rw [LPd.col_pos hc];exact Pl.Sz_col (ok.2.2 _ c hc).2 hK i
  | none=>
   have:p.col (r:Int) i=0:=by unfold LPd.col;rw [if_pos (by omega),JP,hc]
   rw [this];exact Sz_zero.mono hK
end Pl
namespace Pl
def Inc:Option Int→List En→Prop
 | _,[]=>True
 | p,e::es=>leP p e.idx=false∧Inc (some e.idx) es
theorem Zpv {n:Int} {es:List En} {p:Option Int} (h:Vw n es p=0):Inc p es:=by
 induction es generalizing p with
 | nil=>trivial
 | cons d es ih=>
  rw [Vw] at h;split at h
  ·omega
  ·split at h
   ·omega
   ·rename_i h2
    split at h
    ·omega
    ·exact ⟨by simpa using h2,ih h⟩
end Pl
def zfc (n:Nat):Array Value:=madeCells (Value.cells (.agg #[.bool false,.slice none 0 0,.bool false,.slice none 0 0])) (n * 4)
theorem Zie {n k j:Nat} (hk:k < n) (hj:j < 4):(zfc n)[k * 4+j]? =([.bool false,.slice none 0 0,.bool false,.slice none 0 0]:List Value)[j]? :=by
 have a:k * 4+j < n * 4:=by omega
 have hm:(k * 4+j) % 4=j:=by omega
 unfold zfc madeCells;simp [a,Value.cells,hm]
 match j,hj with
 | 0,_=>rfl
 | 1,_=>rfl
 | 2,_=>rfl
 | 3,_=>rfl
theorem YL.zeros [Old] (w:World) (n:Nat) (hn:n≤maxLen):YL w.heap.size (w.alloc (.cells (zfc n) 36)) (.slice (some ⟨w.heap.size,0,none⟩) n n) (List.replicate n zeroF):=by
 have a:(zfc n).size=n * 4:=size_madeCells _ _;refine ⟨(zfc n).toList,⟨by simp [a],.inr ⟨w.heap.size,n,zfc n,by simp,JY _,heap_alloc_new w _,by simp,hn,a,?_⟩⟩,by simp [a],fun k f hf=>?_⟩
 ·rw [List.take_of_length_le (by simp [a])]
 ·rw [List.getElem?_replicate] at hf;split at hf
  ·rename_i hk
   injection hf with hf;subst hf;refine ⟨_,_,_,_,?_,?_,?_,?_,Zm.zero _⟩
   ·have:=Zie (j:=0) hk (by decide);simpa using this
   ·have:=Zie (j:=1) hk (by decide);simpa using this
   ·have:=Zie (j:=2) hk (by decide);simpa using this
   ·have:=Zie (j:=3) hk (by decide);simpa using this
  ·cases hf
theorem X5 (n:Nat) (hn:n≤1099511627776) (w:World):
 (Instr.makeSlice 77 (.int .i64 (n:Int)) (.int .i64 (n:Int))).run Tryz.prog w= .ok (.slice (some ⟨w.heap.size,0,none⟩) n n) (w.alloc (.cells (zfc n) 36)):=by
 obtain ⟨i0,hi,a,b,c⟩:=info_parts info_frac;have hb:(i0.bytes:Int) * (n:Int)≤281474976710656:=by rw [c];omega
 have hr:=run_make (P:=Tryz.prog) w 77 36 i0 _ Tryz.underlying77 hi a .i64 .i64 n n (by omega) (by omega) hb (by omega);simp only [JP,b] at hr;exact hr
namespace Pl
theorem zeroF_q:zeroF.q=0:=by unfold RF.q zeroF;rw [Zx,Rat.divInt_zero]
theorem Ua (K:Nat):zeroF.Rs K:=by unfold RF.Rs zeroF;simp [Yk,digs_zero]
theorem Zvh {es:List En} {p:Option Int} (h:Inc p es):∀(k:Nat) (e:En),es[k]? =some e→∀i,p=some i→i < e.idx:=by
 induction es generalizing p with
 | nil=>intro k e hk;simp at hk
 | cons d es ih=>
  intro k e hk i hp;have h1:i < d.idx:=by
   have:=h.1;subst hp;simp [leP] at this;exact this
  cases k with
  | zero=>simp at hk;subst hk;exact h1
  | succ k=>
   have:=ih h.2 k e (by simpa using hk) d.idx rfl;omega
theorem Zms {es:List En} {p:Option Int} (h:Inc p es):∀(i j:Nat) (d e:En),i < j→es[i]? =some d→es[j]? =some e→d.idx < e.idx:=by
 induction es generalizing p with
 | nil=>intro i j d e _ hi;simp at hi
 | cons c es ih=>
  intro i j d e a hi hj
  cases i with
  | zero=>
   simp at hi;subst hi
   cases j with
   | zero=>omega
   | succ j=>exact Zvh h.2 j e (by simpa using hj) c.idx rfl
  | succ i=>
   cases j with
   | zero=>omega
   | succ j=>exact ih h.2 i j d e (by omega) (by simpa using hi) (by simpa using hj)
end Pl
namespace Pl
def spV (f:Nat→Rat):Nat→List En
 | 0=>[]
 | n+1=>if f n=0 then spV f n else spV f n++[⟨(n:Int),canF (f n)⟩]
theorem Y8 {f:Nat→Rat} {n:Nat} (h:f n=0):spV f (n+1)=spV f n:=by unfold spV;rw [if_pos h];cases n <;> rfl
theorem Xo {f:Nat→Rat} {n:Nat} (h:f n≠0):spV f (n+1)=spV f n++[⟨(n:Int),canF (f n)⟩]:=by rw [spV,if_neg h]
theorem WM {f g:Nat→Rat}:∀{n:Nat},(∀i,i < n→f i=g i)→spV f n=spV g n
 | 0,_=>rfl
 | n+1,h=>by rw [spV,spV,h n (by omega),WM fun i hi=>h i (by omega)]
theorem Ve {f:Nat→Rat}:∀(n:Nat),(spV f n).length≤n
 | 0=>JY _
 | n+1=>by
  have:=Ve (f:=f) n
  by_cases h:f n=0
  ·rw [Y8 h];omega
  ·rw [Xo h,List.length_append];simp;omega
theorem VB {f:Nat→Rat}:∀{n k:Nat} {e:En},(spV f n)[k]? =some e→∃i:Nat,i < n∧e.idx=(i:Int)∧e.f=canF (f i)∧f i≠0
 | 0,k,e,h=>by simp [spV] at h
 | n+1,k,e,h=>by
  by_cases h0:f n=0
  ·rw [Y8 h0] at h
   obtain ⟨i,h1,h2⟩:=VB h
   exact ⟨i,by omega,h2⟩
  ·rw [Xo h0] at h
   rcases JX k (spV f n).length with hk | hk
   ·rw [List.getElem?_append_left hk] at h
    obtain ⟨i,h1,h2⟩:=VB h
    exact ⟨i,by omega,h2⟩
   ·rw [List.getElem?_append_right hk] at h
    have hk':k - (spV f n).length=0:=by
     rcases JV (k - (spV f n).length) with e | e
     ·exact e
     ·rw [JU (by simp;omega)] at h;cases h
    rw [hk'] at h;simp at h;subst h;exact ⟨n,by omega,rfl,rfl,h0⟩
theorem Zgv (f:Nat→Rat) (n:Nat):inR n (spV f n):=fun k e h=>by
 obtain ⟨i,h1,h2,_⟩:=VB h
 omega
theorem Zsb (f:Nat→Rat):∀(n i:Nat),XZ (spV f n) i=if i < n then f i else 0
 | 0,i=>by rw [if_neg (by omega)];rfl
 | n+1,i=>by
  have ih:=Zsb f n i
  by_cases h0:f n=0
  ·rw [Y8 h0,ih]
   by_cases e:i < n
   ·rw [if_pos e,if_pos (by omega)]
   ·rw [if_neg e]
    by_cases e2:i=n
    ·subst e2;rw [if_pos (by omega),h0]
    ·rw [if_neg (by omega)]
  ·rw [Xo h0]
   unfold XZ at ih ⊢
   rw [Zgo]
   simp only
   by_cases e:(n:Int)=(i:Int)
   ·obtain rfl:n=i:=by omega
    rw [if_pos e,if_pos (by omega),ZG]
   ·rw [if_neg e,ih]
    by_cases e2:i < n
    ·rw [if_pos e2,if_pos (by omega)]
    ·rw [if_neg e2,if_neg (by omega)]
def Good (n:Nat) (es:List En):Prop:=inR n es∧Inc none es∧∀(k:Nat) (e:En),es[k]? =some e→e.f.q≠0
theorem Zts {p:Option Int} {es:List En} {e:En} (h:Inc p es) (h1:leP p e.idx=false) (h2:∀(k:Nat) (d:En),es[k]? =some d→d.idx < e.idx):Inc p (es++[e]):=by
 induction es generalizing p with
 | nil=>exact ⟨h1,trivial⟩
 | cons d es ih=>
  refine ⟨h.1,ih h.2 ?_ fun k d' hd=>h2 (k+1) d' (by simpa using hd)⟩;have:=h2 0 d rfl;simp [leP];omega
theorem Zcy (f:Nat→Rat):∀(n:Nat),Inc none (spV f n)
 | 0=>trivial
 | n+1=>by
  by_cases h0:f n=0
  ·rw [Y8 h0];exact Zcy f n
  ·rw [Xo h0]
   exact Zts (Zcy f n) rfl fun k d hd=>by
    obtain ⟨i,h1,h2,_⟩:=VB hd
    show d.idx < (n:Int)
    omega
theorem Zqi (f:Nat→Rat) (n:Nat):Good n (spV f n):=⟨Zgv f n,Zcy f n,fun k e h=>by
 obtain ⟨i,h1,h2,h3,h4⟩:=VB h
 rw [h3,ZG];exact h4⟩
theorem Znf {n:Int} {es:List En} {p:Option Int} (h1:∀(k:Nat) (e:En),es[k]? =some e→0≤e.idx∧e.idx < n) (h2:Inc p es) (h3:∀(k:Nat) (e:En),es[k]? =some e→e.f.q≠0):Vw n es p=0:=by
 induction es generalizing p with
 | nil=>rfl
 | cons e es ih=>
  have a:=h1 0 e rfl;rw [Vw,if_neg (by omega),if_neg (by rw [h2.1];decide),if_neg (h3 0 e rfl)];exact ih (fun k d hd=>h1 (k+1) d (by simpa using hd)) h2.2 fun k d hd=>h3 (k+1) d (by simpa using hd)
theorem Good.err {n:Nat} {es:List En} (h:Good n es) (hn:n≤4096):vecErr es (n:Int)=0:=by
 unfold vecErr;rw [if_neg (by omega)];exact Znf h.1 h.2.1 h.2.2
theorem Zsc {f:Nat→Rat} {n K:Nat} (h:∀i,i < n→Sz K (f i)):∀(k:Nat) (e:En),(spV f n)[k]? =some e→e.f.Rs K:=fun k e he=>by
 obtain ⟨i,h1,h2,h3,h4⟩:=VB he
 rw [h3];exact (h i h1).rs
end Pl
namespace Pl
def lowE (M:Mx) (c n s:Nat):Mx:=fun r j=>if c < r∧r < s∧c≤j∧j < n then M r j - M r c / M c c * M c j else M r j
theorem Zkd {M:Mx} {c n:Nat}:lowE M c n (c+1)=M:=by
 funext r j;unfold lowE;rw [if_neg (by omega)]
theorem Uj {M:Mx} {c n s:Nat} (j:Nat):lowE M c n s c j=M c j:=by
 unfold lowE;rw [if_neg (by omega)]
theorem Zav {M:Mx} {c n s:Nat} (j:Nat):lowE M c n s s j=M s j:=by
 unfold lowE;rw [if_neg (by omega)]
theorem Znl {M:Mx} {c n s:Nat} (h:M s c=0):lowE M c n s=lowE M c n (s+1):=by
 funext r j
 unfold lowE;by_cases h1:c < r∧r < s∧c≤j∧j < n
 ·rw [if_pos h1,if_pos ⟨h1.1,by omega,h1.2.2⟩]
 ·rw [if_neg h1];by_cases h2:c < r∧r < s+1∧c≤j∧j < n
  ·rw [if_pos h2];have:r=s:=by omega
   subst this;rw [h];grind
  ·rw [if_neg h2]
theorem Znm {M:Mx} {c n s:Nat} (hs:c < s):Xb (lowE M c n s) c s n (lowE M c n s s c / lowE M c n s c c)=lowE M c n (s+1):=by
 funext r j
 unfold Xb;rw [Uj,Uj,Zav];unfold lowE;by_cases h1:r=s∧c≤j∧j < n
 ·obtain ⟨rfl,h2,h3⟩:=h1;rw [if_pos ⟨rfl,h2,h3⟩,if_neg (by omega),if_pos ⟨hs,by omega,h2,h3⟩]
 ·rw [if_neg h1];by_cases h2:c < r∧r < s∧c≤j∧j < n
  ·rw [if_pos h2,if_pos ⟨h2.1,by omega,h2.2.2⟩]
  ·rw [if_neg h2,if_neg (by omega)]
theorem Zcb (M:Mx) (c:Nat):swapM M c c=M:=by
 funext r
 unfold swapM;by_cases h:r=c
 ·rw [if_pos h,h]
 ·rw [if_neg h,if_neg h]
def Znn (M:Mx) (q:Rat) (c n:Nat):Option (Mx × Rat):=match X6 M c n with
 | none=>none
 | some t=>some (lowE (swapM M c t) c n n,(if t=c then q else -q) * swapM M c t c c)
def dN (M:Mx) (n:Nat):Nat→Option (Mx × Rat)
 | 0=>some (M,1)
 | k+1=>match dN M n k with
  | none=>none
  | some p=>Znn p.1 p.2 k n
def Zfa (n:Nat) (M:Mx):Rat:=match dN M n n with
 | none=>0
 | some p=>p.2
theorem WO {A B:Mx} {c:Nat}:∀{n r:Nat},(∀s,r≤s→s < r+n→A s c=B s c)→Yp A c r n=Yp B c r n
 | 0,_,_=>rfl
 | n+1,r,h=>by
  unfold Yp
  rw [h r (JY _) (by omega),WO fun s h1 h2=>h s (by omega) (by omega)]
theorem Zfb {A B:Mx} {k n:Nat} (h:∀s,k≤s→s < n→A s k=B s k):X6 A k n=X6 B k n:=WO fun s h1 h2=>h s h1 (by omega)
def DnR (n k:Nat):Option (Mx × Rat)→Option Mx→Prop
 | some p,some N=>p.2≠0∧∀r c,k≤r→r < n→c < n→p.1 r c=N r c
 | none,none=>True
 | _,_=>False
theorem Zvk {n:Nat} {M N0:Mx} (h0:∀r c,r < n→c < n→M r c=N0 r c):∀k,k≤n→DnR n k (dN M n k) (gj N0 n k)
 | 0,_=>⟨show (1:Rat)≠0 by decide,fun r c _ h1 h2=>h0 r c h1 h2⟩
 | k+1,hk=>by
  have ih:=Zvk h0 k (by omega)
  cases hd:dN M n k with
  | none=>
   rw [hd] at ih
   cases hg:gj N0 n k with
   | none=>simp only [dN,hd,gj,hg];trivial
   | some N=>rw [hg] at ih;exact ih.elim
  | some p=>
   rw [hd] at ih
   cases hg:gj N0 n k with
   | none=>rw [hg] at ih;exact ih.elim
   | some N=>
    rw [hg] at ih
    obtain ⟨hq,ha⟩:=ih
    simp only [dN,hd,gj,hg]
    unfold Znn Wv
    rw [Zfb (A:=p.1) (B:=N) fun s h1 h2=>ha s k h1 h2 (by omega)]
    cases hp:X6 N k n with
    | none=>trivial
    | some t=>
     obtain ⟨t1,t2,t3⟩:=Va hp
     have hS:∀r c,k≤r→r < n→c < n→swapM p.1 k t r c=swapM N k t r c:=fun r c h1 h2 h3=>by
      unfold swapM
      by_cases e1:r=k
      ·rw [if_pos e1,if_pos e1];exact ha t c t1 t2 h3
      ·rw [if_neg e1,if_neg e1]
       by_cases e2:r=t
       ·rw [if_pos e2,if_pos e2];exact ha k c (JY _) (by omega) h3
       ·rw [if_neg e2,if_neg e2];exact ha r c h1 h2 h3
     have hf:swapM N k t k k=N t k:=by unfold swapM;rw [if_pos rfl]
     refine ⟨?_,fun r c h1 h2 h3=>?_⟩
     ·have e:swapM p.1 k t k k≠0:=by rw [hS k k (JY _) (by omega) (by omega),hf];exact t3
      by_cases e1:t=k
      ·rw [if_pos e1];exact fun g=>(Rat.mul_eq_zero.1 g).elim hq e
      ·rw [if_neg e1];exact fun g=>(Rat.mul_eq_zero.1 g).elim (fun g=>hq (by grind)) e
     ·show lowE (swapM p.1 k t) k n n r c=ZL (scaleTo (swapM N k t) k (n+1) (swapM N k t k k)) k n n r c
      have s1:∀c,scaleTo (swapM N k t) k (n+1) (swapM N k t k k) r c=swapM N k t r c:=fun c=>by unfold scaleTo;rw [if_neg (by omega)]
      unfold lowE ZL
      by_cases hc:k≤c
      ·rw [if_pos ⟨by omega,h2,hc,h3⟩,if_pos ⟨by omega,h2,hc,by omega⟩,s1,s1]
       have s2:scaleTo (swapM N k t) k (n+1) (swapM N k t k k) k c=swapM N k t k c / swapM N k t k k:=by unfold scaleTo;rw [if_pos ⟨rfl,hc,by omega⟩]
       rw [s2,hS r c (by omega) h2 h3,hS r k (by omega) h2 (by omega),hS k k (JY _) (by omega) (by omega),hS k c (JY _) (by omega) h3]
       grind
      ·rw [if_neg (by omega),if_neg (by omega),s1]
       exact hS r c (by omega) h2 h3
theorem Zij {n:Nat} {M cols:Mx} (h:∀r c,r < n→c < n→M r c=cols c r):Zfa n M≠0↔XA n cols:=by
 have hg:=Zvk (M:=M) (N0:=Zbi n cols fun _=>0) (fun r c h1 h2=>by unfold Zbi;rw [if_pos h2];exact h r c h1 h2) n (JY _);unfold Zfa
 cases hd:dN M n n with
 | none=>
  rw [hd] at hg
  cases e:gj (Zbi n cols fun _=>0) n n with
  | none=>
   refine ⟨fun g=>absurd rfl g,fun hi=>?_⟩;exact absurd hi (Zap (b:=fun _=>0) (by unfold Xt;rw [e];rfl))
  | some N=>rw [e] at hg;exact hg.elim
 | some p=>
  rw [hd] at hg
  cases e:gj (Zbi n cols fun _=>0) n n with
  | none=>rw [e] at hg;exact hg.elim
  | some N=>
   rw [e] at hg;exact ⟨fun _=>Zcw (b:=fun _=>0) (by unfold Xt;rw [e];rfl),fun _=>hg.1⟩
theorem MB.lowE {n K s c:Nat} {M:Mx} (h:MB n n K M) (hc:c < n):∀r j,r < n→j < n→Sz (5 * K) (Pl.lowE M c n s r j):=fun r j hr hj=>by
 unfold Pl.lowE;split
 ·have a:=h r j hr hj
  have:=Zbu a
  exact (Zeo a (V5 (Zbv (h r c hr hc) (h c c hc hc)) (h c j hc hj))).mono (by omega)
 ·exact (h r j hr hj).mono (by omega)
theorem Zwm {n K:Nat} {M:Mx} (h:MB n n K M) (hK:1≤K):∀{k:Nat} {p:Mx × Rat},k≤n→dN M n k=some p→MB n n (5^k * K) p.1∧Sz (5^k * K) p.2
 | 0,p,_,e=>by
  injection e with e
  subst e
  exact ⟨by simpa using h,by simpa using Sz_one.mono hK⟩
 | k+1,p,hk,e=>by
  unfold dN at e
  cases hd:dN M n k with
  | none=>rw [hd] at e;cases e
  | some p0=>
   rw [hd] at e
   obtain ⟨i1,i2⟩:=Zwm h hK (by omega) hd
   simp only [Znn] at e
   cases hp:X6 p0.1 k n with
   | none=>rw [hp] at e;cases e
   | some t=>
    rw [hp] at e
    injection e with e
    subst e
    obtain ⟨_,t2,_⟩:=Va hp
    have hs:=i1.swap (show k < n by omega) t2
    have e5:5^(k+1) * K=5 * (5^k * K):=by rw [Nat.pow_succ];grind
    rw [e5]
    refine ⟨fun r c hr hc=>MB.lowE hs (by omega) r c hr hc,?_⟩
    have hq:Sz (5^k * K) (if t=k then p0.2 else -p0.2):=by
     split
     ·exact i2
     ·exact Zen i2
    exact (V5 hq (hs k k (by omega) (by omega))).mono (by omega)
end Pl
namespace Pl
structure Ztw (n:Nat) (F:Mx→Rat):Prop where
 congr:∀{A B:Mx},(∀r c,r < n→c < n→A r c=B r c)→F A=F B
 swap:∀(A:Mx) {a b:Nat},a < n→b < n→a≠b→F (swapM A a b)= -F A
 add:∀(A:Mx) {a b:Nat} (k:Rat),a < n→b < n→a≠b→F (fun r c=>if r=a then A r c+k * A b c else A r c)=F A
 scale:∀(A:Mx) {a:Nat} (k:Rat),a < n→F (fun r c=>if r=a then k * A r c else A r c)=k * F A
theorem Ztw.elim {n:Nat} {F:Mx→Rat} (h:Ztw n F) {M:Mx} {k:Nat} (hk:k < n) (hz:∀c,c < k→M k c=0):∀s,s≤n→F (ZL M k s n)=F M
 | 0,_=>by rw [Zcu]
 | s+1,hs=>by
  rw [← Ztw.elim h hk hz s (by omega)]
  by_cases e:s=k∨M s k=0
  ·rw [Zer e]
  ·have e1:s≠k:=fun g=>e (Or.inl g)
   rw [← Zes e1,← h.add (ZL M k s n) (-(ZL M k s n s k)) (show s < n by omega) hk e1]
   refine h.congr fun r c hr hc=>?_
   unfold Xb
   by_cases g:r=s
   ·subst g
    rw [if_pos rfl]
    by_cases g2:k≤c
    ·rw [if_pos ⟨rfl,g2,by omega⟩];grind
    ·rw [if_neg (by omega),Wo,hz c (by omega)];grind
   ·rw [if_neg g,if_neg (fun x=>g x.1)]
theorem Ztw.step {n k t:Nat} {F:Mx→Rat} (h:Ztw n F) {N:Mx} (hk:k < n) (hu:Zao n k N) (hp:X6 N k n=some t):
 F N=(if t=k then 1 else -1) * N t k * F (ZL (scaleTo (swapM N k t) k (n+1) (N t k)) k n n):=by
 obtain ⟨t1,t2,t3⟩:=Va hp;have hz:∀c,c < k→swapM N k t k c=0:=fun c hc=>by
  unfold swapM;rw [if_pos rfl,hu t c t2 (by omega),if_neg (by omega)]
 have a:∀c,c < k→scaleTo (swapM N k t) k (n+1) (N t k) k c=0:=fun c hc=>by
  unfold scaleTo;rw [if_neg (by omega),hz c hc]
 rw [h.elim hk a n (JY _)];have e1:F (scaleTo (swapM N k t) k (n+1) (N t k))=(1 / N t k) * F (swapM N k t):=by
  rw [← h.scale (swapM N k t) (1 / N t k) hk];refine h.congr fun r c hr hc=>?_
  unfold scaleTo;by_cases g:r=k
  ·subst g;rw [if_pos rfl];by_cases g2:r≤c
   ·rw [if_pos ⟨rfl,g2,by omega⟩];grind
   ·rw [if_neg (by omega),hz c (by omega)];grind
  ·rw [if_neg g,if_neg (fun x=>g x.1)]
 have e2:F (swapM N k t)=(if t=k then 1 else -1) * F N:=by
  by_cases g:t=k
  ·subst g;rw [Zcb,if_pos rfl];grind
  ·rw [if_neg g,h.swap N hk t2 (fun x=>g x.symm)];grind
 rw [e1,e2];have e3:N t k * (1 / N t k)=1:=by grind
 by_cases g:t=k
 ·simp only [if_pos g];grind
 ·simp only [if_neg g];grind
def sgN (j:Nat):Rat:=if j % 2=0 then 1 else -1
theorem Zqm (j:Nat):sgN (j+1)= -sgN j:=by
 unfold sgN;by_cases h:j % 2=0
 ·rw [if_pos h,if_neg (by omega)]
 ·rw [if_neg h,if_pos (by omega)];grind
theorem Zke (R:Mx) (a b:Nat):swapM R a b=swapM R b a:=by
 funext r;unfold swapM;repeat' split
 all_goals first | rfl | (subst_vars;rfl)
structure Zwn (n:Nat) (P:Nat→Nat) (sn:Nat→Bool) (s:Rat):Prop where
 pm:s=1∨s= -1
 pre:∀r,r < n→sn r=true→∃q,q < n∧sn q=true∧P q=r
 sg:∀F:Mx→Rat,Ztw n F→∀A:Mx,F (fun r=>if sn r=true then A (P r) else A r)=s * F A
structure Zvl (n:Nat) (P:Nat→Nat) (sn:Nat→Bool) (i z l:Nat) (s:Rat):Prop where
 pm:s=1∨s= -1
 il:i < n
 zl:z < n
 zs:sn z=true
 is:sn i=true
 pre:∀r,r < n→sn r=true→r≠i→∃q,q < n∧sn q=true∧q≠z∧P q=r
 sg:∀F:Mx→Rat,Ztw n F→∀A:Mx,F (fun r=>if sn r=true then (if r=z then A i else A (P r)) else A r)=s * sgN (l+1) * F A
def Zqn (sn:Nat→Bool) (j:Nat):Nat→Bool:=fun r=>if r=j then true else sn r
theorem UF (sn:Nat→Bool) (j:Nat):Zqn sn j j=true:=if_pos rfl
theorem VF {sn:Nat→Bool} {j r:Nat} (h:r≠j):Zqn sn j r=sn r:=if_neg h
theorem Uk {sn:Nat→Bool} {j r:Nat} (h:sn r=true):Zqn sn j r=true:=by
 unfold Zqn;split
 ·rfl
 ·exact h
theorem Zwn.start {n:Nat} {P:Nat→Nat} {sn:Nat→Bool} {s:Rat} (h:Zwn n P sn s) {i:Nat} (hi:i < n) (h0:sn i=false):Zvl n P (Zqn sn i) i i 1 s where
 pm:=h.pm
 il:=hi
 zl:=hi
 zs:=UF sn i
 is:=UF sn i
 pre:=fun r hr hs hne=>by
  rw [VF hne] at hs
  obtain ⟨q,h1,h2,h3⟩:=h.pre r hr hs
  exact ⟨q,h1,Uk h2,fun e=>(by rw [e,h0] at h2;cases h2),h3⟩
 sg:=fun F hF A=>by
  rw [show sgN (1+1)=1 from rfl,show s * 1 * F A=s * F A by grind,← h.sg F hF A]
  refine hF.congr fun r c _ _=>?_
  by_cases e:r=i
  ·rw [e,UF,if_pos rfl,if_pos rfl,h0,if_neg (by decide)]
  ·rw [VF e,if_neg e]
theorem Zvl.step {n:Nat} {P:Nat→Nat} {sn:Nat→Bool} {i z l:Nat} {s:Rat} (h:Zvl n P sn i z l s) (hp:P z < n) (h0:sn (P z)=false):Zvl n P (Zqn sn (P z)) i (P z) (l+1) s where
 pm:=h.pm
 il:=h.il
 zl:=hp
 zs:=UF _ _
 is:=Uk h.is
 pre:=fun r hr hs hne=>by
  by_cases e:r=P z
  ·exact ⟨z,h.zl,Uk h.zs,fun g=>(by rw [← g,h.zs] at h0;cases h0),e.symm⟩
  ·rw [VF e] at hs
   obtain ⟨q,h1,h2,_,h3⟩:=h.pre r hr hs hne
   exact ⟨q,h1,Uk h2,fun g=>(by rw [← g,h2] at h0;cases h0),h3⟩
 sg:=fun F hF A=>by
  have hz:z≠P z:=fun g=>by rw [← g,h.zs] at h0;cases h0
  have h1:=h.sg F hF A
  have h2:=hF.swap (fun r=>if sn r=true then (if r=z then A i else A (P r)) else A r) h.zl hp hz
  rw [h1] at h2
  rw [Zqm (l+1),show s * -sgN (l+1) * F A= -(s * sgN (l+1) * F A) by grind,← h2]
  refine hF.congr fun r c _ _=>?_
  unfold swapM
  by_cases e1:r=z
  ·rw [e1,if_pos rfl,VF hz,h.zs,if_pos rfl,if_neg hz]
   show _=(if sn (P z)=true then (if P z=z then A i else A (P (P z))) else A (P z)) c
   rw [h0,if_neg (by decide)]
  ·by_cases e2:r=P z
   ·rw [if_neg e1,if_pos e2,e2,UF,if_pos rfl,if_pos rfl]
    show _=(if sn z=true then (if z=z then A i else A (P z)) else A z) c
    rw [h.zs,if_pos rfl,if_pos rfl]
   ·rw [if_neg e1,if_neg e2,VF e2,if_neg e2]
    show _=(if sn r=true then (if r=z then A i else A (P r)) else A r) c
    rw [if_neg e1]
end Pl
end Go.Proofs.YtidgdpkcloaheaaGreat
