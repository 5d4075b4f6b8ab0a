/- Lemmas of the claim; no condition. -/
import Derived.OwnWalk
import Derived.Maps.Own
import Derived.Great.BuildSlice
import Derived.Test.YtgbhebappffbdaaGreatP23
set_option linter.all false
set_option maxRecDepth 100000
set_option maxHeartbeats 40000000
namespace Go.Proofs.YtgbhebappffbdaaGreat
open Go.RowKit
open Pl
attribute [local go_sem ↓] Go.wp_at_zero Go.wp_at_succ
namespace Pl
def Zeu (p:LPd) (s:LSt) (j:Int):Rat:=VL p s.phase j - Zbb (XU p s) (Yj p.right.length (p.col j)) (min (XU p s).length p.right.length)
end Pl
section
namespace Pl
def Zpb (p:LPd) (s:LSt):Prop:=∀i,i < p.right.length→ -(p.right.length:Int)≤s.at_ i∧s.at_ i < p.cols.length
def Zvi (p:LPd) (s:LSt):Prop:=∀i,i < p.right.length→∀k,k < i→s.at_ i≠s.at_ k
def Zze (p:LPd) (s:LSt):Prop:=∀i,i < p.right.length→¬qAt (zL p s) i < 0
instance (p:LPd) (s:LSt):Decidable (Zpb p s):=by unfold Zpb;infer_instance
instance (p:LPd) (s:LSt):Decidable (Zvi p s):=by unfold Zvi;infer_instance
instance (p:LPd) (s:LSt):Decidable (Zze p s):=by unfold Zze;infer_instance
def vsErr (p:LPd) (s:LSt):Int:=if s.basis.length≠p.right.length then 12 else if s.phase < 1∨2 < s.phase∨s.pivots < 0 then 5 else if ¬Zpb p s then 5 else if ¬Zvi p s then 7 else if zOk p s=false then 13 else if ¬Zze p s then 16 else if s.phase=2∧Zby s (zL p s) (zL p s).length=true then 16 else 0
section
variable {p:LPd} {s:LSt}
theorem Yfe (h:s.basis.length≠p.right.length):vsErr p s=12:=by unfold vsErr;rw [if_pos h]
theorem Yff (h:s.basis.length=p.right.length) (h2:s.phase < 1∨2 < s.phase∨s.pivots < 0):vsErr p s=5:=by unfold vsErr;rw [if_neg (by omega),if_pos h2]
theorem Yaj (h:s.basis.length=p.right.length) (h2:¬(s.phase < 1∨2 < s.phase∨s.pivots < 0)) (h3:¬Zpb p s):vsErr p s=5:=by unfold vsErr;rw [if_neg (by omega),if_neg h2,if_pos h3]
theorem Yfg (h:s.basis.length=p.right.length) (h2:¬(s.phase < 1∨2 < s.phase∨s.pivots < 0)) (h3:Zpb p s) (h4:¬Zvi p s):vsErr p s=7:=by unfold vsErr;rw [if_neg (by omega),if_neg h2,if_neg (by simpa using h3),if_pos h4]
theorem Yde (h:s.basis.length=p.right.length) (h2:¬(s.phase < 1∨2 < s.phase∨s.pivots < 0)) (h3:Zpb p s) (h4:Zvi p s) (h5:zOk p s=false):vsErr p s=13:=by unfold vsErr;rw [if_neg (by omega),if_neg h2,if_neg (by simpa using h3),if_neg (by simpa using h4),if_pos h5]
theorem Yak (h:s.basis.length=p.right.length) (h2:¬(s.phase < 1∨2 < s.phase∨s.pivots < 0)) (h3:Zpb p s) (h4:Zvi p s) (h5:zOk p s=true) (h6:¬Zze p s):vsErr p s=16:=by unfold vsErr;rw [if_neg (by omega),if_neg h2,if_neg (by simpa using h3),if_neg (by simpa using h4),if_neg (by rw [h5];decide),if_pos h6]
theorem Yfh (h:s.basis.length=p.right.length) (h2:¬(s.phase < 1∨2 < s.phase∨s.pivots < 0)) (h3:Zpb p s) (h4:Zvi p s) (h5:zOk p s=true) (h6:Zze p s) (h7:s.phase=2∧Zby s (zL p s) (zL p s).length=true):vsErr p s=16:=by unfold vsErr;rw [if_neg (by omega),if_neg h2,if_neg (by simpa using h3),if_neg (by simpa using h4),if_neg (by rw [h5];decide),if_neg (by simpa using h6),if_pos h7]
theorem Yfi (h:s.basis.length=p.right.length) (h2:¬(s.phase < 1∨2 < s.phase∨s.pivots < 0)) (h3:Zpb p s) (h4:Zvi p s) (h5:zOk p s=true) (h6:Zze p s) (h7:¬(s.phase=2∧Zby s (zL p s) (zL p s).length=true)):vsErr p s=0:=by unfold vsErr;rw [if_neg (by omega),if_neg h2,if_neg (by simpa using h3),if_neg (by simpa using h4),if_neg (by rw [h5];decide),if_neg (by simpa using h6),if_neg h7]
theorem Ydf (h:s.basis.length=p.right.length) (h3:Zpb p s):s.Fit p:=⟨fun i z hz=>by
 have hi:i < s.basis.length:=(List.getElem?_eq_some_iff.1 hz).1
 have:=h3 i (by omega)
 rw [LSt.at_eq hz] at this
 exact this,h⟩
theorem Ydg (h:vsErr p s=0):s.Fit p∧¬(s.phase < 1∨2 < s.phase∨s.pivots < 0)∧Zvi p s∧zOk p s=true∧Zze p s∧¬(s.phase=2∧Zby s (zL p s) (zL p s).length=true):=by
 unfold vsErr at h;by_cases h1:s.basis.length≠p.right.length
 ·rw [if_pos h1] at h;omega
 rw [if_neg h1] at h;by_cases h2:s.phase < 1∨2 < s.phase∨s.pivots < 0
 ·rw [if_pos h2] at h;omega
 rw [if_neg h2] at h;by_cases h3:Zpb p s
 ·rw [if_neg (by simpa using h3)] at h;by_cases h4:Zvi p s
  ·rw [if_neg (by simpa using h4)] at h
   cases h5:zOk p s with
   | false=>rw [if_pos h5] at h;omega
   | true=>
    rw [if_neg (by rw [h5];decide)] at h;by_cases h6:Zze p s
    ·rw [if_neg (by simpa using h6)] at h;by_cases h7:s.phase=2∧Zby s (zL p s) (zL p s).length=true
     ·rw [if_pos h7] at h;omega
     ·exact ⟨Ydf (by omega) h3,h2,h4,rfl,h6,h7⟩
    ·rw [if_pos h6] at h;omega
  ·rw [if_pos h4] at h;omega
 ·rw [if_pos h3] at h;omega
end
end Pl
end
namespace Pl
def YJ (f:Nat→Rat):Nat→Nat→Option Nat
 | _,0=>none
 | r,n+1=>if f r < 0 then some r else YJ f (r+1) n
theorem Zao {f:Nat→Rat}:∀{n r:Nat},(∀i,r≤i→i < r+n→¬f i < 0)→YJ f r n=none
 | 0,_,_=>rfl
 | n+1,r,h=>by
  unfold YJ
  rw [if_neg (h r (JY _) (by omega))]
  exact Zao fun i h1 h2=>h i (by omega) (by omega)
theorem Zap {f:Nat→Rat}:∀{n r t:Nat},r≤t→t < r+n→f t < 0→(∀i,r≤i→i < t→¬f i < 0)→YJ f r n=some t
 | 0,r,t,h1,h2,_,_=>by omega
 | n+1,r,t,h1,h2,h3,h4=>by
  unfold YJ
  rcases Nat.eq_or_lt_of_le h1 with e | e
  ·subst e;rw [if_pos h3]
  ·rw [if_neg (h4 r (JY _) e)]
   exact Zap (by omega) (by omega) h3 fun i h5 h6=>h4 i (by omega) h6
theorem XI {f:Nat→Rat}:∀{n r t:Nat},YJ f r n=some t→r≤t∧t < r+n∧f t < 0∧∀i,r≤i→i < t→¬f i < 0
 | 0,_,_,h=>by cases h
 | n+1,r,t,h=>by
  unfold YJ at h
  split at h
  ·injection h with h;subst h;exact ⟨JY _,by omega,by assumption,fun i h1 h2=>by omega⟩
  ·rename_i h0
   obtain ⟨h1,h2,h3,h4⟩:=XI h
   refine ⟨by omega,by omega,h3,fun i h5 h6=>?_⟩
   rcases Nat.eq_or_lt_of_le h5 with e | e
   ·subst e;exact h0
   ·exact h4 i (by omega) h6
def Zvj (p:LPd) (s:LSt):Option Nat:=YJ (fun j=>Zeu p s (j:Int)) 0 p.cols.length
def dirL (p:LPd) (s:LSt) (j:Int):List RF:=Zif p.right.length (s.mat p) (qAt (Yj p.right.length (p.col j)))
def Vq (s:LSt) (d:List RF):Nat→Bool
 | 0=>decide (s.phase=2)
 | k+1=>if 0 < qAt d k∨(s.at_ k < 0∧qAt d k≠0) then false else Vq s d k
def YR (p:LPd) (s:LSt):Int:=match Zvj p s with | some j=>(if Vq s (dirL p s (j:Int)) (dirL p s (j:Int)).length then 3 else 0) | none=>if s.phase=1 then 2 else 1
def UA (p:LPd) (s:LSt):Int:=match Zvj p s with | some j=>(j:Int) | none=> -1
def VO (p:LPd) (s:LSt):List RF:=match Zvj p s with | some j=>dirL p s (j:Int) | none=>[]
theorem XP {p:LPd} {s:LSt} {j:Nat} (h:Zvj p s=some j):YR p s=(if Vq s (dirL p s (j:Int)) (dirL p s (j:Int)).length then 3 else 0)∧UA p s=(j:Int)∧VO p s=dirL p s (j:Int):=by unfold YR UA VO;rw [h];exact ⟨rfl,rfl,rfl⟩
theorem WU {p:LPd} {s:LSt} (h:Zvj p s=none):YR p s=(if s.phase=1 then 2 else 1)∧UA p s= -1∧VO p s=[]:=by unfold YR UA VO;rw [h];exact ⟨rfl,rfl,rfl⟩
theorem Yal {p:LPd} {K:Nat} (F:p.Fit K) (s:LSt) (j:Int):RsL (5^p.right.length * K) (dirL p s j):=Zut (fun _ _ _ _=>LPd.Sz_col F.ok F.k1 _ _) fun r hr=>by rw [YH hr];exact LPd.Sz_col F.ok F.k1 _ _
end Pl
namespace Pl
def Zbz (s:LSt) (Z:List RF):Nat→Nat→Rat
 | 0=>fun _=>0
 | k+1=>fun j=>if s.at_ k=(j:Int) then qAt Z k else Zbz s Z k j
theorem Zgg (s:LSt) (Z:List RF) (k j:Nat):Zbz s Z (k+1) j=if s.at_ k=(j:Int) then qAt Z k else Zbz s Z k j:=rfl
def Zef (p:LPd) (s:LSt):List RF:=Yj p.cols.length (Zbz s (zL p s) (zL p s).length)
theorem Zhy {m:Nat} {cols:Mx} {b:Nat→Rat} {k:Nat} {f:RF} (h:(Zif m cols b)[k]? =some f):f=canF (qAt (Zif m cols b) k):=by
 cases e:Xa m cols b with
 | none=>rw [Zur e] at h;simp at h
 | some x=>
  rw [Zeb e] at h ⊢;have hk:k < m:=by have:=(List.getElem?_eq_some_iff.1 h).1;rwa [Zm] at this
  rw [ZK hk] at h;injection h with h;rw [YH hk,← h]
theorem Zvk {s:LSt} {Z:List RF} {K:Nat} (h:RsL K Z) (hK:1≤K):∀(k j:Nat),Sz K (Zbz s Z k j)
 | 0,j=>Sz_zero.mono hK
 | k+1,j=>by
  unfold Zbz
  split
  ·exact h.qAt hK k
  ·exact Zvk h hK k j
theorem Ydh {p:LPd} {K:Nat} (F:p.Fit K) (s:LSt):RsL (5^p.right.length * K) (Zef p s):=Zbc fun i _=>Zvk (Ygw F s) (JW F.k1 F.le) _ i
end Pl
namespace Pl
def Ydi (k:Nat):List Int:=(List.range k).map fun r:Nat=> -1 - (r:Int)
theorem Zeg (k:Nat):(Ydi k).length=k:=by simp [Ydi]
def Zbu (p:LPd):LSt:=⟨1,Ydi p.right.length,0⟩
theorem Zrp (p:LPd):(Zbu p).Fit p:=⟨fun i z hz=>by
 have hz':(Ydi p.right.length)[i]? =some z:=hz
 have hi:i < p.right.length:=by have:=(List.getElem?_eq_some_iff.1 hz').1;rwa [Zeg] at this
 simp [Ydi,hi] at hz'
 omega,Zeg _⟩
end Pl
theorem Bk.set_other {w:World} {g g':Nat} {t:TypeId} {cs:List Value} (h:Bk w g' t cs) (hne:g'≠g) (i:Nat) (u:Value):Bk (w.setCell ⟨g,i,none⟩ u) g' t cs:=by
 unfold Bk at h ⊢;rw [heap_setCell_other _ _ _ _ hne];exact h
theorem Bk.lt_ {w:World} {g:Nat} {t:TypeId} {cs:List Value} (h:Bk w g t cs):g < w.heap.size:=Yw h
namespace Pl
def Zrq (Z D:List RF) (i:Nat):Rat:=qAt Z i / qAt D i
def better (p:LPd) (s:LSt) (Z D:List RF) (i b:Nat):Prop:=Zrq Z D i < Zrq Z D b∨(Zrq Z D i=Zrq Z D b∧Ygt p (s.at_ i) < Ygt p (s.at_ b))
instance (p:LPd) (s:LSt) (Z D:List RF) (i b:Nat):Decidable (better p s Z D i b):=by unfold better;infer_instance
def XQ (p:LPd) (s:LSt) (Z D:List RF):Nat→Option Nat
 | 0=>none
 | k+1=>if 0 < qAt D k then (match XQ p s Z D k with | none=>some k | some b=>if better p s Z D k b then some k else some b) else XQ p s Z D k
theorem Zbl {p:LPd} {s:LSt} {Z D:List RF} {k:Nat} (h:¬0 < qAt D k):XQ p s Z D (k+1)=XQ p s Z D k:=by rw [XQ,if_neg h]
theorem UB {p:LPd} {s:LSt} {Z D:List RF} {k:Nat} (hb:XQ p s Z D k=none) (h:0 < qAt D k):XQ p s Z D (k+1)=some k:=by rw [XQ,if_pos h,hb]
theorem VP {p:LPd} {s:LSt} {Z D:List RF} {k t:Nat} (hb:XQ p s Z D k=some t) (h:0 < qAt D k) (g:better p s Z D k t):XQ p s Z D (k+1)=some k:=by rw [XQ,if_pos h,hb];simp only;rw [if_pos g]
theorem UC {p:LPd} {s:LSt} {Z D:List RF} {k t:Nat} (hb:XQ p s Z D k=some t) (h:0 < qAt D k) (g:¬better p s Z D k t):XQ p s Z D (k+1)=some t:=by rw [XQ,if_pos h,hb];simp only;rw [if_neg g]
theorem V5 {p:LPd} {s:LSt} {Z D:List RF}:∀{k t:Nat},XQ p s Z D k=some t→t < k∧0 < qAt D t
 | 0,t,h=>by cases h
 | k+1,t,h=>by
  by_cases h0:0 < qAt D k
  ·cases hb:XQ p s Z D k with
   | none=>rw [UB hb h0] at h;injection h with h;subst h;exact ⟨by omega,h0⟩
   | some b=>
    obtain ⟨h1,h2⟩:=V5 hb
    by_cases g:better p s Z D k b
    ·rw [VP hb h0 g] at h;injection h with h;subst h;exact ⟨by omega,h0⟩
    ·rw [UC hb h0 g] at h;injection h with h;subst h;exact ⟨by omega,h2⟩
  ·rw [Zbl h0] at h
   obtain ⟨h1,h2⟩:=V5 h
   exact ⟨by omega,h2⟩
def oi:Option Nat→Int
 | none=> -1
 | some b=>(b:Int)
def Zwg (s:LSt) (D:List RF) (i:Nat):Rat:=if s.at_ i < 0∧qAt D i≠0 then -1 else 0
theorem Zzf {s:LSt} {D:List RF} {i:Nat} (h1:s.at_ i < 0) (h2:qAt D i≠0):Zwg s D i < 0:=by unfold Zwg;rw [if_pos ⟨h1,h2⟩];decide
theorem Ygm {s:LSt} {D:List RF} {i:Nat} (h:¬(s.at_ i < 0∧qAt D i≠0)):¬Zwg s D i < 0:=by unfold Zwg;rw [if_neg h];decide
def Zeh (p:LPd) (s:LSt) (Z D:List RF):Option Nat:=if s.phase=2 then (match YJ (Zwg s D) 0 D.length with | some i=>some i | none=>XQ p s Z D D.length) else XQ p s Z D D.length
theorem Zvl {p:LPd} {s:LSt} {Z D:List RF} (h:¬s.phase=2):Zeh p s Z D=XQ p s Z D D.length:=by unfold Zeh;rw [if_neg h]
theorem Zvm {p:LPd} {s:LSt} {Z D:List RF} (h:s.phase=2) {i:Nat} (hf:YJ (Zwg s D) 0 D.length=some i):Zeh p s Z D=some i:=by unfold Zeh;rw [if_pos h,hf]
theorem Zvn {p:LPd} {s:LSt} {Z D:List RF} (h:s.phase=2) (hf:YJ (Zwg s D) 0 D.length=none):Zeh p s Z D=XQ p s Z D D.length:=by unfold Zeh;rw [if_pos h,hf]
theorem Zzg {p:LPd} {s:LSt} {Z D:List RF} {i:Nat} (h:Zeh p s Z D=some i):i < D.length:=by
 by_cases hp:s.phase=2
 ·cases hf:YJ (Zwg s D) 0 D.length with
  | some j=>rw [Zvm hp hf] at h;injection h with h;subst h;have:=XI hf;omega
  | none=>rw [Zvn hp hf] at h;exact (V5 h).1
 ·rw [Zvl hp] at h;exact (V5 h).1
def Y8 (p:LPd) (s:LSt) (Z D:List RF) (k:Nat) (z:Int):Prop:=(z= -1∧XQ p s Z D k=none)∨∃t:Nat,z=(t:Int)∧t < k∧XQ p s Z D k=some t
end Pl
namespace Pl
def Zkt (p:LPd) (s:LSt):Option LSt:=if YR p s=0 then (match Zeh p s (zL p s) (VO p s) with | none=>none | some i=>some (ZB p ⟨s.phase,s.basis.set i (UA p s),s.pivots+1⟩)) else none
theorem Yfj {p:LPd} {s:LSt} (h:YR p s≠0):Zkt p s=none:=by unfold Zkt;rw [if_neg h]
theorem Yfk {p:LPd} {s:LSt} (h:Zeh p s (zL p s) (VO p s)=none):Zkt p s=none:=by unfold Zkt;rw [h];split <;> rfl
theorem Yfl {p:LPd} {s:LSt} {i:Nat} (h:YR p s=0) (h2:Zeh p s (zL p s) (VO p s)=some i):Zkt p s=some (ZB p ⟨s.phase,s.basis.set i (UA p s),s.pivots+1⟩):=by unfold Zkt;rw [h2,if_pos h]
def Zwh (p:LPd):Nat→LSt→LSt
 | 0,s=>s
 | n+1,s=>match Zkt p s with | none=>s | some t=>Zwh p n t
theorem Zei {p:LPd} {s:LSt} (h:Zkt p s=none) (n:Nat):Zwh p n s=s:=by cases n with | zero=>rfl | succ n=>rw [Zwh,h]
theorem Zej {p:LPd} {s t:LSt} (h:Zkt p s=some t) (n:Nat):Zwh p (n+1) s=Zwh p n t:=by rw [Zwh,h]
theorem Ydj {p:LPd} {s:LSt} (h:YR p s=0):∃j:Nat,Zvj p s=some j∧j < p.cols.length∧UA p s=(j:Int)∧VO p s=dirL p s (j:Int):=by
 cases he:Zvj p s with
 | none=>rw [(WU he).1] at h;split at h <;> omega
 | some j=>exact ⟨j,rfl,by have:=(XI he).2.1;omega,(XP he).2.1,(XP he).2.2⟩
theorem Ydk {p:LPd} {s:LSt} (S:s.Fit p) {j:Int} (h0:0≤j) (h1:j < p.cols.length) (i:Nat) (k:Int):(LSt.mk s.phase (s.basis.set i j) k).Fit p:=by
 refine ⟨fun i' z hz=>?_,by show (s.basis.set i j).length=_;rw [List.length_set];exact S.2⟩;have a:(s.basis.set i j)[i']? =some z:=hz;by_cases e:i=i'
 ·subst e;have hi:i < s.basis.length:=by have:=(List.getElem?_eq_some_iff.1 a).1;rwa [List.length_set] at this
  rw [List.getElem?_set_self hi] at a;injection a with a;omega
 ·rw [List.getElem?_set_ne e] at a;exact S.1 i' z a
end Pl
section
namespace Pl
theorem Xr.tr {m:Nat} {cols:Mx} (h:Xr m cols):Xr m (trM cols):=by
 intro y hy r hr;obtain ⟨x,hx⟩:=Xt h fun i=>if i=r then 1 else 0
 have e:=(X7 hx x).2 fun k _=>rfl
 have h1:ZO (fun i=>y i * Xz m cols x i) m=y r:=by
  rw [Y2 hr fun i hi hne=>by rw [e i hi,if_neg hne];grind,e r hr,if_pos rfl];grind
 have h2:ZO (fun i=>y i * Xz m cols x i) m=ZO (fun c=>Xz m (trM cols) y c * x c) m:=by
  unfold Xz;rw [Zk (g:=fun i=>ZO (fun c=>y i * (cols c i * x c)) m) fun i _=>(Xe _ _ _).symm,VG];exact Zk fun c _=>by
   unfold trM;rw [Rat.mul_comm,← Xe];exact Zk fun i _=>by grind
 rw [← h1,h2];exact WQ fun c hc=>by rw [hy c hc];grind
section
variable {p:LPd} {s:LSt}
def Reg (p:LPd) (s:LSt):Prop:=Xr p.right.length (s.mat p)
theorem Zvo (h:zOk p s=true):Reg p s:=by
 unfold zOk at h;obtain ⟨x,hx⟩:=Option.isSome_iff_exists.1 h;exact Zha hx
theorem Zvp (h:Reg p s):zOk p s=true:=by
 obtain ⟨x,hx⟩:=Xt h (qAt p.right);unfold zOk;rw [hx];rfl
theorem Ws {m:Nat} {cols:Mx} (h:Xr m cols) (b:Nat→Rat):(Zif m cols b).length=m∧∀r,r < m→Xz m cols (qAt (Zif m cols b)) r=b r:=by
 obtain ⟨x,hx⟩:=Xt h b;rw [Zeb hx,Zm];refine ⟨rfl,fun r hr=>?_⟩;rw [← (X7 hx x).2 (fun k _=>rfl) r hr];exact Zk fun c hc=>by rw [YH hc]
theorem Zku {m:Nat} {cols:Mx} (h:Xr m cols) {b x:Nat→Rat} (hx:∀r,r < m→Xz m cols x r=b r):∀k,k < m→qAt (Zif m cols b) k=x k:=by
 obtain ⟨z,hz,he⟩:=Zjq h hx;intro k hk;rw [Zeb hz,YH hk,he k hk]
theorem Yfm (h:Reg p s):∀r,r < p.right.length→Xz p.right.length (s.mat p) (qAt (zL p s)) r=qAt p.right r:=(Ws h _).2
theorem Yam (h:Reg p s) {x:Nat→Rat} (hx:∀r,r < p.right.length→Xz p.right.length (s.mat p) x r=qAt p.right r):∀k,k < p.right.length→qAt (zL p s) k=x k:=Zku h hx
theorem Zrr (h:Reg p s):(zL p s).length=p.right.length:=(Ws h _).1
theorem Zpc (h:Reg p s) (j:Int):∀r,r < p.right.length→Xz p.right.length (s.mat p) (qAt (dirL p s j)) r=p.col j r:=fun r hr=>by
 unfold dirL
 rw [(Ws h _).2 r hr,YH hr]
theorem Znc (h:Reg p s) (j:Int):(dirL p s j).length=p.right.length:=(Ws h _).1
theorem Zhz (h:Reg p s):(XU p s).length=p.right.length:=(Ws h.tr _).1
theorem Zvq (h:Reg p s):∀k,k < p.right.length→ZO (fun r=>s.mat p k r * qAt (XU p s) r) p.right.length=VL p s.phase (s.at_ k):=fun k hk=>by
 have e:=(Ws h.tr (qAt (Yj p.right.length fun i=>VL p s.phase (s.at_ i)))).2 k hk
 rw [YH hk] at e
 exact e
theorem Zvr (h:Reg p s) {k:Nat} (hk:k < p.right.length):Zeu p s (s.at_ k)=0:=by
 unfold Zeu;rw [Zhz h,Nat.min_self,Zjm,← Zvq h k hk];have e:Zgz (XU p s) (p.col (s.at_ k)) p.right.length=ZO (fun r=>s.mat p k r * qAt (XU p s) r) p.right.length:=Zk fun r _=>by show _=p.col (s.at_ k) r * _;grind
 rw [e];grind
theorem Zbm {zs:List RF}:∀{n:Nat},Zby s zs n=false→∀k,k < n→s.at_ k < 0→qAt zs k=0
 | 0,_,k,hk,_=>by omega
 | n+1,h,k,hk,ha=>by
  unfold Zby at h
  rw [Bool.or_eq_false_iff] at h
  rcases JX k n with e | e
  ·exact Zbm h.1 k e ha
  ·obtain rfl:k=n:=by omega
   simpa [ha] using h.2
theorem Zia {zs:List RF}:∀{n:Nat},(∀k,k < n→s.at_ k < 0→qAt zs k=0)→Zby s zs n=false
 | 0,_=>rfl
 | n+1,h=>by
  unfold Zby
  rw [Zia fun k hk=>h k (by omega)]
  by_cases ha:s.at_ n < 0
  ·simp [ha,h n (by omega) ha]
  ·simp [ha]
structure Val (p:LPd) (s:LSt):Prop where
 fit:s.Fit p
 ph:s.phase=1∨s.phase=2
 pv:0≤s.pivots
 dup:∀i,i < p.right.length→∀k,k < i→s.at_ i≠s.at_ k
 reg:Reg p s
 pos:∀i,i < p.right.length→0≤qAt (zL p s) i
 art:s.phase=2→∀i,i < p.right.length→s.at_ i < 0→qAt (zL p s) i=0
theorem Zkv (h:vsErr p s=0):Val p s:=by
 obtain ⟨h1,h2,h3,h4,h5,h6⟩:=Ydg h;have hr:=Zvo h4;exact ⟨h1,by omega,by omega,h3,hr,fun i hi=>Rat.not_lt.1 (h5 i hi),fun e i hi ha=>by
  have:Zby s (zL p s) (zL p s).length=false:=by
   cases hb:Zby s (zL p s) (zL p s).length with
   | false=>rfl
   | true=>exact absurd ⟨e,hb⟩ h6
  exact Zbm this i (by rw [Zrr hr];exact hi) ha⟩
theorem Val.vs (h:Val p s):vsErr p s=0:=by
 have hb:=h.fit.len;refine Yfi hb (by have:=h.ph;have:=h.pv;omega) (fun i hi=>?_) h.dup (Zvp h.reg) (fun i hi=>Rat.not_lt.2 (h.pos i hi)) fun e=>?_
 ·have a:i < s.basis.length:=by omega
  have:=h.fit.in_ i _ (JQ a);rw [LSt.at_eq (JQ a)];exact this
 ·have:=Zia (zs:=zL p s) (n:=(zL p s).length) fun k hk ha=>h.art e.1 k (by rw [← Zrr h.reg];exact hk) ha
  rw [this] at e;exact absurd e.2 (by decide)
theorem Val.settle (h:Val p s):Val p (ZB p s):=by
 refine ⟨Zmu h.fit,?_,h.pv,h.dup,h.reg,h.pos,fun e i hi ha=>?_⟩
 ·show (if Zby s (zL p s) (zL p s).length=true then s.phase else 2)=1∨(if Zby s (zL p s) (zL p s).length=true then s.phase else 2)=2;split
  ·exact h.ph
  ·exact .inr rfl
 ·have e':(if Zby s (zL p s) (zL p s).length=true then s.phase else 2)=2:=e
  cases hb:Zby s (zL p s) (zL p s).length with
  | false=>exact Zbm hb i (by rw [Zrr h.reg];exact hi) ha
  | true=>rw [hb,if_pos rfl] at e';exact h.art e' i hi ha
theorem settle_twice:ZB p (ZB p s)=ZB p s:=by
 unfold ZB;have e:∀ph,Zby ⟨ph,s.basis,s.pivots⟩ (zL p ⟨ph,s.basis,s.pivots⟩) (zL p ⟨ph,s.basis,s.pivots⟩).length=Zby s (zL p s) (zL p s).length:=fun ph=>by
  have e1:zL p ⟨ph,s.basis,s.pivots⟩=zL p s:=rfl;rw [e1];generalize (zL p s).length=n
  induction n with
  | zero=>rfl
  | succ n ih=>unfold Zby;rw [ih];rfl
 simp only [e]
 cases Zby s (zL p s) (zL p s).length <;> simp
end
theorem Ydl {k i:Nat} (h:i < k):(Ydi k)[i]? =some (-1 - (i:Int)):=by simp [Ydi,h]
theorem Zek {p:LPd} {i:Nat} (h:i < p.right.length):(Zbu p).at_ i= -1 - (i:Int):=LSt.at_eq (Ydl h)
theorem Zvs (p:LPd):Val p (Zbu p):=by
 have hm:∀k,k < p.right.length→(Zbu p).mat p k=fun i=>if i=k then (if qs (qAt p.right i) < 0 then -1 else 1) else 0:=fun k hk=>by
  show p.col ((Zbu p).at_ k)=_;rw [Zek hk];exact LPd.col_neg
 have a:∀y r,r < p.right.length→Xz p.right.length ((Zbu p).mat p) y r=(if qs (qAt p.right r) < 0 then -1 else 1) * y r:=fun y r hr=>by
  unfold Xz;rw [Y2 hr fun i hi hne=>by rw [hm i hi];simp only;rw [if_neg (fun e=>hne e.symm)];grind,hm r hr];simp
 have b:Reg p (Zbu p):=fun y hy k hk=>by
  have:=hy k hk;rw [a y k hk] at this;split at this <;> grind
 have hz:=Yam b (x:=fun i=>(if qs (qAt p.right i) < 0 then -1 else 1) * qAt p.right i) fun r hr=>by
  rw [a _ r hr];split <;> grind
 refine ⟨Zrp p,.inl rfl,Int.le_refl _,fun i hi k hk=>?_,b,fun i hi=>?_,fun e=>by cases e⟩
 ·rw [Zek hi,Zek (by omega)];omega
 ·rw [hz i hi];split
  ·rename_i h;have:=Zjn.1 h;grind
  ·rename_i h
   have:¬qAt p.right i < 0:=fun g=>h (Zjn.2 g)
   grind
theorem Zaq {p:LPd} {s:LSt} {Z D:List RF}:∀{n t:Nat},XQ p s Z D n=some t→∀k,k < n→0 < qAt D k→Zrq Z D t≤Zrq Z D k
 | 0,t,h,k,hk,_=>by omega
 | n+1,t,h,k,hk,hd=>by
  by_cases h0:0 < qAt D n
  ·cases hb:XQ p s Z D n with
   | none=>
    rw [UB hb h0] at h
    injection h with h
    subst h
    rcases JX k n with e | e
    ·exfalso
     have:∀{m:Nat},XQ p s Z D m=none→∀k,k < m→¬0 < qAt D k:=fun {m}=>by
      induction m with
      | zero=>intro _ k hk;omega
      | succ m ih=>
       intro hm k hk
       by_cases hq:0 < qAt D m
       ·exfalso
        cases hb2:XQ p s Z D m with
        | none=>rw [UB hb2 hq] at hm;cases hm
        | some b=>
         by_cases g:better p s Z D m b
         ·rw [VP hb2 hq g] at hm;cases hm
         ·rw [UC hb2 hq g] at hm;cases hm
       ·rw [Zbl hq] at hm
        rcases JX k m with e' | e'
        ·exact ih hm k e'
        ·obtain rfl:k=m:=by omega
         exact hq
     exact this hb k e hd
    ·obtain rfl:k=n:=by omega
     exact Rat.le_refl
   | some b=>
    have ih:=Zaq hb
    by_cases g:better p s Z D n b
    ·rw [VP hb h0 g] at h
     injection h with h
     subst h
     rcases JX k n with e | e
     ·have h1:=ih k e hd
      have h2:Zrq Z D n≤Zrq Z D b:=by
       rcases g with g | ⟨g,_⟩
       ·exact Rat.le_of_lt g
       ·rw [g];exact Rat.le_refl
      grind
     ·obtain rfl:k=n:=by omega
      exact Rat.le_refl
    ·rw [UC hb h0 g] at h;injection h with h;subst h;rcases JX k n with e | e
     ·exact ih k e hd
     ·obtain rfl:k=n:=by omega
      have:¬Zrq Z D k < Zrq Z D b:=fun e=>g (.inl e)
      grind
  ·rw [Zbl h0] at h;rcases JX k n with e | e
   ·exact Zaq h k e hd
   ·obtain rfl:k=n:=by omega
    exact absurd hd h0
def Zry (s:LSt) (i:Nat) (j:Int):LSt:=⟨s.phase,s.basis.set i j,s.pivots+1⟩
theorem Zib {s:LSt} {i:Nat} {j:Int} (hi:i < s.basis.length) (k:Nat):(Zry s i j).at_ k=if k=i then j else s.at_ k:=by
 unfold LSt.at_ Zry;simp only [List.getD_eq_getElem?_getD];by_cases e:k=i
 ·subst e;rw [if_pos rfl,List.getElem?_set_self hi];rfl
 ·rw [if_neg e,List.getElem?_set_ne (fun h=>e h.symm)]
theorem Zpd {p:LPd} {s:LSt} {i:Nat} {j:Int} (hi:i < s.basis.length):(Zry s i j).mat p=Zjr (s.mat p) i (p.col j):=by
 funext k
 show p.col ((Zry s i j).at_ k)=_;rw [Zib hi k];unfold Zjr;by_cases e:k=i
 ·rw [if_pos e,if_pos e]
 ·rw [if_neg e,if_neg e];rfl
structure Piv (p:LPd) (s:LSt) (i j:Nat):Prop where
 hi:i < p.right.length
 hj:j < p.cols.length
 red:Zeu p s (j:Int) < 0
 d0:qAt (dirL p s (j:Int)) i≠0
 dz:0 < qAt (dirL p s (j:Int)) i∨qAt (zL p s) i=0
 rat:∀k,k < p.right.length→0 < qAt (dirL p s (j:Int)) k→qAt (zL p s) i=0∨Zrq (zL p s) (dirL p s (j:Int)) i≤Zrq (zL p s) (dirL p s (j:Int)) k
 art:s.phase=2→∀k,k < p.right.length→s.at_ k < 0→qAt (zL p s) i=0∨qAt (dirL p s (j:Int)) k=0
theorem Yan {p:LPd} {s:LSt} (h:Val p s) {t:LSt} (e:Zkt p s=some t):∃i j:Nat,Piv p s i j∧t=ZB p (Zry s i (j:Int)):=by
 by_cases hq:YR p s=0
 ·cases hl:Zeh p s (zL p s) (VO p s) with
  | none=>rw [Yfk hl] at e;cases e
  | some i=>
   rw [Yfl hq hl] at e;injection e with e;obtain ⟨j,l,hj,hJ,hD⟩:=Ydj hq;rw [hJ] at e;rw [hD] at hl;have c:=Znc h.reg (j:Int);have hi:i < p.right.length:=(by rw [← c];exact Zzg hl);refine ⟨i,j,?_,e.symm⟩;have a:=(XI l).2.2.1;by_cases b:s.phase=2
   ·cases hf:YJ (Zwg s (dirL p s (j:Int))) 0 (dirL p s (j:Int)).length with
    | some i'=>
     rw [Zvm b hf] at hl;injection hl with hl;subst hl;obtain ⟨_,_,f3,_⟩:=XI hf;have ha:s.at_ i' < 0∧qAt (dirL p s (j:Int)) i'≠0:=by
      unfold Zwg at f3;split at f3
      ·assumption
      ·exact absurd f3 (by decide)
     have hz:=h.art b i' hi ha.1;exact ⟨hi,hj,a,ha.2,.inr hz,fun _ _ _=> .inl hz,fun _ _ _ _=> .inl hz⟩
    | none=>
     rw [Zvn b hf] at hl;have hp:=(V5 hl).2;refine ⟨hi,hj,a,fun e=>by rw [e] at hp;exact absurd hp (by decide),.inl hp,fun k hk hd=> .inr (Zaq hl k (by rw [c];exact hk) hd),fun _ k hk ha=> .inr ?_⟩;by_cases e0:qAt (dirL p s (j:Int)) k=0
     ·exact e0
     ·exfalso;have d:∀(f:Nat→Rat) (n r:Nat),YJ f r n=none→∀i,r≤i→i < r+n→¬f i < 0:=by
       intro f n
       induction n with
       | zero=>intro r _ i h1 h2;omega
       | succ n ih=>
        intro r hr i h1 h2;unfold YJ at hr;split at hr
        ·cases hr
        ·rename_i g
         rcases Nat.eq_or_lt_of_le h1 with e | e
         ·subst e;exact g
         ·exact ih (r+1) hr i (by omega) (by omega)
      exact d _ _ _ hf k (Nat.zero_le _) (by rw [c];omega) (Zzf ha e0)
   ·rw [Zvl b] at hl;have hp:=(V5 hl).2;exact ⟨hi,hj,a,fun e=>by rw [e] at hp;exact absurd hp (by decide),.inl hp,fun k hk hd=> .inr (Zaq hl k (by rw [c];exact hk) hd),fun e=>absurd e b⟩
 ·rw [Yfj hq] at e;cases e
theorem Piv.z {p:LPd} {s:LSt} (h:Val p s) {i j:Nat} (c:Piv p s i j):Reg p (Zry s i (j:Int))∧qAt (zL p (Zry s i (j:Int))) i=qAt (zL p s) i / qAt (dirL p s (j:Int)) i∧
 ∀k,k < p.right.length→k≠i→qAt (zL p (Zry s i (j:Int))) k=qAt (zL p s) k - qAt (dirL p s (j:Int)) k * (qAt (zL p s) i / qAt (dirL p s (j:Int)) i):=by
 have hb:i < s.basis.length:=by rw [h.fit.len];exact c.hi
 have a:Reg p (Zry s i (j:Int)):=by
  unfold Reg;rw [Zpd hb];exact Zjs c.hi h.reg (Zpc h.reg (j:Int)) c.d0
 have hx:=Yam a (x:=fun k=>if k=i then qAt (zL p s) i / qAt (dirL p s (j:Int)) i else qAt (zL p s) k - qAt (dirL p s (j:Int)) k * (qAt (zL p s) i / qAt (dirL p s (j:Int)) i)) (by
  rw [Zpd hb];exact Zog c.hi (Zpc h.reg (j:Int)) c.d0 (Yfm h.reg) (if_pos rfl) fun k _ hne=>by
   simp only [if_neg hne];simp)
 refine ⟨a,?_,fun k hk hne=>?_⟩
 ·rw [hx i c.hi,if_pos rfl]
 ·rw [hx k hk,if_neg hne]
theorem Piv.val {p:LPd} {s:LSt} (h:Val p s) {i j:Nat} (c:Piv p s i j):Val p (Zry s i (j:Int)):=by
 have hb:i < s.basis.length:=by rw [h.fit.len];exact c.hi
 obtain ⟨n,q,o⟩:=c.z h;have d:0≤qAt (zL p s) i / qAt (dirL p s (j:Int)) i:=by
  rcases c.dz with e | e
  ·rw [Rat.div_def];exact Rat.mul_nonneg (h.pos i c.hi) (Rat.le_of_lt (Rat.inv_pos.2 e))
  ·rw [e];simp [Rat.div_def]
 have f:qAt (zL p s) i=0→qAt (zL p s) i / qAt (dirL p s (j:Int)) i=0:=fun e=>by rw [e];simp [Rat.div_def]
 refine ⟨Ydk h.fit (by omega) (by have:=c.hj;omega) i _,h.ph,by have:=h.pv;show 0≤s.pivots+1;omega,fun a ha b hab=>?_,n,fun k hk=>?_,fun e k hk ha=>?_⟩
 ·rw [Zib hb,Zib hb];have m:∀l,l < p.right.length→(j:Int)≠s.at_ l:=fun l hl e=>by
   have h1:=c.red;rw [e,Zvr h.reg hl] at h1;exact absurd h1 (by decide)
  by_cases e1:a=i
  ·rw [if_pos e1,if_neg (by omega)];exact m b (by omega)
  ·rw [if_neg e1];by_cases e2:b=i
   ·rw [if_pos e2];exact fun e=>m a ha e.symm
   ·rw [if_neg e2];exact h.dup a ha b hab
 ·by_cases e:k=i
  ·rw [e,q];exact d
  ·rw [o k hk e];have r:=h.pos k hk;by_cases hd:0 < qAt (dirL p s (j:Int)) k
   ·rcases c.rat k hk hd with g | g
    ·rw [f g];grind
    ·unfold Zrq at g;generalize qAt (zL p s) i / qAt (dirL p s (j:Int)) i=ρ at *;have h2:ρ * qAt (dirL p s (j:Int)) k≤qAt (zL p s) k / qAt (dirL p s (j:Int)) k * qAt (dirL p s (j:Int)) k:=Rat.mul_le_mul_of_nonneg_right g (Rat.le_of_lt hd);rw [Rat.div_mul_cancel (fun e=>by rw [e] at hd;exact absurd hd (by decide))] at h2;grind
   ·generalize qAt (zL p s) i / qAt (dirL p s (j:Int)) i=ρ at *;have h2:0≤ -qAt (dirL p s (j:Int)) k * ρ:=Rat.mul_nonneg (by grind) d;grind
 ·have e':s.phase=2:=e;rw [Zib hb] at ha;by_cases e1:k=i
  ·rw [if_pos e1] at ha;omega
  ·rw [if_neg e1] at ha;rw [o k hk e1,h.art e' k hk ha];rcases c.art e' k hk ha with g | g
   ·rw [f g];grind
   ·rw [g];grind
theorem Zpe {p:LPd} {s t:LSt} (h:Val p s) (e:Zkt p s=some t):Val p t:=by
 obtain ⟨i,j,c,rfl⟩:=Yan h e;exact (c.val h).settle
theorem Zpf {p:LPd}:∀{n:Nat} {s:LSt},Val p s→Val p (Zwh p n s)
 | 0,_,h=>h
 | n+1,s,h=>by
  cases e:Zkt p s with
  | none=>rw [Zei e];exact h
  | some t=>rw [Zej e];exact Zpf (Zpe h e)
end Pl
end
section
namespace Pl
section
variable {p:LPd} {s:LSt}
def Zic (p:LPd) (s:LSt):Prop:=ZB p s=s
theorem settled_settle:Zic p (ZB p s):=settle_twice
theorem Zkw {t:LSt} (e:Zkt p s=some t):Zic p t:=by
 unfold Zkt at e;split at e
 ·split at e
  ·cases e
  ·injection e with e;subst e;exact settled_settle
 ·cases e
theorem runL_settled:∀{n:Nat} {s:LSt},Zic p s→Zic p (Zwh p n s)
 | 0,_,h=>h
 | n+1,s,h=>by
  cases e:Zkt p s with
  | none=>rw [Zei e];exact h
  | some t=>rw [Zej e];exact runL_settled (Zkw e)
theorem Zrs (h:Val p s) {t:LSt} (e:Zkt p s=some t):s.phase≤t.phase∧t.phase≤2∧t.pivots=s.pivots+1:=by
 obtain ⟨i,j,c,rfl⟩:=Yan h e;have hp:=h.ph;refine ⟨?_,?_,rfl⟩
 ·show s.phase≤(if Zby (Zry s i (j:Int)) _ _=true then s.phase else 2);split <;> omega
 ·show (if Zby (Zry s i (j:Int)) _ _=true then s.phase else 2)≤2;split <;> omega
theorem runL_pivots:∀{n:Nat} {s:LSt},Val p s→(Zwh p n s).pivots≤s.pivots+n
 | 0,s,_=>by show s.pivots≤s.pivots+0;omega
 | n+1,s,h=>by
  cases e:Zkt p s with
  | none=>rw [Zei e];omega
  | some t=>
   rw [Zej e]
   have h1:=runL_pivots (n:=n) (Zpe h e)
   have h2:=(Zrs h e).2.2
   omega
end
end Pl
end
namespace Pl
def vc (c:Nat):Bool:=(c % 6==0 || (c % 6 !=c / 6 % 6 && c % 6 !=c / 36)) && (c / 6 % 6==0 || c / 6 % 6 !=c / 36)
def rk:Nat→Nat
 | 0=>0
 | c+1=>rk c+(if vc c then 1 else 0)
end Pl
namespace Pl
def Zlh (t:LSt) (D:List RF) (j:Int):Nat→Nat→Rat
 | 0=>fun i=>if j=(i:Int) then 1 else 0
 | k+1=>fun i=>if t.at_ k=(i:Int) then -qAt D k else Zlh t D j k i
theorem Zel (t:LSt) (D:List RF) (j:Int) (k i:Nat):Zlh t D j (k+1) i=if t.at_ k=(i:Int) then -qAt D k else Zlh t D j k i:=rfl
def Ydm (p:LPd) (t:LSt):List RF:=Yj p.cols.length (Zlh t (VO p t) (UA p t) (VO p t).length)
def Zkx (p:LPd) (t:LSt):Prf:=if YR p t=1 then ⟨1,Zef p t,XU p t,[]⟩ else if YR p t=2 then ⟨2,[],XU p t,[]⟩ else if YR p t=3 then ⟨3,Zef p t,[],Ydm p t⟩ else ⟨0,[],[],[]⟩
def Zvt (p:LPd) (t:LSt):Int:=if YR p t=0 then 16 else 0
theorem Zem (p:LPd) (t:LSt):YR p t=0∨YR p t=1∨YR p t=2∨YR p t=3:=by
 cases he:Zvj p t with
 | none=>rw [(WU he).1];split <;> omega
 | some j=>rw [(XP he).1];split <;> omega
theorem Yfn {p:LPd} {t:LSt} (h:YR p t=0):Zkx p t=⟨0,[],[],[]⟩∧Zvt p t=16:=by unfold Zkx Zvt;rw [h];exact ⟨rfl,rfl⟩
theorem Yfo {p:LPd} {t:LSt} (h:YR p t=1):Zkx p t=⟨1,Zef p t,XU p t,[]⟩∧Zvt p t=0:=by unfold Zkx Zvt;rw [h];exact ⟨rfl,rfl⟩
theorem Yfp {p:LPd} {t:LSt} (h:YR p t=2):Zkx p t=⟨2,[],XU p t,[]⟩∧Zvt p t=0:=by unfold Zkx Zvt;rw [h];exact ⟨rfl,rfl⟩
theorem Yfq {p:LPd} {t:LSt} (h:YR p t=3):Zkx p t=⟨3,Zef p t,[],Ydm p t⟩∧Zvt p t=0:=by unfold Zkx Zvt;rw [h];exact ⟨rfl,rfl⟩
theorem Zky {p:LPd} {s:LSt} (h:YR p s=3):∃j:Nat,j < p.cols.length∧UA p s=(j:Int)∧VO p s=dirL p s (j:Int):=by
 cases he:Zvj p s with
 | none=>rw [(WU he).1] at h;split at h <;> omega
 | some j=>exact ⟨j,by have:=(XI he).2.1;omega,(XP he).2.1,(XP he).2.2⟩
theorem Zvu {t:LSt} {D:List RF} {K:Nat} {j:Int} (h:RsL K D) (hK:1≤K):∀(k i:Nat),Sz K (Zlh t D j k i)
 | 0,i=>by unfold Zlh;split;exact Sz_one.mono hK;exact Sz_zero.mono hK
 | k+1,i=>by
  unfold Zlh
  split
  ·exact Zoa (h.qAt hK k)
  ·exact Zvu h hK k i
theorem Zzh {p:LPd} {s:LSt} {K:Nat} (F:p.Fit K) (h:YR p s=3):RsL (5^p.right.length * K) (VO p s):=by
 obtain ⟨j,_,_,hd⟩:=Zky h;rw [hd];exact Yal F s _
theorem Yfr {p:LPd} {s:LSt} {K:Nat} (F:p.Fit K) (h:YR p s=3):RsL (5^p.right.length * K) (Ydm p s):=Zbc fun i _=>Zvu (Zzh F h) (JW F.k1 F.le) _ i
theorem Ygu {p:LPd} {t:LSt} {K:Nat} (F:p.Fit K):RsL (5^p.right.length * K) (Zkx p t).x∧RsL (5^p.right.length * K) (Zkx p t).y∧RsL (5^p.right.length * K) (Zkx p t).ray∧(Zkx p t).x.length≤p.cols.length∧(Zkx p t).y.length≤p.right.length∧(Zkx p t).ray.length≤p.cols.length:=by
 have h1:=Ydh F t;have h2:=Zmo F t;have l1:(Zef p t).length≤p.cols.length:=by unfold Zef;rw [Zm];exact JY _
 have l2:(XU p t).length≤p.right.length:=Zyp;rcases Zem p t with h | h | h | h
 ·rw [(Yfn h).1];exact ⟨RsL.nil _,RsL.nil _,RsL.nil _,by simp,by simp,by simp⟩
 ·rw [(Yfo h).1];exact ⟨h1,h2,RsL.nil _,l1,l2,by simp⟩
 ·rw [(Yfp h).1];exact ⟨RsL.nil _,h2,RsL.nil _,by simp,l2,by simp⟩
 ·rw [(Yfq h).1];exact ⟨h1,RsL.nil _,Yfr F h,l1,by simp,by show (Ydm p t).length≤_;unfold Ydm;rw [Zm];exact JY _⟩
end Pl
theorem WV {w w0:World} {B g:Nat} {x y z u:Value} (hB:Bk w g 33 [x,y,z,u]) (hb:Below B w0 w) (hg:B≤g) (x' y' z' u':Value):
 Bk ((((w.setCell ⟨g,0,none⟩ x').setCell ⟨g,1,none⟩ y').setCell ⟨g,2,none⟩ z').setCell ⟨g,3,none⟩ u') g 33 [x',y',z',u']∧Ze 33 w ((((w.setCell ⟨g,0,none⟩ x').setCell ⟨g,1,none⟩ y').setCell ⟨g,2,none⟩ z').setCell ⟨g,3,none⟩ u')∧Below B w0 ((((w.setCell ⟨g,0,none⟩ x').setCell ⟨g,1,none⟩ y').setCell ⟨g,2,none⟩ z').setCell ⟨g,3,none⟩ u')∧
 ∀(g':Nat) (t:TypeId) (cs:List Value),g'≠g→Bk w g' t cs→Bk ((((w.setCell ⟨g,0,none⟩ x').setCell ⟨g,1,none⟩ y').setCell ⟨g,2,none⟩ z').setCell ⟨g,3,none⟩ u') g' t cs:=by
 refine ⟨hB.set4 _ _ _ _,(((Ze.setCell hB 0 x').trans (Ze.setCell (hB.set_ 0 x') 1 y')).trans (Ze.setCell ((hB.set_ 0 x').set_ 1 y') 2 z')).trans (Ze.setCell (((hB.set_ 0 x').set_ 1 y').set_ 2 z') 3 u'),(((hb.setCell (p:=⟨g,0,none⟩) hg _).setCell (p:=⟨g,1,none⟩) hg _).setCell (p:=⟨g,2,none⟩) hg _).setCell (p:=⟨g,3,none⟩) hg _,fun g' t cs hne h=>h.far4 hne _ _ _ _⟩
theorem WL (w:World):Xh w (.slice none 0 0) []:=(Z4.nil 0 w).frs
section
section
variable {md:Region.Mode} {ops:Array Oper} {n:Nat} {K:Array Bool→Bool}
def setL (L:Array Bool) (D:List Nat):Array Bool:=D.foldl (fun L i=>L.setIfInBounds i true) L
end
end
section
attribute [local irreducible] YO
end
end Go.Proofs.YtgbhebappffbdaaGreat
