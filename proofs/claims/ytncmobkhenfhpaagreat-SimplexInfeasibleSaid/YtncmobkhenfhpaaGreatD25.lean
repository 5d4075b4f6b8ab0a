/- Contracts that the claim is built on; no condition. -/
import Derived.OwnWalk
import Derived.Test.YtncmobkhenfhpaaGreatD21
set_option linter.unusedVariables false
set_option linter.unusedSimpArgs false
set_option maxRecDepth 100000
set_option maxHeartbeats 40000000
namespace Go.Proofs.YtncmobkhenfhpaaGreat
open Go.RowKit
open Pl
attribute [local go_sem ↓] Go.wp_at_zero Go.wp_at_succ
namespace Pl
def Zbh (p:LPd) (s:LSt) (j:Int):Rat:=XI p s.phase j - Yec (Ww p s) (Yl p.right.length (p.col j)) (min (Ww p s).length p.right.length)
end Pl
section
namespace Pl
def Zns (p:LPd) (s:LSt):Prop:=∀i,i < p.right.length→ -(p.right.length:Int)≤s.at_ i∧s.at_ i < p.cols.length
def Ztf (p:LPd) (s:LSt):Prop:=∀i,i < p.right.length→∀k,k < i→s.at_ i≠s.at_ k
def Zwx (p:LPd) (s:LSt):Prop:=∀i,i < p.right.length→¬qAt (zL p s) i < 0
instance (p:LPd) (s:LSt):Decidable (Zns p s):=by unfold Zns;infer_instance
instance (p:LPd) (s:LSt):Decidable (Ztf p s):=by unfold Ztf;infer_instance
instance (p:LPd) (s:LSt):Decidable (Zwx p s):=by unfold Zwx;infer_instance
def vsErr (p:LPd) (s:LSt):Int:=if s.basis.length≠p.right.length then 12 else if s.phase < 1∨2 < s.phase∨s.pivots < 0 then 5 else if ¬Zns p s then 5 else if ¬Ztf p s then 7 else if zOk p s=false then 13 else if ¬Zwx p s then 16 else if s.phase=2∧Zbm s (zL p s) (zL p s).length=true then 16 else 0
section
variable {p:LPd} {s:LSt}
theorem Ycu (h:s.basis.length≠p.right.length):vsErr p s=12:=by unfold vsErr;rw [if_pos h]
theorem Ycv (h:s.basis.length=p.right.length) (h2:s.phase < 1∨2 < s.phase∨s.pivots < 0):vsErr p s=5:=by unfold vsErr;rw [if_neg (by omega),if_pos h2]
theorem Zye (h:s.basis.length=p.right.length) (h2:¬(s.phase < 1∨2 < s.phase∨s.pivots < 0)) (h3:¬Zns p s):vsErr p s=5:=by unfold vsErr;rw [if_neg (by omega),if_neg h2,if_pos h3]
theorem Ycw (h:s.basis.length=p.right.length) (h2:¬(s.phase < 1∨2 < s.phase∨s.pivots < 0)) (h3:Zns p s) (h4:¬Ztf p s):vsErr p s=7:=by unfold vsErr;rw [if_neg (by omega),if_neg h2,if_neg (by simpa using h3),if_pos h4]
theorem Yaw (h:s.basis.length=p.right.length) (h2:¬(s.phase < 1∨2 < s.phase∨s.pivots < 0)) (h3:Zns p s) (h4:Ztf p s) (h5:zOk p s=false):vsErr p s=13:=by unfold vsErr;rw [if_neg (by omega),if_neg h2,if_neg (by simpa using h3),if_neg (by simpa using h4),if_pos h5]
theorem Zyf (h:s.basis.length=p.right.length) (h2:¬(s.phase < 1∨2 < s.phase∨s.pivots < 0)) (h3:Zns p s) (h4:Ztf p s) (h5:zOk p s=true) (h6:¬Zwx p s):vsErr p s=16:=by unfold vsErr;rw [if_neg (by omega),if_neg h2,if_neg (by simpa using h3),if_neg (by simpa using h4),if_neg (by rw [h5];decide),if_pos h6]
theorem Ycx (h:s.basis.length=p.right.length) (h2:¬(s.phase < 1∨2 < s.phase∨s.pivots < 0)) (h3:Zns p s) (h4:Ztf p s) (h5:zOk p s=true) (h6:Zwx p s) (h7:s.phase=2∧Zbm s (zL p s) (zL p s).length=true):vsErr p s=16:=by unfold vsErr;rw [if_neg (by omega),if_neg h2,if_neg (by simpa using h3),if_neg (by simpa using h4),if_neg (by rw [h5];decide),if_neg (by simpa using h6),if_pos h7]
theorem Ycy (h:s.basis.length=p.right.length) (h2:¬(s.phase < 1∨2 < s.phase∨s.pivots < 0)) (h3:Zns p s) (h4:Ztf p s) (h5:zOk p s=true) (h6:Zwx p s) (h7:¬(s.phase=2∧Zbm s (zL p s) (zL p s).length=true)):vsErr p s=0:=by unfold vsErr;rw [if_neg (by omega),if_neg h2,if_neg (by simpa using h3),if_neg (by simpa using h4),if_neg (by rw [h5];decide),if_neg (by simpa using h6),if_neg h7]
theorem Yax (h:s.basis.length=p.right.length) (h3:Zns p s):s.Fit p:=⟨fun i z hz=>by
 have hi:i < s.basis.length:=(List.getElem?_eq_some_iff.1 hz).1
 have:=h3 i (by omega)
 rw [LSt.at_eq hz] at this
 exact this,h⟩
theorem Yay (h:vsErr p s=0):s.Fit p∧¬(s.phase < 1∨2 < s.phase∨s.pivots < 0)∧Ztf p s∧zOk p s=true∧Zwx p s∧¬(s.phase=2∧Zbm s (zL p s) (zL p s).length=true):=by
 unfold vsErr at h;by_cases h1:s.basis.length≠p.right.length
 ·rw [if_pos h1] at h;omega
 rw [if_neg h1] at h;by_cases h2:s.phase < 1∨2 < s.phase∨s.pivots < 0
 ·rw [if_pos h2] at h;omega
 rw [if_neg h2] at h;by_cases h3:Zns p s
 ·rw [if_neg (by simpa using h3)] at h;by_cases h4:Ztf p s
  ·rw [if_neg (by simpa using h4)] at h
   cases h5:zOk p s with
   | false=>rw [if_pos h5] at h;omega
   | true=>
    rw [if_neg (by rw [h5];decide)] at h;by_cases h6:Zwx p s
    ·rw [if_neg (by simpa using h6)] at h;by_cases h7:s.phase=2∧Zbm s (zL p s) (zL p s).length=true
     ·rw [if_pos h7] at h;omega
     ·exact ⟨Yax (by omega) h3,h2,h4,rfl,h6,h7⟩
    ·rw [if_pos h6] at h;omega
  ·rw [if_pos h4] at h;omega
 ·rw [if_pos h3] at h;omega
end
end Pl
end
namespace Pl
def Yw (f:Nat→Rat):Nat→Nat→Option Nat
 | _,0=>none
 | r,n+1=>if f r < 0 then some r else Yw f (r+1) n
theorem Vp {f:Nat→Rat}:∀{n r:Nat},(∀i,r≤i→i < r+n→¬f i < 0)→Yw f r n=none
 | 0,_,_=>rfl
 | n+1,r,h=>by
  unfold Yw
  rw [if_neg (h r (Nat.le_refl _) (by omega))]
  exact Vp fun i h1 h2=>h i (by omega) (by omega)
theorem Vq {f:Nat→Rat}:∀{n r t:Nat},r≤t→t < r+n→f t < 0→(∀i,r≤i→i < t→¬f i < 0)→Yw f r n=some t
 | 0,r,t,h1,h2,_,_=>by omega
 | n+1,r,t,h1,h2,h3,h4=>by
  unfold Yw
  rcases Nat.eq_or_lt_of_le h1 with e | e
  ·subst e;rw [if_pos h3]
  ·rw [if_neg (h4 r (Nat.le_refl _) e)]
   exact Vq (by omega) (by omega) h3 fun i h5 h6=>h4 i (by omega) h6
theorem XC {f:Nat→Rat}:∀{n r t:Nat},Yw f r n=some t→r≤t∧t < r+n∧f t < 0∧∀i,r≤i→i < t→¬f i < 0
 | 0,_,_,h=>by cases h
 | n+1,r,t,h=>by
  unfold Yw at h
  split at h
  ·injection h with h;subst h;exact ⟨Nat.le_refl _,by omega,by assumption,fun i h1 h2=>by omega⟩
  ·rename_i h0
   obtain ⟨h1,h2,h3,h4⟩:=XC h
   refine ⟨by omega,by omega,h3,fun i h5 h6=>?_⟩
   rcases Nat.eq_or_lt_of_le h5 with e | e
   ·subst e;exact h0
   ·exact h4 i (by omega) h6
def Zwy (p:LPd) (s:LSt):Option Nat:=Yw (fun j=>Zbh p s (j:Int)) 0 p.cols.length
def dirL (p:LPd) (s:LSt) (j:Int):List RF:=Zkh p.right.length (s.mat p) (qAt (Yl p.right.length (p.col j)))
def Vw (s:LSt) (d:List RF):Nat→Bool
 | 0=>decide (s.phase=2)
 | k+1=>if 0 < qAt d k∨(s.at_ k < 0∧qAt d k≠0) then false else Vw s d k
def XD (p:LPd) (s:LSt):Int:=match Zwy p s with | some j=>(if Vw s (dirL p s (j:Int)) (dirL p s (j:Int)).length then 3 else 0) | none=>if s.phase=1 then 2 else 1
def U9 (p:LPd) (s:LSt):Int:=match Zwy p s with | some j=>(j:Int) | none=> -1
def Zau (p:LPd) (s:LSt):List RF:=match Zwy p s with | some j=>dirL p s (j:Int) | none=>[]
theorem VT {p:LPd} {s:LSt} {j:Nat} (h:Zwy p s=some j):XD p s=(if Vw s (dirL p s (j:Int)) (dirL p s (j:Int)).length then 3 else 0)∧U9 p s=(j:Int)∧Zau p s=dirL p s (j:Int):=by unfold XD U9 Zau;rw [h];exact ⟨rfl,rfl,rfl⟩
theorem Zaa {p:LPd} {s:LSt} (h:Zwy p s=none):XD p s=(if s.phase=1 then 2 else 1)∧U9 p s= -1∧Zau p s=[]:=by unfold XD U9 Zau;rw [h];exact ⟨rfl,rfl,rfl⟩
theorem Zyg {p:LPd} {K:Nat} (F:p.Fit K) (s:LSt) (j:Int):RsL (5^p.right.length * K) (dirL p s j):=Zss (fun _ _ _ _=>LPd.Sz_col F.ok F.k1 _ _) fun r hr=>by rw [YL hr];exact LPd.Sz_col F.ok F.k1 _ _
end Pl
namespace Pl
theorem Znt {m:Nat} {cols:Mx} {b:Nat→Rat} {k:Nat} {f:RF} (h:(Zkh m cols b)[k]? =some f):f=canF (qAt (Zkh m cols b) k):=by
 cases e:Y4 m cols b with
 | none=>rw [Zsq e] at h;simp at h
 | some x=>
  rw [Zds e] at h ⊢;have hk:k < m:=by have:=(List.getElem?_eq_some_iff.1 h).1;rwa [Zn] at this
  rw [ZC hk] at h;injection h with h;rw [YL hk,← h]
end Pl
namespace Pl
def Zqd (k:Nat):List Int:=(List.range k).map fun r:Nat=> -1 - (r:Int)
theorem Uy (k:Nat):(Zqd k).length=k:=by simp [Zqd]
def Yq (p:LPd):LSt:=⟨1,Zqd p.right.length,0⟩
theorem Zpu (p:LPd):(Yq p).Fit p:=⟨fun i z hz=>by
 have hz':(Zqd p.right.length)[i]? =some z:=hz
 have hi:i < p.right.length:=by have:=(List.getElem?_eq_some_iff.1 hz').1;rwa [Uy] at this
 simp [Zqd,hi] at hz'
 omega,Uy _⟩
end Pl
theorem Bk.set_other {w:World} {g g':Nat} {t:TypeId} {cs:List Value} (h:Bk w g' t cs) (hne:g'≠g) (i:Nat) (u:Value):Bk (w.setCell ⟨g,i,none⟩ u) g' t cs:=by
 unfold Bk at h ⊢;rw [heap_setCell_other _ _ _ _ hne];exact h
theorem Bk.lt_ {w:World} {g:Nat} {t:TypeId} {cs:List Value} (h:Bk w g t cs):g < w.heap.size:=Yo h
namespace Pl
def Vy (Z D:List RF) (i:Nat):Rat:=qAt Z i / qAt D i
def better (p:LPd) (s:LSt) (Z D:List RF) (i b:Nat):Prop:=Vy Z D i < Vy Z D b∨(Vy Z D i=Vy Z D b∧ordQ p (s.at_ i) < ordQ p (s.at_ b))
instance (p:LPd) (s:LSt) (Z D:List RF) (i b:Nat):Decidable (better p s Z D i b):=by unfold better;infer_instance
def Yn (p:LPd) (s:LSt) (Z D:List RF):Nat→Option Nat
 | 0=>none
 | k+1=>if 0 < qAt D k then (match Yn p s Z D k with | none=>some k | some b=>if better p s Z D k b then some k else some b) else Yn p s Z D k
theorem WU {p:LPd} {s:LSt} {Z D:List RF} {k:Nat} (h:¬0 < qAt D k):Yn p s Z D (k+1)=Yn p s Z D k:=by rw [Yn,if_neg h]
theorem Wp {p:LPd} {s:LSt} {Z D:List RF} {k:Nat} (hb:Yn p s Z D k=none) (h:0 < qAt D k):Yn p s Z D (k+1)=some k:=by rw [Yn,if_pos h,hb]
theorem YU {p:LPd} {s:LSt} {Z D:List RF} {k t:Nat} (hb:Yn p s Z D k=some t) (h:0 < qAt D k) (g:better p s Z D k t):Yn p s Z D (k+1)=some k:=by rw [Yn,if_pos h,hb];simp only;rw [if_pos g]
theorem Xc {p:LPd} {s:LSt} {Z D:List RF} {k t:Nat} (hb:Yn p s Z D k=some t) (h:0 < qAt D k) (g:¬better p s Z D k t):Yn p s Z D (k+1)=some t:=by rw [Yn,if_pos h,hb];simp only;rw [if_neg g]
theorem Vr {p:LPd} {s:LSt} {Z D:List RF}:∀{k t:Nat},Yn p s Z D k=some t→t < k∧0 < qAt D t
 | 0,t,h=>by cases h
 | k+1,t,h=>by
  by_cases h0:0 < qAt D k
  ·cases hb:Yn p s Z D k with
   | none=>rw [Wp hb h0] at h;injection h with h;subst h;exact ⟨by omega,h0⟩
   | some b=>
    obtain ⟨h1,h2⟩:=Vr hb
    by_cases g:better p s Z D k b
    ·rw [YU hb h0 g] at h;injection h with h;subst h;exact ⟨by omega,h0⟩
    ·rw [Xc hb h0 g] at h;injection h with h;subst h;exact ⟨by omega,h2⟩
  ·rw [WU h0] at h
   obtain ⟨h1,h2⟩:=Vr h
   exact ⟨by omega,h2⟩
def oi:Option Nat→Int
 | none=> -1
 | some b=>(b:Int)
def Zpv (s:LSt) (D:List RF) (i:Nat):Rat:=if s.at_ i < 0∧qAt D i≠0 then -1 else 0
theorem Znu {s:LSt} {D:List RF} {i:Nat} (h1:s.at_ i < 0) (h2:qAt D i≠0):Zpv s D i < 0:=by unfold Zpv;rw [if_pos ⟨h1,h2⟩];decide
theorem Ztg {s:LSt} {D:List RF} {i:Nat} (h:¬(s.at_ i < 0∧qAt D i≠0)):¬Zpv s D i < 0:=by unfold Zpv;rw [if_neg h];decide
def WV (p:LPd) (s:LSt) (Z D:List RF):Option Nat:=if s.phase=2 then (match Yw (Zpv s D) 0 D.length with | some i=>some i | none=>Yn p s Z D D.length) else Yn p s Z D D.length
theorem Zhl {p:LPd} {s:LSt} {Z D:List RF} (h:¬s.phase=2):WV p s Z D=Yn p s Z D D.length:=by unfold WV;rw [if_neg h]
theorem Zhm {p:LPd} {s:LSt} {Z D:List RF} (h:s.phase=2) {i:Nat} (hf:Yw (Zpv s D) 0 D.length=some i):WV p s Z D=some i:=by unfold WV;rw [if_pos h,hf]
theorem Zhn {p:LPd} {s:LSt} {Z D:List RF} (h:s.phase=2) (hf:Yw (Zpv s D) 0 D.length=none):WV p s Z D=Yn p s Z D D.length:=by unfold WV;rw [if_pos h,hf]
theorem Znv {p:LPd} {s:LSt} {Z D:List RF} {i:Nat} (h:WV p s Z D=some i):i < D.length:=by
 by_cases hp:s.phase=2
 ·cases hf:Yw (Zpv s D) 0 D.length with
  | some j=>rw [Zhm hp hf] at h;injection h with h;subst h;have:=XC hf;omega
  | none=>rw [Zhn hp hf] at h;exact (Vr h).1
 ·rw [Zhl hp] at h;exact (Vr h).1
def YY (p:LPd) (s:LSt) (Z D:List RF) (k:Nat) (z:Int):Prop:=(z= -1∧Yn p s Z D k=none)∨∃t:Nat,z=(t:Int)∧t < k∧Yn p s Z D k=some t
end Pl
namespace Pl
def Zeq (p:LPd) (s:LSt):Option LSt:=if XD p s=0 then (match WV p s (zL p s) (Zau p s) with | none=>none | some i=>some (Zr p ⟨s.phase,s.basis.set i (U9 p s),s.pivots+1⟩)) else none
theorem Zyh {p:LPd} {s:LSt} (h:XD p s≠0):Zeq p s=none:=by unfold Zeq;rw [if_neg h]
theorem Zyi {p:LPd} {s:LSt} (h:WV p s (zL p s) (Zau p s)=none):Zeq p s=none:=by unfold Zeq;rw [h];split <;> rfl
theorem Zyj {p:LPd} {s:LSt} {i:Nat} (h:XD p s=0) (h2:WV p s (zL p s) (Zau p s)=some i):Zeq p s=some (Zr p ⟨s.phase,s.basis.set i (U9 p s),s.pivots+1⟩):=by unfold Zeq;rw [h2,if_pos h]
def Zag (p:LPd):Nat→LSt→LSt
 | 0,s=>s
 | n+1,s=>match Zeq p s with | none=>s | some t=>Zag p n t
theorem Wq {p:LPd} {s:LSt} (h:Zeq p s=none) (n:Nat):Zag p n s=s:=by cases n with | zero=>rfl | succ n=>rw [Zag,h]
theorem WX {p:LPd} {s t:LSt} (h:Zeq p s=some t) (n:Nat):Zag p (n+1) s=Zag p n t:=by rw [Zag,h]
theorem Zth {p:LPd} {s:LSt} (h:XD p s=0):∃j:Nat,Zwy p s=some j∧j < p.cols.length∧U9 p s=(j:Int)∧Zau p s=dirL p s (j:Int):=by
 cases he:Zwy p s with
 | none=>rw [(Zaa he).1] at h;split at h <;> omega
 | some j=>exact ⟨j,rfl,by have:=(XC he).2.1;omega,(VT he).2.1,(VT he).2.2⟩
theorem Yaz {p:LPd} {s:LSt} (S:s.Fit p) {j:Int} (h0:0≤j) (h1:j < p.cols.length) (i:Nat) (k:Int):(LSt.mk s.phase (s.basis.set i j) k).Fit p:=by
 refine ⟨fun i' z hz=>?_,by show (s.basis.set i j).length=_;rw [List.length_set];exact S.2⟩;have a:(s.basis.set i j)[i']? =some z:=hz;by_cases e:i=i'
 ·subst e;have hi:i < s.basis.length:=by have:=(List.getElem?_eq_some_iff.1 a).1;rwa [List.length_set] at this
  rw [List.getElem?_set_self hi] at a;injection a with a;omega
 ·rw [List.getElem?_set_ne e] at a;exact S.1 i' z a
end Pl
section
namespace Pl
theorem YW.tr {m:Nat} {cols:Mx} (h:YW m cols):YW m (trM cols):=by
 intro y hy r hr;obtain ⟨x,hx⟩:=Xm h fun i=>if i=r then 1 else 0
 have e:=(X3 hx x).2 fun k _=>rfl
 have h1:ZQ (fun i=>y i * Y7 m cols x i) m=y r:=by
  rw [YT hr fun i hi hne=>by rw [e i hi,if_neg hne];grind,e r hr,if_pos rfl];grind
 have h2:ZQ (fun i=>y i * Y7 m cols x i) m=ZQ (fun c=>Y7 m (trM cols) y c * x c) m:=by
  unfold Y7;rw [Zj (g:=fun i=>ZQ (fun c=>y i * (cols c i * x c)) m) fun i _=>(YD _ _ _).symm,WO];exact Zj fun c _=>by
   unfold trM;rw [Rat.mul_comm,← YD];exact Zj fun i _=>by grind
 rw [← h1,h2];exact WP fun c hc=>by rw [hy c hc];grind
section
variable {p:LPd} {s:LSt}
def Reg (p:LPd) (s:LSt):Prop:=YW p.right.length (s.mat p)
theorem Zti (h:zOk p s=true):Reg p s:=by
 unfold zOk at h;obtain ⟨x,hx⟩:=Option.isSome_iff_exists.1 h;exact Zgq hx
theorem Ztj (h:Reg p s):zOk p s=true:=by
 obtain ⟨x,hx⟩:=Xm h (qAt p.right);unfold zOk;rw [hx];rfl
theorem Ws {m:Nat} {cols:Mx} (h:YW m cols) (b:Nat→Rat):(Zkh m cols b).length=m∧∀r,r < m→Y7 m cols (qAt (Zkh m cols b)) r=b r:=by
 obtain ⟨x,hx⟩:=Xm h b;rw [Zds hx,Zn];refine ⟨rfl,fun r hr=>?_⟩;rw [← (X3 hx x).2 (fun k _=>rfl) r hr];exact Zj fun c hc=>by rw [YL hc]
theorem Zjy {m:Nat} {cols:Mx} (h:YW m cols) {b x:Nat→Rat} (hx:∀r,r < m→Y7 m cols x r=b r):∀k,k < m→qAt (Zkh m cols b) k=x k:=by
 obtain ⟨z,hz,he⟩:=UX h hx;intro k hk;rw [Zds hz,YL hk,he k hk]
theorem Ztk (h:Reg p s):∀r,r < p.right.length→Y7 p.right.length (s.mat p) (qAt (zL p s)) r=qAt p.right r:=(Ws h _).2
theorem Zyk (h:Reg p s) {x:Nat→Rat} (hx:∀r,r < p.right.length→Y7 p.right.length (s.mat p) x r=qAt p.right r):∀k,k < p.right.length→qAt (zL p s) k=x k:=Zjy h hx
theorem Zma (h:Reg p s):(zL p s).length=p.right.length:=(Ws h _).1
theorem Vs (h:Reg p s) (j:Int):∀r,r < p.right.length→Y7 p.right.length (s.mat p) (qAt (dirL p s j)) r=p.col j r:=fun r hr=>by
 unfold dirL
 rw [(Ws h _).2 r hr,YL hr]
theorem Zmb (h:Reg p s) (j:Int):(dirL p s j).length=p.right.length:=(Ws h _).1
theorem Zby (h:Reg p s):(Ww p s).length=p.right.length:=(Ws h.tr _).1
theorem Zjz (h:Reg p s):∀k,k < p.right.length→ZQ (fun r=>s.mat p k r * qAt (Ww p s) r) p.right.length=XI p s.phase (s.at_ k):=fun k hk=>by
 have e:=(Ws h.tr (qAt (Yl p.right.length fun i=>XI p s.phase (s.at_ i)))).2 k hk
 rw [YL hk] at e
 exact e
theorem Ztl (h:Reg p s) {k:Nat} (hk:k < p.right.length):Zbh p s (s.at_ k)=0:=by
 unfold Zbh;rw [Zby h,Nat.min_self,Zcz,← Zjz h k hk];have e:Zzw (Ww p s) (p.col (s.at_ k)) p.right.length=ZQ (fun r=>s.mat p k r * qAt (Ww p s) r) p.right.length:=Zj fun r _=>by show _=p.col (s.at_ k) r * _;grind
 rw [e];grind
theorem Zav {zs:List RF}:∀{n:Nat},Zbm s zs n=false→∀k,k < n→s.at_ k < 0→qAt zs k=0
 | 0,_,k,hk,_=>by omega
 | n+1,h,k,hk,ha=>by
  unfold Zbm at h
  rw [Bool.or_eq_false_iff] at h
  rcases Nat.lt_or_ge k n with e | e
  ·exact Zav h.1 k e ha
  ·obtain rfl:k=n:=by omega
   simpa [ha] using h.2
theorem Zho {zs:List RF}:∀{n:Nat},(∀k,k < n→s.at_ k < 0→qAt zs k=0)→Zbm s zs n=false
 | 0,_=>rfl
 | n+1,h=>by
  unfold Zbm
  rw [Zho fun k hk=>h k (by omega)]
  by_cases ha:s.at_ n < 0
  ·simp [ha,h n (by omega) ha]
  ·simp [ha]
structure Val (p:LPd) (s:LSt):Prop where
 fit:s.Fit p
 ph:s.phase=1∨s.phase=2
 pv:0≤s.pivots
 dup:∀i,i < p.right.length→∀k,k < i→s.at_ i≠s.at_ k
 reg:Reg p s
 pos:∀i,i < p.right.length→0≤qAt (zL p s) i
 art:s.phase=2→∀i,i < p.right.length→s.at_ i < 0→qAt (zL p s) i=0
theorem Ztm (h:vsErr p s=0):Val p s:=by
 obtain ⟨h1,h2,h3,h4,h5,h6⟩:=Yay h;have hr:=Zti h4;exact ⟨h1,by omega,by omega,h3,hr,fun i hi=>Rat.not_lt.1 (h5 i hi),fun e i hi ha=>by
  have:Zbm s (zL p s) (zL p s).length=false:=by
   cases hb:Zbm s (zL p s) (zL p s).length with
   | false=>rfl
   | true=>exact absurd ⟨e,hb⟩ h6
  exact Zav this i (by rw [Zma hr];exact hi) ha⟩
theorem Val.vs (h:Val p s):vsErr p s=0:=by
 have hb:=h.fit.len;refine Ycy hb (by have:=h.ph;have:=h.pv;omega) (fun i hi=>?_) h.dup (Ztj h.reg) (fun i hi=>Rat.not_lt.2 (h.pos i hi)) fun e=>?_
 ·have a:i < s.basis.length:=by omega
  have:=h.fit.in_ i _ (List.getElem?_eq_getElem a);rw [LSt.at_eq (List.getElem?_eq_getElem a)];exact this
 ·have:=Zho (zs:=zL p s) (n:=(zL p s).length) fun k hk ha=>h.art e.1 k (by rw [← Zma h.reg];exact hk) ha
  rw [this] at e;exact absurd e.2 (by decide)
theorem Val.settle (h:Val p s):Val p (Zr p s):=by
 refine ⟨Zlr h.fit,?_,h.pv,h.dup,h.reg,h.pos,fun e i hi ha=>?_⟩
 ·show (if Zbm s (zL p s) (zL p s).length=true then s.phase else 2)=1∨(if Zbm s (zL p s) (zL p s).length=true then s.phase else 2)=2;split
  ·exact h.ph
  ·exact .inr rfl
 ·have e':(if Zbm s (zL p s) (zL p s).length=true then s.phase else 2)=2:=e
  cases hb:Zbm s (zL p s) (zL p s).length with
  | false=>exact Zav hb i (by rw [Zma h.reg];exact hi) ha
  | true=>rw [hb,if_pos rfl] at e';exact h.art e' i hi ha
theorem settle_twice:Zr p (Zr p s)=Zr p s:=by
 unfold Zr;have e:∀ph,Zbm ⟨ph,s.basis,s.pivots⟩ (zL p ⟨ph,s.basis,s.pivots⟩) (zL p ⟨ph,s.basis,s.pivots⟩).length=Zbm s (zL p s) (zL p s).length:=fun ph=>by
  have e1:zL p ⟨ph,s.basis,s.pivots⟩=zL p s:=rfl;rw [e1];generalize (zL p s).length=n
  induction n with
  | zero=>rfl
  | succ n ih=>unfold Zbm;rw [ih];rfl
 simp only [e]
 cases Zbm s (zL p s) (zL p s).length <;> simp
end
theorem Yba {k i:Nat} (h:i < k):(Zqd k)[i]? =some (-1 - (i:Int)):=by simp [Zqd,h]
theorem Zdy {p:LPd} {i:Nat} (h:i < p.right.length):(Yq p).at_ i= -1 - (i:Int):=LSt.at_eq (Yba h)
theorem Wt (p:LPd):Val p (Yq p):=by
 have hm:∀k,k < p.right.length→(Yq p).mat p k=fun i=>if i=k then (if qs (qAt p.right i) < 0 then -1 else 1) else 0:=fun k hk=>by
  show p.col ((Yq p).at_ k)=_;rw [Zdy hk];exact LPd.col_neg
 have a:∀y r,r < p.right.length→Y7 p.right.length ((Yq p).mat p) y r=(if qs (qAt p.right r) < 0 then -1 else 1) * y r:=fun y r hr=>by
  unfold Y7;rw [YT hr fun i hi hne=>by rw [hm i hi];simp only;rw [if_neg (fun e=>hne e.symm)];grind,hm r hr];simp
 have b:Reg p (Yq p):=fun y hy k hk=>by
  have:=hy k hk;rw [a y k hk] at this;split at this <;> grind
 have hz:=Zyk b (x:=fun i=>(if qs (qAt p.right i) < 0 then -1 else 1) * qAt p.right i) fun r hr=>by
  rw [a _ r hr];split <;> grind
 refine ⟨Zpu p,.inl rfl,Int.le_refl _,fun i hi k hk=>?_,b,fun i hi=>?_,fun e=>by cases e⟩
 ·rw [Zdy hi,Zdy (by omega)];omega
 ·rw [hz i hi];split
  ·rename_i h;have:=Zda.1 h;grind
  ·rename_i h
   have:¬qAt p.right i < 0:=fun g=>h (Zda.2 g)
   grind
theorem Zab {p:LPd} {s:LSt} {Z D:List RF}:∀{n t:Nat},Yn p s Z D n=some t→∀k,k < n→0 < qAt D k→Vy Z D t≤Vy Z D k
 | 0,t,h,k,hk,_=>by omega
 | n+1,t,h,k,hk,hd=>by
  by_cases h0:0 < qAt D n
  ·cases hb:Yn p s Z D n with
   | none=>
    rw [Wp hb h0] at h
    injection h with h
    subst h
    rcases Nat.lt_or_ge k n with e | e
    ·exfalso
     have:∀{m:Nat},Yn p s Z D m=none→∀k,k < m→¬0 < qAt D k:=fun {m}=>by
      induction m with
      | zero=>intro _ k hk;omega
      | succ m ih=>
       intro hm k hk
       by_cases hq:0 < qAt D m
       ·exfalso
        cases hb2:Yn p s Z D m with
        | none=>rw [Wp hb2 hq] at hm;cases hm
        | some b=>
         by_cases g:better p s Z D m b
         ·rw [YU hb2 hq g] at hm;cases hm
         ·rw [Xc hb2 hq g] at hm;cases hm
       ·rw [WU hq] at hm
        rcases Nat.lt_or_ge k m with e' | e'
        ·exact ih hm k e'
        ·obtain rfl:k=m:=by omega
         exact hq
     exact this hb k e hd
    ·obtain rfl:k=n:=by omega
     exact Rat.le_refl
   | some b=>
    have ih:=Zab hb
    by_cases g:better p s Z D n b
    ·rw [YU hb h0 g] at h
     injection h with h
     subst h
     rcases Nat.lt_or_ge k n with e | e
     ·have h1:=ih k e hd
      have h2:Vy Z D n≤Vy Z D b:=by
       rcases g with g | ⟨g,_⟩
       ·exact Rat.le_of_lt g
       ·rw [g];exact Rat.le_refl
      grind
     ·obtain rfl:k=n:=by omega
      exact Rat.le_refl
    ·rw [Xc hb h0 g] at h;injection h with h;subst h;rcases Nat.lt_or_ge k n with e | e
     ·exact ih k e hd
     ·obtain rfl:k=n:=by omega
      have:¬Vy Z D k < Vy Z D b:=fun e=>g (.inl e)
      grind
  ·rw [WU h0] at h;rcases Nat.lt_or_ge k n with e | e
   ·exact Zab h k e hd
   ·obtain rfl:k=n:=by omega
    exact absurd hd h0
def Zer (s:LSt) (i:Nat) (j:Int):LSt:=⟨s.phase,s.basis.set i j,s.pivots+1⟩
theorem Zdz {s:LSt} {i:Nat} {j:Int} (hi:i < s.basis.length) (k:Nat):(Zer s i j).at_ k=if k=i then j else s.at_ k:=by
 unfold LSt.at_ Zer;simp only [List.getD_eq_getElem?_getD];by_cases e:k=i
 ·subst e;rw [if_pos rfl,List.getElem?_set_self hi];rfl
 ·rw [if_neg e,List.getElem?_set_ne (fun h=>e h.symm)]
theorem Zbz {p:LPd} {s:LSt} {i:Nat} {j:Int} (hi:i < s.basis.length):(Zer s i j).mat p=Zaf (s.mat p) i (p.col j):=by
 funext k
 show p.col ((Zer s i j).at_ k)=_;rw [Zdz hi k];unfold Zaf;by_cases e:k=i
 ·rw [if_pos e,if_pos e]
 ·rw [if_neg e,if_neg e];rfl
structure Piv (p:LPd) (s:LSt) (i j:Nat):Prop where
 hi:i < p.right.length
 hj:j < p.cols.length
 red:Zbh p s (j:Int) < 0
 d0:qAt (dirL p s (j:Int)) i≠0
 dz:0 < qAt (dirL p s (j:Int)) i∨qAt (zL p s) i=0
 rat:∀k,k < p.right.length→0 < qAt (dirL p s (j:Int)) k→qAt (zL p s) i=0∨Vy (zL p s) (dirL p s (j:Int)) i≤Vy (zL p s) (dirL p s (j:Int)) k
 art:s.phase=2→∀k,k < p.right.length→s.at_ k < 0→qAt (zL p s) i=0∨qAt (dirL p s (j:Int)) k=0
theorem Ztn {p:LPd} {s:LSt} (h:Val p s) {t:LSt} (e:Zeq p s=some t):∃i j:Nat,Piv p s i j∧t=Zr p (Zer s i (j:Int)):=by
 by_cases hq:XD p s=0
 ·cases hl:WV p s (zL p s) (Zau p s) with
  | none=>rw [Zyi hl] at e;cases e
  | some i=>
   rw [Zyj hq hl] at e;injection e with e;obtain ⟨j,l,hj,hJ,hD⟩:=Zth hq;rw [hJ] at e;rw [hD] at hl;have c:=Zmb h.reg (j:Int);have hi:i < p.right.length:=(by rw [← c];exact Znv hl);refine ⟨i,j,?_,e.symm⟩;have a:=(XC l).2.2.1;by_cases b:s.phase=2
   ·cases hf:Yw (Zpv s (dirL p s (j:Int))) 0 (dirL p s (j:Int)).length with
    | some i'=>
     rw [Zhm b hf] at hl;injection hl with hl;subst hl;obtain ⟨_,_,f3,_⟩:=XC hf;have ha:s.at_ i' < 0∧qAt (dirL p s (j:Int)) i'≠0:=by
      unfold Zpv at f3;split at f3
      ·assumption
      ·exact absurd f3 (by decide)
     have hz:=h.art b i' hi ha.1;exact ⟨hi,hj,a,ha.2,.inr hz,fun _ _ _=> .inl hz,fun _ _ _ _=> .inl hz⟩
    | none=>
     rw [Zhn b hf] at hl;have hp:=(Vr hl).2;refine ⟨hi,hj,a,fun e=>by rw [e] at hp;exact absurd hp (by decide),.inl hp,fun k hk hd=> .inr (Zab hl k (by rw [c];exact hk) hd),fun _ k hk ha=> .inr ?_⟩;by_cases e0:qAt (dirL p s (j:Int)) k=0
     ·exact e0
     ·exfalso;have d:∀(f:Nat→Rat) (n r:Nat),Yw f r n=none→∀i,r≤i→i < r+n→¬f i < 0:=by
       intro f n
       induction n with
       | zero=>intro r _ i h1 h2;omega
       | succ n ih=>
        intro r hr i h1 h2;unfold Yw at hr;split at hr
        ·cases hr
        ·rename_i g
         rcases Nat.eq_or_lt_of_le h1 with e | e
         ·subst e;exact g
         ·exact ih (r+1) hr i (by omega) (by omega)
      exact d _ _ _ hf k (Nat.zero_le _) (by rw [c];omega) (Znu ha e0)
   ·rw [Zhl b] at hl;have hp:=(Vr hl).2;exact ⟨hi,hj,a,fun e=>by rw [e] at hp;exact absurd hp (by decide),.inl hp,fun k hk hd=> .inr (Zab hl k (by rw [c];exact hk) hd),fun e=>absurd e b⟩
 ·rw [Zyh hq] at e;cases e
theorem Piv.z {p:LPd} {s:LSt} (h:Val p s) {i j:Nat} (c:Piv p s i j):Reg p (Zer s i (j:Int))∧qAt (zL p (Zer s i (j:Int))) i=qAt (zL p s) i / qAt (dirL p s (j:Int)) i∧
 ∀k,k < p.right.length→k≠i→qAt (zL p (Zer s i (j:Int))) k=qAt (zL p s) k - qAt (dirL p s (j:Int)) k * (qAt (zL p s) i / qAt (dirL p s (j:Int)) i):=by
 have hb:i < s.basis.length:=by rw [h.fit.len];exact c.hi
 have a:Reg p (Zer s i (j:Int)):=by
  unfold Reg;rw [Zbz hb];exact Zdb c.hi h.reg (Vs h.reg (j:Int)) c.d0
 have hx:=Zyk a (x:=fun k=>if k=i then qAt (zL p s) i / qAt (dirL p s (j:Int)) i else qAt (zL p s) k - qAt (dirL p s (j:Int)) k * (qAt (zL p s) i / qAt (dirL p s (j:Int)) i)) (by
  rw [Zbz hb];exact Zgs c.hi (Vs h.reg (j:Int)) c.d0 (Ztk h.reg) (if_pos rfl) fun k _ hne=>by
   simp only [if_neg hne];simp)
 refine ⟨a,?_,fun k hk hne=>?_⟩
 ·rw [hx i c.hi,if_pos rfl]
 ·rw [hx k hk,if_neg hne]
theorem Piv.val {p:LPd} {s:LSt} (h:Val p s) {i j:Nat} (c:Piv p s i j):Val p (Zer s i (j:Int)):=by
 have hb:i < s.basis.length:=by rw [h.fit.len];exact c.hi
 obtain ⟨n,q,o⟩:=c.z h;have d:0≤qAt (zL p s) i / qAt (dirL p s (j:Int)) i:=by
  rcases c.dz with e | e
  ·rw [Rat.div_def];exact Rat.mul_nonneg (h.pos i c.hi) (Rat.le_of_lt (Rat.inv_pos.2 e))
  ·rw [e];simp [Rat.div_def]
 have f:qAt (zL p s) i=0→qAt (zL p s) i / qAt (dirL p s (j:Int)) i=0:=fun e=>by rw [e];simp [Rat.div_def]
 refine ⟨Yaz h.fit (by omega) (by have:=c.hj;omega) i _,h.ph,by have:=h.pv;show 0≤s.pivots+1;omega,fun a ha b hab=>?_,n,fun k hk=>?_,fun e k hk ha=>?_⟩
 ·rw [Zdz hb,Zdz hb];have m:∀l,l < p.right.length→(j:Int)≠s.at_ l:=fun l hl e=>by
   have h1:=c.red;rw [e,Ztl h.reg hl] at h1;exact absurd h1 (by decide)
  by_cases e1:a=i
  ·rw [if_pos e1,if_neg (by omega)];exact m b (by omega)
  ·rw [if_neg e1];by_cases e2:b=i
   ·rw [if_pos e2];exact fun e=>m a ha e.symm
   ·rw [if_neg e2];exact h.dup a ha b hab
 ·by_cases e:k=i
  ·rw [e,q];exact d
  ·rw [o k hk e];have r:=h.pos k hk;by_cases hd:0 < qAt (dirL p s (j:Int)) k
   ·rcases c.rat k hk hd with g | g
    ·rw [f g];grind
    ·unfold Vy at g;generalize qAt (zL p s) i / qAt (dirL p s (j:Int)) i=ρ at *;have h2:ρ * qAt (dirL p s (j:Int)) k≤qAt (zL p s) k / qAt (dirL p s (j:Int)) k * qAt (dirL p s (j:Int)) k:=Rat.mul_le_mul_of_nonneg_right g (Rat.le_of_lt hd);rw [Rat.div_mul_cancel (fun e=>by rw [e] at hd;exact absurd hd (by decide))] at h2;grind
   ·generalize qAt (zL p s) i / qAt (dirL p s (j:Int)) i=ρ at *;have h2:0≤ -qAt (dirL p s (j:Int)) k * ρ:=Rat.mul_nonneg (by grind) d;grind
 ·have e':s.phase=2:=e;rw [Zdz hb] at ha;by_cases e1:k=i
  ·rw [if_pos e1] at ha;omega
  ·rw [if_neg e1] at ha;rw [o k hk e1,h.art e' k hk ha];rcases c.art e' k hk ha with g | g
   ·rw [f g];grind
   ·rw [g];grind
theorem Zca {p:LPd} {s t:LSt} (h:Val p s) (e:Zeq p s=some t):Val p t:=by
 obtain ⟨i,j,c,rfl⟩:=Ztn h e;exact (c.val h).settle
theorem Zcb {p:LPd}:∀{n:Nat} {s:LSt},Val p s→Val p (Zag p n s)
 | 0,_,h=>h
 | n+1,s,h=>by
  cases e:Zeq p s with
  | none=>rw [Wq e];exact h
  | some t=>rw [WX e];exact Zcb (Zca h e)
end Pl
end
section
namespace Pl
section
variable {p:LPd} {s:LSt}
def Zhp (p:LPd) (ph:Int) (s:LSt):Rat:=ZQ (fun i=>XI p ph (s.at_ i) * qAt (zL p s) i) p.right.length
def Ydy (p:LPd) (s:LSt) (j:Int):Rat:=ZQ (fun r=>p.col j r * qAt (Ww p s) r) p.right.length
theorem Ycz (h:Reg p s) (j:Int):Zbh p s j=XI p s.phase j - Ydy p s j:=by
 unfold Zbh;rw [Zby h,Nat.min_self,Zcz];have e:Zzw (Ww p s) (p.col j) p.right.length=Ydy p s j:=Zj fun r _=>by grind
 rw [e]
theorem Zto (h:Reg p s) {x b:Nat→Rat} (hx:∀r,r < p.right.length→Y7 p.right.length (s.mat p) x r=b r):ZQ (fun r=>b r * qAt (Ww p s) r) p.right.length=ZQ (fun i=>XI p s.phase (s.at_ i) * x i) p.right.length:=by
 rw [Zj (g:=fun r=>ZQ (fun i=>x i * (s.mat p i r * qAt (Ww p s) r)) p.right.length) fun r hr=>by
  rw [← hx r hr];unfold Y7;rw [Rat.mul_comm,← YD];exact Zj fun i _=>by grind]
 rw [WO];exact Zj fun i hi=>by rw [YD,Zjz h i hi];grind
theorem Zwz (h:Reg p s) (j:Int):Ydy p s j=ZQ (fun i=>XI p s.phase (s.at_ i) * qAt (dirL p s j) i) p.right.length:=Zto h (Vs h j)
theorem Piv.obj (h:Val p s) {i j:Nat} (c:Piv p s i j):Zhp p s.phase (Zer s i (j:Int))=Zhp p s.phase s+Zbh p s (j:Int) * (qAt (zL p s) i / qAt (dirL p s (j:Int)) i):=by
 have hb:i < s.basis.length:=by rw [h.fit.len];exact c.hi
 obtain ⟨d,a,b⟩:=c.z h;rw [Ycz h.reg,Zwz h.reg];unfold Zhp;obtain ⟨ρ,hρ⟩:∃ρ,ρ=qAt (zL p s) i / qAt (dirL p s (j:Int)) i:=⟨_,rfl⟩;have hd:ρ * qAt (dirL p s (j:Int)) i=qAt (zL p s) i:=by rw [hρ];exact Rat.div_mul_cancel c.d0
 rw [← hρ];rw [Zj (g:=fun k=>(XI p s.phase (s.at_ k) * qAt (zL p s) k - ρ * (XI p s.phase (s.at_ k) * qAt (dirL p s (j:Int)) k))+(if k=i then XI p s.phase (j:Int) * ρ else 0)) fun k hk=>by
  rw [Zdz hb];by_cases e:k=i
  ·subst e;rw [if_pos rfl,if_pos rfl,a,← hρ];grind
  ·rw [if_neg e,if_neg e,b k hk e,← hρ];grind]
 rw [XU,Zgp,YD,XV c.hi];grind
theorem Piv.ratio (h:Val p s) {i j:Nat} (c:Piv p s i j):0≤qAt (zL p s) i / qAt (dirL p s (j:Int)) i:=by
 rcases c.dz with e | e
 ·rw [Rat.div_def];exact Rat.mul_nonneg (h.pos i c.hi) (Rat.le_of_lt (Rat.inv_pos.2 e))
 ·rw [e];simp [Rat.div_def]
theorem Piv.obj_le (h:Val p s) {i j:Nat} (c:Piv p s i j):Zhp p s.phase (Zer s i (j:Int))≤Zhp p s.phase s:=by
 rw [c.obj h];have h1:=c.ratio h;have h2:=c.red;have h3:0≤ -Zbh p s (j:Int) * (qAt (zL p s) i / qAt (dirL p s (j:Int)) i):=Rat.mul_nonneg (by grind) h1;grind
theorem Zpw (ph:Int):Zhp p ph (Zr p s)=Zhp p ph s:=rfl
theorem Zhq (h:s.phase=2):(Zr p s).phase=2:=by
 unfold Zr;simp only;split
 ·exact h
 ·rfl
def Zhr (p:LPd) (s:LSt):Prop:=Zr p s=s
theorem settled_settle:Zhr p (Zr p s):=settle_twice
theorem Zka {t:LSt} (e:Zeq p s=some t):Zhr p t:=by
 unfold Zeq at e;split at e
 ·split at e
  ·cases e
  ·injection e with e;subst e;exact settled_settle
 ·cases e
theorem runL_settled:∀{n:Nat} {s:LSt},Zhr p s→Zhr p (Zag p n s)
 | 0,_,h=>h
 | n+1,s,h=>by
  cases e:Zeq p s with
  | none=>rw [Wq e];exact h
  | some t=>rw [WX e];exact runL_settled (Zka e)
theorem Zft (h:Val p s) {t:LSt} (e:Zeq p s=some t):s.phase≤t.phase∧t.phase≤2∧t.pivots=s.pivots+1:=by
 obtain ⟨i,j,c,rfl⟩:=Ztn h e;have hp:=h.ph;refine ⟨?_,?_,rfl⟩
 ·show s.phase≤(if Zbm (Zer s i (j:Int)) _ _=true then s.phase else 2);split <;> omega
 ·show (if Zbm (Zer s i (j:Int)) _ _=true then s.phase else 2)≤2;split <;> omega
theorem Ztp (h:Val p s) (h2:s.phase=2) {t:LSt} (e:Zeq p s=some t):Zhp p 2 t≤Zhp p 2 s∧t.phase=2:=by
 obtain ⟨i,j,c,rfl⟩:=Ztn h e;refine ⟨?_,Zhq h2⟩;rw [Zpw];have:=c.obj_le h
 rwa [h2] at this
theorem runL_phase:∀{n:Nat} {s:LSt},Val p s→s.phase≤(Zag p n s).phase
 | 0,s,_=>Int.le_refl _
 | n+1,s,h=>by
  cases e:Zeq p s with
  | none=>rw [Wq e];exact Int.le_refl _
  | some t=>rw [WX e];exact Int.le_trans (Zft h e).1 (runL_phase (Zca h e))
theorem runL_pivots:∀{n:Nat} {s:LSt},Val p s→(Zag p n s).pivots≤s.pivots+n
 | 0,s,_=>by show s.pivots≤s.pivots+0;omega
 | n+1,s,h=>by
  cases e:Zeq p s with
  | none=>rw [Wq e];omega
  | some t=>
   rw [WX e]
   have h1:=runL_pivots (n:=n) (Zca h e)
   have h2:=(Zft h e).2.2
   omega
end
end Pl
end
namespace Pl
def vc (c:Nat):Bool:=(c % 6==0 || (c % 6 !=c / 6 % 6 && c % 6 !=c / 36)) && (c / 6 % 6==0 || c / 6 % 6 !=c / 36)
def rk:Nat→Nat
 | 0=>0
 | c+1=>rk c+(if vc c then 1 else 0)
end Pl
section
namespace Pl
section
variable {p:LPd} {s:LSt}
structure Perm (p:LPd) (s t:LSt) (F:Nat→Nat):Prop where
 inj:Inj p.right.length p.right.length F
 at_:∀i,i < p.right.length→t.at_ i=s.at_ (F i)
end
end Pl
end
end Go.Proofs.YtncmobkhenfhpaaGreat
