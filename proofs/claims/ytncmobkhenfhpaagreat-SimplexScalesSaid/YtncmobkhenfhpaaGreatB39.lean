/- Contracts and plain facts that the claim is built on, joined out of smaller texts; no condition. -/
import Derived.OwnWalk
import Derived.Test.YtncmobkhenfhpaaGreatB32
set_option linter.unusedVariables false
set_option linter.unusedSimpArgs false
set_option maxRecDepth 100000
set_option maxHeartbeats 40000000
namespace Go.Proofs.YtncmobkhenfhpaaGreat
open Go.RowKit
open Pl
attribute [local go_sem ↓] Go.wp_at_zero Go.wp_at_succ
namespace Pl
def redQ (p:LPd) (s:LSt) (j:Int):Rat:=costQ p s.phase j - dotQ (dualL p s) (canL p.right.length (p.col j)) (min (dualL p s).length p.right.length)
end Pl
section
namespace Pl
def rngP (p:LPd) (s:LSt):Prop:=∀i,i < p.right.length→ -(p.right.length:Int)≤s.at_ i∧s.at_ i < p.cols.length
def dupP (p:LPd) (s:LSt):Prop:=∀i,i < p.right.length→∀k,k < i→s.at_ i≠s.at_ k
def posP (p:LPd) (s:LSt):Prop:=∀i,i < p.right.length→¬qAt (zL p s) i < 0
instance (p:LPd) (s:LSt):Decidable (rngP p s):=by unfold rngP;infer_instance
instance (p:LPd) (s:LSt):Decidable (dupP p s):=by unfold dupP;infer_instance
instance (p:LPd) (s:LSt):Decidable (posP p s):=by unfold posP;infer_instance
def vsErr (p:LPd) (s:LSt):Int:=if s.basis.length≠p.right.length then 12 else if s.phase < 1∨2 < s.phase∨s.pivots < 0 then 5 else if ¬rngP p s then 5 else if ¬dupP p s then 7 else if zOk p s=false then 13 else if ¬posP p s then 16 else if s.phase=2∧artN s (zL p s) (zL p s).length=true then 16 else 0
section
variable {p:LPd} {s:LSt}
theorem vs_len (h:s.basis.length≠p.right.length):vsErr p s=12:=by unfold vsErr;rw [if_pos h]
theorem vs_num (h:s.basis.length=p.right.length) (h2:s.phase < 1∨2 < s.phase∨s.pivots < 0):vsErr p s=5:=by unfold vsErr;rw [if_neg (by omega),if_pos h2]
theorem vs_rng (h:s.basis.length=p.right.length) (h2:¬(s.phase < 1∨2 < s.phase∨s.pivots < 0)) (h3:¬rngP p s):vsErr p s=5:=by unfold vsErr;rw [if_neg (by omega),if_neg h2,if_pos h3]
theorem vs_dup (h:s.basis.length=p.right.length) (h2:¬(s.phase < 1∨2 < s.phase∨s.pivots < 0)) (h3:rngP p s) (h4:¬dupP p s):vsErr p s=7:=by unfold vsErr;rw [if_neg (by omega),if_neg h2,if_neg (by simpa using h3),if_pos h4]
theorem vs_sing (h:s.basis.length=p.right.length) (h2:¬(s.phase < 1∨2 < s.phase∨s.pivots < 0)) (h3:rngP p s) (h4:dupP p s) (h5:zOk p s=false):vsErr p s=13:=by unfold vsErr;rw [if_neg (by omega),if_neg h2,if_neg (by simpa using h3),if_neg (by simpa using h4),if_pos h5]
theorem vs_pos (h:s.basis.length=p.right.length) (h2:¬(s.phase < 1∨2 < s.phase∨s.pivots < 0)) (h3:rngP p s) (h4:dupP p s) (h5:zOk p s=true) (h6:¬posP p s):vsErr p s=16:=by unfold vsErr;rw [if_neg (by omega),if_neg h2,if_neg (by simpa using h3),if_neg (by simpa using h4),if_neg (by rw [h5];decide),if_pos h6]
theorem vs_art (h:s.basis.length=p.right.length) (h2:¬(s.phase < 1∨2 < s.phase∨s.pivots < 0)) (h3:rngP p s) (h4:dupP p s) (h5:zOk p s=true) (h6:posP p s) (h7:s.phase=2∧artN s (zL p s) (zL p s).length=true):vsErr p s=16:=by unfold vsErr;rw [if_neg (by omega),if_neg h2,if_neg (by simpa using h3),if_neg (by simpa using h4),if_neg (by rw [h5];decide),if_neg (by simpa using h6),if_pos h7]
theorem vs_ok (h:s.basis.length=p.right.length) (h2:¬(s.phase < 1∨2 < s.phase∨s.pivots < 0)) (h3:rngP p s) (h4:dupP p s) (h5:zOk p s=true) (h6:posP p s) (h7:¬(s.phase=2∧artN s (zL p s) (zL p s).length=true)):vsErr p s=0:=by unfold vsErr;rw [if_neg (by omega),if_neg h2,if_neg (by simpa using h3),if_neg (by simpa using h4),if_neg (by rw [h5];decide),if_neg (by simpa using h6),if_neg h7]
theorem rng_fit (h:s.basis.length=p.right.length) (h3:rngP p s):s.Fit p:=⟨fun i z hz=>by
 have hi:i < s.basis.length:=(List.getElem?_eq_some_iff.1 hz).1
 have:=h3 i (by omega)
 rw [LSt.at_eq hz] at this
 exact this,h⟩
theorem vs_zero (h:vsErr p s=0):s.Fit p∧¬(s.phase < 1∨2 < s.phase∨s.pivots < 0)∧dupP p s∧zOk p s=true∧posP p s∧¬(s.phase=2∧artN s (zL p s) (zL p s).length=true):=by
 unfold vsErr at h
 by_cases h1:s.basis.length≠p.right.length
 ·rw [if_pos h1] at h;omega
 rw [if_neg h1] at h
 by_cases h2:s.phase < 1∨2 < s.phase∨s.pivots < 0
 ·rw [if_pos h2] at h;omega
 rw [if_neg h2] at h
 by_cases h3:rngP p s
 ·rw [if_neg (by simpa using h3)] at h
  by_cases h4:dupP p s
  ·rw [if_neg (by simpa using h4)] at h
   cases h5:zOk p s with
   | false=>rw [if_pos h5] at h;omega
   | true=>
    rw [if_neg (by rw [h5];decide)] at h
    by_cases h6:posP p s
    ·rw [if_neg (by simpa using h6)] at h
     by_cases h7:s.phase=2∧artN s (zL p s) (zL p s).length=true
     ·rw [if_pos h7] at h;omega
     ·exact ⟨rng_fit (by omega) h3,h2,h4,rfl,h6,h7⟩
    ·rw [if_pos h6] at h;omega
  ·rw [if_pos h4] at h;omega
 ·rw [if_pos h3] at h;omega
end
end Pl
theorem IntsM.all {w:World} {A:Option Addr} {n c:Nat} {zs:List Int} (h:IntsM w (.slice A n c) zs) (hn:0 < n):∃b off,A=some ⟨b,off,none⟩∧∀i,i < n→w.cell? ⟨b,off+i,none⟩=some (.int .i64 (zs.getD i 0)):=by
 obtain ⟨a,cap,h1,h2,h3,h4,h5⟩:=h
 injection h1 with e1 e2 e3
 subst e1 e2
 obtain ⟨b,off,g1,g2⟩:=h4 hn
 exact ⟨b,off,g1,g2⟩
end
namespace Pl
def firstNeg (f:Nat→Rat):Nat→Nat→Option Nat
 | _,0=>none
 | r,n+1=>if f r < 0 then some r else firstNeg f (r+1) n
theorem firstNeg_none {f:Nat→Rat}:∀{n r:Nat},(∀i,r≤i→i < r+n→¬f i < 0)→firstNeg f r n=none
 | 0,_,_=>rfl
 | n+1,r,h=>by
  unfold firstNeg
  rw [if_neg (h r (Nat.le_refl _) (by omega))]
  exact firstNeg_none fun i h1 h2=>h i (by omega) (by omega)
theorem firstNeg_some {f:Nat→Rat}:∀{n r t:Nat},r≤t→t < r+n→f t < 0→(∀i,r≤i→i < t→¬f i < 0)→firstNeg f r n=some t
 | 0,r,t,h1,h2,_,_=>by omega
 | n+1,r,t,h1,h2,h3,h4=>by
  unfold firstNeg
  rcases Nat.eq_or_lt_of_le h1 with e | e
  ·subst e;rw [if_pos h3]
  ·rw [if_neg (h4 r (Nat.le_refl _) e)]
   exact firstNeg_some (by omega) (by omega) h3 fun i h5 h6=>h4 i (by omega) h6
theorem firstNeg_is {f:Nat→Rat}:∀{n r t:Nat},firstNeg f r n=some t→r≤t∧t < r+n∧f t < 0∧∀i,r≤i→i < t→¬f i < 0
 | 0,_,_,h=>by cases h
 | n+1,r,t,h=>by
  unfold firstNeg at h
  split at h
  ·injection h with h;subst h;exact ⟨Nat.le_refl _,by omega,by assumption,fun i h1 h2=>by omega⟩
  ·rename_i h0
   obtain ⟨h1,h2,h3,h4⟩:=firstNeg_is h
   refine ⟨by omega,by omega,h3,fun i h5 h6=>?_⟩
   rcases Nat.eq_or_lt_of_le h5 with e | e
   ·subst e;exact h0
   ·exact h4 i (by omega) h6
def entQ (p:LPd) (s:LSt):Option Nat:=firstNeg (fun j=>redQ p s (j:Int)) 0 p.cols.length
def dirL (p:LPd) (s:LSt) (j:Int):List RF:=solF p.right.length (s.mat p) (qAt (canL p.right.length (p.col j)))
def stuckN (s:LSt) (d:List RF):Nat→Bool
 | 0=>decide (s.phase=2)
 | k+1=>if 0 < qAt d k∨(s.at_ k < 0∧qAt d k≠0) then false else stuckN s d k
def statQ (p:LPd) (s:LSt):Int:=match entQ p s with | some j=>(if stuckN s (dirL p s (j:Int)) (dirL p s (j:Int)).length then 3 else 0) | none=>if s.phase=1 then 2 else 1
def statJ (p:LPd) (s:LSt):Int:=match entQ p s with | some j=>(j:Int) | none=> -1
def statD (p:LPd) (s:LSt):List RF:=match entQ p s with | some j=>dirL p s (j:Int) | none=>[]
theorem stat_some {p:LPd} {s:LSt} {j:Nat} (h:entQ p s=some j):statQ p s=(if stuckN s (dirL p s (j:Int)) (dirL p s (j:Int)).length then 3 else 0)∧statJ p s=(j:Int)∧statD p s=dirL p s (j:Int):=by unfold statQ statJ statD;rw [h];exact ⟨rfl,rfl,rfl⟩
theorem stat_none {p:LPd} {s:LSt} (h:entQ p s=none):statQ p s=(if s.phase=1 then 2 else 1)∧statJ p s= -1∧statD p s=[]:=by unfold statQ statJ statD;rw [h];exact ⟨rfl,rfl,rfl⟩
theorem dirL_B {p:LPd} {K:Nat} (F:p.Fit K) (s:LSt) (j:Int):RsL (5^p.right.length * K) (dirL p s j):=solF_B (fun _ _ _ _=>LPd.Sz_col F.ok F.k1 _ _) fun r hr=>by rw [canL_qAt hr];exact LPd.Sz_col F.ok F.k1 _ _
end Pl
namespace Pl
theorem solF_can {m:Nat} {cols:Mx} {b:Nat→Rat} {k:Nat} {f:RF} (h:(solF m cols b)[k]? =some f):f=canF (qAt (solF m cols b) k):=by
 cases e:solveQ m cols b with
 | none=>rw [solF_none e] at h;simp at h
 | some x=>
  rw [solF_some e] at h ⊢
  have hk:k < m:=by have:=(List.getElem?_eq_some_iff.1 h).1;rwa [canL_length] at this
  rw [canL_get hk] at h
  injection h with h
  rw [canL_qAt hk,← h]
end Pl
namespace Pl
def artL (k:Nat):List Int:=(List.range k).map fun r:Nat=> -1 - (r:Int)
theorem artL_length (k:Nat):(artL k).length=k:=by simp [artL]
def startS (p:LPd):LSt:=⟨1,artL p.right.length,0⟩
theorem startS_fit (p:LPd):(startS p).Fit p:=⟨fun i z hz=>by
 have hz':(artL p.right.length)[i]? =some z:=hz
 have hi:i < p.right.length:=by have:=(List.getElem?_eq_some_iff.1 hz').1;rwa [artL_length] at this
 simp [artL,hi] at hz'
 omega,artL_length _⟩
end Pl
theorem Bk.set_other {w:World} {g g':Nat} {t:TypeId} {cs:List Value} (h:Bk w g' t cs) (hne:g'≠g) (i:Nat) (u:Value):Bk (w.setCell ⟨g,i,none⟩ u) g' t cs:=by
 unfold Bk at h ⊢
 rw [heap_setCell_other _ _ _ _ hne]
 exact h
theorem Bk.lt_ {w:World} {g:Nat} {t:TypeId} {cs:List Value} (h:Bk w g t cs):g < w.heap.size:=lt_heap h
namespace Pl
def ratQ (Z D:List RF) (i:Nat):Rat:=qAt Z i / qAt D i
def better (p:LPd) (s:LSt) (Z D:List RF) (i b:Nat):Prop:=ratQ Z D i < ratQ Z D b∨(ratQ Z D i=ratQ Z D b∧ordQ p (s.at_ i) < ordQ p (s.at_ b))
instance (p:LPd) (s:LSt) (Z D:List RF) (i b:Nat):Decidable (better p s Z D i b):=by unfold better;infer_instance
def bestN (p:LPd) (s:LSt) (Z D:List RF):Nat→Option Nat
 | 0=>none
 | k+1=>if 0 < qAt D k then (match bestN p s Z D k with | none=>some k | some b=>if better p s Z D k b then some k else some b) else bestN p s Z D k
theorem bestN_skip {p:LPd} {s:LSt} {Z D:List RF} {k:Nat} (h:¬0 < qAt D k):bestN p s Z D (k+1)=bestN p s Z D k:=by rw [bestN,if_neg h]
theorem bestN_first {p:LPd} {s:LSt} {Z D:List RF} {k:Nat} (hb:bestN p s Z D k=none) (h:0 < qAt D k):bestN p s Z D (k+1)=some k:=by rw [bestN,if_pos h,hb]
theorem bestN_better {p:LPd} {s:LSt} {Z D:List RF} {k t:Nat} (hb:bestN p s Z D k=some t) (h:0 < qAt D k) (g:better p s Z D k t):bestN p s Z D (k+1)=some k:=by rw [bestN,if_pos h,hb];simp only;rw [if_pos g]
theorem bestN_worse {p:LPd} {s:LSt} {Z D:List RF} {k t:Nat} (hb:bestN p s Z D k=some t) (h:0 < qAt D k) (g:¬better p s Z D k t):bestN p s Z D (k+1)=some t:=by rw [bestN,if_pos h,hb];simp only;rw [if_neg g]
theorem bestN_lt {p:LPd} {s:LSt} {Z D:List RF}:∀{k t:Nat},bestN p s Z D k=some t→t < k∧0 < qAt D t
 | 0,t,h=>by cases h
 | k+1,t,h=>by
  by_cases h0:0 < qAt D k
  ·cases hb:bestN p s Z D k with
   | none=>rw [bestN_first hb h0] at h;injection h with h;subst h;exact ⟨by omega,h0⟩
   | some b=>
    obtain ⟨h1,h2⟩:=bestN_lt hb
    by_cases g:better p s Z D k b
    ·rw [bestN_better hb h0 g] at h;injection h with h;subst h;exact ⟨by omega,h0⟩
    ·rw [bestN_worse hb h0 g] at h;injection h with h;subst h;exact ⟨by omega,h2⟩
  ·rw [bestN_skip h0] at h
   obtain ⟨h1,h2⟩:=bestN_lt h
   exact ⟨by omega,h2⟩
def oi:Option Nat→Int
 | none=> -1
 | some b=>(b:Int)
def artF (s:LSt) (D:List RF) (i:Nat):Rat:=if s.at_ i < 0∧qAt D i≠0 then -1 else 0
theorem artF_yes {s:LSt} {D:List RF} {i:Nat} (h1:s.at_ i < 0) (h2:qAt D i≠0):artF s D i < 0:=by unfold artF;rw [if_pos ⟨h1,h2⟩];decide
theorem artF_no {s:LSt} {D:List RF} {i:Nat} (h:¬(s.at_ i < 0∧qAt D i≠0)):¬artF s D i < 0:=by unfold artF;rw [if_neg h];decide
def leavQ (p:LPd) (s:LSt) (Z D:List RF):Option Nat:=if s.phase=2 then (match firstNeg (artF s D) 0 D.length with | some i=>some i | none=>bestN p s Z D D.length) else bestN p s Z D D.length
theorem leavQ_1 {p:LPd} {s:LSt} {Z D:List RF} (h:¬s.phase=2):leavQ p s Z D=bestN p s Z D D.length:=by unfold leavQ;rw [if_neg h]
theorem leavQ_2 {p:LPd} {s:LSt} {Z D:List RF} (h:s.phase=2) {i:Nat} (hf:firstNeg (artF s D) 0 D.length=some i):leavQ p s Z D=some i:=by unfold leavQ;rw [if_pos h,hf]
theorem leavQ_3 {p:LPd} {s:LSt} {Z D:List RF} (h:s.phase=2) (hf:firstNeg (artF s D) 0 D.length=none):leavQ p s Z D=bestN p s Z D D.length:=by unfold leavQ;rw [if_pos h,hf]
theorem leavQ_lt {p:LPd} {s:LSt} {Z D:List RF} {i:Nat} (h:leavQ p s Z D=some i):i < D.length:=by
 by_cases hp:s.phase=2
 ·cases hf:firstNeg (artF s D) 0 D.length with
  | some j=>rw [leavQ_2 hp hf] at h;injection h with h;subst h;have:=firstNeg_is hf;omega
  | none=>rw [leavQ_3 hp hf] at h;exact (bestN_lt h).1
 ·rw [leavQ_1 hp] at h;exact (bestN_lt h).1
def BestAt (p:LPd) (s:LSt) (Z D:List RF) (k:Nat) (z:Int):Prop:=(z= -1∧bestN p s Z D k=none)∨∃t:Nat,z=(t:Int)∧t < k∧bestN p s Z D k=some t
theorem BestAt.oi {p:LPd} {s:LSt} {Z D:List RF} {k:Nat} {z:Int} (h:BestAt p s Z D k z):oi (bestN p s Z D k)=z:=by
 rcases h with ⟨rfl,h⟩ | ⟨t,rfl,_,h⟩ <;> rw [h] <;> rfl
end Pl
namespace Pl
def pivQ (p:LPd) (s:LSt):Option LSt:=if statQ p s=0 then (match leavQ p s (zL p s) (statD p s) with | none=>none | some i=>some (settleQ p ⟨s.phase,s.basis.set i (statJ p s),s.pivots+1⟩)) else none
theorem pivQ_1 {p:LPd} {s:LSt} (h:statQ p s≠0):pivQ p s=none:=by unfold pivQ;rw [if_neg h]
theorem pivQ_2 {p:LPd} {s:LSt} (h:leavQ p s (zL p s) (statD p s)=none):pivQ p s=none:=by unfold pivQ;rw [h];split <;> rfl
theorem pivQ_3 {p:LPd} {s:LSt} {i:Nat} (h:statQ p s=0) (h2:leavQ p s (zL p s) (statD p s)=some i):pivQ p s=some (settleQ p ⟨s.phase,s.basis.set i (statJ p s),s.pivots+1⟩):=by unfold pivQ;rw [h2,if_pos h]
def runL (p:LPd):Nat→LSt→LSt
 | 0,s=>s
 | n+1,s=>match pivQ p s with | none=>s | some t=>runL p n t
theorem runL_stop {p:LPd} {s:LSt} (h:pivQ p s=none) (n:Nat):runL p n s=s:=by cases n with | zero=>rfl | succ n=>rw [runL,h]
theorem runL_step {p:LPd} {s t:LSt} (h:pivQ p s=some t) (n:Nat):runL p (n+1) s=runL p n t:=by rw [runL,h]
theorem run_ent {p:LPd} {s:LSt} (h:statQ p s=0):∃j:Nat,entQ p s=some j∧j < p.cols.length∧statJ p s=(j:Int)∧statD p s=dirL p s (j:Int):=by
 cases he:entQ p s with
 | none=>rw [(stat_none he).1] at h;split at h <;> omega
 | some j=>exact ⟨j,rfl,by have:=(firstNeg_is he).2.1;omega,(stat_some he).2.1,(stat_some he).2.2⟩
theorem set_fit {p:LPd} {s:LSt} (S:s.Fit p) {j:Int} (h0:0≤j) (h1:j < p.cols.length) (i:Nat) (k:Int):(LSt.mk s.phase (s.basis.set i j) k).Fit p:=by
 refine ⟨fun i' z hz=>?_,by show (s.basis.set i j).length=_;rw [List.length_set];exact S.2⟩
 have hz':(s.basis.set i j)[i']? =some z:=hz
 by_cases e:i=i'
 ·subst e
  have hi:i < s.basis.length:=by have:=(List.getElem?_eq_some_iff.1 hz').1;rwa [List.length_set] at this
  rw [List.getElem?_set_self hi] at hz'
  injection hz' with hz'
  omega
 ·rw [List.getElem?_set_ne e] at hz'
  exact S.1 i' z hz'
end Pl
section
namespace Pl
theorem Indep.tr {m:Nat} {cols:Mx} (h:Indep m cols):Indep m (trM cols):=by
 intro y hy r hr
 obtain ⟨x,hx⟩:=some_of_indep h fun i=>if i=r then 1 else 0
 have e:=(solveQ_iff hx x).2 fun k _=>rfl
 have h1:sumN (fun i=>y i * mulC m cols x i) m=y r:=by
  rw [sumN_single hr fun i hi hne=>by rw [e i hi,if_neg hne];grind,e r hr,if_pos rfl];grind
 have h2:sumN (fun i=>y i * mulC m cols x i) m=sumN (fun c=>mulC m (trM cols) y c * x c) m:=by
  unfold mulC
  rw [sumN_congr (g:=fun i=>sumN (fun c=>y i * (cols c i * x c)) m) fun i _=>(sumN_mul _ _ _).symm,sumN_swap]
  exact sumN_congr fun c _=>by
   unfold trM
   rw [Rat.mul_comm,← sumN_mul]
   exact sumN_congr fun i _=>by grind
 rw [← h1,h2]
 exact sumN_all0 fun c hc=>by rw [hy c hc];grind
section
variable {p:LPd} {s:LSt}
def Reg (p:LPd) (s:LSt):Prop:=Indep p.right.length (s.mat p)
theorem zOk_reg (h:zOk p s=true):Reg p s:=by
 unfold zOk at h
 obtain ⟨x,hx⟩:=Option.isSome_iff_exists.1 h
 exact indep_of_some hx
theorem reg_zOk (h:Reg p s):zOk p s=true:=by
 obtain ⟨x,hx⟩:=some_of_indep h (qAt p.right)
 unfold zOk;rw [hx];rfl
theorem solF_spec {m:Nat} {cols:Mx} (h:Indep m cols) (b:Nat→Rat):(solF m cols b).length=m∧∀r,r < m→mulC m cols (qAt (solF m cols b)) r=b r:=by
 obtain ⟨x,hx⟩:=some_of_indep h b
 rw [solF_some hx,canL_length]
 refine ⟨rfl,fun r hr=>?_⟩
 rw [← (solveQ_iff hx x).2 (fun k _=>rfl) r hr]
 exact sumN_congr fun c hc=>by rw [canL_qAt hc]
theorem solF_uniq {m:Nat} {cols:Mx} (h:Indep m cols) {b x:Nat→Rat} (hx:∀r,r < m→mulC m cols x r=b r):∀k,k < m→qAt (solF m cols b) k=x k:=by
 obtain ⟨z,hz,he⟩:=solveQ_eq h hx
 intro k hk
 rw [solF_some hz,canL_qAt hk,he k hk]
theorem z_spec (h:Reg p s):∀r,r < p.right.length→mulC p.right.length (s.mat p) (qAt (zL p s)) r=qAt p.right r:=(solF_spec h _).2
theorem z_uniq (h:Reg p s) {x:Nat→Rat} (hx:∀r,r < p.right.length→mulC p.right.length (s.mat p) x r=qAt p.right r):∀k,k < p.right.length→qAt (zL p s) k=x k:=solF_uniq h hx
theorem z_len (h:Reg p s):(zL p s).length=p.right.length:=(solF_spec h _).1
theorem dir_spec (h:Reg p s) (j:Int):∀r,r < p.right.length→mulC p.right.length (s.mat p) (qAt (dirL p s j)) r=p.col j r:=fun r hr=>by
 unfold dirL
 rw [(solF_spec h _).2 r hr,canL_qAt hr]
theorem dir_len (h:Reg p s) (j:Int):(dirL p s j).length=p.right.length:=(solF_spec h _).1
theorem dual_len (h:Reg p s):(dualL p s).length=p.right.length:=(solF_spec h.tr _).1
theorem dual_spec (h:Reg p s):∀k,k < p.right.length→sumN (fun r=>s.mat p k r * qAt (dualL p s) r) p.right.length=costQ p s.phase (s.at_ k):=fun k hk=>by
 have e:=(solF_spec h.tr (qAt (canL p.right.length fun i=>costQ p s.phase (s.at_ i)))).2 k hk
 rw [canL_qAt hk] at e
 exact e
theorem red_basic (h:Reg p s) {k:Nat} (hk:k < p.right.length):redQ p s (s.at_ k)=0:=by
 unfold redQ
 rw [dual_len h,Nat.min_self,dotC_canL,← dual_spec h k hk]
 have e:dotC (dualL p s) (p.col (s.at_ k)) p.right.length=sumN (fun r=>s.mat p k r * qAt (dualL p s) r) p.right.length:=sumN_congr fun r _=>by show _=p.col (s.at_ k) r * _;grind
 rw [e];grind
theorem artN_false {zs:List RF}:∀{n:Nat},artN s zs n=false→∀k,k < n→s.at_ k < 0→qAt zs k=0
 | 0,_,k,hk,_=>by omega
 | n+1,h,k,hk,ha=>by
  unfold artN at h
  rw [Bool.or_eq_false_iff] at h
  rcases Nat.lt_or_ge k n with e | e
  ·exact artN_false h.1 k e ha
  ·obtain rfl:k=n:=by omega
   simpa [ha] using h.2
theorem artN_of {zs:List RF}:∀{n:Nat},(∀k,k < n→s.at_ k < 0→qAt zs k=0)→artN s zs n=false
 | 0,_=>rfl
 | n+1,h=>by
  unfold artN
  rw [artN_of fun k hk=>h k (by omega)]
  by_cases ha:s.at_ n < 0
  ·simp [ha,h n (by omega) ha]
  ·simp [ha]
structure Val (p:LPd) (s:LSt):Prop where
 fit:s.Fit p
 ph:s.phase=1∨s.phase=2
 pv:0≤s.pivots
 dup:∀i,i < p.right.length→∀k,k < i→s.at_ i≠s.at_ k
 reg:Reg p s
 pos:∀i,i < p.right.length→0≤qAt (zL p s) i
 art:s.phase=2→∀i,i < p.right.length→s.at_ i < 0→qAt (zL p s) i=0
theorem val_of (h:vsErr p s=0):Val p s:=by
 obtain ⟨h1,h2,h3,h4,h5,h6⟩:=vs_zero h
 have hr:=zOk_reg h4
 exact ⟨h1,by omega,by omega,h3,hr,fun i hi=>Rat.not_lt.1 (h5 i hi),fun e i hi ha=>by
  have:artN s (zL p s) (zL p s).length=false:=by
   cases hb:artN s (zL p s) (zL p s).length with
   | false=>rfl
   | true=>exact absurd ⟨e,hb⟩ h6
  exact artN_false this i (by rw [z_len hr];exact hi) ha⟩
theorem Val.vs (h:Val p s):vsErr p s=0:=by
 have hb:=h.fit.len
 refine vs_ok hb (by have:=h.ph;have:=h.pv;omega) (fun i hi=>?_) h.dup (reg_zOk h.reg) (fun i hi=>Rat.not_lt.2 (h.pos i hi)) fun e=>?_
 ·have hi':i < s.basis.length:=by omega
  have:=h.fit.in_ i _ (List.getElem?_eq_getElem hi')
  rw [LSt.at_eq (List.getElem?_eq_getElem hi')]
  exact this
 ·have:=artN_of (zs:=zL p s) (n:=(zL p s).length) fun k hk ha=>h.art e.1 k (by rw [← z_len h.reg];exact hk) ha
  rw [this] at e
  exact absurd e.2 (by decide)
theorem settle_zL:zL p (settleQ p s)=zL p s:=rfl
theorem settle_at (i:Nat):(settleQ p s).at_ i=s.at_ i:=rfl
theorem Val.settle (h:Val p s):Val p (settleQ p s):=by
 refine ⟨settleQ_fit h.fit,?_,h.pv,h.dup,h.reg,h.pos,fun e i hi ha=>?_⟩
 ·show (if artN s (zL p s) (zL p s).length=true then s.phase else 2)=1∨(if artN s (zL p s) (zL p s).length=true then s.phase else 2)=2
  split
  ·exact h.ph
  ·exact .inr rfl
 ·have e':(if artN s (zL p s) (zL p s).length=true then s.phase else 2)=2:=e
  cases hb:artN s (zL p s) (zL p s).length with
  | false=>exact artN_false hb i (by rw [z_len h.reg];exact hi) ha
  | true=>rw [hb,if_pos rfl] at e';exact h.art e' i hi ha
theorem settle_twice:settleQ p (settleQ p s)=settleQ p s:=by
 unfold settleQ
 have e:∀ph,artN ⟨ph,s.basis,s.pivots⟩ (zL p ⟨ph,s.basis,s.pivots⟩) (zL p ⟨ph,s.basis,s.pivots⟩).length=artN s (zL p s) (zL p s).length:=fun ph=>by
  have e1:zL p ⟨ph,s.basis,s.pivots⟩=zL p s:=rfl
  rw [e1]
  generalize (zL p s).length=n
  induction n with
  | zero=>rfl
  | succ n ih=>unfold artN;rw [ih];rfl
 simp only [e]
 cases artN s (zL p s) (zL p s).length <;> simp
end
theorem artL_at {k i:Nat} (h:i < k):(artL k)[i]? =some (-1 - (i:Int)):=by simp [artL,h]
theorem startS_at {p:LPd} {i:Nat} (h:i < p.right.length):(startS p).at_ i= -1 - (i:Int):=LSt.at_eq (artL_at h)
theorem start_val (p:LPd):Val p (startS p):=by
 have hm:∀k,k < p.right.length→(startS p).mat p k=fun i=>if i=k then (if qs (qAt p.right i) < 0 then -1 else 1) else 0:=fun k hk=>by
  show p.col ((startS p).at_ k)=_
  rw [startS_at hk];exact LPd.col_neg
 have hrow:∀y r,r < p.right.length→mulC p.right.length ((startS p).mat p) y r=(if qs (qAt p.right r) < 0 then -1 else 1) * y r:=fun y r hr=>by
  unfold mulC
  rw [sumN_single hr fun i hi hne=>by rw [hm i hi];simp only;rw [if_neg (fun e=>hne e.symm)];grind,hm r hr]
  simp
 have hreg:Reg p (startS p):=fun y hy k hk=>by
  have:=hy k hk
  rw [hrow y k hk] at this
  split at this <;> grind
 have hz:=z_uniq hreg (x:=fun i=>(if qs (qAt p.right i) < 0 then -1 else 1) * qAt p.right i) fun r hr=>by
  rw [hrow _ r hr];split <;> grind
 refine ⟨startS_fit p,.inl rfl,Int.le_refl _,fun i hi k hk=>?_,hreg,fun i hi=>?_,fun e=>by cases e⟩
 ·rw [startS_at hi,startS_at (by omega)];omega
 ·rw [hz i hi]
  split
  ·rename_i h;have:=qs_neg.1 h;grind
  ·rename_i h
   have:¬qAt p.right i < 0:=fun g=>h (qs_neg.2 g)
   grind
theorem bestN_min {p:LPd} {s:LSt} {Z D:List RF}:∀{n t:Nat},bestN p s Z D n=some t→∀k,k < n→0 < qAt D k→ratQ Z D t≤ratQ Z D k
 | 0,t,h,k,hk,_=>by omega
 | n+1,t,h,k,hk,hd=>by
  by_cases h0:0 < qAt D n
  ·cases hb:bestN p s Z D n with
   | none=>
    rw [bestN_first hb h0] at h
    injection h with h
    subst h
    rcases Nat.lt_or_ge k n with e | e
    ·exfalso
     have:∀{m:Nat},bestN p s Z D m=none→∀k,k < m→¬0 < qAt D k:=fun {m}=>by
      induction m with
      | zero=>intro _ k hk;omega
      | succ m ih=>
       intro hm k hk
       by_cases hq:0 < qAt D m
       ·exfalso
        cases hb2:bestN p s Z D m with
        | none=>rw [bestN_first hb2 hq] at hm;cases hm
        | some b=>
         by_cases g:better p s Z D m b
         ·rw [bestN_better hb2 hq g] at hm;cases hm
         ·rw [bestN_worse hb2 hq g] at hm;cases hm
       ·rw [bestN_skip hq] at hm
        rcases Nat.lt_or_ge k m with e' | e'
        ·exact ih hm k e'
        ·obtain rfl:k=m:=by omega
         exact hq
     exact this hb k e hd
    ·obtain rfl:k=n:=by omega
     exact Rat.le_refl
   | some b=>
    have ih:=bestN_min hb
    by_cases g:better p s Z D n b
    ·rw [bestN_better hb h0 g] at h
     injection h with h
     subst h
     rcases Nat.lt_or_ge k n with e | e
     ·have h1:=ih k e hd
      have h2:ratQ Z D n≤ratQ Z D b:=by
       rcases g with g | ⟨g,_⟩
       ·exact Rat.le_of_lt g
       ·rw [g];exact Rat.le_refl
      grind
     ·obtain rfl:k=n:=by omega
      exact Rat.le_refl
    ·rw [bestN_worse hb h0 g] at h
     injection h with h
     subst h
     rcases Nat.lt_or_ge k n with e | e
     ·exact ih k e hd
     ·obtain rfl:k=n:=by omega
      have:¬ratQ Z D k < ratQ Z D b:=fun e=>g (.inl e)
      grind
  ·rw [bestN_skip h0] at h
   rcases Nat.lt_or_ge k n with e | e
   ·exact bestN_min h k e hd
   ·obtain rfl:k=n:=by omega
    exact absurd hd h0
def preS (s:LSt) (i:Nat) (j:Int):LSt:=⟨s.phase,s.basis.set i j,s.pivots+1⟩
theorem preS_at {s:LSt} {i:Nat} {j:Int} (hi:i < s.basis.length) (k:Nat):(preS s i j).at_ k=if k=i then j else s.at_ k:=by
 unfold LSt.at_ preS
 simp only [List.getD_eq_getElem?_getD]
 by_cases e:k=i
 ·subst e;rw [if_pos rfl,List.getElem?_set_self hi];rfl
 ·rw [if_neg e,List.getElem?_set_ne (fun h=>e h.symm)]
theorem preS_mat {p:LPd} {s:LSt} {i:Nat} {j:Int} (hi:i < s.basis.length):(preS s i j).mat p=repC (s.mat p) i (p.col j):=by
 funext k
 show p.col ((preS s i j).at_ k)=_
 rw [preS_at hi k]
 unfold repC
 by_cases e:k=i
 ·rw [if_pos e,if_pos e]
 ·rw [if_neg e,if_neg e];rfl
structure Piv (p:LPd) (s:LSt) (i j:Nat):Prop where
 hi:i < p.right.length
 hj:j < p.cols.length
 red:redQ p s (j:Int) < 0
 d0:qAt (dirL p s (j:Int)) i≠0
 dz:0 < qAt (dirL p s (j:Int)) i∨qAt (zL p s) i=0
 rat:∀k,k < p.right.length→0 < qAt (dirL p s (j:Int)) k→qAt (zL p s) i=0∨ratQ (zL p s) (dirL p s (j:Int)) i≤ratQ (zL p s) (dirL p s (j:Int)) k
 art:s.phase=2→∀k,k < p.right.length→s.at_ k < 0→qAt (zL p s) i=0∨qAt (dirL p s (j:Int)) k=0
theorem piv_of {p:LPd} {s:LSt} (h:Val p s) {t:LSt} (e:pivQ p s=some t):∃i j:Nat,Piv p s i j∧t=settleQ p (preS s i (j:Int)):=by
 by_cases hq:statQ p s=0
 ·cases hl:leavQ p s (zL p s) (statD p s) with
  | none=>rw [pivQ_2 hl] at e;cases e
  | some i=>
   rw [pivQ_3 hq hl] at e
   injection e with e
   obtain ⟨j,hje,hj,hJ,hD⟩:=run_ent hq
   rw [hJ] at e
   rw [hD] at hl
   have hdl:=dir_len h.reg (j:Int)
   have hi:i < p.right.length:=by rw [← hdl];exact leavQ_lt hl
   refine ⟨i,j,?_,e.symm⟩
   have hred:=(firstNeg_is hje).2.2.1
   by_cases hph:s.phase=2
   ·cases hf:firstNeg (artF s (dirL p s (j:Int))) 0 (dirL p s (j:Int)).length with
    | some i'=>
     rw [leavQ_2 hph hf] at hl
     injection hl with hl
     subst hl
     obtain ⟨_,_,f3,_⟩:=firstNeg_is hf
     have ha:s.at_ i' < 0∧qAt (dirL p s (j:Int)) i'≠0:=by
      unfold artF at f3
      split at f3
      ·assumption
      ·exact absurd f3 (by decide)
     have hz:=h.art hph i' hi ha.1
     exact ⟨hi,hj,hred,ha.2,.inr hz,fun _ _ _=> .inl hz,fun _ _ _ _=> .inl hz⟩
    | none=>
     rw [leavQ_3 hph hf] at hl
     have hp:=(bestN_lt hl).2
     refine ⟨hi,hj,hred,fun e=>by rw [e] at hp;exact absurd hp (by decide),.inl hp,fun k hk hd=> .inr (bestN_min hl k (by rw [hdl];exact hk) hd),fun _ k hk ha=> .inr ?_⟩
     by_cases e0:qAt (dirL p s (j:Int)) k=0
     ·exact e0
     ·exfalso
      have key:∀(f:Nat→Rat) (n r:Nat),firstNeg f r n=none→∀i,r≤i→i < r+n→¬f i < 0:=by
       intro f n
       induction n with
       | zero=>intro r _ i h1 h2;omega
       | succ n ih=>
        intro r hr i h1 h2
        unfold firstNeg at hr
        split at hr
        ·cases hr
        ·rename_i g
         rcases Nat.eq_or_lt_of_le h1 with e | e
         ·subst e;exact g
         ·exact ih (r+1) hr i (by omega) (by omega)
      exact key _ _ _ hf k (Nat.zero_le _) (by rw [hdl];omega) (artF_yes ha e0)
   ·rw [leavQ_1 hph] at hl
    have hp:=(bestN_lt hl).2
    exact ⟨hi,hj,hred,fun e=>by rw [e] at hp;exact absurd hp (by decide),.inl hp,fun k hk hd=> .inr (bestN_min hl k (by rw [hdl];exact hk) hd),fun e=>absurd e hph⟩
 ·rw [pivQ_1 hq] at e;cases e
theorem Piv.z {p:LPd} {s:LSt} (h:Val p s) {i j:Nat} (c:Piv p s i j):Reg p (preS s i (j:Int))∧qAt (zL p (preS s i (j:Int))) i=qAt (zL p s) i / qAt (dirL p s (j:Int)) i∧
 ∀k,k < p.right.length→k≠i→qAt (zL p (preS s i (j:Int))) k=qAt (zL p s) k - qAt (dirL p s (j:Int)) k * (qAt (zL p s) i / qAt (dirL p s (j:Int)) i):=by
 have hb:i < s.basis.length:=by rw [h.fit.len];exact c.hi
 have hreg:Reg p (preS s i (j:Int)):=by
  unfold Reg
  rw [preS_mat hb]
  exact indep_rep c.hi h.reg (dir_spec h.reg (j:Int)) c.d0
 have hx:=z_uniq hreg (x:=fun k=>if k=i then qAt (zL p s) i / qAt (dirL p s (j:Int)) i else qAt (zL p s) k - qAt (dirL p s (j:Int)) k * (qAt (zL p s) i / qAt (dirL p s (j:Int)) i)) (by
  rw [preS_mat hb]
  exact mulC_rep c.hi (dir_spec h.reg (j:Int)) c.d0 (z_spec h.reg) (if_pos rfl) fun k _ hne=>by
   simp only [if_neg hne];simp)
 refine ⟨hreg,?_,fun k hk hne=>?_⟩
 ·rw [hx i c.hi,if_pos rfl]
 ·rw [hx k hk,if_neg hne]
theorem Piv.val {p:LPd} {s:LSt} (h:Val p s) {i j:Nat} (c:Piv p s i j):Val p (preS s i (j:Int)):=by
 have hb:i < s.basis.length:=by rw [h.fit.len];exact c.hi
 obtain ⟨hreg,hzi,hzk⟩:=c.z h
 have hrat:0≤qAt (zL p s) i / qAt (dirL p s (j:Int)) i:=by
  rcases c.dz with e | e
  ·rw [Rat.div_def]
   exact Rat.mul_nonneg (h.pos i c.hi) (Rat.le_of_lt (Rat.inv_pos.2 e))
  ·rw [e];simp [Rat.div_def]
 have hz0:qAt (zL p s) i=0→qAt (zL p s) i / qAt (dirL p s (j:Int)) i=0:=fun e=>by rw [e];simp [Rat.div_def]
 refine ⟨set_fit h.fit (by omega) (by have:=c.hj;omega) i _,h.ph,by have:=h.pv;show 0≤s.pivots+1;omega,fun a ha b hab=>?_,hreg,fun k hk=>?_,fun e k hk ha=>?_⟩
 ·rw [preS_at hb,preS_at hb]
  have hne:∀l,l < p.right.length→(j:Int)≠s.at_ l:=fun l hl e=>by
   have h1:=c.red
   rw [e,red_basic h.reg hl] at h1
   exact absurd h1 (by decide)
  by_cases e1:a=i
  ·rw [if_pos e1,if_neg (by omega)];exact hne b (by omega)
  ·rw [if_neg e1]
   by_cases e2:b=i
   ·rw [if_pos e2];exact fun e=>hne a ha e.symm
   ·rw [if_neg e2];exact h.dup a ha b hab
 ·by_cases e:k=i
  ·rw [e,hzi];exact hrat
  ·rw [hzk k hk e]
   have hk0:=h.pos k hk
   by_cases hd:0 < qAt (dirL p s (j:Int)) k
   ·rcases c.rat k hk hd with g | g
    ·rw [hz0 g];grind
    ·unfold ratQ at g
     generalize qAt (zL p s) i / qAt (dirL p s (j:Int)) i=ρ at *
     have h2:ρ * qAt (dirL p s (j:Int)) k≤qAt (zL p s) k / qAt (dirL p s (j:Int)) k * qAt (dirL p s (j:Int)) k:=Rat.mul_le_mul_of_nonneg_right g (Rat.le_of_lt hd)
     rw [Rat.div_mul_cancel (fun e=>by rw [e] at hd;exact absurd hd (by decide))] at h2
     grind
   ·generalize qAt (zL p s) i / qAt (dirL p s (j:Int)) i=ρ at *
    have h2:0≤ -qAt (dirL p s (j:Int)) k * ρ:=Rat.mul_nonneg (by grind) hrat
    grind
 ·have e':s.phase=2:=e
  rw [preS_at hb] at ha
  by_cases e1:k=i
  ·rw [if_pos e1] at ha;omega
  ·rw [if_neg e1] at ha
   rw [hzk k hk e1,h.art e' k hk ha]
   rcases c.art e' k hk ha with g | g
   ·rw [hz0 g];grind
   ·rw [g];grind
theorem pivQ_val {p:LPd} {s t:LSt} (h:Val p s) (e:pivQ p s=some t):Val p t:=by
 obtain ⟨i,j,c,rfl⟩:=piv_of h e
 exact (c.val h).settle
theorem runL_val {p:LPd}:∀{n:Nat} {s:LSt},Val p s→Val p (runL p n s)
 | 0,_,h=>h
 | n+1,s,h=>by
  cases e:pivQ p s with
  | none=>rw [runL_stop e];exact h
  | some t=>rw [runL_step e];exact runL_val (pivQ_val h e)
theorem runL_add {p:LPd}:∀{a b:Nat} {s:LSt},runL p (a+b) s=runL p b (runL p a s)
 | 0,b,s=>by rw [Nat.zero_add];rfl
 | a+1,b,s=>by
  cases e:pivQ p s with
  | none=>rw [runL_stop e,runL_stop e,runL_stop e]
  | some t=>rw [show a+1+b=(a+b)+1 by omega,runL_step e,runL_step e];exact runL_add
end Pl
end
section
namespace Pl
section
variable {p:LPd} {s:LSt}
def objQ (p:LPd) (ph:Int) (s:LSt):Rat:=sumN (fun i=>costQ p ph (s.at_ i) * qAt (zL p s) i) p.right.length
def ydot (p:LPd) (s:LSt) (j:Int):Rat:=sumN (fun r=>p.col j r * qAt (dualL p s) r) p.right.length
theorem red_eq (h:Reg p s) (j:Int):redQ p s j=costQ p s.phase j - ydot p s j:=by
 unfold redQ
 rw [dual_len h,Nat.min_self,dotC_canL]
 have e:dotC (dualL p s) (p.col j) p.right.length=ydot p s j:=sumN_congr fun r _=>by grind
 rw [e]
theorem ydot_comb (h:Reg p s) {x b:Nat→Rat} (hx:∀r,r < p.right.length→mulC p.right.length (s.mat p) x r=b r):sumN (fun r=>b r * qAt (dualL p s) r) p.right.length=sumN (fun i=>costQ p s.phase (s.at_ i) * x i) p.right.length:=by
 rw [sumN_congr (g:=fun r=>sumN (fun i=>x i * (s.mat p i r * qAt (dualL p s) r)) p.right.length) fun r hr=>by
  rw [← hx r hr]
  unfold mulC
  rw [Rat.mul_comm,← sumN_mul]
  exact sumN_congr fun i _=>by grind]
 rw [sumN_swap]
 exact sumN_congr fun i hi=>by rw [sumN_mul,dual_spec h i hi];grind
theorem ydot_dir (h:Reg p s) (j:Int):ydot p s j=sumN (fun i=>costQ p s.phase (s.at_ i) * qAt (dirL p s j) i) p.right.length:=ydot_comb h (dir_spec h j)
theorem Piv.obj (h:Val p s) {i j:Nat} (c:Piv p s i j):objQ p s.phase (preS s i (j:Int))=objQ p s.phase s+redQ p s (j:Int) * (qAt (zL p s) i / qAt (dirL p s (j:Int)) i):=by
 have hb:i < s.basis.length:=by rw [h.fit.len];exact c.hi
 obtain ⟨hreg,hzi,hzk⟩:=c.z h
 rw [red_eq h.reg,ydot_dir h.reg]
 unfold objQ
 obtain ⟨ρ,hρ⟩:∃ρ,ρ=qAt (zL p s) i / qAt (dirL p s (j:Int)) i:=⟨_,rfl⟩
 have hd:ρ * qAt (dirL p s (j:Int)) i=qAt (zL p s) i:=by rw [hρ];exact Rat.div_mul_cancel c.d0
 rw [← hρ]
 rw [sumN_congr (g:=fun k=>(costQ p s.phase (s.at_ k) * qAt (zL p s) k - ρ * (costQ p s.phase (s.at_ k) * qAt (dirL p s (j:Int)) k))+(if k=i then costQ p s.phase (j:Int) * ρ else 0)) fun k hk=>by
  rw [preS_at hb]
  by_cases e:k=i
  ·subst e;rw [if_pos rfl,if_pos rfl,hzi,← hρ];grind
  ·rw [if_neg e,if_neg e,hzk k hk e,← hρ];grind]
 rw [sumN_add,sumN_sub,sumN_mul,sumN_one c.hi]
 grind
theorem Piv.ratio (h:Val p s) {i j:Nat} (c:Piv p s i j):0≤qAt (zL p s) i / qAt (dirL p s (j:Int)) i:=by
 rcases c.dz with e | e
 ·rw [Rat.div_def]
  exact Rat.mul_nonneg (h.pos i c.hi) (Rat.le_of_lt (Rat.inv_pos.2 e))
 ·rw [e];simp [Rat.div_def]
theorem Piv.obj_le (h:Val p s) {i j:Nat} (c:Piv p s i j):objQ p s.phase (preS s i (j:Int))≤objQ p s.phase s:=by
 rw [c.obj h]
 have h1:=c.ratio h
 have h2:=c.red
 have h3:0≤ -redQ p s (j:Int) * (qAt (zL p s) i / qAt (dirL p s (j:Int)) i):=Rat.mul_nonneg (by grind) h1
 grind
theorem obj_settle (ph:Int):objQ p ph (settleQ p s)=objQ p ph s:=rfl
theorem settle_phase2 (h:s.phase=2):(settleQ p s).phase=2:=by
 unfold settleQ;simp only;split
 ·exact h
 ·rfl
def Settled (p:LPd) (s:LSt):Prop:=settleQ p s=s
theorem settled_settle:Settled p (settleQ p s):=settle_twice
theorem pivQ_settled {t:LSt} (e:pivQ p s=some t):Settled p t:=by
 unfold pivQ at e
 split at e
 ·split at e
  ·cases e
  ·injection e with e;subst e;exact settled_settle
 ·cases e
theorem runL_settled:∀{n:Nat} {s:LSt},Settled p s→Settled p (runL p n s)
 | 0,_,h=>h
 | n+1,s,h=>by
  cases e:pivQ p s with
  | none=>rw [runL_stop e];exact h
  | some t=>rw [runL_step e];exact runL_settled (pivQ_settled e)
theorem pivQ_phase (h:Val p s) {t:LSt} (e:pivQ p s=some t):s.phase≤t.phase∧t.phase≤2∧t.pivots=s.pivots+1:=by
 obtain ⟨i,j,c,rfl⟩:=piv_of h e
 have hp:=h.ph
 refine ⟨?_,?_,rfl⟩
 ·show s.phase≤(if artN (preS s i (j:Int)) _ _=true then s.phase else 2)
  split <;> omega
 ·show (if artN (preS s i (j:Int)) _ _=true then s.phase else 2)≤2
  split <;> omega
theorem pivQ_obj2 (h:Val p s) (h2:s.phase=2) {t:LSt} (e:pivQ p s=some t):objQ p 2 t≤objQ p 2 s∧t.phase=2:=by
 obtain ⟨i,j,c,rfl⟩:=piv_of h e
 refine ⟨?_,settle_phase2 h2⟩
 rw [obj_settle]
 have:=c.obj_le h
 rwa [h2] at this
theorem runL_phase:∀{n:Nat} {s:LSt},Val p s→s.phase≤(runL p n s).phase
 | 0,s,_=>Int.le_refl _
 | n+1,s,h=>by
  cases e:pivQ p s with
  | none=>rw [runL_stop e];exact Int.le_refl _
  | some t=>rw [runL_step e];exact Int.le_trans (pivQ_phase h e).1 (runL_phase (pivQ_val h e))
theorem runL_pivots:∀{n:Nat} {s:LSt},Val p s→(runL p n s).pivots≤s.pivots+n
 | 0,s,_=>by show s.pivots≤s.pivots+0;omega
 | n+1,s,h=>by
  cases e:pivQ p s with
  | none=>rw [runL_stop e];omega
  | some t=>
   rw [runL_step e]
   have h1:=runL_pivots (n:=n) (pivQ_val h e)
   have h2:=(pivQ_phase h e).2.2
   omega
end
end Pl
end
end Go.Proofs.YtncmobkhenfhpaaGreat
