/- Lemmas of the claim; no condition. -/
import Derived.OwnWalk
import Derived.Test.YtncmobkhenfhpaaGreatE19
set_option linter.all false
set_option maxRecDepth 100000
set_option maxHeartbeats 40000000
namespace Go.Proofs.YtncmobkhenfhpaaGreat
open Go.RowKit
open Pl
attribute [local go_sem ↓] Go.wp_at_zero Go.wp_at_succ
namespace Pl
def Zfq (p:LPd) (s:LSt) (j:Int):Rat:=Vi p s.phase j - Ygu (VP p s) (Z7 p.right.length (p.col j)) (min (VP p s).length p.right.length)
end Pl
section
namespace Pl
def Zqj (p:LPd) (s:LSt):Prop:=∀i,i < p.right.length→ -(p.right.length:Int)≤s.at_ i∧s.at_ i < p.cols.length
def Zwb (p:LPd) (s:LSt):Prop:=∀i,i < p.right.length→∀k,k < i→s.at_ i≠s.at_ k
def Zzq (p:LPd) (s:LSt):Prop:=∀i,i < p.right.length→¬qAt (zL p s) i < 0
instance (p:LPd) (s:LSt):Decidable (Zqj p s):=by unfold Zqj;infer_instance
instance (p:LPd) (s:LSt):Decidable (Zwb p s):=by unfold Zwb;infer_instance
instance (p:LPd) (s:LSt):Decidable (Zzq p s):=by unfold Zzq;infer_instance
def vsErr (p:LPd) (s:LSt):Int:=if s.basis.length≠p.right.length then 12 else if s.phase < 1∨2 < s.phase∨s.pivots < 0 then 5 else if ¬Zqj p s then 5 else if ¬Zwb p s then 7 else if zOk p s=false then 13 else if ¬Zzq p s then 16 else if s.phase=2∧U4 s (zL p s) (zL p s).length=true then 16 else 0
section
variable {p:LPd} {s:LSt}
theorem Yfm (h:s.basis.length≠p.right.length):vsErr p s=12:=by unfold vsErr;rw [if_pos h]
theorem Yfn (h:s.basis.length=p.right.length) (h2:s.phase < 1∨2 < s.phase∨s.pivots < 0):vsErr p s=5:=by unfold vsErr;rw [if_neg (by omega),if_pos h2]
theorem Yaw (h:s.basis.length=p.right.length) (h2:¬(s.phase < 1∨2 < s.phase∨s.pivots < 0)) (h3:¬Zqj p s):vsErr p s=5:=by unfold vsErr;rw [if_neg (by omega),if_neg h2,if_pos h3]
theorem Yfo (h:s.basis.length=p.right.length) (h2:¬(s.phase < 1∨2 < s.phase∨s.pivots < 0)) (h3:Zqj p s) (h4:¬Zwb p s):vsErr p s=7:=by unfold vsErr;rw [if_neg (by omega),if_neg h2,if_neg (by simpa using h3),if_pos h4]
theorem Ydp (h:s.basis.length=p.right.length) (h2:¬(s.phase < 1∨2 < s.phase∨s.pivots < 0)) (h3:Zqj p s) (h4:Zwb p s) (h5:zOk p s=false):vsErr p s=13:=by unfold vsErr;rw [if_neg (by omega),if_neg h2,if_neg (by simpa using h3),if_neg (by simpa using h4),if_pos h5]
theorem Yax (h:s.basis.length=p.right.length) (h2:¬(s.phase < 1∨2 < s.phase∨s.pivots < 0)) (h3:Zqj p s) (h4:Zwb p s) (h5:zOk p s=true) (h6:¬Zzq p s):vsErr p s=16:=by unfold vsErr;rw [if_neg (by omega),if_neg h2,if_neg (by simpa using h3),if_neg (by simpa using h4),if_neg (by rw [h5];decide),if_pos h6]
theorem Yfp (h:s.basis.length=p.right.length) (h2:¬(s.phase < 1∨2 < s.phase∨s.pivots < 0)) (h3:Zqj p s) (h4:Zwb p s) (h5:zOk p s=true) (h6:Zzq p s) (h7:s.phase=2∧U4 s (zL p s) (zL p s).length=true):vsErr p s=16:=by unfold vsErr;rw [if_neg (by omega),if_neg h2,if_neg (by simpa using h3),if_neg (by simpa using h4),if_neg (by rw [h5];decide),if_neg (by simpa using h6),if_pos h7]
theorem Yfq (h:s.basis.length=p.right.length) (h2:¬(s.phase < 1∨2 < s.phase∨s.pivots < 0)) (h3:Zqj p s) (h4:Zwb p s) (h5:zOk p s=true) (h6:Zzq p s) (h7:¬(s.phase=2∧U4 s (zL p s) (zL p s).length=true)):vsErr p s=0:=by unfold vsErr;rw [if_neg (by omega),if_neg h2,if_neg (by simpa using h3),if_neg (by simpa using h4),if_neg (by rw [h5];decide),if_neg (by simpa using h6),if_neg h7]
theorem Ydq (h:s.basis.length=p.right.length) (h3:Zqj p s):s.Fit p:=⟨fun i z hz=>by
 have hi:i < s.basis.length:=(List.getElem?_eq_some_iff.1 hz).1
 have:=h3 i (by omega)
 rw [LSt.at_eq hz] at this
 exact this,h⟩
theorem Ydr (h:vsErr p s=0):s.Fit p∧¬(s.phase < 1∨2 < s.phase∨s.pivots < 0)∧Zwb p s∧zOk p s=true∧Zzq p s∧¬(s.phase=2∧U4 s (zL p s) (zL p s).length=true):=by
 unfold vsErr at h;by_cases h1:s.basis.length≠p.right.length
 ·rw [if_pos h1] at h;omega
 rw [if_neg h1] at h;by_cases h2:s.phase < 1∨2 < s.phase∨s.pivots < 0
 ·rw [if_pos h2] at h;omega
 rw [if_neg h2] at h;by_cases h3:Zqj p s
 ·rw [if_neg (by simpa using h3)] at h;by_cases h4:Zwb p s
  ·rw [if_neg (by simpa using h4)] at h
   cases h5:zOk p s with
   | false=>rw [if_pos h5] at h;omega
   | true=>
    rw [if_neg (by rw [h5];decide)] at h;by_cases h6:Zzq p s
    ·rw [if_neg (by simpa using h6)] at h;by_cases h7:s.phase=2∧U4 s (zL p s) (zL p s).length=true
     ·rw [if_pos h7] at h;omega
     ·exact ⟨Ydq (by omega) h3,h2,h4,rfl,h6,h7⟩
    ·rw [if_pos h6] at h;omega
  ·rw [if_pos h4] at h;omega
 ·rw [if_pos h3] at h;omega
end
end Pl
end
namespace Pl
def YG (f:Nat→Rat):Nat→Nat→Option Nat
 | _,0=>none
 | r,n+1=>if f r < 0 then some r else YG f (r+1) n
theorem VF {f:Nat→Rat}:∀{n r:Nat},(∀i,r≤i→i < r+n→¬f i < 0)→YG f r n=none
 | 0,_,_=>rfl
 | n+1,r,h=>by
  unfold YG
  rw [if_neg (h r (JY _) (by omega))]
  exact VF fun i h1 h2=>h i (by omega) (by omega)
theorem VG {f:Nat→Rat}:∀{n r t:Nat},r≤t→t < r+n→f t < 0→(∀i,r≤i→i < t→¬f i < 0)→YG f r n=some t
 | 0,r,t,h1,h2,_,_=>by omega
 | n+1,r,t,h1,h2,h3,h4=>by
  unfold YG
  rcases Nat.eq_or_lt_of_le h1 with e | e
  ·subst e;rw [if_pos h3]
  ·rw [if_neg (h4 r (JY _) e)]
   exact VG (by omega) (by omega) h3 fun i h5 h6=>h4 i (by omega) h6
theorem XV {f:Nat→Rat}:∀{n r t:Nat},YG f r n=some t→r≤t∧t < r+n∧f t < 0∧∀i,r≤i→i < t→¬f i < 0
 | 0,_,_,h=>by cases h
 | n+1,r,t,h=>by
  unfold YG at h
  split at h
  ·injection h with h;subst h;exact ⟨JY _,by omega,by assumption,fun i h1 h2=>by omega⟩
  ·rename_i h0
   obtain ⟨h1,h2,h3,h4⟩:=XV h
   refine ⟨by omega,by omega,h3,fun i h5 h6=>?_⟩
   rcases Nat.eq_or_lt_of_le h5 with e | e
   ·subst e;exact h0
   ·exact h4 i (by omega) h6
def Zzr (p:LPd) (s:LSt):Option Nat:=YG (fun j=>Zfq p s (j:Int)) 0 p.cols.length
def dirL (p:LPd) (s:LSt) (j:Int):List RF:=Zim p.right.length (s.mat p) (qAt (Z7 p.right.length (p.col j)))
def VM (s:LSt) (d:List RF):Nat→Bool
 | 0=>decide (s.phase=2)
 | k+1=>if 0 < qAt d k∨(s.at_ k < 0∧qAt d k≠0) then false else VM s d k
def WL (p:LPd) (s:LSt):Int:=match Zzr p s with | some j=>(if VM s (dirL p s (j:Int)) (dirL p s (j:Int)).length then 3 else 0) | none=>if s.phase=1 then 2 else 1
def Zcd (p:LPd) (s:LSt):Int:=match Zzr p s with | some j=>(j:Int) | none=> -1
def Zce (p:LPd) (s:LSt):List RF:=match Zzr p s with | some j=>dirL p s (j:Int) | none=>[]
theorem Ug {p:LPd} {s:LSt} {j:Nat} (h:Zzr p s=some j):WL p s=(if VM s (dirL p s (j:Int)) (dirL p s (j:Int)).length then 3 else 0)∧Zcd p s=(j:Int)∧Zce p s=dirL p s (j:Int):=by unfold WL Zcd Zce;rw [h];exact ⟨rfl,rfl,rfl⟩
theorem Zbf {p:LPd} {s:LSt} (h:Zzr p s=none):WL p s=(if s.phase=1 then 2 else 1)∧Zcd p s= -1∧Zce p s=[]:=by unfold WL Zcd Zce;rw [h];exact ⟨rfl,rfl,rfl⟩
theorem Yay {p:LPd} {K:Nat} (F:p.Fit K) (s:LSt) (j:Int):RsL (5^p.right.length * K) (dirL p s j):=Zvo (fun _ _ _ _=>LPd.Sz_col F.ok F.k1 _ _) fun r hr=>by rw [YX hr];exact LPd.Sz_col F.ok F.k1 _ _
end Pl
namespace Pl
theorem Zqk {m:Nat} {cols:Mx} {b:Nat→Rat} {k:Nat} {f:RF} (h:(Zim m cols b)[k]? =some f):f=canF (qAt (Zim m cols b) k):=by
 cases e:YK m cols b with
 | none=>rw [Zlj e] at h;simp at h
 | some x=>
  rw [Zay e] at h ⊢;have hk:k < m:=by have:=(List.getElem?_eq_some_iff.1 h).1;rwa [Zi] at this
  rw [ZC hk] at h;injection h with h;rw [YX hk,← h]
end Pl
theorem Zcf [Old] {ops:Array Oper} {rest:List Oper} {o:Oper} {a:Act} {Q:Exit→Act→World→Prop} (hgd:o.guard=none) (s x:Operand)
 (ho:o.op= .call { callee:= .builtin .append,args:=#[s,x],argTypes:=#[22,22] })
 (W:World) (base:Nat) (v:Value) (zs:List Int) (hs:a.eval s=v) (hown:ZI base W v zs) (z:Int) (hz: -9223372036854775808≤z∧z≤9223372036854775807)
 (hx:a.eval x= .slice (some ⟨W.heap.size,0,none⟩) 1 1) (hn:zs.length+1≤1099511627776) (hbase:base≤W.heap.size)
 (h:∀v' w',ZI base w' v' (zs++[z])→Ze 3 W w'→Below base W w'→wpList Tryz.prog ops Q rest (a.put o.dst v') w') (hO:Old.n≤base:=by first | assumption | exact Nat.zero_le _ | omega | ((first | with_reducible refine Zb.le ?_ | with_reducible refine Zb.le1 ?_ | with_reducible refine Zb.le2 ?_ | with_reducible refine Zb.le3 ?_);repeat (first | assumption | exact Zb.up (by assumption) hOl | exact Zb.up (Hid.out (by assumption)) hOl | with_reducible refine Zb.set ?_ _ _ | with_reducible refine Zb.mk_ ?_ _ | with_reducible refine Zb.dr ?_ | with_reducible refine Zb.drN ?_ | refine Zb.up (by assumption) ?_ | refine Zb.up (Hid.out (by assumption)) ?_))):
 wpList Tryz.prog ops Q (o::rest) a (W.alloc (.cells #[.int .i64 z] 3)):=by
 obtain ⟨i0,hi,b,c,d⟩:=info_parts info_intT;refine YI hgd s x 22 ho 3 i0 _ 1 8 Tryz.underlying22 hi b c d rfl (by decide) W base v zs.length _ [.int .i64 z] hs hown.1 hx rfl (by intro u hu;simp at hu;subst hu;rfl) (by unfold maxLen;omega) (by omega) hbase fun v' w' g1 g2 g3=>h v' w' ⟨by simpa using g1,fun y hy=>?_⟩ g2 g3
 rcases List.mem_append.1 hy with e | e
 ·exact hown.2 y e
 ·simp at e;subst e;exact hz
namespace Pl
def Ziu (k:Nat):List Int:=(List.range k).map fun r:Nat=> -1 - (r:Int)
theorem Zwc (k:Nat):Ziu k++[-1 - (k:Int)]=Ziu (k+1):=by unfold Ziu;rw [List.range_succ,List.map_append];rfl
theorem VH (k:Nat):(Ziu k).length=k:=by simp [Ziu]
def Yx (p:LPd):LSt:=⟨1,Ziu p.right.length,0⟩
theorem Zcg (p:LPd):(Yx p).Fit p:=⟨fun i z hz=>by
 have hz':(Ziu p.right.length)[i]? =some z:=hz
 have hi:i < p.right.length:=by have:=(List.getElem?_eq_some_iff.1 hz').1;rwa [VH] at this
 simp [Ziu,hi] at hz'
 omega,VH _⟩
end Pl
theorem Ziv [Old] {w w0:World} {B g:Nat} {x y z:Value} (hB:Bk w g 29 [x,y,z]) (hb:Below B w0 w) (hg:B≤g) (x' y' z':Value) (hO:Old.n≤B:=by first | assumption | exact Nat.zero_le _ | omega | ((first | with_reducible refine Zb.le ?_ | with_reducible refine Zb.le1 ?_ | with_reducible refine Zb.le2 ?_ | with_reducible refine Zb.le3 ?_);repeat (first | assumption | exact Zb.up (by assumption) hOl | exact Zb.up (Hid.out (by assumption)) hOl | with_reducible refine Zb.set ?_ _ _ | with_reducible refine Zb.mk_ ?_ _ | with_reducible refine Zb.dr ?_ | with_reducible refine Zb.drN ?_ | refine Zb.up (by assumption) ?_ | refine Zb.up (Hid.out (by assumption)) ?_))):
 Bk (((w.setCell ⟨g,0,none⟩ x').setCell ⟨g,1,none⟩ y').setCell ⟨g,2,none⟩ z') g 29 [x',y',z']∧Ze 29 w (((w.setCell ⟨g,0,none⟩ x').setCell ⟨g,1,none⟩ y').setCell ⟨g,2,none⟩ z')∧Below B w0 (((w.setCell ⟨g,0,none⟩ x').setCell ⟨g,1,none⟩ y').setCell ⟨g,2,none⟩ z')∧
 ∀(g':Nat) (t:TypeId) (cs:List Value),g'≠g→Bk w g' t cs→Bk (((w.setCell ⟨g,0,none⟩ x').setCell ⟨g,1,none⟩ y').setCell ⟨g,2,none⟩ z') g' t cs:=by
 refine ⟨((hB.set_ 0 x').set_ 1 y').set_ 2 z',((Ze.setCell hB 0 x').trans (Ze.setCell (hB.set_ 0 x') 1 y')).trans (Ze.setCell ((hB.set_ 0 x').set_ 1 y') 2 z'),((hb.setCell (p:=⟨g,0,none⟩) hg _).setCell (p:=⟨g,1,none⟩) hg _).setCell (p:=⟨g,2,none⟩) hg _,fun g' t cs hne h=>?_⟩;unfold Bk at h ⊢;rw [heap_setCell_other _ _ _ _ hne,heap_setCell_other _ _ _ _ hne,heap_setCell_other _ _ _ _ hne];exact h
theorem Bk.set_other {w:World} {g g':Nat} {t:TypeId} {cs:List Value} (h:Bk w g' t cs) (hne:g'≠g) (i:Nat) (u:Value):Bk (w.setCell ⟨g,i,none⟩ u) g' t cs:=by
 unfold Bk at h ⊢;rw [heap_setCell_other _ _ _ _ hne];exact h
theorem Bk.lt_ {w:World} {g:Nat} {t:TypeId} {cs:List Value} (h:Bk w g t cs):g < w.heap.size:=Yo h
def Yds (m:Nat) (w:World) (g:Nat) (cs:List Value) (i:Value) (wr:World):Prop:=
 ∃(k:Nat) (A:Option Addr) (l c:Nat),k≤m∧i= .int .i64 k∧Below w.heap.size w wr∧Bk wr w.heap.size 26 cs∧Bk wr (w.heap.size+1) 29 [.int .i64 0,.slice none 0 0,.int .i64 0]∧Bk wr g 29 [.int .i64 1,.slice A l c,.int .i64 0]∧ZI w.heap.size wr (.slice A l c) (Ziu k)
theorem Zsp [Old] (v1:Value) (p:LPd) (K:Nat) (w:World) (h:LpM w v1 p) (F:p.Fit K) (hz:lpErr p=0) (hOl:Zb w:=by (repeat (first | assumption | exact Zb.up (by assumption) hOl | exact Zb.up (Hid.out (by assumption)) hOl | with_reducible refine Zb.set ?_ _ _ | with_reducible refine Zb.mk_ ?_ _ | with_reducible refine Zb.dr ?_ | with_reducible refine Zb.drN ?_ | refine Zb.up (by assumption) ?_ | refine Zb.up (Hid.out (by assumption)) ?_))):
 Calls Tryz.prog 17 #[v1] w fun e w'=>∃v',e= .returned (.tuple #[v',.int .i64 0])∧StO w.heap.size w' v' (Zy p (Yx p))∧Below w.heap.size w w':=by
 have a8:=hOl.le;obtain ⟨A,n,c,A',n',c',P,m,R,rfl,hc,hv,hr⟩:=id h;obtain ⟨W,hW,S,j⟩:=X9 w (.slice A n c) (.slice A' n' c') (.slice P m R);obtain ⟨W1,a5,C,o⟩:=Xa W (.int .i64 0) (.slice none 0 0) (.int .i64 0);have hX:=S.later o;have a:=Za j o j.size;have U:W.heap.size=w.heap.size+1:=by rw [← hW];simp
 rw [U] at C;obtain ⟨r1,r2,r3⟩:=hr.len;have G:=JZ h;have y:=JZ F;have HZ:=JZ hz;have HM:=JZ r1;have hm:m≤64:=by rw [r1];exact F.rows
 obtain ⟨x0,x1,x2⟩:=hX.three;clear h hc hv hr r1 S j o F hz;go_enter Tryz.func17,Tryz.ntmps17;go_wp2_with fail;clear hW a5;refine (Vy _ p K _ (G.out.below a) y.out.ok y.out.kb).mono ?_;rw [HZ.out];rintro _ w3 ⟨rfl,u⟩;have H:=hX.later u;have z:=C.later u;have b:=Za a u a.size;obtain ⟨W4,a6,r,s⟩:=Xa w3 (.int .i64 0) (.slice none 0 0) (.int .i64 0);have I:=H.later s;have J:=z.later s;have x:=Za b s b.size;obtain ⟨y0,y1,y2⟩:=r.three;obtain ⟨f0,f1,f2⟩:=r.threeF;have a9:w.heap.size+1 < w3.heap.size:=z.lt_;clear x0 x1 x2 hX C a u H z s;go_wp2;obtain ⟨k1,k2,k3,k4⟩:=Ziv (B:=w.heap.size) (w0:=w) r x b.size (.int .i64 1) (.slice none 0 0) (.int .i64 0);have L:=k4 _ _ _ (by omega) I;have M:=k4 _ _ _ (by omega) J;clear I J x r a6 y0 y1 y2 f0 f1 f2 k2 k4 b;generalize w3.heap.size=g at *;generalize ((W4.setCell ⟨g,0,none⟩ (.int .i64 1)).setCell ⟨g,1,none⟩ (.slice none 0 0)).setCell ⟨g,2,none⟩ (.int .i64 0)=W5 at *
 go_loopw [6] (fun i wr=>Yds m w g [.slice A n c,.slice A' n' c',.slice P m R] i wr) (fun i _=>m - (intOf i).toNat)
 case atStart=>exact ⟨0,none,0,0,by omega,rfl,k3,L,M,k1,ZI.nil _ _⟩
 case round=>
  clear k1 k3 L M;obtain ⟨k,A3,l,c3,hk,rfl,a,hX,hR,hS,hI⟩:=hrel;obtain ⟨x0,x1,x2⟩:=hX.three;obtain ⟨y0,y1,y2⟩:=hS.three;obtain ⟨f0,f1,f2⟩:=hS.threeF;rcases JX k m with hkl | hkl
  ·have aa:(k:Int) < m:=(by omega);have V: -9223372036854775808≤(-1 - (k:Int))∧(-1 - (k:Int))≤9223372036854775807:=(by omega);have N:(Ziu k).length+1≤1099511627776:=(by rw [VH];omega);have X:=a.size;go_wp2_with (at_builtin;refine Zcf rfl (.tmp 22) (.tmp 25) rfl wr w.heap.size (.slice A3 l c3) (Ziu k) rfl hI (-1 - (k:Int)) V rfl N X ?_);intro v' w7 E v T;rw [Zwc] at E;obtain ⟨Av,nv,cv,rfl⟩:=E.sliceN;have Y:=v.bk hX (by decide);have Z:=v.bk hR (by decide);have q:=v.bk hS (by decide);have O:=a.trans T;have a0:=E.but (Ze.setCell q 1 (.slice Av nv cv)) (by decide);have a1:=Y.set_other (g:=g) (by omega) 1 (.slice Av nv cv);have d:=Z.set_other (g:=g) (by omega) 1 (.slice Av nv cv);have a2:=q.set_ 1 (.slice Av nv cv);have f:=O.setCell (p:=⟨g,1,none⟩) (by simp;omega) (.slice Av nv cv);clear x0 x1 x2 y0 y1 y2 f0 f1 f2 hX hR hS hI a v T;obtain ⟨y0,y1,y2⟩:=q.three;obtain ⟨f0,f1,f2⟩:=q.threeF;go_wp2;go_roundw
   case rel=>exact ⟨k+1,Av,nv,cv,by omega,by go_num,f,a1,d,a2,a0⟩
   case measure=>simp [intOf];omega
  ·obtain rfl:m=k:=by omega
   have a3:Hid (StM wr (.agg #[.int .i64 1,.slice A3 l c3,.int .i64 0]) (Yx p)):=JZ ⟨A3,l,c3,rfl,by show X6 wr _ (Ziu p.right.length);rw [← HM.out];exact hI.ints⟩;go_wp2_with fail;refine (Znu _ _ p (Yx p) K _ (G.out.below a) a3.out y.out (Zcg p)).mono ?_;obtain ⟨t,ht⟩:∃t,Zy p (Yx p)=t:=⟨_,rfl⟩;rw [ht];rintro _ w8 ⟨v8,rfl,⟨A8,l8,c8,rfl,a7⟩,D⟩;have d:=hR.later D;have f:=Za a D a.size;have a4:=a.size;clear x0 x1 x2 y0 y1 y2 f0 f1 f2 hX hR hS hI a D;obtain ⟨r0,r1,r2⟩:=d.three;obtain ⟨f0,f1,f2⟩:=d.threeF;obtain ⟨k1,k2,k3,k4⟩:=Ziv (B:=w.heap.size) (w0:=w) d f (by omega) (.int .i64 t.phase) (.slice A8 l8 c8) (.int .i64 t.pivots);go_wp2;refine YR Tryz.results17 Tryz.underlying29 (by kernel_rfl) rfl k1 rfl ?_;exact ⟨_,rfl,by rw [ht];exact ⟨A8,l8,c8,rfl,(a7.monoB a4).but k2 (by decide)⟩,k3⟩
namespace Pl
def VR (Z D:List RF) (i:Nat):Rat:=qAt Z i / qAt D i
def better (p:LPd) (s:LSt) (Z D:List RF) (i b:Nat):Prop:=VR Z D i < VR Z D b∨(VR Z D i=VR Z D b∧ordQ p (s.at_ i) < ordQ p (s.at_ b))
instance (p:LPd) (s:LSt) (Z D:List RF) (i b:Nat):Decidable (better p s Z D i b):=by unfold better;infer_instance
def Yv (p:LPd) (s:LSt) (Z D:List RF):Nat→Option Nat
 | 0=>none
 | k+1=>if 0 < qAt D k then (match Yv p s Z D k with | none=>some k | some b=>if better p s Z D k b then some k else some b) else Yv p s Z D k
theorem Vj {p:LPd} {s:LSt} {Z D:List RF} {k:Nat} (h:¬0 < qAt D k):Yv p s Z D (k+1)=Yv p s Z D k:=by rw [Yv,if_neg h]
theorem WM {p:LPd} {s:LSt} {Z D:List RF} {k:Nat} (hb:Yv p s Z D k=none) (h:0 < qAt D k):Yv p s Z D (k+1)=some k:=by rw [Yv,if_pos h,hb]
theorem Xb {p:LPd} {s:LSt} {Z D:List RF} {k t:Nat} (hb:Yv p s Z D k=some t) (h:0 < qAt D k) (g:better p s Z D k t):Yv p s Z D (k+1)=some k:=by rw [Yv,if_pos h,hb];simp only;rw [if_pos g]
theorem Xu {p:LPd} {s:LSt} {Z D:List RF} {k t:Nat} (hb:Yv p s Z D k=some t) (h:0 < qAt D k) (g:¬better p s Z D k t):Yv p s Z D (k+1)=some t:=by rw [Yv,if_pos h,hb];simp only;rw [if_neg g]
theorem VI {p:LPd} {s:LSt} {Z D:List RF}:∀{k t:Nat},Yv p s Z D k=some t→t < k∧0 < qAt D t
 | 0,t,h=>by cases h
 | k+1,t,h=>by
  by_cases h0:0 < qAt D k
  ·cases hb:Yv p s Z D k with
   | none=>rw [WM hb h0] at h;injection h with h;subst h;exact ⟨by omega,h0⟩
   | some b=>
    obtain ⟨h1,h2⟩:=VI hb
    by_cases g:better p s Z D k b
    ·rw [Xb hb h0 g] at h;injection h with h;subst h;exact ⟨by omega,h0⟩
    ·rw [Xu hb h0 g] at h;injection h with h;subst h;exact ⟨by omega,h2⟩
  ·rw [Vj h0] at h
   obtain ⟨h1,h2⟩:=VI h
   exact ⟨by omega,h2⟩
def oi:Option Nat→Int
 | none=> -1
 | some b=>(b:Int)
def Zsq (s:LSt) (D:List RF) (i:Nat):Rat:=if s.at_ i < 0∧qAt D i≠0 then -1 else 0
theorem Zql {s:LSt} {D:List RF} {i:Nat} (h1:s.at_ i < 0) (h2:qAt D i≠0):Zsq s D i < 0:=by unfold Zsq;rw [if_pos ⟨h1,h2⟩];decide
theorem Zwd {s:LSt} {D:List RF} {i:Nat} (h:¬(s.at_ i < 0∧qAt D i≠0)):¬Zsq s D i < 0:=by unfold Zsq;rw [if_neg h];decide
def Vk (p:LPd) (s:LSt) (Z D:List RF):Option Nat:=if s.phase=2 then (match YG (Zsq s D) 0 D.length with | some i=>some i | none=>Yv p s Z D D.length) else Yv p s Z D D.length
theorem Ziw {p:LPd} {s:LSt} {Z D:List RF} (h:¬s.phase=2):Vk p s Z D=Yv p s Z D D.length:=by unfold Vk;rw [if_neg h]
theorem Zix {p:LPd} {s:LSt} {Z D:List RF} (h:s.phase=2) {i:Nat} (hf:YG (Zsq s D) 0 D.length=some i):Vk p s Z D=some i:=by unfold Vk;rw [if_pos h,hf]
theorem Ziy {p:LPd} {s:LSt} {Z D:List RF} (h:s.phase=2) (hf:YG (Zsq s D) 0 D.length=none):Vk p s Z D=Yv p s Z D D.length:=by unfold Vk;rw [if_pos h,hf]
theorem Zqm {p:LPd} {s:LSt} {Z D:List RF} {i:Nat} (h:Vk p s Z D=some i):i < D.length:=by
 by_cases hp:s.phase=2
 ·cases hf:YG (Zsq s D) 0 D.length with
  | some j=>rw [Zix hp hf] at h;injection h with h;subst h;have:=XV hf;omega
  | none=>rw [Ziy hp hf] at h;exact (VI h).1
 ·rw [Ziw hp] at h;exact (VI h).1
def Xh (p:LPd) (s:LSt) (Z D:List RF) (k:Nat) (z:Int):Prop:=(z= -1∧Yv p s Z D k=none)∨∃t:Nat,z=(t:Int)∧t < k∧Yv p s Z D k=some t
end Pl
namespace Pl
def Zsr (p:LPd) (s:LSt):Option LSt:=if WL p s=0 then (match Vk p s (zL p s) (Zce p s) with | none=>none | some i=>some (Zy p ⟨s.phase,s.basis.set i (Zcd p s),s.pivots+1⟩)) else none
theorem Yaz {p:LPd} {s:LSt} (h:WL p s≠0):Zsr p s=none:=by unfold Zsr;rw [if_neg h]
theorem Yba {p:LPd} {s:LSt} (h:Vk p s (zL p s) (Zce p s)=none):Zsr p s=none:=by unfold Zsr;rw [h];split <;> rfl
theorem Ybb {p:LPd} {s:LSt} {i:Nat} (h:WL p s=0) (h2:Vk p s (zL p s) (Zce p s)=some i):Zsr p s=some (Zy p ⟨s.phase,s.basis.set i (Zcd p s),s.pivots+1⟩):=by unfold Zsr;rw [h2,if_pos h]
def Zgz (p:LPd):Nat→LSt→LSt
 | 0,s=>s
 | n+1,s=>match Zsr p s with | none=>s | some t=>Zgz p n t
theorem Zff {p:LPd} {s:LSt} (h:Zsr p s=none) (n:Nat):Zgz p n s=s:=by cases n with | zero=>rfl | succ n=>rw [Zgz,h]
theorem Zlt {p:LPd} {s t:LSt} (h:Zsr p s=some t) (n:Nat):Zgz p (n+1) s=Zgz p n t:=by rw [Zgz,h]
theorem Zwe {p:LPd} {s:LSt} (h:WL p s=0):∃j:Nat,Zzr p s=some j∧j < p.cols.length∧Zcd p s=(j:Int)∧Zce p s=dirL p s (j:Int):=by
 cases he:Zzr p s with
 | none=>rw [(Zbf he).1] at h;split at h <;> omega
 | some j=>exact ⟨j,rfl,by have:=(XV he).2.1;omega,(Ug he).2.1,(Ug he).2.2⟩
theorem Ydt {p:LPd} {s:LSt} (S:s.Fit p) {j:Int} (h0:0≤j) (h1:j < p.cols.length) (i:Nat) (k:Int):(LSt.mk s.phase (s.basis.set i j) k).Fit p:=by
 refine ⟨fun i' z hz=>?_,by show (s.basis.set i j).length=_;rw [List.length_set];exact S.2⟩;have a:(s.basis.set i j)[i']? =some z:=hz;by_cases e:i=i'
 ·subst e;have hi:i < s.basis.length:=by have:=(List.getElem?_eq_some_iff.1 a).1;rwa [List.length_set] at this
  rw [List.getElem?_set_self hi] at a;injection a with a;omega
 ·rw [List.getElem?_set_ne e] at a;exact S.1 i' z a
end Pl
section
namespace Pl
theorem Xf.tr {m:Nat} {cols:Mx} (h:Xf m cols):Xf m (trM cols):=by
 intro y hy r hr;obtain ⟨x,hx⟩:=XH h fun i=>if i=r then 1 else 0
 have e:=(Ws hx x).2 fun k _=>rfl
 have h1:ZZ (fun i=>y i * Xw m cols x i) m=y r:=by
  rw [Y9 hr fun i hi hne=>by rw [e i hi,if_neg hne];grind,e r hr,if_pos rfl];grind
 have h2:ZZ (fun i=>y i * Xw m cols x i) m=ZZ (fun c=>Xw m (trM cols) y c * x c) m:=by
  unfold Xw;rw [Zn (g:=fun i=>ZZ (fun c=>y i * (cols c i * x c)) m) fun i _=>(Xo _ _ _).symm,Ub];exact Zn fun c _=>by
   unfold trM;rw [Rat.mul_comm,← Xo];exact Zn fun i _=>by grind
 rw [← h1,h2];exact Vf fun c hc=>by rw [hy c hc];grind
section
variable {p:LPd} {s:LSt}
def Reg (p:LPd) (s:LSt):Prop:=Xf p.right.length (s.mat p)
theorem Zwf (h:zOk p s=true):Reg p s:=by
 unfold zOk at h;obtain ⟨x,hx⟩:=Option.isSome_iff_exists.1 h;exact Zhx hx
theorem Zwg (h:Reg p s):zOk p s=true:=by
 obtain ⟨x,hx⟩:=XH h (qAt p.right);unfold zOk;rw [hx];rfl
theorem WN {m:Nat} {cols:Mx} (h:Xf m cols) (b:Nat→Rat):(Zim m cols b).length=m∧∀r,r < m→Xw m cols (qAt (Zim m cols b)) r=b r:=by
 obtain ⟨x,hx⟩:=XH h b;rw [Zay hx,Zi];refine ⟨rfl,fun r hr=>?_⟩;rw [← (Ws hx x).2 (fun k _=>rfl) r hr];exact Zn fun c hc=>by rw [YX hc]
theorem Zlu {m:Nat} {cols:Mx} (h:Xf m cols) {b x:Nat→Rat} (hx:∀r,r < m→Xw m cols x r=b r):∀k,k < m→qAt (Zim m cols b) k=x k:=by
 obtain ⟨z,hz,he⟩:=Zau h hx;intro k hk;rw [Zay hz,YX hk,he k hk]
theorem Zwh (h:Reg p s):∀r,r < p.right.length→Xw p.right.length (s.mat p) (qAt (zL p s)) r=qAt p.right r:=(WN h _).2
theorem Ybc (h:Reg p s) {x:Nat→Rat} (hx:∀r,r < p.right.length→Xw p.right.length (s.mat p) x r=qAt p.right r):∀k,k < p.right.length→qAt (zL p s) k=x k:=Zlu h hx
theorem Zod (h:Reg p s):(zL p s).length=p.right.length:=(WN h _).1
theorem Ux (h:Reg p s) (j:Int):∀r,r < p.right.length→Xw p.right.length (s.mat p) (qAt (dirL p s j)) r=p.col j r:=fun r hr=>by
 unfold dirL
 rw [(WN h _).2 r hr,YX hr]
theorem Zoe (h:Reg p s) (j:Int):(dirL p s j).length=p.right.length:=(WN h _).1
theorem Ziz (h:Reg p s):(VP p s).length=p.right.length:=(WN h.tr _).1
theorem Zwi (h:Reg p s):∀k,k < p.right.length→ZZ (fun r=>s.mat p k r * qAt (VP p s) r) p.right.length=Vi p s.phase (s.at_ k):=fun k hk=>by
 have e:=(WN h.tr (qAt (Z7 p.right.length fun i=>Vi p s.phase (s.at_ i)))).2 k hk
 rw [YX hk] at e
 exact e
theorem Zwj (h:Reg p s) {k:Nat} (hk:k < p.right.length):Zfq p s (s.at_ k)=0:=by
 unfold Zfq;rw [Ziz h,Nat.min_self,Zku,← Zwi h k hk];have e:Yec (VP p s) (p.col (s.at_ k)) p.right.length=ZZ (fun r=>s.mat p k r * qAt (VP p s) r) p.right.length:=Zn fun r _=>by show _=p.col (s.at_ k) r * _;grind
 rw [e];grind
theorem Zch {zs:List RF}:∀{n:Nat},U4 s zs n=false→∀k,k < n→s.at_ k < 0→qAt zs k=0
 | 0,_,k,hk,_=>by omega
 | n+1,h,k,hk,ha=>by
  unfold U4 at h
  rw [Bool.or_eq_false_iff] at h
  rcases JX k n with e | e
  ·exact Zch h.1 k e ha
  ·obtain rfl:k=n:=by omega
   simpa [ha] using h.2
theorem Zja {zs:List RF}:∀{n:Nat},(∀k,k < n→s.at_ k < 0→qAt zs k=0)→U4 s zs n=false
 | 0,_=>rfl
 | n+1,h=>by
  unfold U4
  rw [Zja fun k hk=>h k (by omega)]
  by_cases ha:s.at_ n < 0
  ·simp [ha,h n (by omega) ha]
  ·simp [ha]
structure Val (p:LPd) (s:LSt):Prop where
 fit:s.Fit p
 ph:s.phase=1∨s.phase=2
 pv:0≤s.pivots
 dup:∀i,i < p.right.length→∀k,k < i→s.at_ i≠s.at_ k
 reg:Reg p s
 pos:∀i,i < p.right.length→0≤qAt (zL p s) i
 art:s.phase=2→∀i,i < p.right.length→s.at_ i < 0→qAt (zL p s) i=0
theorem Zwk (h:vsErr p s=0):Val p s:=by
 obtain ⟨h1,h2,h3,h4,h5,h6⟩:=Ydr h;have hr:=Zwf h4;exact ⟨h1,by omega,by omega,h3,hr,fun i hi=>Rat.not_lt.1 (h5 i hi),fun e i hi ha=>by
  have:U4 s (zL p s) (zL p s).length=false:=by
   cases hb:U4 s (zL p s) (zL p s).length with
   | false=>rfl
   | true=>exact absurd ⟨e,hb⟩ h6
  exact Zch this i (by rw [Zod hr];exact hi) ha⟩
theorem Val.vs (h:Val p s):vsErr p s=0:=by
 have hb:=h.fit.len;refine Yfq hb (by have:=h.ph;have:=h.pv;omega) (fun i hi=>?_) h.dup (Zwg h.reg) (fun i hi=>Rat.not_lt.2 (h.pos i hi)) fun e=>?_
 ·have a:i < s.basis.length:=by omega
  have:=h.fit.in_ i _ (JQ a);rw [LSt.at_eq (JQ a)];exact this
 ·have:=Zja (zs:=zL p s) (n:=(zL p s).length) fun k hk ha=>h.art e.1 k (by rw [← Zod h.reg];exact hk) ha
  rw [this] at e;exact absurd e.2 (by decide)
theorem Val.settle (h:Val p s):Val p (Zy p s):=by
 refine ⟨Zfb h.fit,?_,h.pv,h.dup,h.reg,h.pos,fun e i hi ha=>?_⟩
 ·show (if U4 s (zL p s) (zL p s).length=true then s.phase else 2)=1∨(if U4 s (zL p s) (zL p s).length=true then s.phase else 2)=2;split
  ·exact h.ph
  ·exact .inr rfl
 ·have e':(if U4 s (zL p s) (zL p s).length=true then s.phase else 2)=2:=e
  cases hb:U4 s (zL p s) (zL p s).length with
  | false=>exact Zch hb i (by rw [Zod h.reg];exact hi) ha
  | true=>rw [hb,if_pos rfl] at e';exact h.art e' i hi ha
theorem settle_twice:Zy p (Zy p s)=Zy p s:=by
 unfold Zy;have e:∀ph,U4 ⟨ph,s.basis,s.pivots⟩ (zL p ⟨ph,s.basis,s.pivots⟩) (zL p ⟨ph,s.basis,s.pivots⟩).length=U4 s (zL p s) (zL p s).length:=fun ph=>by
  have e1:zL p ⟨ph,s.basis,s.pivots⟩=zL p s:=rfl;rw [e1];generalize (zL p s).length=n
  induction n with
  | zero=>rfl
  | succ n ih=>unfold U4;rw [ih];rfl
 simp only [e]
 cases U4 s (zL p s) (zL p s).length <;> simp
end
theorem Ydu {k i:Nat} (h:i < k):(Ziu k)[i]? =some (-1 - (i:Int)):=by simp [Ziu,h]
theorem Zfg {p:LPd} {i:Nat} (h:i < p.right.length):(Yx p).at_ i= -1 - (i:Int):=LSt.at_eq (Ydu h)
theorem Zfh (p:LPd):Val p (Yx p):=by
 have hm:∀k,k < p.right.length→(Yx p).mat p k=fun i=>if i=k then (if qs (qAt p.right i) < 0 then -1 else 1) else 0:=fun k hk=>by
  show p.col ((Yx p).at_ k)=_;rw [Zfg hk];exact LPd.col_neg
 have a:∀y r,r < p.right.length→Xw p.right.length ((Yx p).mat p) y r=(if qs (qAt p.right r) < 0 then -1 else 1) * y r:=fun y r hr=>by
  unfold Xw;rw [Y9 hr fun i hi hne=>by rw [hm i hi];simp only;rw [if_neg (fun e=>hne e.symm)];grind,hm r hr];simp
 have b:Reg p (Yx p):=fun y hy k hk=>by
  have:=hy k hk;rw [a y k hk] at this;split at this <;> grind
 have hz:=Ybc b (x:=fun i=>(if qs (qAt p.right i) < 0 then -1 else 1) * qAt p.right i) fun r hr=>by
  rw [a _ r hr];split <;> grind
 refine ⟨Zcg p,.inl rfl,Int.le_refl _,fun i hi k hk=>?_,b,fun i hi=>?_,fun e=>by cases e⟩
 ·rw [Zfg hi,Zfg (by omega)];omega
 ·rw [hz i hi];split
  ·rename_i h;have:=Zei.1 h;grind
  ·rename_i h
   have:¬qAt p.right i < 0:=fun g=>h (Zei.2 g)
   grind
theorem Zbg {p:LPd} {s:LSt} {Z D:List RF}:∀{n t:Nat},Yv p s Z D n=some t→∀k,k < n→0 < qAt D k→VR Z D t≤VR Z D k
 | 0,t,h,k,hk,_=>by omega
 | n+1,t,h,k,hk,hd=>by
  by_cases h0:0 < qAt D n
  ·cases hb:Yv p s Z D n with
   | none=>
    rw [WM hb h0] at h
    injection h with h
    subst h
    rcases JX k n with e | e
    ·exfalso
     have:∀{m:Nat},Yv p s Z D m=none→∀k,k < m→¬0 < qAt D k:=fun {m}=>by
      induction m with
      | zero=>intro _ k hk;omega
      | succ m ih=>
       intro hm k hk
       by_cases hq:0 < qAt D m
       ·exfalso
        cases hb2:Yv p s Z D m with
        | none=>rw [WM hb2 hq] at hm;cases hm
        | some b=>
         by_cases g:better p s Z D m b
         ·rw [Xb hb2 hq g] at hm;cases hm
         ·rw [Xu hb2 hq g] at hm;cases hm
       ·rw [Vj hq] at hm
        rcases JX k m with e' | e'
        ·exact ih hm k e'
        ·obtain rfl:k=m:=by omega
         exact hq
     exact this hb k e hd
    ·obtain rfl:k=n:=by omega
     exact Rat.le_refl
   | some b=>
    have ih:=Zbg hb
    by_cases g:better p s Z D n b
    ·rw [Xb hb h0 g] at h
     injection h with h
     subst h
     rcases JX k n with e | e
     ·have h1:=ih k e hd
      have h2:VR Z D n≤VR Z D b:=by
       rcases g with g | ⟨g,_⟩
       ·exact Rat.le_of_lt g
       ·rw [g];exact Rat.le_refl
      grind
     ·obtain rfl:k=n:=by omega
      exact Rat.le_refl
    ·rw [Xu hb h0 g] at h;injection h with h;subst h;rcases JX k n with e | e
     ·exact ih k e hd
     ·obtain rfl:k=n:=by omega
      have:¬VR Z D k < VR Z D b:=fun e=>g (.inl e)
      grind
  ·rw [Vj h0] at h;rcases JX k n with e | e
   ·exact Zbg h k e hd
   ·obtain rfl:k=n:=by omega
    exact absurd hd h0
def Zlv (s:LSt) (i:Nat) (j:Int):LSt:=⟨s.phase,s.basis.set i j,s.pivots+1⟩
theorem Zjb {s:LSt} {i:Nat} {j:Int} (hi:i < s.basis.length) (k:Nat):(Zlv s i j).at_ k=if k=i then j else s.at_ k:=by
 unfold LSt.at_ Zlv;simp only [List.getD_eq_getElem?_getD];by_cases e:k=i
 ·subst e;rw [if_pos rfl,List.getElem?_set_self hi];rfl
 ·rw [if_neg e,List.getElem?_set_ne (fun h=>e h.symm)]
theorem Zdi {p:LPd} {s:LSt} {i:Nat} {j:Int} (hi:i < s.basis.length):(Zlv s i j).mat p=Zbm (s.mat p) i (p.col j):=by
 funext k
 show p.col ((Zlv s i j).at_ k)=_;rw [Zjb hi k];unfold Zbm;by_cases e:k=i
 ·rw [if_pos e,if_pos e]
 ·rw [if_neg e,if_neg e];rfl
structure Piv (p:LPd) (s:LSt) (i j:Nat):Prop where
 hi:i < p.right.length
 hj:j < p.cols.length
 red:Zfq p s (j:Int) < 0
 d0:qAt (dirL p s (j:Int)) i≠0
 dz:0 < qAt (dirL p s (j:Int)) i∨qAt (zL p s) i=0
 rat:∀k,k < p.right.length→0 < qAt (dirL p s (j:Int)) k→qAt (zL p s) i=0∨VR (zL p s) (dirL p s (j:Int)) i≤VR (zL p s) (dirL p s (j:Int)) k
 art:s.phase=2→∀k,k < p.right.length→s.at_ k < 0→qAt (zL p s) i=0∨qAt (dirL p s (j:Int)) k=0
theorem Yfr {p:LPd} {s:LSt} (h:Val p s) {t:LSt} (e:Zsr p s=some t):∃i j:Nat,Piv p s i j∧t=Zy p (Zlv s i (j:Int)):=by
 by_cases hq:WL p s=0
 ·cases hl:Vk p s (zL p s) (Zce p s) with
  | none=>rw [Yba hl] at e;cases e
  | some i=>
   rw [Ybb hq hl] at e;injection e with e;obtain ⟨j,l,hj,hJ,hD⟩:=Zwe hq;rw [hJ] at e;rw [hD] at hl;have c:=Zoe h.reg (j:Int);have hi:i < p.right.length:=(by rw [← c];exact Zqm hl);refine ⟨i,j,?_,e.symm⟩;have a:=(XV l).2.2.1;by_cases b:s.phase=2
   ·cases hf:YG (Zsq s (dirL p s (j:Int))) 0 (dirL p s (j:Int)).length with
    | some i'=>
     rw [Zix b hf] at hl;injection hl with hl;subst hl;obtain ⟨_,_,f3,_⟩:=XV hf;have ha:s.at_ i' < 0∧qAt (dirL p s (j:Int)) i'≠0:=by
      unfold Zsq at f3;split at f3
      ·assumption
      ·exact absurd f3 (by decide)
     have hz:=h.art b i' hi ha.1;exact ⟨hi,hj,a,ha.2,.inr hz,fun _ _ _=> .inl hz,fun _ _ _ _=> .inl hz⟩
    | none=>
     rw [Ziy b hf] at hl;have hp:=(VI hl).2;refine ⟨hi,hj,a,fun e=>by rw [e] at hp;exact absurd hp (by decide),.inl hp,fun k hk hd=> .inr (Zbg hl k (by rw [c];exact hk) hd),fun _ k hk ha=> .inr ?_⟩;by_cases e0:qAt (dirL p s (j:Int)) k=0
     ·exact e0
     ·exfalso;have d:∀(f:Nat→Rat) (n r:Nat),YG f r n=none→∀i,r≤i→i < r+n→¬f i < 0:=by
       intro f n
       induction n with
       | zero=>intro r _ i h1 h2;omega
       | succ n ih=>
        intro r hr i h1 h2;unfold YG at hr;split at hr
        ·cases hr
        ·rename_i g
         rcases Nat.eq_or_lt_of_le h1 with e | e
         ·subst e;exact g
         ·exact ih (r+1) hr i (by omega) (by omega)
      exact d _ _ _ hf k (Nat.zero_le _) (by rw [c];omega) (Zql ha e0)
   ·rw [Ziw b] at hl;have hp:=(VI hl).2;exact ⟨hi,hj,a,fun e=>by rw [e] at hp;exact absurd hp (by decide),.inl hp,fun k hk hd=> .inr (Zbg hl k (by rw [c];exact hk) hd),fun e=>absurd e b⟩
 ·rw [Yaz hq] at e;cases e
theorem Piv.z {p:LPd} {s:LSt} (h:Val p s) {i j:Nat} (c:Piv p s i j):Reg p (Zlv s i (j:Int))∧qAt (zL p (Zlv s i (j:Int))) i=qAt (zL p s) i / qAt (dirL p s (j:Int)) i∧
 ∀k,k < p.right.length→k≠i→qAt (zL p (Zlv s i (j:Int))) k=qAt (zL p s) k - qAt (dirL p s (j:Int)) k * (qAt (zL p s) i / qAt (dirL p s (j:Int)) i):=by
 have hb:i < s.basis.length:=by rw [h.fit.len];exact c.hi
 have a:Reg p (Zlv s i (j:Int)):=by
  unfold Reg;rw [Zdi hb];exact Zej c.hi h.reg (Ux h.reg (j:Int)) c.d0
 have hx:=Ybc a (x:=fun k=>if k=i then qAt (zL p s) i / qAt (dirL p s (j:Int)) i else qAt (zL p s) k - qAt (dirL p s (j:Int)) k * (qAt (zL p s) i / qAt (dirL p s (j:Int)) i)) (by
  rw [Zdi hb];exact Zhz c.hi (Ux h.reg (j:Int)) c.d0 (Zwh h.reg) (if_pos rfl) fun k _ hne=>by
   simp only [if_neg hne];simp)
 refine ⟨a,?_,fun k hk hne=>?_⟩
 ·rw [hx i c.hi,if_pos rfl]
 ·rw [hx k hk,if_neg hne]
theorem Piv.val {p:LPd} {s:LSt} (h:Val p s) {i j:Nat} (c:Piv p s i j):Val p (Zlv s i (j:Int)):=by
 have hb:i < s.basis.length:=by rw [h.fit.len];exact c.hi
 obtain ⟨n,q,o⟩:=c.z h;have d:0≤qAt (zL p s) i / qAt (dirL p s (j:Int)) i:=by
  rcases c.dz with e | e
  ·rw [Rat.div_def];exact Rat.mul_nonneg (h.pos i c.hi) (Rat.le_of_lt (Rat.inv_pos.2 e))
  ·rw [e];simp [Rat.div_def]
 have f:qAt (zL p s) i=0→qAt (zL p s) i / qAt (dirL p s (j:Int)) i=0:=fun e=>by rw [e];simp [Rat.div_def]
 refine ⟨Ydt h.fit (by omega) (by have:=c.hj;omega) i _,h.ph,by have:=h.pv;show 0≤s.pivots+1;omega,fun a ha b hab=>?_,n,fun k hk=>?_,fun e k hk ha=>?_⟩
 ·rw [Zjb hb,Zjb hb];have m:∀l,l < p.right.length→(j:Int)≠s.at_ l:=fun l hl e=>by
   have h1:=c.red;rw [e,Zwj h.reg hl] at h1;exact absurd h1 (by decide)
  by_cases e1:a=i
  ·rw [if_pos e1,if_neg (by omega)];exact m b (by omega)
  ·rw [if_neg e1];by_cases e2:b=i
   ·rw [if_pos e2];exact fun e=>m a ha e.symm
   ·rw [if_neg e2];exact h.dup a ha b hab
 ·by_cases e:k=i
  ·rw [e,q];exact d
  ·rw [o k hk e];have r:=h.pos k hk;by_cases hd:0 < qAt (dirL p s (j:Int)) k
   ·rcases c.rat k hk hd with g | g
    ·rw [f g];grind
    ·unfold VR at g;generalize qAt (zL p s) i / qAt (dirL p s (j:Int)) i=ρ at *;have h2:ρ * qAt (dirL p s (j:Int)) k≤qAt (zL p s) k / qAt (dirL p s (j:Int)) k * qAt (dirL p s (j:Int)) k:=Rat.mul_le_mul_of_nonneg_right g (Rat.le_of_lt hd);rw [Rat.div_mul_cancel (fun e=>by rw [e] at hd;exact absurd hd (by decide))] at h2;grind
   ·generalize qAt (zL p s) i / qAt (dirL p s (j:Int)) i=ρ at *;have h2:0≤ -qAt (dirL p s (j:Int)) k * ρ:=Rat.mul_nonneg (by grind) d;grind
 ·have e':s.phase=2:=e;rw [Zjb hb] at ha;by_cases e1:k=i
  ·rw [if_pos e1] at ha;omega
  ·rw [if_neg e1] at ha;rw [o k hk e1,h.art e' k hk ha];rcases c.art e' k hk ha with g | g
   ·rw [f g];grind
   ·rw [g];grind
theorem Zqn {p:LPd} {s t:LSt} (h:Val p s) (e:Zsr p s=some t):Val p t:=by
 obtain ⟨i,j,c,rfl⟩:=Yfr h e;exact (c.val h).settle
theorem Zqo {p:LPd}:∀{n:Nat} {s:LSt},Val p s→Val p (Zgz p n s)
 | 0,_,h=>h
 | n+1,s,h=>by
  cases e:Zsr p s with
  | none=>rw [Zff e];exact h
  | some t=>rw [Zlt e];exact Zqo (Zqn h e)
end Pl
end
section
namespace Pl
section
variable {p:LPd} {s:LSt}
def Yfs (p:LPd) (ph:Int) (s:LSt):Rat:=ZZ (fun i=>Vi p ph (s.at_ i) * qAt (zL p s) i) p.right.length
end
end Pl
end
namespace Pl
def vc (c:Nat):Bool:=(c % 6==0 || (c % 6 !=c / 6 % 6 && c % 6 !=c / 36)) && (c / 6 % 6==0 || c / 6 % 6 !=c / 36)
def rk:Nat→Nat
 | 0=>0
 | c+1=>rk c+(if vc c then 1 else 0)
end Pl
section
namespace Pl
section
variable {p:LPd} {s:LSt}
structure Perm (p:LPd) (s t:LSt) (F:Nat→Nat):Prop where
 inj:Inj p.right.length p.right.length F
 at_:∀i,i < p.right.length→t.at_ i=s.at_ (F i)
end
end Pl
end
end Go.Proofs.YtncmobkhenfhpaaGreat
