/- Contracts and plain facts that the claim is built on, joined out of smaller texts; no condition. -/
import Derived.Deep.LoopGhost
import Derived.Test.YtncmobkhenfhpaaGreatB3
set_option linter.unusedVariables false
set_option linter.unusedSimpArgs false
set_option maxRecDepth 100000
set_option maxHeartbeats 40000000
namespace Go.Proofs.YtncmobkhenfhpaaGreat
open Go.RowKit
open Pl
attribute [local go_sem ↓] Go.wp_at_zero Go.wp_at_succ
section
def Bk (w:World) (g:Nat) (t:TypeId) (cs:List Value):Prop:=w.heap[g]? =some (.cells cs.toArray t (0,0))
section
variable {w w':World} {g:Nat} {t:TypeId} {cs:List Value}
theorem Bk.lt (h:Bk w g t cs):g < w.heap.size:=lt_heap h
theorem Bk.cell (h:Bk w g t cs) (i:Nat):w.cell? ⟨g,i,none⟩=cs[i]? :=by rw [cell_of_row w g i _ t (0,0) h];simp
theorem Bk.cellAt (h:Bk w g t cs) (i:Nat) {v:Value} (hv:cs[i]? =some v):w.cell? ⟨g,i,none⟩=some v:=by rw [h.cell,hv]
theorem Bk.frozen (h:Bk w g t cs) (i:Nat):w.frozen? ⟨g,i,none⟩=false:=frozen_of_row w g i _ t h
theorem Bk.new (w:World) (t:TypeId) (cs:List Value):Bk (w.alloc (.cells cs.toArray t)) w.heap.size t cs:=heap_alloc_new w _
theorem Bk.alloc (h:Bk w g t cs) (o:Obj):Bk (w.alloc o) g t cs:=(Below.heap_alloc w o g h.lt).trans h
theorem Bk.drew (h:Bk w g t cs):Bk w.drew g t cs:=h
theorem Bk.drewN (h:Bk w g t cs) (n:Nat):Bk (w.drewN n) g t cs:=h
theorem Bk.set_ (h:Bk w g t cs) (i:Nat) (u:Value):Bk (w.setCell ⟨g,i,none⟩ u) g t (cs.set i u):=by
 unfold Bk at h ⊢
 rw [heap_setCell_same w g i _ t u h]
 simp
theorem Bk.far (h:Bk w g t cs) {p:Addr} (hp:g≠p.block) (u:Value):Bk (w.setCell p u) g t cs:=(Below.heap_setCell w p u g hp).trans h
theorem Bk.below {B:Nat} (h:Bk w g t cs) (hb:Below B w w') (hg:g < B):Bk w' g t cs:=(hb.block g hg).trans h
theorem Bk.later (h:Bk w g t cs) (hb:Below w.heap.size w w'):Bk w' g t cs:=h.below hb h.lt
theorem Bk.grown {row:Option Nat} (h:Bk w g t cs) (hg:w.grownBy w' row) (hne:some g≠row):Bk w' g t cs:=(hg.block g h.lt hne).trans h
theorem Bk.ne_of {g':Nat} {t':TypeId} {cs':List Value} (h:Bk w g t cs) (h':Bk w g' t' cs') (hne:t≠t'):g≠g':=by
 rintro rfl
 unfold Bk at h h'
 rw [h] at h'
 injection h' with h'
 injection h' with _ h2 _
 exact hne h2
theorem Bk.keepD (h:Bk w g t cs) (ht:t≠123) (i:Nat) (u:Value):Keep w (w.setCell ⟨g,i,none⟩ u):=Keep.setCell h ht i u
end
theorem ret_cell {P:Program} {fn:Func} {R:Ending→World→Prop} {a:Act} {w:World} {p:Tmp} {ty:TypeId} {g:Nat} {t:TypeId} {cs:List Value} {fs:Array Field} (hres:fn.results=#[.cell p ty]) (hu:P.underlying ty=some (.struct fs)) (hi:(P.info? ty).map (·.size)=some cs.length)
 (hp:a.tmps.getD p undef= .pointer (some ⟨g,0,none⟩)) (hB:Bk w g t cs) (hd:a.defers=[]) (hR:R (.returned (.agg cs.toArray)) w):bodyPost P fn R .ret a w:=
 bodyPost_ret (results_cell_row hres a.tmps w g t cs.toArray (0,0) _ hp hB hu rfl (by simpa using hi)) hd hR
end
namespace Pl
structure RI where
 neg:Bool
 ds:List Nat
def RI.z (a:RI):Int:=if a.neg then -(val a.ds:Int) else (val a.ds:Int)
def canI (z:Int):RI:=⟨decide (z < 0),digs z.natAbs⟩
def sm (neg:Bool) (n:Nat):Int:=if neg then -(n:Int) else (n:Int)
theorem RI.z_eq (a:RI):a.z=sm a.neg (val a.ds):=rfl
theorem canI_sm (neg:Bool) (n:Nat) (h:n≠0):canI (sm neg n)=⟨neg,digs n⟩:=by
 cases neg <;> simp [canI,sm] <;> omega
theorem canI_zero:canI 0=⟨false,[]⟩:=by simp [canI,digs_zero]
theorem sm_zero (neg:Bool):sm neg 0=0:=by cases neg <;> simp [sm]
theorem canI_z (z:Int):(canI z).z=z:=by
 simp only [RI.z,canI,val_digs]
 by_cases h:z < 0
 ·simp [h];omega
 ·simp [h];omega
theorem z_natAbs (a:RI):a.z.natAbs=val a.ds:=by
 unfold RI.z;split <;> simp
end Pl
def IntM (w:World) (v:Value) (a:RI):Prop:=∃s,v= .agg #[.bool a.neg,s]∧DigM w s a.ds
theorem IntM.keep {w w':World} {v:Value} {a:RI} (h:IntM w v a) (hk:Keep w w'):IntM w' v a:=by
 obtain ⟨s,h1,h2⟩:=h;exact ⟨s,h1,h2.keep hk⟩
theorem IntM.below {w w':World} {v:Value} {a:RI} (h:IntM w v a) (hb:Below w.heap.size w w'):IntM w' v a:=h.keep (Keep.of_below hb)
theorem IntM.zero (w:World):IntM w (.agg #[.bool false,.slice none 0 0]) (canI 0):=by
 rw [canI_zero];exact ⟨_,rfl,DigM.nil _ _ _ (by simp)⟩
theorem Bk.two {w:World} {g:Nat} {t:TypeId} {a b:Value} (h:Bk w g t [a,b]):w.cell? ⟨g,0,none⟩=some a∧w.cell? ⟨g,1,none⟩=some b∧w.frozen? ⟨g,0,none⟩=false∧w.frozen? ⟨g,1,none⟩=false:=
 ⟨h.cellAt 0 rfl,h.cellAt 1 rfl,h.frozen 0,h.frozen 1⟩
theorem Bk.set2 {w:World} {g:Nat} {t:TypeId} {a b:Value} (h:Bk w g t [a,b]) (c d:Value):Bk ((w.setCell ⟨g,0,none⟩ c).setCell ⟨g,1,none⟩ d) g t [c,d]:=(h.set_ 0 c).set_ 1 d
theorem Bk.keep2 {w:World} {g:Nat} {t:TypeId} {a b:Value} (h:Bk w g t [a,b]) (ht:t≠123) (c d:Value):Keep w ((w.setCell ⟨g,0,none⟩ c).setCell ⟨g,1,none⟩ d):=
 (h.keepD ht _ _).trans ((h.set_ 0 c).keepD ht _ _)
theorem below_set2 {n g:Nat} {w w':World} (h:Below n w w') (hg:n≤g) (c d:Value):Below n w ((w'.setCell ⟨g,0,none⟩ c).setCell ⟨g,1,none⟩ d):=(h.setCell hg _).setCell hg _
theorem below_new (w:World) (o:Obj):Below w.heap.size w (w.alloc o):=(Below.refl _ _).alloc (Nat.le_refl _) _
theorem below_then {n:Nat} {w w1 w2:World} (h:Below n w w1) (h2:Below w1.heap.size w1 w2) (hn:n≤w1.heap.size):Below n w w2:=h.trans (h2.mono hn)
theorem IntM.shape {w:World} {v:Value} {a:RI} (h:IntM w v a):∃A n c,v= .agg #[.bool a.neg,.slice A n c]∧DigM w (.slice A n c) a.ds:=by
 obtain ⟨s,rfl,h2⟩:=h
 obtain ⟨A,n,c,rfl⟩:=h2.shape
 exact ⟨A,n,c,rfl,h2⟩
theorem fin_int {w w2:World} {m g:Nat} {x y b s:Value} {a:RI} (hR:Bk w2 g 46 [x,y]) (d:IntM w2 (.agg #[b,s]) a) (hbe:Below m w w2) (hg:m≤g):
 ∃v',Ending.returned (.agg [b,s].toArray)= .returned v'∧IntM ((w2.setCell ⟨g,0,none⟩ b).setCell ⟨g,1,none⟩ s) v' a∧Below m w ((w2.setCell ⟨g,0,none⟩ b).setCell ⟨g,1,none⟩ s):=
 ⟨_,rfl,d.keep (hR.keep2 (by decide) _ _),below_set2 hbe hg _ _⟩
theorem wrap_any (neg:Bool) (v:Value) (ds:List Nat) (w:World) (h:DigM w v ds):
 Calls Tryz.prog 149 #[.bool neg,v] w fun e w'=>∃v',e= .returned v'∧IntM w' v' (canI (sm neg (val ds)))∧Below w.heap.size w w':=by
 have hR:=Bk.new w 46 [.bool false,.slice none 0 0]
 have hbe:=below_new w (.cells [.bool false,.slice none 0 0].toArray 46)
 have h':=h.below hbe
 go_enter Tryz.func149,Tryz.ntmps149
 go_wp2_with fail
 generalize w.alloc _=W at *
 refine (trim_any _ ds _ h').mono ?_
 rintro e w1 ⟨v1,rfl,h1,rfl⟩
 obtain ⟨A,n,c,rfl⟩:=h1.shape
 obtain ⟨kl,kl',knc,kc⟩:=h1.len
 obtain ⟨c0,c1,f0,f1⟩:=hR.two
 rcases Nat.eq_zero_or_pos n with h0 | h0
 ·subst h0
  have hv:val ds=0:=by
   rcases Nat.eq_zero_or_pos (val ds) with e | e
   ·exact e
   ·have:=digs_len_pos e;omega
  have HV:=Lib.hid hv
  clear hv kl kl'
  go_wp2
  refine ret_cell Tryz.results149 Tryz.underlying46 (by kernel_rfl) rfl (hR.set2 _ _) rfl ?_
  exact ⟨_,rfl,by rw [HV.out,sm_zero];exact IntM.zero _,below_set2 hbe (Nat.le_refl _) _ _⟩
 ·have hv:val ds≠0:=by
   intro e
   rw [e,digs_zero] at kl
   simp at kl
   omega
  have HV:=Lib.hid hv
  clear hv kl kl'
  go_wp2
  refine ret_cell Tryz.results149 Tryz.underlying46 (by kernel_rfl) rfl (hR.set2 _ _) rfl ?_
  refine ⟨_,rfl,?_,below_set2 hbe (Nat.le_refl _) _ _⟩
  rw [canI_sm _ _ HV.out]
  exact ⟨_,rfl,h1.keep (hR.keep2 (by decide) _ _)⟩
theorem fromInt64_any (z:Int) (w:World) (h0: -9223372036854775808≤z) (h1:z≤9223372036854775807):
 Calls Tryz.prog 140 #[.int .i64 z] w fun e w'=>∃v',e= .returned v'∧IntM w' v' (canI z)∧Below w.heap.size w w':=by
 have hR:=Bk.new w 46 [.bool false,.slice none 0 0]
 have hbe:=below_new w (.cells [.bool false,.slice none 0 0].toArray 46)
 rcases Int.lt_or_le z 0 with hn | hn
 ·have e1:IntKind.u64.wrap z=z+18446744073709551616:=by simp [IntKind.wrap,IntKind.bits,IntKind.signed];omega
  have e2:IntKind.u64.wrap (-(z+18446744073709551616))= -z:=by simp [IntKind.wrap,IntKind.bits,IntKind.signed];omega
  go_enter Tryz.func140,Tryz.ntmps140
  go_wp2_with fail
  generalize w.alloc _=W at *
  refine (fromWord_any (-z) _ (by omega) (by omega)).mono ?_
  rintro e w1 ⟨v1,rfl,d1,hb1⟩
  go_wp2_with fail
  refine (wrap_any true _ _ _ d1).mono ?_
  have hz:sm true (val (digs (-z).toNat))=z:=by rw [val_digs];simp [sm];omega
  rw [hz]
  rintro e w2 ⟨v2,rfl,d2,hb2⟩
  obtain ⟨A,n,c,rfl,_⟩:=d2.shape
  have hR2:=(hR.later hb1).later hb2
  obtain ⟨c0,c1,f0,f1⟩:=hR2.two
  go_wp2
  refine ret_cell Tryz.results140 Tryz.underlying46 (by kernel_rfl) rfl (hR2.set2 _ _) rfl ?_
  exact fin_int hR2 d2 (below_then (below_then hbe hb1 hbe.size) hb2 (Nat.le_trans hbe.size hb1.size)) (Nat.le_refl _)
 ·have e1:IntKind.u64.wrap z=z:=u64_in _ hn (by omega)
  go_enter Tryz.func140,Tryz.ntmps140
  go_wp2_with fail
  generalize w.alloc _=W at *
  refine (fromWord_any z _ (by omega) (by omega)).mono ?_
  rintro e w1 ⟨v1,rfl,d1,hb1⟩
  go_wp2_with fail
  refine (wrap_any false _ _ _ d1).mono ?_
  have hz:sm false (val (digs z.toNat))=z:=by rw [val_digs];simp [sm];omega
  rw [hz]
  rintro e w2 ⟨v2,rfl,d2,hb2⟩
  obtain ⟨A,n,c,rfl,_⟩:=d2.shape
  have hR2:=(hR.later hb1).later hb2
  obtain ⟨c0,c1,f0,f1⟩:=hR2.two
  go_wp2
  refine ret_cell Tryz.results140 Tryz.underlying46 (by kernel_rfl) rfl (hR2.set2 _ _) rfl ?_
  exact fin_int hR2 d2 (below_then (below_then hbe hb1 hbe.size) hb2 (Nat.le_trans hbe.size hb1.size)) (Nat.le_refl _)
namespace Pl
def sgn (z:Int):Int:=if z < 0 then -1 else if z=0 then 0 else 1
theorem sgn_neg {z:Int} (h:z < 0):sgn z= -1:=by simp [sgn,h]
theorem sgn_zero:sgn 0=0:=by simp [sgn]
theorem sgn_pos {z:Int} (h:0 < z):sgn z=1:=by simp [sgn];omega
theorem len_zero {n:Nat} (h:(digs n).length=0):n=0:=by
 rcases Nat.eq_zero_or_pos n with e | e
 ·exact e
 ·have:=digs_len_pos e;omega
theorem len_pos {n:Nat} (h:0 < (digs n).length):n≠0:=by
 intro e
 rw [e,digs_zero] at h
 simp at h
end Pl
theorem sign_any (v:Value) (a:RI) (w:World) (h:IntM w v a):
 Calls Tryz.prog 119 #[v] w fun e w'=>e= .returned (.int .i64 (sgn a.z))∧Below w.heap.size w w':=by
 obtain ⟨A,n,c,rfl,hd⟩:=h.shape
 obtain ⟨neg,ds⟩:=a
 simp only at hd ⊢
 have hR:=Bk.new w 46 [.bool neg,.slice A n c]
 have hbe:=below_new w (.cells [.bool neg,.slice A n c].toArray 46)
 go_enter Tryz.func119,Tryz.ntmps119
 go_wp2_with fail
 have hd':=hd.below hbe
 generalize w.alloc _=W at *
 obtain ⟨c0,c1,f0,f1⟩:=hR.two
 refine (trim_any _ ds _ hd').mono ?_
 rintro e w1 ⟨v1,rfl,h1,rfl⟩
 obtain ⟨A1,n1,k1,rfl⟩:=h1.shape
 obtain ⟨kl,kl',knc,kc⟩:=h1.len
 rcases Nat.eq_zero_or_pos n1 with h0 | h0
 ·subst h0
  have hv:val ds=0:=len_zero (by omega)
  have hz:sgn (RI.z ⟨neg,ds⟩)=0:=by rw [RI.z_eq,hv,sm_zero,sgn_zero]
  have HZ:=Lib.hid hz
  clear hv hz kl kl'
  go_wp2
  go_ret
  exact ⟨by rw [HZ.out];rfl,hbe⟩
 ·have hv:val ds≠0:=len_pos (by omega)
  clear kl kl'
  cases neg
  ·have hz:sgn (RI.z ⟨false,ds⟩)=1:=by rw [RI.z_eq];exact sgn_pos (by simp [sm];omega)
   have HZ:=Lib.hid hz
   clear hv hz
   go_wp2
   go_ret
   exact ⟨by rw [HZ.out];rfl,hbe⟩
  ·have hz:sgn (RI.z ⟨true,ds⟩)= -1:=by rw [RI.z_eq];exact sgn_neg (by simp [sm];omega)
   have HZ:=Lib.hid hz
   clear hv hz
   go_wp2
   go_ret
   exact ⟨by rw [HZ.out];rfl,hbe⟩
theorem size_alloc (w:World) (o:Obj):(w.alloc o).heap.size=w.heap.size+1:=by simp
theorem box1 (w:World) (x y:Value):∃W,(w.alloc (.cells #[x,y] 46)).alloc (.cells #[.bool false,.slice none 0 0] 46)=W∧Bk W w.heap.size 46 [x,y]∧Bk W (w.heap.size+1) 46 [.bool false,.slice none 0 0]∧Below w.heap.size w W:=by
 refine ⟨_,rfl,(Bk.new w _ [x,y]).alloc _,?_,(below_new w _).alloc (by simp) _⟩
 have:=Bk.new (w.alloc (.cells #[x,y] 46)) 46 [.bool false,.slice none 0 0]
 rwa [size_alloc] at this
theorem box2 (w:World) (x y x' y':Value):∃W,((w.alloc (.cells #[x,y] 46)).alloc (.cells #[x',y'] 46)).alloc (.cells #[.bool false,.slice none 0 0] 46)=W∧Bk W w.heap.size 46 [x,y]∧Bk W (w.heap.size+1) 46 [x',y']∧Bk W (w.heap.size+1+1) 46 [.bool false,.slice none 0 0]∧Below w.heap.size w W:=by
 refine ⟨_,rfl,((Bk.new w _ [x,y]).alloc _).alloc _,?_,?_,((below_new w _).alloc (by simp) _).alloc (by simp;omega) _⟩
 ·have:=Bk.new (w.alloc (.cells #[x,y] 46)) 46 [x',y']
  rw [size_alloc] at this
  exact this.alloc _
 ·have:=Bk.new ((w.alloc (.cells #[x,y] 46)).alloc (.cells #[x',y'] 46)) 46 [.bool false,.slice none 0 0]
  rwa [size_alloc,size_alloc] at this
theorem Bk.pair {w:World} {g:Nat} {t:TypeId} {a b:Value} (h:Bk w g t [a,b]):w.cell? ⟨g,0,none⟩=some a∧w.cell? ⟨g,1,none⟩=some b:=⟨h.two.1,h.two.2.1⟩
theorem Bk.two_far {w:World} {g g':Nat} {t:TypeId} {a b:Value} (h:Bk w g t [a,b]) (hne:g≠g') (c d:Value):((w.setCell ⟨g',0,none⟩ c).setCell ⟨g',1,none⟩ d).cell? ⟨g,0,none⟩=some a∧((w.setCell ⟨g',0,none⟩ c).setCell ⟨g',1,none⟩ d).cell? ⟨g,1,none⟩=some b:=
 ((h.far (p:=⟨g',0,none⟩) hne c).far (p:=⟨g',1,none⟩) hne d).pair
theorem cell_keep {w w':World} {p:Addr} {v:Value} (hb:Below w.heap.size w w') (h:w.cell? p=some v):w'.cell? p=some v:=cell_later hb h
theorem sm_not (neg:Bool) (n:Nat):sm (!neg) n= - sm neg n:=by cases neg <;> simp [sm]
theorem wrap_dig (neg:Bool) (v:Value) (n:Nat) (w:World) (h:DigM w v (digs n)):
 Calls Tryz.prog 149 #[.bool neg,v] w fun e w'=>∃v',e= .returned v'∧IntM w' v' (canI (sm neg n))∧Below w.heap.size w w':=by
 have:=wrap_any neg v (digs n) w h
 rwa [val_digs] at this
theorem negate_any (v:Value) (a:RI) (w:World) (h:IntM w v a) (hs:(digs (val a.ds)).length≤549755813888):
 Calls Tryz.prog 146 #[v] w fun e w'=>∃v',e= .returned v'∧IntM w' v' (canI (- a.z))∧Below w.heap.size w w':=by
 obtain ⟨A,n,c,rfl,hd⟩:=h.shape
 obtain ⟨neg,ds⟩:=a
 simp only at hd hs ⊢
 obtain ⟨W,hW,hX,hR,hbe⟩:=box1 w (.bool neg) (.slice A n c)
 have hdX:=hd.below hbe
 go_enter Tryz.func146,Tryz.ntmps146
 go_wp2_with fail
 clear hW
 obtain ⟨x0,x1,y0,y1⟩:=hX.two
 go_region_held3 (fun w'=>w'.cell? ⟨w.heap.size,0,none⟩=some (.bool neg)∧w'.cell? ⟨w.heap.size,1,none⟩=some (.slice A n c))
  (first | exact ⟨x0,x1⟩ | exact (hX.drew.later hb2).pair | exact ((hX.drew.later hb2).later hb3).pair | exact ((hX.drew.later hb2).later hb3).two_far (by omega) _ _)
  (first
   | (go_at_call 143;refine (trim_any _ ds _ (hdX.keep (Keep.drew _))).mono ?_;rintro e w1 ⟨v1,rfl,h1,rfl⟩)
   | (go_at_call 163;refine (clone_any _ _ _ h1 (by omega)).mono ?_;rintro e w2 ⟨v2,rfl,h2,hb2⟩)
   | (go_at_call 149;refine (wrap_dig (!neg) _ _ _ (own_dig h2 (okD_digs _))).mono ?_;rintro e w3 ⟨v3,rfl,h3,hb3⟩;obtain ⟨A3,n3,k3,rfl,_⟩:=h3.shape;obtain ⟨c0,c1,f0,f1⟩:=((hR.drew.later hb2).later hb3).two))
 go_wp2
 refine ret_cell Tryz.results146 Tryz.underlying46 (by kernel_rfl) rfl (((hR.drew.later hb2).later hb3).set2 _ _) rfl ?_
 rw [RI.z_eq,← sm_not]
 exact fin_int ((hR.drew.later hb2).later hb3) h3 (below_then (below_then hbe.drew hb2 hbe.size) hb3 (Nat.le_trans hbe.size hb2.size)) (Nat.le_succ _)
namespace Pl
theorem sm_add_same (b:Bool) (X Y:Nat):sm b X+sm b Y=sm b (X+Y):=by cases b <;> simp [sm] <;> omega
theorem sm_sub_l {a b:Bool} (hab:(a==b)=false) {X Y:Nat} (h:Y≤X):sm a X+sm b Y=sm a (X - Y):=by cases a <;> cases b <;> simp [sm] at hab ⊢ <;> omega
theorem sm_sub_r {a b:Bool} (hab:(a==b)=false) {X Y:Nat} (h:X≤Y):sm a X+sm b Y=sm b (Y - X):=by cases a <;> cases b <;> simp [sm] at hab ⊢ <;> omega
end Pl
theorem addSigned_any (a b:Bool) (v1 v2:Value) (X Y:Nat) (w:World) (h1:DigM w v1 (digs X)) (h2:DigM w v2 (digs Y)) (hs:(digs X).length≤549755813888) (hs2:(digs Y).length≤549755813888):
 Calls Tryz.prog 152 #[.bool a,v1,.bool b,v2] w fun e w'=>∃v',e= .returned v'∧IntM w' v' (canI (sm a X+sm b Y))∧Below w.heap.size w w':=by
 have hR:=Bk.new w 46 [.bool false,.slice none 0 0]
 have hbe:=below_new w (.cells [.bool false,.slice none 0 0].toArray 46)
 have d1:=h1.below hbe
 have d2:=h2.below hbe
 by_cases hab:(a==b)=true
 ·obtain rfl:a=b:=by simpa using hab
  go_enter Tryz.func152,Tryz.ntmps152
  go_wp2_with fail
  generalize w.alloc _=W at *
  refine (addMag_any _ _ (digs X) (digs Y) _ d1 d2 hs hs2).mono ?_
  rw [val_digs,val_digs]
  rintro e w1 ⟨v1,rfl,e1,hb1⟩
  go_wp2_with fail
  refine (wrap_dig a _ _ _ e1).mono ?_
  rw [← sm_add_same]
  rintro e w2 ⟨v2,rfl,e2,hb2⟩
  obtain ⟨A,n,c,rfl,_⟩:=e2.shape
  have hR2:=(hR.later hb1).later hb2
  obtain ⟨c0,c1,f0,f1⟩:=hR2.two
  go_wp2
  refine ret_cell Tryz.results152 Tryz.underlying46 (by kernel_rfl) rfl (hR2.set2 _ _) rfl ?_
  exact fin_int hR2 e2 (below_then (below_then hbe hb1 hbe.size) hb2 (Nat.le_trans hbe.size hb1.size)) (Nat.le_refl _)
 ·have hab':(a==b)=false:=by simpa using hab
  clear hab
  rcases Nat.lt_or_ge X Y with hXY | hXY
  ·have hc:cmpN X Y= -1:=cmpN_lt hXY
   go_enter Tryz.func152,Tryz.ntmps152
   go_wp2_with fail
   generalize w.alloc _=W at *
   refine (compareMag_any _ _ X Y _ d1 d2).mono ?_
   rw [hc]
   rintro e w0 ⟨rfl,hb0⟩
   go_wp2_with fail
   refine (subMag_any _ _ (digs Y) (digs X) _ (d2.below hb0) (d1.below hb0) (by rw [val_digs,val_digs];omega) (digs_len_mono (Nat.le_of_lt hXY)) hs2).mono ?_
   rw [val_digs,val_digs]
   rintro e w1 ⟨v1,rfl,e1,hb1⟩
   go_wp2_with fail
   refine (wrap_dig b _ _ _ e1).mono ?_
   rw [← sm_sub_r hab' (Nat.le_of_lt hXY)]
   rintro e w2 ⟨v2,rfl,e2,hb2⟩
   obtain ⟨A,n,c,rfl,_⟩:=e2.shape
   have hR2:=((hR.later hb0).later hb1).later hb2
   obtain ⟨c0,c1,f0,f1⟩:=hR2.two
   go_wp2
   refine ret_cell Tryz.results152 Tryz.underlying46 (by kernel_rfl) rfl (hR2.set2 _ _) rfl ?_
   have b0:=below_then hbe hb0 hbe.size
   have b1:=below_then b0 hb1 b0.size
   exact fin_int hR2 e2 (below_then b1 hb2 b1.size) (Nat.le_refl _)
  ·have hc:0≤cmpN X Y:=by unfold cmpN;split;omega;split <;> omega
   have hcb:=cmpN_bd X Y
   go_enter Tryz.func152,Tryz.ntmps152
   go_wp2_with fail
   generalize w.alloc _=W at *
   refine (compareMag_any _ _ X Y _ d1 d2).mono ?_
   rintro e w0 ⟨rfl,hb0⟩
   generalize cmpN X Y=cc at *
   go_wp2_with fail
   refine (subMag_any _ _ (digs X) (digs Y) _ (d1.below hb0) (d2.below hb0) (by rw [val_digs,val_digs];omega) (digs_len_mono hXY) hs).mono ?_
   rw [val_digs,val_digs]
   rintro e w1 ⟨v1,rfl,e1,hb1⟩
   go_wp2_with fail
   refine (wrap_dig a _ _ _ e1).mono ?_
   rw [← sm_sub_l hab' hXY]
   rintro e w2 ⟨v2,rfl,e2,hb2⟩
   obtain ⟨A,n,c,rfl,_⟩:=e2.shape
   have hR2:=((hR.later hb0).later hb1).later hb2
   obtain ⟨c0,c1,f0,f1⟩:=hR2.two
   go_wp2
   refine ret_cell Tryz.results152 Tryz.underlying46 (by kernel_rfl) rfl (hR2.set2 _ _) rfl ?_
   have b0:=below_then hbe hb0 hbe.size
   have b1:=below_then b0 hb1 b0.size
   exact fin_int hR2 e2 (below_then b1 hb2 b1.size) (Nat.le_refl _)
theorem addI_any (v1 v2:Value) (a b:RI) (w:World) (h1:IntM w v1 a) (h2:IntM w v2 b) (hs:(digs (val a.ds)).length≤549755813888) (hs2:(digs (val b.ds)).length≤549755813888):
 Calls Tryz.prog 131 #[v1,v2] w fun e w'=>∃v',e= .returned v'∧IntM w' v' (canI (a.z+b.z))∧Below w.heap.size w w':=by
 obtain ⟨A,n,c,rfl,hd⟩:=h1.shape
 obtain ⟨A',n',c',rfl,hd'⟩:=h2.shape
 obtain ⟨neg,ds⟩:=a
 obtain ⟨neg',ds'⟩:=b
 simp only at hd hs hd' hs2 ⊢
 obtain ⟨W,hW,hX,hX',hR,hbe⟩:=box2 w (.bool neg) (.slice A n c) (.bool neg') (.slice A' n' c')
 have hdX:=hd.below hbe
 have hdX':=hd'.below hbe
 have tok:True:=trivial
 go_enter Tryz.func131,Tryz.ntmps131
 go_wp2_with fail
 clear hW
 go_region_held3 (fun w'=>(w'.cell? ⟨w.heap.size,0,none⟩=some (.bool neg)∧w'.cell? ⟨w.heap.size,1,none⟩=some (.slice A n c))∧(w'.cell? ⟨w.heap.size+1,0,none⟩=some (.bool neg')∧w'.cell? ⟨w.heap.size+1,1,none⟩=some (.slice A' n' c')))
  (first | exact ⟨hX.pair,hX'.pair⟩ | exact ⟨(hX.drew.later hb3).pair,(hX'.drew.later hb3).pair⟩ | exact ⟨(hX.drew.later hb3).two_far (by omega) _ _,(hX'.drew.later hb3).two_far (by omega) _ _⟩)
  (first
   | (go_at_call 143;have _t:=tok;refine (trim_any _ ds _ (hdX.keep (Keep.drew _))).mono ?_;clear tok _t;rintro e w1 ⟨v1,rfl,e1,rfl⟩)
   | (go_at_call 143;refine (trim_any _ ds' _ (hdX'.keep (Keep.drew _))).mono ?_;rintro e w1 ⟨v2,rfl,e2,rfl⟩)
   | (go_at_call 152;refine (addSigned_any neg neg' _ _ _ _ _ e1 e2 hs hs2).mono ?_;rintro e w3 ⟨v3,rfl,h3,hb3⟩;obtain ⟨A3,n3,k3,rfl,_⟩:=h3.shape;obtain ⟨c0,c1,f0,f1⟩:=(hR.drew.later hb3).two))
 go_wp2
 refine ret_cell Tryz.results131 Tryz.underlying46 (by kernel_rfl) rfl ((hR.drew.later hb3).set2 _ _) rfl ?_
 exact fin_int (hR.drew.later hb3) h3 (below_then hbe.drew hb3 hbe.size) (by omega)
theorem boxes (w:World) (x y x' y':Value):∃W,(w.alloc (.cells #[x,y] 46)).alloc (.cells #[x',y'] 46)=W∧Bk W w.heap.size 46 [x,y]∧Bk W (w.heap.size+1) 46 [x',y']∧Below w.heap.size w W:=by
 refine ⟨_,rfl,(Bk.new w _ [x,y]).alloc _,?_,(below_new w _).alloc (by simp) _⟩
 have:=Bk.new (w.alloc (.cells #[x,y] 46)) 46 [x',y']
 rwa [size_alloc] at this
namespace Pl
theorem sgn_cmp (X Y:Nat):sgn ((X:Int) - Y)=cmpN X Y:=by
 unfold sgn cmpN
 rcases Nat.lt_trichotomy X Y with h | h | h
 ·rw [if_pos (by omega),if_pos h]
 ·subst h;simp
 ·rw [if_neg (by omega),if_neg (by omega),if_neg (by omega),if_neg (by omega)]
theorem cmpI_nn (X Y:Nat):sgn (sm true X - sm true Y)=cmpN Y X:=by rw [← sgn_cmp];simp [sm];congr 1;omega
theorem cmpI_pp (X Y:Nat):sgn (sm false X - sm false Y)=cmpN X Y:=by rw [← sgn_cmp];simp [sm]
theorem cmpI_np (X Y:Nat) (h:X≠0):sgn (sm true X - sm false Y)= -1:=by apply sgn_neg;simp [sm];omega
theorem cmpI_pn (X Y:Nat) (h:Y≠0):sgn (sm false X - sm true Y)=1:=by apply sgn_pos;simp [sm];omega
theorem sm_z {n:Nat} (h:n=0) (b:Bool):sm b n=sm false n:=by subst h;simp [sm]
end Pl
theorem compareI_any (v1 v2:Value) (a b:RI) (w:World) (h1:IntM w v1 a) (h2:IntM w v2 b):
 Calls Tryz.prog 129 #[v1,v2] w fun e w'=>e= .returned (.int .i64 (sgn (a.z - b.z)))∧Below w.heap.size w w':=by
 obtain ⟨A,n,c,rfl,hd⟩:=h1.shape
 obtain ⟨A',n',c',rfl,hd'⟩:=h2.shape
 obtain ⟨neg,ds⟩:=a
 obtain ⟨neg',ds'⟩:=b
 simp only at hd hd' ⊢
 obtain ⟨W,hW,hX,hX',hbe⟩:=boxes w (.bool neg) (.slice A n c) (.bool neg') (.slice A' n' c')
 have hdX:=hd.below hbe
 have hdX':=hd'.below hbe
 rw [RI.z_eq,RI.z_eq]
 simp only
 have tok:True:=trivial
 go_enter Tryz.func129,Tryz.ntmps129
 go_wp2_with fail
 clear hW
 obtain ⟨x0,x1,_,_⟩:=hX.two
 obtain ⟨x0',x1',_,_⟩:=hX'.two
 go_region_held3 (fun w'=>(w'.cell? ⟨w.heap.size,0,none⟩=some (.bool neg)∧w'.cell? ⟨w.heap.size,1,none⟩=some (.slice A n c))∧(w'.cell? ⟨w.heap.size+1,0,none⟩=some (.bool neg')∧w'.cell? ⟨w.heap.size+1,1,none⟩=some (.slice A' n' c')))
  (exact ⟨hX.pair,hX'.pair⟩)
  (first
   | (go_at_call 143;have _t:=tok;refine (trim_any _ ds _ (hdX.keep (Keep.drew _))).mono ?_;clear tok _t;rintro e w1 ⟨v1,rfl,e1,rfl⟩)
   | (go_at_call 143;refine (trim_any _ ds' _ (hdX'.keep (Keep.drew _))).mono ?_;rintro e w1 ⟨v2,rfl,e2,rfl⟩))
 have hX2:=hX.drew
 have hX2':=hX'.drew
 have hbe2:=hbe.drew
 clear hX hX' hbe hdX hdX' x0 x1 x0' x1'
 generalize W.drew=W2 at *
 obtain ⟨x0,x1,_,_⟩:=hX2.two
 obtain ⟨x0',x1',_,_⟩:=hX2'.two
 obtain ⟨A1,n1,c1,rfl⟩:=e1.shape
 obtain ⟨kl,kl',knc,kc⟩:=e1.len
 obtain ⟨A2,n2,c2,rfl⟩:=e2.shape
 obtain ⟨jl,jl',jnc,jc⟩:=e2.len
 have hx0:n1=0→val ds=0:=fun h=>len_zero (by omega)
 have hx1:0 < n1→val ds≠0:=fun h=>len_pos (by omega)
 have hy0:n2=0→val ds'=0:=fun h=>len_zero (by omega)
 have hy1:0 < n2→val ds'≠0:=fun h=>len_pos (by omega)
 have HX0:=Lib.hid hx0
 have HX1:=Lib.hid hx1
 have HY0:=Lib.hid hy0
 have HY1:=Lib.hid hy1
 clear hx0 hx1 hy0 hy1 kl kl' jl jl'
 cases neg
 ·cases neg'
  ·go_wp2_with fail
   refine (compareMag_any _ _ (val ds) (val ds') _ e1 e2).mono ?_
   rintro e w3 ⟨rfl,hb3⟩
   go_wp2
   go_ret
   exact ⟨by rw [cmpI_pp];rfl,below_then hbe2 hb3 hbe2.size⟩
  ·rcases Nat.eq_zero_or_pos n2 with h0 | h0
   ·have ZY:=Lib.hid (HY0.out h0);subst h0
    go_wp2_with fail
    refine (compareMag_any _ _ (val ds) (val ds') _ e1 e2).mono ?_
    rintro e w3 ⟨rfl,hb3⟩
    go_wp2
    go_ret
    exact ⟨by rw [sm_z ZY.out true,cmpI_pp];rfl,below_then hbe2 hb3 hbe2.size⟩
   ·go_wp2
    go_ret
    exact ⟨by rw [cmpI_pn _ _ (HY1.out h0)];rfl,hbe2⟩
 ·cases neg'
  ·rcases Nat.eq_zero_or_pos n1 with h0 | h0
   ·have ZX:=Lib.hid (HX0.out h0);subst h0
    go_wp2_with fail
    refine (compareMag_any _ _ (val ds) (val ds') _ e1 e2).mono ?_
    rintro e w3 ⟨rfl,hb3⟩
    go_wp2
    go_ret
    exact ⟨by rw [sm_z ZX.out true,cmpI_pp];rfl,below_then hbe2 hb3 hbe2.size⟩
   ·go_wp2
    go_ret
    exact ⟨by rw [cmpI_np _ _ (HX1.out h0)];rfl,hbe2⟩
  ·rcases Nat.eq_zero_or_pos n1 with h0 | h0
   ·have ZX:=Lib.hid (HX0.out h0);subst h0
    rcases Nat.eq_zero_or_pos n2 with h0 | h0
    ·have ZY:=Lib.hid (HY0.out h0);subst h0
     go_wp2_with fail
     refine (compareMag_any _ _ (val ds) (val ds') _ e1 e2).mono ?_
     rintro e w3 ⟨rfl,hb3⟩
     go_wp2
     go_ret
     exact ⟨by rw [sm_z ZX.out true,sm_z ZY.out true,cmpI_pp];rfl,below_then hbe2 hb3 hbe2.size⟩
    ·go_wp2
     go_ret
     exact ⟨by rw [sm_z ZX.out true,cmpI_pn _ _ (HY1.out h0)];rfl,hbe2⟩
   ·rcases Nat.eq_zero_or_pos n2 with h1 | h1
    ·have ZY:=Lib.hid (HY0.out h1);subst h1
     go_wp2
     go_ret
     exact ⟨by rw [sm_z ZY.out true,cmpI_np _ _ (HX1.out h0)];rfl,hbe2⟩
    ·go_wp2_with fail
     refine (compareMag_any _ _ (val ds') (val ds) _ e2 e1).mono ?_
     rintro e w3 ⟨rfl,hb3⟩
     go_wp2
     go_ret
     exact ⟨by rw [cmpI_nn];rfl,below_then hbe2 hb3 hbe2.size⟩
end Go.Proofs.YtncmobkhenfhpaaGreat
