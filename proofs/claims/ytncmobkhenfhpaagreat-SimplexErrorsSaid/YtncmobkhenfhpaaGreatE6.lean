/- Lemmas of the claim; no condition. -/
import Derived.Deep.LoopGhost
import Derived.Test.YtncmobkhenfhpaaGreatE2
set_option linter.all false
set_option maxRecDepth 100000
set_option maxHeartbeats 40000000
namespace Go.Proofs.YtncmobkhenfhpaaGreat
open Go.RowKit
open Pl
attribute [local go_sem ↓] Go.wp_at_zero Go.wp_at_succ
section
def Bk (w:World) (g:Nat) (t:TypeId) (cs:List Value):Prop:=w.heap[g]? =some (.cells cs.toArray t (0,0))
section
variable {w w':World} {g:Nat} {t:TypeId} {cs:List Value}
theorem Bk.lt (h:Bk w g t cs):g < w.heap.size:=Yo h
theorem Bk.cell (h:Bk w g t cs) (i:Nat):w.cell? ⟨g,i,none⟩=cs[i]? :=by rw [cell_of_row w g i _ t (0,0) h];simp
theorem Bk.cellAt (h:Bk w g t cs) (i:Nat) {v:Value} (hv:cs[i]? =some v):w.cell? ⟨g,i,none⟩=some v:=by rw [h.cell,hv]
theorem Bk.frozen (h:Bk w g t cs) (i:Nat):w.frozen? ⟨g,i,none⟩=false:=frozen_of_row w g i _ t h
theorem Bk.new (w:World) (t:TypeId) (cs:List Value):Bk (w.alloc (.cells cs.toArray t)) w.heap.size t cs:=heap_alloc_new w _
theorem Bk.alloc (h:Bk w g t cs) (o:Obj):Bk (w.alloc o) g t cs:=(Below.heap_alloc w o g h.lt).trans h
theorem Bk.drew (h:Bk w g t cs):Bk w.drew g t cs:=h
theorem Bk.drewN (h:Bk w g t cs) (n:Nat):Bk (w.drewN n) g t cs:=h
theorem Bk.set_ (h:Bk w g t cs) (i:Nat) (u:Value):Bk (w.setCell ⟨g,i,none⟩ u) g t (cs.set i u):=by
 unfold Bk at h ⊢;rw [heap_setCell_same w g i _ t u h];simp
theorem Bk.far (h:Bk w g t cs) {p:Addr} (hp:g≠p.block) (u:Value):Bk (w.setCell p u) g t cs:=(Below.heap_setCell w p u g hp).trans h
theorem Bk.below {B:Nat} (h:Bk w g t cs) (hb:Below B w w') (hg:g < B):Bk w' g t cs:=(hb.block g hg).trans h
theorem Bk.later (h:Bk w g t cs) (hb:Below w.heap.size w w'):Bk w' g t cs:=h.below hb h.lt
theorem Bk.grown {row:Option Nat} (h:Bk w g t cs) (hg:w.grownBy w' row) (hne:some g≠row):Bk w' g t cs:=(hg.block g h.lt hne).trans h
theorem Bk.ne_of {g':Nat} {t':TypeId} {cs':List Value} (h:Bk w g t cs) (h':Bk w g' t' cs') (hne:t≠t'):g≠g':=by
 rintro rfl;unfold Bk at h h';rw [h] at h';injection h' with h';injection h' with _ h2 _;exact hne h2
theorem Bk.keepD [Old] (h:Bk w g t cs) (ht:t≠123) (i:Nat) (u:Value) (hg:Old.n≤g:=by first | assumption | exact Nat.zero_le _ | omega | ((first | with_reducible refine Zb.le ?_ | with_reducible refine Zb.le1 ?_ | with_reducible refine Zb.le2 ?_ | with_reducible refine Zb.le3 ?_);repeat (first | assumption | exact Zb.up (by assumption) hOl | exact Zb.up (Hid.out (by assumption)) hOl | with_reducible refine Zb.set ?_ _ _ | with_reducible refine Zb.mk_ ?_ _ | with_reducible refine Zb.dr ?_ | with_reducible refine Zb.drN ?_ | refine Zb.up (by assumption) ?_ | refine Zb.up (Hid.out (by assumption)) ?_))):ZG w (w.setCell ⟨g,i,none⟩ u):=ZG.setCell h ht i u hg
end
theorem Zq {P:Program} {fn:Func} {R:Ending→World→Prop} {a:Act} {w:World} {p:Tmp} {ty:TypeId} {g:Nat} {t:TypeId} {cs:List Value} {fs:Array Field} (hres:fn.results=#[.cell p ty]) (hu:P.underlying ty=some (.struct fs)) (hi:(P.info? ty).map (·.size)=some cs.length)
 (hp:a.tmps.getD p undef= .pointer (some ⟨g,0,none⟩)) (hB:Bk w g t cs) (hd:a.defers=[]) (hR:R (.returned (.agg cs.toArray)) w):bodyPost P fn R .ret a w:=
 bodyPost_ret (results_cell_row hres a.tmps w g t cs.toArray (0,0) _ hp hB hu rfl (by simpa using hi)) hd hR
end
namespace Pl
structure RI where
 neg:Bool
 ds:List Nat
def RI.z (a:RI):Int:=if a.neg then -(val a.ds:Int) else (val a.ds:Int)
def canI (z:Int):RI:=⟨decide (z < 0),Zo z.natAbs⟩
def sm (neg:Bool) (n:Nat):Int:=if neg then -(n:Int) else (n:Int)
theorem RI.z_eq (a:RI):a.z=sm a.neg (val a.ds):=rfl
theorem Zmw (neg:Bool) (n:Nat) (h:n≠0):canI (sm neg n)=⟨neg,Zo n⟩:=by
 cases neg <;> simp [canI,sm] <;> omega
theorem canI_zero:canI 0=⟨false,[]⟩:=by simp [canI,digs_zero]
theorem Zbs (neg:Bool):sm neg 0=0:=by cases neg <;> simp [sm]
theorem ZL (z:Int):(canI z).z=z:=by
 simp only [RI.z,canI,Zl];by_cases h:z < 0
 ·simp [h];omega
 ·simp [h];omega
theorem Z5 (a:RI):a.z.natAbs=val a.ds:=by
 unfold RI.z;split <;> simp
end Pl
def Ym [Old] (w:World) (v:Value) (a:RI):Prop:=∃s,v= .agg #[.bool a.neg,s]∧ZQ w s a.ds
theorem Ym.keep [Old] {w w':World} {v:Value} {a:RI} (h:Ym w v a) (hk:ZG w w'):Ym w' v a:=by
 obtain ⟨s,h1,h2⟩:=h;exact ⟨s,h1,h2.keep hk⟩
theorem Ym.below [Old] {w w':World} {v:Value} {a:RI} (h:Ym w v a) (hb:Below w.heap.size w w'):Ym w' v a:=h.keep (ZG.of_below hb)
theorem Ym.zero [Old] (w:World):Ym w (.agg #[.bool false,.slice none 0 0]) (canI 0):=by
 rw [canI_zero];exact ⟨_,rfl,ZQ.nil _ _ _ (by simp)⟩
theorem Bk.two {w:World} {g:Nat} {t:TypeId} {a b:Value} (h:Bk w g t [a,b]):w.cell? ⟨g,0,none⟩=some a∧w.cell? ⟨g,1,none⟩=some b∧w.frozen? ⟨g,0,none⟩=false∧w.frozen? ⟨g,1,none⟩=false:=
 ⟨h.cellAt 0 rfl,h.cellAt 1 rfl,h.frozen 0,h.frozen 1⟩
theorem Bk.set2 {w:World} {g:Nat} {t:TypeId} {a b:Value} (h:Bk w g t [a,b]) (c d:Value):Bk ((w.setCell ⟨g,0,none⟩ c).setCell ⟨g,1,none⟩ d) g t [c,d]:=(h.set_ 0 c).set_ 1 d
theorem Bk.keep2 [Old] {w:World} {g:Nat} {t:TypeId} {a b:Value} (h:Bk w g t [a,b]) (ht:t≠123) (c d:Value) (hg:Old.n≤g:=by first | assumption | exact Nat.zero_le _ | omega | ((first | with_reducible refine Zb.le ?_ | with_reducible refine Zb.le1 ?_ | with_reducible refine Zb.le2 ?_ | with_reducible refine Zb.le3 ?_);repeat (first | assumption | exact Zb.up (by assumption) hOl | exact Zb.up (Hid.out (by assumption)) hOl | with_reducible refine Zb.set ?_ _ _ | with_reducible refine Zb.mk_ ?_ _ | with_reducible refine Zb.dr ?_ | with_reducible refine Zb.drN ?_ | refine Zb.up (by assumption) ?_ | refine Zb.up (Hid.out (by assumption)) ?_))):ZG w ((w.setCell ⟨g,0,none⟩ c).setCell ⟨g,1,none⟩ d):=
 (h.keepD ht _ _ hg).trans ((h.set_ 0 c).keepD ht _ _ hg)
theorem Ye {n g:Nat} {w w':World} (h:Below n w w') (hg:n≤g) (c d:Value):Below n w ((w'.setCell ⟨g,0,none⟩ c).setCell ⟨g,1,none⟩ d):=(h.setCell hg _).setCell hg _
theorem Zc (w:World) (o:Obj):Below w.heap.size w (w.alloc o):=(JR _ _).alloc (JY _) _
theorem Za {n:Nat} {w w1 w2:World} (h:Below n w w1) (h2:Below w1.heap.size w1 w2) (hn:n≤w1.heap.size):Below n w w2:=h.trans (h2.mono hn)
theorem Ym.shape [Old] {w:World} {v:Value} {a:RI} (h:Ym w v a):∃A n c,v= .agg #[.bool a.neg,.slice A n c]∧ZQ w (.slice A n c) a.ds:=by
 obtain ⟨s,rfl,h2⟩:=h;obtain ⟨A,n,c,rfl⟩:=h2.shape;exact ⟨A,n,c,rfl,h2⟩
theorem YH [Old] {w w2:World} {m g:Nat} {x y b s:Value} {a:RI} (hR:Bk w2 g 46 [x,y]) (d:Ym w2 (.agg #[b,s]) a) (hbe:Below m w w2) (hg:m≤g) (hO:Old.n≤m:=by first | assumption | exact Nat.zero_le _ | omega | ((first | with_reducible refine Zb.le ?_ | with_reducible refine Zb.le1 ?_ | with_reducible refine Zb.le2 ?_ | with_reducible refine Zb.le3 ?_);repeat (first | assumption | exact Zb.up (by assumption) hOl | exact Zb.up (Hid.out (by assumption)) hOl | with_reducible refine Zb.set ?_ _ _ | with_reducible refine Zb.mk_ ?_ _ | with_reducible refine Zb.dr ?_ | with_reducible refine Zb.drN ?_ | refine Zb.up (by assumption) ?_ | refine Zb.up (Hid.out (by assumption)) ?_))):
 ∃v',Ending.returned (.agg [b,s].toArray)= .returned v'∧Ym ((w2.setCell ⟨g,0,none⟩ b).setCell ⟨g,1,none⟩ s) v' a∧Below m w ((w2.setCell ⟨g,0,none⟩ b).setCell ⟨g,1,none⟩ s):=
 ⟨_,rfl,d.keep (hR.keep2 (by decide) _ _),Ye hbe hg _ _⟩
theorem Zhm [Old] (neg:Bool) (v:Value) (ds:List Nat) (w:World) (h:ZQ w v ds) (hOl:Zb w:=by (repeat (first | assumption | exact Zb.up (by assumption) hOl | exact Zb.up (Hid.out (by assumption)) hOl | with_reducible refine Zb.set ?_ _ _ | with_reducible refine Zb.mk_ ?_ _ | with_reducible refine Zb.dr ?_ | with_reducible refine Zb.drN ?_ | refine Zb.up (by assumption) ?_ | refine Zb.up (Hid.out (by assumption)) ?_))):
 Calls Tryz.prog 149 #[.bool neg,v] w fun e w'=>∃v',e= .returned v'∧Ym w' v' (canI (sm neg (val ds)))∧Below w.heap.size w w':=by
 have d:=hOl.le;have hR:=Bk.new w 46 [.bool false,.slice none 0 0];have a:=Zc w (.cells [.bool false,.slice none 0 0].toArray 46);have h':=h.below a;go_enter Tryz.func149,Tryz.ntmps149;go_wp2_with fail;generalize w.alloc _=W at *;refine (Ya _ ds _ h').mono ?_;rintro e w1 ⟨v1,rfl,h1,rfl⟩;obtain ⟨A,n,c,rfl⟩:=h1.shape;obtain ⟨kl,b,f,kc⟩:=h1.len;obtain ⟨c0,c1,f0,f1⟩:=hR.two;rcases JV n with h0 | h0
 ·subst h0;have hv:val ds=0:=by
   rcases JV (val ds) with e | e
   ·exact e
   ·have:=Y3 e;omega
  have HV:=JZ hv;clear hv kl b;go_wp2;refine Zq Tryz.results149 Tryz.underlying46 (by kernel_rfl) rfl (hR.set2 _ _) rfl ?_;exact ⟨_,rfl,by rw [HV.out,Zbs];exact Ym.zero _,Ye a (JY _) _ _⟩
 ·have hv:val ds≠0:=by
   intro e;rw [e,digs_zero] at kl;simp at kl;omega
  have HV:=JZ hv;clear hv kl b;go_wp2;refine Zq Tryz.results149 Tryz.underlying46 (by kernel_rfl) rfl (hR.set2 _ _) rfl ?_;refine ⟨_,rfl,?_,Ye a (JY _) _ _⟩;rw [Zmw _ _ HV.out];exact ⟨_,rfl,h1.keep (hR.keep2 (by decide) _ _)⟩
theorem YP [Old] (z:Int) (w:World) (h0: -9223372036854775808≤z) (h1:z≤9223372036854775807) (hOl:Zb w:=by (repeat (first | assumption | exact Zb.up (by assumption) hOl | exact Zb.up (Hid.out (by assumption)) hOl | with_reducible refine Zb.set ?_ _ _ | with_reducible refine Zb.mk_ ?_ _ | with_reducible refine Zb.dr ?_ | with_reducible refine Zb.drN ?_ | refine Zb.up (by assumption) ?_ | refine Zb.up (Hid.out (by assumption)) ?_))):
 Calls Tryz.prog 140 #[.int .i64 z] w fun e w'=>∃v',e= .returned v'∧Ym w' v' (canI z)∧Below w.heap.size w w':=by
 have g:=hOl.le;have hR:=Bk.new w 46 [.bool false,.slice none 0 0];have d:=Zc w (.cells [.bool false,.slice none 0 0].toArray 46);rcases Int.lt_or_le z 0 with hn | hn
 ·have e1:IntKind.u64.wrap z=z+18446744073709551616:=by simp [IntKind.wrap,IntKind.bits,IntKind.signed];omega
  have e2:IntKind.u64.wrap (-(z+18446744073709551616))= -z:=by simp [IntKind.wrap,IntKind.bits,IntKind.signed];omega
  go_enter Tryz.func140,Tryz.ntmps140;go_wp2_with fail;generalize w.alloc _=W at *;refine (YL (-z) _ (by omega) (by omega)).mono ?_;rintro e w1 ⟨v1,rfl,d1,b⟩;go_wp2_with fail;refine (Zhm true _ _ _ d1).mono ?_;have hz:sm true (val (Zo (-z).toNat))=z:=by rw [Zl];simp [sm];omega
  rw [hz];rintro e w2 ⟨v2,rfl,d2,f⟩;obtain ⟨A,n,c,rfl,_⟩:=d2.shape;have a:=(hR.later b).later f;obtain ⟨c0,c1,f0,f1⟩:=a.two;go_wp2;refine Zq Tryz.results140 Tryz.underlying46 (by kernel_rfl) rfl (a.set2 _ _) rfl ?_;exact YH a d2 (Za (Za d b d.size) f (JW d.size b.size)) (JY _)
 ·have e1:IntKind.u64.wrap z=z:=u64_in _ hn (by omega);go_enter Tryz.func140,Tryz.ntmps140;go_wp2_with fail;generalize w.alloc _=W at *;refine (YL z _ (by omega) (by omega)).mono ?_;rintro e w1 ⟨v1,rfl,d1,b⟩;go_wp2_with fail;refine (Zhm false _ _ _ d1).mono ?_;have hz:sm false (val (Zo z.toNat))=z:=by rw [Zl];simp [sm];omega
  rw [hz];rintro e w2 ⟨v2,rfl,d2,f⟩;obtain ⟨A,n,c,rfl,_⟩:=d2.shape;have a:=(hR.later b).later f;obtain ⟨c0,c1,f0,f1⟩:=a.two;go_wp2;refine Zq Tryz.results140 Tryz.underlying46 (by kernel_rfl) rfl (a.set2 _ _) rfl ?_;exact YH a d2 (Za (Za d b d.size) f (JW d.size b.size)) (JY _)
namespace Pl
def sgn (z:Int):Int:=if z < 0 then -1 else if z=0 then 0 else 1
theorem VX {z:Int} (h:z < 0):sgn z= -1:=by simp [sgn,h]
theorem sgn_zero:sgn 0=0:=by simp [sgn]
theorem Vp {z:Int} (h:0 < z):sgn z=1:=by simp [sgn];omega
theorem Wh {n:Nat} (h:(Zo n).length=0):n=0:=by
 rcases JV n with e | e
 ·exact e
 ·have:=Y3 e;omega
theorem VY {n:Nat} (h:0 < (Zo n).length):n≠0:=by
 intro e;rw [e,digs_zero] at h;simp at h
end Pl
theorem Ul [Old] (v:Value) (a:RI) (w:World) (h:Ym w v a) (hOl:Zb w:=by (repeat (first | assumption | exact Zb.up (by assumption) hOl | exact Zb.up (Hid.out (by assumption)) hOl | with_reducible refine Zb.set ?_ _ _ | with_reducible refine Zb.mk_ ?_ _ | with_reducible refine Zb.dr ?_ | with_reducible refine Zb.drN ?_ | refine Zb.up (by assumption) ?_ | refine Zb.up (Hid.out (by assumption)) ?_))):
 Calls Tryz.prog 119 #[v] w fun e w'=>e= .returned (.int .i64 (sgn a.z))∧Below w.heap.size w w':=by
 have i:=hOl.le;obtain ⟨A,n,c,rfl,hd⟩:=h.shape;obtain ⟨d,ds⟩:=a;simp only at hd ⊢;have hR:=Bk.new w 46 [.bool d,.slice A n c];have b:=Zc w (.cells [.bool d,.slice A n c].toArray 46);go_enter Tryz.func119,Tryz.ntmps119;go_wp2_with fail;have g:=hd.below b;generalize w.alloc _=W at *;obtain ⟨c0,c1,f0,f1⟩:=hR.two;refine (Ya _ ds _ g).mono ?_;rintro e w1 ⟨v1,rfl,h1,rfl⟩;obtain ⟨A1,n1,k1,rfl⟩:=h1.shape;obtain ⟨kl,f,j,kc⟩:=h1.len;rcases JV n1 with h0 | h0
 ·subst h0;have hv:val ds=0:=Wh (by omega);have hz:sgn (RI.z ⟨d,ds⟩)=0:=by rw [RI.z_eq,hv,Zbs,sgn_zero]
  have HZ:=JZ hz;clear hv hz kl f;go_wp2;go_ret;exact ⟨by rw [HZ.out];rfl,b⟩
 ·have hv:val ds≠0:=VY (by omega);clear kl f
  cases d
  ·have hz:sgn (RI.z ⟨false,ds⟩)=1:=(by rw [RI.z_eq];exact Vp (by simp [sm];omega));have HZ:=JZ hz;clear hv hz;go_wp2;go_ret;exact ⟨by rw [HZ.out];rfl,b⟩
  ·have hz:sgn (RI.z ⟨true,ds⟩)= -1:=(by rw [RI.z_eq];exact VX (by simp [sm];omega));have HZ:=JZ hz;clear hv hz;go_wp2;go_ret;exact ⟨by rw [HZ.out];rfl,b⟩
theorem size_alloc (w:World) (o:Obj):(w.alloc o).heap.size=w.heap.size+1:=by simp
theorem Yfy (w:World) (x y:Value):∃W,(w.alloc (.cells #[x,y] 46)).alloc (.cells #[.bool false,.slice none 0 0] 46)=W∧Bk W w.heap.size 46 [x,y]∧Bk W (w.heap.size+1) 46 [.bool false,.slice none 0 0]∧Below w.heap.size w W:=by
 refine ⟨_,rfl,(Bk.new w _ [x,y]).alloc _,?_,(Zc w _).alloc (by simp) _⟩;have:=Bk.new (w.alloc (.cells #[x,y] 46)) 46 [.bool false,.slice none 0 0]
 rwa [size_alloc] at this
theorem Yaj (w:World) (x y x' y':Value):∃W,((w.alloc (.cells #[x,y] 46)).alloc (.cells #[x',y'] 46)).alloc (.cells #[.bool false,.slice none 0 0] 46)=W∧Bk W w.heap.size 46 [x,y]∧Bk W (w.heap.size+1) 46 [x',y']∧Bk W (w.heap.size+1+1) 46 [.bool false,.slice none 0 0]∧Below w.heap.size w W:=by
 refine ⟨_,rfl,((Bk.new w _ [x,y]).alloc _).alloc _,?_,?_,((Zc w _).alloc (by simp) _).alloc (by simp;omega) _⟩
 ·have:=Bk.new (w.alloc (.cells #[x,y] 46)) 46 [x',y'];rw [size_alloc] at this;exact this.alloc _
 ·have:=Bk.new ((w.alloc (.cells #[x,y] 46)).alloc (.cells #[x',y'] 46)) 46 [.bool false,.slice none 0 0]
  rwa [size_alloc,size_alloc] at this
theorem Bk.pair {w:World} {g:Nat} {t:TypeId} {a b:Value} (h:Bk w g t [a,b]):w.cell? ⟨g,0,none⟩=some a∧w.cell? ⟨g,1,none⟩=some b:=⟨h.two.1,h.two.2.1⟩
theorem Bk.two_far {w:World} {g g':Nat} {t:TypeId} {a b:Value} (h:Bk w g t [a,b]) (hne:g≠g') (c d:Value):((w.setCell ⟨g',0,none⟩ c).setCell ⟨g',1,none⟩ d).cell? ⟨g,0,none⟩=some a∧((w.setCell ⟨g',0,none⟩ c).setCell ⟨g',1,none⟩ d).cell? ⟨g,1,none⟩=some b:=
 ((h.far (p:=⟨g',0,none⟩) hne c).far (p:=⟨g',1,none⟩) hne d).pair
theorem Zg {w w':World} {p:Addr} {v:Value} (hb:Below w.heap.size w w') (h:w.cell? p=some v):w'.cell? p=some v:=cell_later hb h
theorem Yak (neg:Bool) (n:Nat):sm (!neg) n= - sm neg n:=by cases neg <;> simp [sm]
theorem Yc [Old] (neg:Bool) (v:Value) (n:Nat) (w:World) (h:ZQ w v (Zo n)) (hOl:Zb w:=by (repeat (first | assumption | exact Zb.up (by assumption) hOl | exact Zb.up (Hid.out (by assumption)) hOl | with_reducible refine Zb.set ?_ _ _ | with_reducible refine Zb.mk_ ?_ _ | with_reducible refine Zb.dr ?_ | with_reducible refine Zb.drN ?_ | refine Zb.up (by assumption) ?_ | refine Zb.up (Hid.out (by assumption)) ?_))):
 Calls Tryz.prog 149 #[.bool neg,v] w fun e w'=>∃v',e= .returned v'∧Ym w' v' (canI (sm neg n))∧Below w.heap.size w w':=by
 have a:=hOl.le;have:=Zhm neg v (Zo n) w h
 rwa [Zl] at this
theorem Un [Old] (v:Value) (a:RI) (w:World) (h:Ym w v a) (hs:(Zo (val a.ds)).length≤549755813888) (hOl:Zb w:=by (repeat (first | assumption | exact Zb.up (by assumption) hOl | exact Zb.up (Hid.out (by assumption)) hOl | with_reducible refine Zb.set ?_ _ _ | with_reducible refine Zb.mk_ ?_ _ | with_reducible refine Zb.dr ?_ | with_reducible refine Zb.drN ?_ | refine Zb.up (by assumption) ?_ | refine Zb.up (Hid.out (by assumption)) ?_))):
 Calls Tryz.prog 146 #[v] w fun e w'=>∃v',e= .returned v'∧Ym w' v' (canI (- a.z))∧Below w.heap.size w w':=by
 have j:=hOl.le;obtain ⟨A,n,c,rfl,hd⟩:=h.shape;obtain ⟨g,ds⟩:=a;simp only at hd hs ⊢;obtain ⟨W,hW,hX,hR,f⟩:=Yfy w (.bool g) (.slice A n c);have i:=hd.below f;go_enter Tryz.func146,Tryz.ntmps146;go_wp2_with fail;clear hW;obtain ⟨x0,x1,y0,y1⟩:=hX.two
 go_region_held3 (fun w'=>w'.cell? ⟨w.heap.size,0,none⟩=some (.bool g)∧w'.cell? ⟨w.heap.size,1,none⟩=some (.slice A n c))
  (first | exact ⟨x0,x1⟩ | exact (hX.drew.later b).pair | exact ((hX.drew.later b).later d).pair | exact ((hX.drew.later b).later d).two_far (by omega) _ _)
  (first
   | (go_at_call 143;refine (Ya _ ds _ (i.keep (ZG.drew _))).mono ?_;rintro e w1 ⟨v1,rfl,h1,rfl⟩)
   | (go_at_call 163;refine (Zaa _ _ _ h1 (by omega)).mono ?_;rintro e w2 ⟨v2,rfl,h2,b⟩)
   | (go_at_call 149;refine (Yc (!g) _ _ _ (Va h2 (Yb _))).mono ?_;rintro e w3 ⟨v3,rfl,h3,d⟩;obtain ⟨A3,n3,k3,rfl,_⟩:=h3.shape;obtain ⟨c0,c1,f0,f1⟩:=((hR.drew.later b).later d).two))
 go_wp2;refine Zq Tryz.results146 Tryz.underlying46 (by kernel_rfl) rfl (((hR.drew.later b).later d).set2 _ _) rfl ?_;rw [RI.z_eq,← Yak];exact YH ((hR.drew.later b).later d) h3 (Za (Za f.drew b f.size) d (JW f.size b.size)) (Nat.le_succ _)
namespace Pl
theorem Zdq (b:Bool) (X Y:Nat):sm b X+sm b Y=sm b (X+Y):=by cases b <;> simp [sm] <;> omega
theorem Zou {a b:Bool} (hab:(a==b)=false) {X Y:Nat} (h:Y≤X):sm a X+sm b Y=sm a (X - Y):=by cases a <;> cases b <;> simp [sm] at hab ⊢ <;> omega
theorem Zov {a b:Bool} (hab:(a==b)=false) {X Y:Nat} (h:X≤Y):sm a X+sm b Y=sm b (Y - X):=by cases a <;> cases b <;> simp [sm] at hab ⊢ <;> omega
end Pl
theorem Zad [Old] (a b:Bool) (v1 v2:Value) (X Y:Nat) (w:World) (h1:ZQ w v1 (Zo X)) (h2:ZQ w v2 (Zo Y)) (hs:(Zo X).length≤549755813888) (hs2:(Zo Y).length≤549755813888) (hOl:Zb w:=by (repeat (first | assumption | exact Zb.up (by assumption) hOl | exact Zb.up (Hid.out (by assumption)) hOl | with_reducible refine Zb.set ?_ _ _ | with_reducible refine Zb.mk_ ?_ _ | with_reducible refine Zb.dr ?_ | with_reducible refine Zb.drN ?_ | refine Zb.up (by assumption) ?_ | refine Zb.up (Hid.out (by assumption)) ?_))):
 Calls Tryz.prog 152 #[.bool a,v1,.bool b,v2] w fun e w'=>∃v',e= .returned v'∧Ym w' v' (canI (sm a X+sm b Y))∧Below w.heap.size w w':=by
 have l:=hOl.le;have hR:=Bk.new w 46 [.bool false,.slice none 0 0];have f:=Zc w (.cells [.bool false,.slice none 0 0].toArray 46);have d1:=h1.below f;have d2:=h2.below f;by_cases k:(a==b)=true
 ·obtain rfl:a=b:=by simpa using k
  go_enter Tryz.func152,Tryz.ntmps152;go_wp2_with fail;generalize w.alloc _=W at *;refine (Zbo _ _ (Zo X) (Zo Y) _ d1 d2 hs hs2).mono ?_;rw [Zl,Zl];rintro e w1 ⟨v1,rfl,e1,g⟩;go_wp2_with fail;refine (Yc a _ _ _ e1).mono ?_;rw [← Zdq];rintro e w2 ⟨v2,rfl,e2,i⟩;obtain ⟨A,n,c,rfl,_⟩:=e2.shape;have d:=(hR.later g).later i;obtain ⟨c0,c1,f0,f1⟩:=d.two;go_wp2;refine Zq Tryz.results152 Tryz.underlying46 (by kernel_rfl) rfl (d.set2 _ _) rfl ?_;exact YH d e2 (Za (Za f g f.size) i (JW f.size g.size)) (JY _)
 ·have j:(a==b)=false:=by simpa using k
  clear k;rcases JX X Y with hXY | hXY
  ·have hc:cmpN X Y= -1:=VW hXY;go_enter Tryz.func152,Tryz.ntmps152;go_wp2_with fail;generalize w.alloc _=W at *;refine (Yh _ _ X Y _ d1 d2).mono ?_;rw [hc];rintro e w0 ⟨rfl,h⟩;go_wp2_with fail;refine (Uj _ _ (Zo Y) (Zo X) _ (d2.below h) (d1.below h) (by rw [Zl,Zl];omega) (Zv (Nat.le_of_lt hXY)) hs2).mono ?_;rw [Zl,Zl];rintro e w1 ⟨v1,rfl,e1,g⟩;go_wp2_with fail;refine (Yc b _ _ _ e1).mono ?_;rw [← Zov j (Nat.le_of_lt hXY)];rintro e w2 ⟨v2,rfl,e2,i⟩;obtain ⟨A,n,c,rfl,_⟩:=e2.shape;have d:=((hR.later h).later g).later i;obtain ⟨c0,c1,f0,f1⟩:=d.two;go_wp2;refine Zq Tryz.results152 Tryz.underlying46 (by kernel_rfl) rfl (d.set2 _ _) rfl ?_;have b0:=Za f h f.size;have b1:=Za b0 g b0.size;exact YH d e2 (Za b1 i b1.size) (JY _)
  ·have hc:0≤cmpN X Y:=(by unfold cmpN;split;omega;split <;> omega);have m:=Zmk X Y;go_enter Tryz.func152,Tryz.ntmps152;go_wp2_with fail;generalize w.alloc _=W at *;refine (Yh _ _ X Y _ d1 d2).mono ?_;rintro e w0 ⟨rfl,h⟩;generalize cmpN X Y=cc at *;go_wp2_with fail;refine (Uj _ _ (Zo X) (Zo Y) _ (d1.below h) (d2.below h) (by rw [Zl,Zl];omega) (Zv hXY) hs).mono ?_;rw [Zl,Zl];rintro e w1 ⟨v1,rfl,e1,g⟩;go_wp2_with fail;refine (Yc a _ _ _ e1).mono ?_;rw [← Zou j hXY];rintro e w2 ⟨v2,rfl,e2,i⟩;obtain ⟨A,n,c,rfl,_⟩:=e2.shape;have d:=((hR.later h).later g).later i;obtain ⟨c0,c1,f0,f1⟩:=d.two;go_wp2;refine Zq Tryz.results152 Tryz.underlying46 (by kernel_rfl) rfl (d.set2 _ _) rfl ?_;have b0:=Za f h f.size;have b1:=Za b0 g b0.size;exact YH d e2 (Za b1 i b1.size) (JY _)
theorem Zow [Old] (v1 v2:Value) (a b:RI) (w:World) (h1:Ym w v1 a) (h2:Ym w v2 b) (hs:(Zo (val a.ds)).length≤549755813888) (hs2:(Zo (val b.ds)).length≤549755813888) (hOl:Zb w:=by (repeat (first | assumption | exact Zb.up (by assumption) hOl | exact Zb.up (Hid.out (by assumption)) hOl | with_reducible refine Zb.set ?_ _ _ | with_reducible refine Zb.mk_ ?_ _ | with_reducible refine Zb.dr ?_ | with_reducible refine Zb.drN ?_ | refine Zb.up (by assumption) ?_ | refine Zb.up (Hid.out (by assumption)) ?_))):
 Calls Tryz.prog 131 #[v1,v2] w fun e w'=>∃v',e= .returned v'∧Ym w' v' (canI (a.z+b.z))∧Below w.heap.size w w':=by
 have p:=hOl.le;obtain ⟨A,n,c,rfl,hd⟩:=h1.shape;obtain ⟨A',n',c',rfl,l⟩:=h2.shape;obtain ⟨h,ds⟩:=a;obtain ⟨f,o⟩:=b;simp only at hd hs l hs2 ⊢;obtain ⟨W,hW,hX,i,hR,g⟩:=Yaj w (.bool h) (.slice A n c) (.bool f) (.slice A' n' c');have m:=hd.below g;have j:=l.below g;have k:True:=trivial;go_enter Tryz.func131,Tryz.ntmps131;go_wp2_with fail;clear hW
 go_region_held3 (fun w'=>(w'.cell? ⟨w.heap.size,0,none⟩=some (.bool h)∧w'.cell? ⟨w.heap.size,1,none⟩=some (.slice A n c))∧(w'.cell? ⟨w.heap.size+1,0,none⟩=some (.bool f)∧w'.cell? ⟨w.heap.size+1,1,none⟩=some (.slice A' n' c')))
  (first | exact ⟨hX.pair,i.pair⟩ | exact ⟨(hX.drew.later d).pair,(i.drew.later d).pair⟩ | exact ⟨(hX.drew.later d).two_far (by omega) _ _,(i.drew.later d).two_far (by omega) _ _⟩)
  (first
   | (go_at_call 143;have _t:=k;refine (Ya _ ds _ (m.keep (ZG.drew _))).mono ?_;clear k _t;rintro e w1 ⟨v1,rfl,e1,rfl⟩)
   | (go_at_call 143;refine (Ya _ o _ (j.keep (ZG.drew _))).mono ?_;rintro e w1 ⟨v2,rfl,e2,rfl⟩)
   | (go_at_call 152;refine (Zad h f _ _ _ _ _ e1 e2 hs hs2).mono ?_;rintro e w3 ⟨v3,rfl,h3,d⟩;obtain ⟨A3,n3,k3,rfl,_⟩:=h3.shape;obtain ⟨c0,c1,f0,f1⟩:=(hR.drew.later d).two))
 go_wp2;refine Zq Tryz.results131 Tryz.underlying46 (by kernel_rfl) rfl ((hR.drew.later d).set2 _ _) rfl ?_;exact YH (hR.drew.later d) h3 (Za g.drew d g.size) (by omega)
theorem boxes (w:World) (x y x' y':Value):∃W,(w.alloc (.cells #[x,y] 46)).alloc (.cells #[x',y'] 46)=W∧Bk W w.heap.size 46 [x,y]∧Bk W (w.heap.size+1) 46 [x',y']∧Below w.heap.size w W:=by
 refine ⟨_,rfl,(Bk.new w _ [x,y]).alloc _,?_,(Zc w _).alloc (by simp) _⟩;have:=Bk.new (w.alloc (.cells #[x,y] 46)) 46 [x',y']
 rwa [size_alloc] at this
namespace Pl
theorem Zty (X Y:Nat):sgn ((X:Int) - Y)=cmpN X Y:=by
 unfold sgn cmpN;rcases Nat.lt_trichotomy X Y with h | h | h
 ·rw [if_pos (by omega),if_pos h]
 ·subst h;simp
 ·rw [if_neg (by omega),if_neg (by omega),if_neg (by omega),if_neg (by omega)]
theorem Ybv (X Y:Nat):sgn (sm true X - sm true Y)=cmpN Y X:=by rw [← Zty];simp [sm];congr 1;omega
theorem Zhn (X Y:Nat):sgn (sm false X - sm false Y)=cmpN X Y:=by rw [← Zty];simp [sm]
theorem Ztz (X Y:Nat) (h:X≠0):sgn (sm true X - sm false Y)= -1:=by apply VX;simp [sm];omega
theorem Zua (X Y:Nat) (h:Y≠0):sgn (sm false X - sm true Y)=1:=by apply Vp;simp [sm];omega
theorem Yeb {n:Nat} (h:n=0) (b:Bool):sm b n=sm false n:=by subst h;simp [sm]
end Pl
theorem VZ [Old] (v1 v2:Value) (a b:RI) (w:World) (h1:Ym w v1 a) (h2:Ym w v2 b) (hOl:Zb w:=by (repeat (first | assumption | exact Zb.up (by assumption) hOl | exact Zb.up (Hid.out (by assumption)) hOl | with_reducible refine Zb.set ?_ _ _ | with_reducible refine Zb.mk_ ?_ _ | with_reducible refine Zb.dr ?_ | with_reducible refine Zb.drN ?_ | refine Zb.up (by assumption) ?_ | refine Zb.up (Hid.out (by assumption)) ?_))):
 Calls Tryz.prog 129 #[v1,v2] w fun e w'=>e= .returned (.int .i64 (sgn (a.z - b.z)))∧Below w.heap.size w w':=by
 have I:=hOl.le;obtain ⟨A,n,c,rfl,hd⟩:=h1.shape;obtain ⟨A',n',c',rfl,C⟩:=h2.shape;obtain ⟨o,ds⟩:=a;obtain ⟨i,g⟩:=b;simp only at hd C ⊢;obtain ⟨W,hW,hX,j,k⟩:=boxes w (.bool o) (.slice A n c) (.bool i) (.slice A' n' c');have p:=hd.below k;have l:=C.below k;rw [RI.z_eq,RI.z_eq];simp only;have q:True:=trivial;go_enter Tryz.func129,Tryz.ntmps129;go_wp2_with fail;clear hW;obtain ⟨x0,x1,_,_⟩:=hX.two;obtain ⟨D,E,_,_⟩:=j.two
 go_region_held3 (fun w'=>(w'.cell? ⟨w.heap.size,0,none⟩=some (.bool o)∧w'.cell? ⟨w.heap.size,1,none⟩=some (.slice A n c))∧(w'.cell? ⟨w.heap.size+1,0,none⟩=some (.bool i)∧w'.cell? ⟨w.heap.size+1,1,none⟩=some (.slice A' n' c')))
  (exact ⟨hX.pair,j.pair⟩)
  (first
   | (go_at_call 143;have _t:=q;refine (Ya _ ds _ (p.keep (ZG.drew _))).mono ?_;clear q _t;rintro e w1 ⟨v1,rfl,e1,rfl⟩)
   | (go_at_call 143;refine (Ya _ g _ (l.keep (ZG.drew _))).mono ?_;rintro e w1 ⟨v2,rfl,e2,rfl⟩))
 have F:=hX.drew;have r:=j.drew;have d:=k.drew;clear hX j k p l x0 x1 D E;generalize W.drew=W2 at *;obtain ⟨x0,x1,_,_⟩:=F.two;obtain ⟨D,E,_,_⟩:=r.two;obtain ⟨A1,n1,c1,rfl⟩:=e1.shape;obtain ⟨kl,G,J,kc⟩:=e1.len;obtain ⟨A2,n2,c2,rfl⟩:=e2.shape;obtain ⟨jl,H,K,jc⟩:=e2.len;have s:n1=0→val ds=0:=fun h=>Wh (by omega)
 have t:0 < n1→val ds≠0:=fun h=>VY (by omega)
 have u:n2=0→val g=0:=fun h=>Wh (by omega)
 have v:0 < n2→val g≠0:=fun h=>VY (by omega)
 have x:=JZ s;have y:=JZ t;have m:=JZ u;have B:=JZ v;clear s t u v kl G jl H
 cases o
 ·cases i
  ·go_wp2_with fail;refine (Yh _ _ (val ds) (val g) _ e1 e2).mono ?_;rintro e w3 ⟨rfl,f⟩;go_wp2;go_ret;exact ⟨by rw [Zhn];rfl,Za d f d.size⟩
  ·rcases JV n2 with h0 | h0
   ·have ZY:=JZ (m.out h0);subst h0;go_wp2_with fail;refine (Yh _ _ (val ds) (val g) _ e1 e2).mono ?_;rintro e w3 ⟨rfl,f⟩;go_wp2;go_ret;exact ⟨by rw [Yeb ZY.out true,Zhn];rfl,Za d f d.size⟩
   ·go_wp2;go_ret;exact ⟨by rw [Zua _ _ (B.out h0)];rfl,d⟩
 ·cases i
  ·rcases JV n1 with h0 | h0
   ·have ZX:=JZ (x.out h0);subst h0;go_wp2_with fail;refine (Yh _ _ (val ds) (val g) _ e1 e2).mono ?_;rintro e w3 ⟨rfl,f⟩;go_wp2;go_ret;exact ⟨by rw [Yeb ZX.out true,Zhn];rfl,Za d f d.size⟩
   ·go_wp2;go_ret;exact ⟨by rw [Ztz _ _ (y.out h0)];rfl,d⟩
  ·rcases JV n1 with h0 | h0
   ·have ZX:=JZ (x.out h0);subst h0;rcases JV n2 with h0 | h0
    ·have ZY:=JZ (m.out h0);subst h0;go_wp2_with fail;refine (Yh _ _ (val ds) (val g) _ e1 e2).mono ?_;rintro e w3 ⟨rfl,f⟩;go_wp2;go_ret;exact ⟨by rw [Yeb ZX.out true,Yeb ZY.out true,Zhn];rfl,Za d f d.size⟩
    ·go_wp2;go_ret;exact ⟨by rw [Yeb ZX.out true,Zua _ _ (B.out h0)];rfl,d⟩
   ·rcases JV n2 with h1 | h1
    ·have ZY:=JZ (m.out h1);subst h1;go_wp2;go_ret;exact ⟨by rw [Yeb ZY.out true,Ztz _ _ (y.out h0)];rfl,d⟩
    ·go_wp2_with fail;refine (Yh _ _ (val g) (val ds) _ e2 e1).mono ?_;rintro e w3 ⟨rfl,f⟩;go_wp2;go_ret;exact ⟨by rw [Ybv];rfl,Za d f d.size⟩
end Go.Proofs.YtncmobkhenfhpaaGreat
