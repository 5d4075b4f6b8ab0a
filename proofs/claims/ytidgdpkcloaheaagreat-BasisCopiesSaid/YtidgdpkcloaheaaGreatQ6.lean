/- Lemmas of the claim; no condition. -/
import Derived.Test.YtidgdpkcloaheaaGreatQ2
set_option linter.all false
set_option maxRecDepth 100000
set_option maxHeartbeats 40000000
namespace Go.Proofs.YtidgdpkcloaheaaGreat
open Go.RowKit
open Pl
attribute [local go_sem ↓] Go.wp_at_zero Go.wp_at_succ
section
def Bk (w:World) (g:Nat) (t:TypeId) (cs:List Value):Prop:=w.heap[g]? =some (.cells cs.toArray t (0,0))
section
variable {w w':World} {g:Nat} {t:TypeId} {cs:List Value}
theorem Bk.lt (h:Bk w g t cs):g < w.heap.size:=Ye h
theorem Bk.cell (h:Bk w g t cs) (i:Nat):w.cell? ⟨g,i,none⟩=cs[i]? :=by rw [cell_of_row w g i _ t (0,0) h];simp
theorem Bk.cellAt (h:Bk w g t cs) (i:Nat) {v:Value} (hv:cs[i]? =some v):w.cell? ⟨g,i,none⟩=some v:=by rw [h.cell,hv]
theorem Bk.frozen (h:Bk w g t cs) (i:Nat):w.frozen? ⟨g,i,none⟩=false:=frozen_of_row w g i _ t h
theorem Bk.new (w:World) (t:TypeId) (cs:List Value):Bk (w.alloc (.cells cs.toArray t)) w.heap.size t cs:=heap_alloc_new w _
theorem Bk.alloc (h:Bk w g t cs) (o:Obj):Bk (w.alloc o) g t cs:=(Below.heap_alloc w o g h.lt).trans h
theorem Bk.drew (h:Bk w g t cs):Bk w.drew g t cs:=h
theorem Bk.drewN (h:Bk w g t cs) (n:Nat):Bk (w.drewN n) g t cs:=h
theorem Bk.set_ (h:Bk w g t cs) (i:Nat) (u:Value):Bk (w.setCell ⟨g,i,none⟩ u) g t (cs.set i u):=by
 unfold Bk at h ⊢;rw [heap_setCell_same w g i _ t u h];simp
theorem Bk.far (h:Bk w g t cs) {p:Addr} (hp:g≠p.block) (u:Value):Bk (w.setCell p u) g t cs:=(Below.heap_setCell w p u g hp).trans h
theorem Bk.below {B:Nat} (h:Bk w g t cs) (hb:Below B w w') (hg:g < B):Bk w' g t cs:=(hb.block g hg).trans h
theorem Bk.later (h:Bk w g t cs) (hb:Below w.heap.size w w'):Bk w' g t cs:=h.below hb h.lt
theorem Bk.grown {row:Option Nat} (h:Bk w g t cs) (hg:w.grownBy w' row) (hne:some g≠row):Bk w' g t cs:=(hg.block g h.lt hne).trans h
theorem Bk.ne_of {g':Nat} {t':TypeId} {cs':List Value} (h:Bk w g t cs) (h':Bk w g' t' cs') (hne:t≠t'):g≠g':=by
 rintro rfl;unfold Bk at h h';rw [h] at h';injection h' with h';injection h' with _ h2 _;exact hne h2
theorem Bk.keepD [Old] (h:Bk w g t cs) (ht:t≠106) (i:Nat) (u:Value) (hg:Old.n≤g:=by first | assumption | exact Nat.zero_le _ | omega | ((first | with_reducible refine Zb.le ?_ | with_reducible refine Zb.le1 ?_ | with_reducible refine Zb.le2 ?_ | with_reducible refine Zb.le3 ?_);repeat (first | assumption | exact Zb.up (by assumption) hOl | exact Zb.up (Hid.out (by assumption)) hOl | with_reducible refine Zb.set ?_ _ _ | with_reducible refine Zb.mk_ ?_ _ | with_reducible refine Zb.dr ?_ | with_reducible refine Zb.drN ?_ | refine Zb.up (by assumption) ?_ | refine Zb.up (Hid.out (by assumption)) ?_))):ZE w (w.setCell ⟨g,i,none⟩ u):=ZE.setCell h ht i u hg
end
theorem Zn {P:Program} {fn:Func} {R:Ending→World→Prop} {a:Act} {w:World} {p:Tmp} {ty:TypeId} {g:Nat} {t:TypeId} {cs:List Value} {fs:Array Field} (hres:fn.results=#[.cell p ty]) (hu:P.underlying ty=some (.struct fs)) (hi:(P.info? ty).map (·.size)=some cs.length)
 (hp:a.tmps.getD p undef= .pointer (some ⟨g,0,none⟩)) (hB:Bk w g t cs) (hd:a.defers=[]) (hR:R (.returned (.agg cs.toArray)) w):bodyPost P fn R .ret a w:=
 bodyPost_ret (results_cell_row hres a.tmps w g t cs.toArray (0,0) _ hp hB hu rfl (by simpa using hi)) hd hR
end
namespace Pl
structure RI where
 neg:Bool
 ds:List Nat
def RI.z (a:RI):Int:=if a.neg then -(val a.ds:Int) else (val a.ds:Int)
def canI (z:Int):RI:=⟨decide (z < 0),Zi z.natAbs⟩
def sm (neg:Bool) (n:Nat):Int:=if neg then -(n:Int) else (n:Int)
theorem RI.z_eq (a:RI):a.z=sm a.neg (val a.ds):=rfl
theorem Zlz (neg:Bool) (n:Nat) (h:n≠0):canI (sm neg n)=⟨neg,Zi n⟩:=by
 cases neg <;> simp [canI,sm] <;> omega
theorem canI_zero:canI 0=⟨false,[]⟩:=by simp [canI,digs_zero]
theorem Zaa (neg:Bool):sm neg 0=0:=by cases neg <;> simp [sm]
theorem Zx (z:Int):(canI z).z=z:=by
 simp only [RI.z,canI,Zh];by_cases h:z < 0
 ·simp [h];omega
 ·simp [h];omega
theorem Zz (a:RI):a.z.natAbs=val a.ds:=by
 unfold RI.z;split <;> simp
end Pl
def ZT [Old] (w:World) (v:Value) (a:RI):Prop:=∃s,v= .agg #[.bool a.neg,s]∧ZC w s a.ds
theorem ZT.keep [Old] {w w':World} {v:Value} {a:RI} (h:ZT w v a) (hk:ZE w w'):ZT w' v a:=by
 obtain ⟨s,h1,h2⟩:=h;exact ⟨s,h1,h2.keep hk⟩
theorem ZT.below [Old] {w w':World} {v:Value} {a:RI} (h:ZT w v a) (hb:Below w.heap.size w w'):ZT w' v a:=h.keep (ZE.of_below hb)
theorem ZT.zero [Old] (w:World):ZT w (.agg #[.bool false,.slice none 0 0]) (canI 0):=by
 rw [canI_zero];exact ⟨_,rfl,ZC.nil _ _ _ (by simp)⟩
theorem Bk.two {w:World} {g:Nat} {t:TypeId} {a b:Value} (h:Bk w g t [a,b]):w.cell? ⟨g,0,none⟩=some a∧w.cell? ⟨g,1,none⟩=some b∧w.frozen? ⟨g,0,none⟩=false∧w.frozen? ⟨g,1,none⟩=false:=
 ⟨h.cellAt 0 rfl,h.cellAt 1 rfl,h.frozen 0,h.frozen 1⟩
theorem Bk.set2 {w:World} {g:Nat} {t:TypeId} {a b:Value} (h:Bk w g t [a,b]) (c d:Value):Bk ((w.setCell ⟨g,0,none⟩ c).setCell ⟨g,1,none⟩ d) g t [c,d]:=(h.set_ 0 c).set_ 1 d
theorem Bk.keep2 [Old] {w:World} {g:Nat} {t:TypeId} {a b:Value} (h:Bk w g t [a,b]) (ht:t≠106) (c d:Value) (hg:Old.n≤g:=by first | assumption | exact Nat.zero_le _ | omega | ((first | with_reducible refine Zb.le ?_ | with_reducible refine Zb.le1 ?_ | with_reducible refine Zb.le2 ?_ | with_reducible refine Zb.le3 ?_);repeat (first | assumption | exact Zb.up (by assumption) hOl | exact Zb.up (Hid.out (by assumption)) hOl | with_reducible refine Zb.set ?_ _ _ | with_reducible refine Zb.mk_ ?_ _ | with_reducible refine Zb.dr ?_ | with_reducible refine Zb.drN ?_ | refine Zb.up (by assumption) ?_ | refine Zb.up (Hid.out (by assumption)) ?_))):ZE w ((w.setCell ⟨g,0,none⟩ c).setCell ⟨g,1,none⟩ d):=
 (h.keepD ht _ _ hg).trans ((h.set_ 0 c).keepD ht _ _ hg)
theorem ZR {n g:Nat} {w w':World} (h:Below n w w') (hg:n≤g) (c d:Value):Below n w ((w'.setCell ⟨g,0,none⟩ c).setCell ⟨g,1,none⟩ d):=(h.setCell hg _).setCell hg _
theorem Zd (w:World) (o:Obj):Below w.heap.size w (w.alloc o):=(JR _ _).alloc (JY _) _
theorem Za {n:Nat} {w w1 w2:World} (h:Below n w w1) (h2:Below w1.heap.size w1 w2) (hn:n≤w1.heap.size):Below n w w2:=h.trans (h2.mono hn)
theorem ZT.shape [Old] {w:World} {v:Value} {a:RI} (h:ZT w v a):∃A n c,v= .agg #[.bool a.neg,.slice A n c]∧ZC w (.slice A n c) a.ds:=by
 obtain ⟨s,rfl,h2⟩:=h;obtain ⟨A,n,c,rfl⟩:=h2.shape;exact ⟨A,n,c,rfl,h2⟩
theorem Yx [Old] {w w2:World} {m g:Nat} {x y b s:Value} {a:RI} (hR:Bk w2 g 34 [x,y]) (d:ZT w2 (.agg #[b,s]) a) (hbe:Below m w w2) (hg:m≤g) (hO:Old.n≤m:=by first | assumption | exact Nat.zero_le _ | omega | ((first | with_reducible refine Zb.le ?_ | with_reducible refine Zb.le1 ?_ | with_reducible refine Zb.le2 ?_ | with_reducible refine Zb.le3 ?_);repeat (first | assumption | exact Zb.up (by assumption) hOl | exact Zb.up (Hid.out (by assumption)) hOl | with_reducible refine Zb.set ?_ _ _ | with_reducible refine Zb.mk_ ?_ _ | with_reducible refine Zb.dr ?_ | with_reducible refine Zb.drN ?_ | refine Zb.up (by assumption) ?_ | refine Zb.up (Hid.out (by assumption)) ?_))):
 ∃v',Ending.returned (.agg [b,s].toArray)= .returned v'∧ZT ((w2.setCell ⟨g,0,none⟩ b).setCell ⟨g,1,none⟩ s) v' a∧Below m w ((w2.setCell ⟨g,0,none⟩ b).setCell ⟨g,1,none⟩ s):=
 ⟨_,rfl,d.keep (hR.keep2 (by decide) _ _),ZR hbe hg _ _⟩
theorem Zcn [Old] (neg:Bool) (v:Value) (ds:List Nat) (w:World) (h:ZC w v ds) (hOl:Zb w:=by (repeat (first | assumption | exact Zb.up (by assumption) hOl | exact Zb.up (Hid.out (by assumption)) hOl | with_reducible refine Zb.set ?_ _ _ | with_reducible refine Zb.mk_ ?_ _ | with_reducible refine Zb.dr ?_ | with_reducible refine Zb.drN ?_ | refine Zb.up (by assumption) ?_ | refine Zb.up (Hid.out (by assumption)) ?_))):
 Calls Tryz.prog 106 #[.bool neg,v] w fun e w'=>∃v',e= .returned v'∧ZT w' v' (canI (sm neg (val ds)))∧Below w.heap.size w w':=by
 have d:=hOl.le;have hR:=Bk.new w 34 [.bool false,.slice none 0 0];have a:=Zd w (.cells [.bool false,.slice none 0 0].toArray 34);have h':=h.below a;go_enter Tryz.func106,Tryz.ntmps106;go_wp2_with fail;generalize w.alloc _=W at *;refine (ZO _ ds _ h').mono ?_;rintro e w1 ⟨v1,rfl,h1,rfl⟩;obtain ⟨A,n,c,rfl⟩:=h1.shape;obtain ⟨kl,b,f,kc⟩:=h1.len;obtain ⟨c0,c1,f0,f1⟩:=hR.two;rcases JV n with h0 | h0
 ·subst h0;have hv:val ds=0:=by
   rcases JV (val ds) with e | e
   ·exact e
   ·have:=YC e;omega
  have HV:=JZ hv;clear hv kl b;go_wp2;refine Zn Tryz.results106 Tryz.underlying34 (by kernel_rfl) rfl (hR.set2 _ _) rfl ?_;exact ⟨_,rfl,by rw [HV.out,Zaa];exact ZT.zero _,ZR a (JY _) _ _⟩
 ·have hv:val ds≠0:=by
   intro e;rw [e,digs_zero] at kl;simp at kl;omega
  have HV:=JZ hv;clear hv kl b;go_wp2;refine Zn Tryz.results106 Tryz.underlying34 (by kernel_rfl) rfl (hR.set2 _ _) rfl ?_;refine ⟨_,rfl,?_,ZR a (JY _) _ _⟩;rw [Zlz _ _ HV.out];exact ⟨_,rfl,h1.keep (hR.keep2 (by decide) _ _)⟩
theorem YG [Old] (z:Int) (w:World) (h0: -9223372036854775808≤z) (h1:z≤9223372036854775807) (hOl:Zb w:=by (repeat (first | assumption | exact Zb.up (by assumption) hOl | exact Zb.up (Hid.out (by assumption)) hOl | with_reducible refine Zb.set ?_ _ _ | with_reducible refine Zb.mk_ ?_ _ | with_reducible refine Zb.dr ?_ | with_reducible refine Zb.drN ?_ | refine Zb.up (by assumption) ?_ | refine Zb.up (Hid.out (by assumption)) ?_))):
 Calls Tryz.prog 97 #[.int .i64 z] w fun e w'=>∃v',e= .returned v'∧ZT w' v' (canI z)∧Below w.heap.size w w':=by
 have g:=hOl.le;have hR:=Bk.new w 34 [.bool false,.slice none 0 0];have d:=Zd w (.cells [.bool false,.slice none 0 0].toArray 34);rcases Int.lt_or_le z 0 with hn | hn
 ·have e1:IntKind.u64.wrap z=z+18446744073709551616:=by simp [IntKind.wrap,IntKind.bits,IntKind.signed];omega
  have e2:IntKind.u64.wrap (-(z+18446744073709551616))= -z:=by simp [IntKind.wrap,IntKind.bits,IntKind.signed];omega
  go_enter Tryz.func97,Tryz.ntmps97;go_wp2_with fail;generalize w.alloc _=W at *;refine (YD (-z) _ (by omega) (by omega)).mono ?_;rintro e w1 ⟨v1,rfl,d1,b⟩;go_wp2_with fail;refine (Zcn true _ _ _ d1).mono ?_;have hz:sm true (val (Zi (-z).toNat))=z:=by rw [Zh];simp [sm];omega
  rw [hz];rintro e w2 ⟨v2,rfl,d2,f⟩;obtain ⟨A,n,c,rfl,_⟩:=d2.shape;have a:=(hR.later b).later f;obtain ⟨c0,c1,f0,f1⟩:=a.two;go_wp2;refine Zn Tryz.results97 Tryz.underlying34 (by kernel_rfl) rfl (a.set2 _ _) rfl ?_;exact Yx a d2 (Za (Za d b d.size) f (JW d.size b.size)) (JY _)
 ·have e1:IntKind.u64.wrap z=z:=u64_in _ hn (by omega);go_enter Tryz.func97,Tryz.ntmps97;go_wp2_with fail;generalize w.alloc _=W at *;refine (YD z _ (by omega) (by omega)).mono ?_;rintro e w1 ⟨v1,rfl,d1,b⟩;go_wp2_with fail;refine (Zcn false _ _ _ d1).mono ?_;have hz:sm false (val (Zi z.toNat))=z:=by rw [Zh];simp [sm];omega
  rw [hz];rintro e w2 ⟨v2,rfl,d2,f⟩;obtain ⟨A,n,c,rfl,_⟩:=d2.shape;have a:=(hR.later b).later f;obtain ⟨c0,c1,f0,f1⟩:=a.two;go_wp2;refine Zn Tryz.results97 Tryz.underlying34 (by kernel_rfl) rfl (a.set2 _ _) rfl ?_;exact Yx a d2 (Za (Za d b d.size) f (JW d.size b.size)) (JY _)
namespace Pl
def sgn (z:Int):Int:=if z < 0 then -1 else if z=0 then 0 else 1
theorem Uy {z:Int} (h:z < 0):sgn z= -1:=by simp [sgn,h]
theorem sgn_zero:sgn 0=0:=by simp [sgn]
theorem Uz {z:Int} (h:0 < z):sgn z=1:=by simp [sgn];omega
theorem len_zero {n:Nat} (h:(Zi n).length=0):n=0:=by
 rcases JV n with e | e
 ·exact e
 ·have:=YC e;omega
theorem Vu {n:Nat} (h:0 < (Zi n).length):n≠0:=by
 intro e;rw [e,digs_zero] at h;simp at h
end Pl
theorem WS [Old] (v:Value) (a:RI) (w:World) (h:ZT w v a) (hOl:Zb w:=by (repeat (first | assumption | exact Zb.up (by assumption) hOl | exact Zb.up (Hid.out (by assumption)) hOl | with_reducible refine Zb.set ?_ _ _ | with_reducible refine Zb.mk_ ?_ _ | with_reducible refine Zb.dr ?_ | with_reducible refine Zb.drN ?_ | refine Zb.up (by assumption) ?_ | refine Zb.up (Hid.out (by assumption)) ?_))):
 Calls Tryz.prog 87 #[v] w fun e w'=>e= .returned (.int .i64 (sgn a.z))∧Below w.heap.size w w':=by
 have i:=hOl.le;obtain ⟨A,n,c,rfl,hd⟩:=h.shape;obtain ⟨d,ds⟩:=a;simp only at hd ⊢;have hR:=Bk.new w 34 [.bool d,.slice A n c];have b:=Zd w (.cells [.bool d,.slice A n c].toArray 34);go_enter Tryz.func87,Tryz.ntmps87;go_wp2_with fail;have g:=hd.below b;generalize w.alloc _=W at *;obtain ⟨c0,c1,f0,f1⟩:=hR.two;refine (ZO _ ds _ g).mono ?_;rintro e w1 ⟨v1,rfl,h1,rfl⟩;obtain ⟨A1,n1,k1,rfl⟩:=h1.shape;obtain ⟨kl,f,j,kc⟩:=h1.len;rcases JV n1 with h0 | h0
 ·subst h0;have hv:val ds=0:=len_zero (by omega);have hz:sgn (RI.z ⟨d,ds⟩)=0:=by rw [RI.z_eq,hv,Zaa,sgn_zero]
  have HZ:=JZ hz;clear hv hz kl f;go_wp2;go_ret;exact ⟨by rw [HZ.out];rfl,b⟩
 ·have hv:val ds≠0:=Vu (by omega);clear kl f
  cases d
  ·have hz:sgn (RI.z ⟨false,ds⟩)=1:=(by rw [RI.z_eq];exact Uz (by simp [sm];omega));have HZ:=JZ hz;clear hv hz;go_wp2;go_ret;exact ⟨by rw [HZ.out];rfl,b⟩
  ·have hz:sgn (RI.z ⟨true,ds⟩)= -1:=(by rw [RI.z_eq];exact Uy (by simp [sm];omega));have HZ:=JZ hz;clear hv hz;go_wp2;go_ret;exact ⟨by rw [HZ.out];rfl,b⟩
theorem size_alloc (w:World) (o:Obj):(w.alloc o).heap.size=w.heap.size+1:=by simp
theorem Zwa (w:World) (x y:Value):∃W,(w.alloc (.cells #[x,y] 34)).alloc (.cells #[.bool false,.slice none 0 0] 34)=W∧Bk W w.heap.size 34 [x,y]∧Bk W (w.heap.size+1) 34 [.bool false,.slice none 0 0]∧Below w.heap.size w W:=by
 refine ⟨_,rfl,(Bk.new w _ [x,y]).alloc _,?_,(Zd w _).alloc (by simp) _⟩;have:=Bk.new (w.alloc (.cells #[x,y] 34)) 34 [.bool false,.slice none 0 0]
 rwa [size_alloc] at this
theorem Zrp (w:World) (x y x' y':Value):∃W,((w.alloc (.cells #[x,y] 34)).alloc (.cells #[x',y'] 34)).alloc (.cells #[.bool false,.slice none 0 0] 34)=W∧Bk W w.heap.size 34 [x,y]∧Bk W (w.heap.size+1) 34 [x',y']∧Bk W (w.heap.size+1+1) 34 [.bool false,.slice none 0 0]∧Below w.heap.size w W:=by
 refine ⟨_,rfl,((Bk.new w _ [x,y]).alloc _).alloc _,?_,?_,((Zd w _).alloc (by simp) _).alloc (by simp;omega) _⟩
 ·have:=Bk.new (w.alloc (.cells #[x,y] 34)) 34 [x',y'];rw [size_alloc] at this;exact this.alloc _
 ·have:=Bk.new ((w.alloc (.cells #[x,y] 34)).alloc (.cells #[x',y'] 34)) 34 [.bool false,.slice none 0 0]
  rwa [size_alloc,size_alloc] at this
theorem Bk.pair {w:World} {g:Nat} {t:TypeId} {a b:Value} (h:Bk w g t [a,b]):w.cell? ⟨g,0,none⟩=some a∧w.cell? ⟨g,1,none⟩=some b:=⟨h.two.1,h.two.2.1⟩
theorem Bk.two_far {w:World} {g g':Nat} {t:TypeId} {a b:Value} (h:Bk w g t [a,b]) (hne:g≠g') (c d:Value):((w.setCell ⟨g',0,none⟩ c).setCell ⟨g',1,none⟩ d).cell? ⟨g,0,none⟩=some a∧((w.setCell ⟨g',0,none⟩ c).setCell ⟨g',1,none⟩ d).cell? ⟨g,1,none⟩=some b:=
 ((h.far (p:=⟨g',0,none⟩) hne c).far (p:=⟨g',1,none⟩) hne d).pair
theorem ZH {w w':World} {p:Addr} {v:Value} (hb:Below w.heap.size w w') (h:w.cell? p=some v):w'.cell? p=some v:=cell_later hb h
theorem Zrq (neg:Bool) (n:Nat):sm (!neg) n= - sm neg n:=by cases neg <;> simp [sm]
theorem ZU [Old] (neg:Bool) (v:Value) (n:Nat) (w:World) (h:ZC w v (Zi n)) (hOl:Zb w:=by (repeat (first | assumption | exact Zb.up (by assumption) hOl | exact Zb.up (Hid.out (by assumption)) hOl | with_reducible refine Zb.set ?_ _ _ | with_reducible refine Zb.mk_ ?_ _ | with_reducible refine Zb.dr ?_ | with_reducible refine Zb.drN ?_ | refine Zb.up (by assumption) ?_ | refine Zb.up (Hid.out (by assumption)) ?_))):
 Calls Tryz.prog 106 #[.bool neg,v] w fun e w'=>∃v',e= .returned v'∧ZT w' v' (canI (sm neg n))∧Below w.heap.size w w':=by
 have a:=hOl.le;have:=Zcn neg v (Zi n) w h
 rwa [Zh] at this
theorem WT [Old] (v:Value) (a:RI) (w:World) (h:ZT w v a) (hs:(Zi (val a.ds)).length≤549755813888) (hOl:Zb w:=by (repeat (first | assumption | exact Zb.up (by assumption) hOl | exact Zb.up (Hid.out (by assumption)) hOl | with_reducible refine Zb.set ?_ _ _ | with_reducible refine Zb.mk_ ?_ _ | with_reducible refine Zb.dr ?_ | with_reducible refine Zb.drN ?_ | refine Zb.up (by assumption) ?_ | refine Zb.up (Hid.out (by assumption)) ?_))):
 Calls Tryz.prog 103 #[v] w fun e w'=>∃v',e= .returned v'∧ZT w' v' (canI (- a.z))∧Below w.heap.size w w':=by
 have j:=hOl.le;obtain ⟨A,n,c,rfl,hd⟩:=h.shape;obtain ⟨g,ds⟩:=a;simp only at hd hs ⊢;obtain ⟨W,hW,hX,hR,f⟩:=Zwa w (.bool g) (.slice A n c);have i:=hd.below f;go_enter Tryz.func103,Tryz.ntmps103;go_wp2_with fail;clear hW;obtain ⟨x0,x1,y0,y1⟩:=hX.two
 go_region_held3 (fun w'=>w'.cell? ⟨w.heap.size,0,none⟩=some (.bool g)∧w'.cell? ⟨w.heap.size,1,none⟩=some (.slice A n c))
  (first | exact ⟨x0,x1⟩ | exact (hX.drew.later b).pair | exact ((hX.drew.later b).later d).pair | exact ((hX.drew.later b).later d).two_far (by omega) _ _)
  (first
   | (go_at_call 108;refine (ZO _ ds _ (i.keep (ZE.drew _))).mono ?_;rintro e w1 ⟨v1,rfl,h1,rfl⟩)
   | (go_at_call 120;refine (VP _ _ _ h1 (by omega)).mono ?_;rintro e w2 ⟨v2,rfl,h2,b⟩)
   | (go_at_call 106;refine (ZU (!g) _ _ _ (We h2 (ZV _))).mono ?_;rintro e w3 ⟨v3,rfl,h3,d⟩;obtain ⟨A3,n3,k3,rfl,_⟩:=h3.shape;obtain ⟨c0,c1,f0,f1⟩:=((hR.drew.later b).later d).two))
 go_wp2;refine Zn Tryz.results103 Tryz.underlying34 (by kernel_rfl) rfl (((hR.drew.later b).later d).set2 _ _) rfl ?_;rw [RI.z_eq,← Zrq];exact Yx ((hR.drew.later b).later d) h3 (Za (Za f.drew b f.size) d (JW f.size b.size)) (Nat.le_succ _)
namespace Pl
theorem Zab (b:Bool) (X Y:Nat):sm b X+sm b Y=sm b (X+Y):=by cases b <;> simp [sm] <;> omega
theorem Zhp {a b:Bool} (hab:(a==b)=false) {X Y:Nat} (h:Y≤X):sm a X+sm b Y=sm a (X - Y):=by cases a <;> cases b <;> simp [sm] at hab ⊢ <;> omega
theorem Zhq {a b:Bool} (hab:(a==b)=false) {X Y:Nat} (h:X≤Y):sm a X+sm b Y=sm b (Y - X):=by cases a <;> cases b <;> simp [sm] at hab ⊢ <;> omega
end Pl
theorem VT [Old] (a b:Bool) (v1 v2:Value) (X Y:Nat) (w:World) (h1:ZC w v1 (Zi X)) (h2:ZC w v2 (Zi Y)) (hs:(Zi X).length≤549755813888) (hs2:(Zi Y).length≤549755813888) (hOl:Zb w:=by (repeat (first | assumption | exact Zb.up (by assumption) hOl | exact Zb.up (Hid.out (by assumption)) hOl | with_reducible refine Zb.set ?_ _ _ | with_reducible refine Zb.mk_ ?_ _ | with_reducible refine Zb.dr ?_ | with_reducible refine Zb.drN ?_ | refine Zb.up (by assumption) ?_ | refine Zb.up (Hid.out (by assumption)) ?_))):
 Calls Tryz.prog 111 #[.bool a,v1,.bool b,v2] w fun e w'=>∃v',e= .returned v'∧ZT w' v' (canI (sm a X+sm b Y))∧Below w.heap.size w w':=by
 have l:=hOl.le;have hR:=Bk.new w 34 [.bool false,.slice none 0 0];have f:=Zd w (.cells [.bool false,.slice none 0 0].toArray 34);have d1:=h1.below f;have d2:=h2.below f;by_cases k:(a==b)=true
 ·obtain rfl:a=b:=by simpa using k
  go_enter Tryz.func111,Tryz.ntmps111;go_wp2_with fail;generalize w.alloc _=W at *;refine (Ut _ _ (Zi X) (Zi Y) _ d1 d2 hs hs2).mono ?_;rw [Zh,Zh];rintro e w1 ⟨v1,rfl,e1,g⟩;go_wp2_with fail;refine (ZU a _ _ _ e1).mono ?_;rw [← Zab];rintro e w2 ⟨v2,rfl,e2,i⟩;obtain ⟨A,n,c,rfl,_⟩:=e2.shape;have d:=(hR.later g).later i;obtain ⟨c0,c1,f0,f1⟩:=d.two;go_wp2;refine Zn Tryz.results111 Tryz.underlying34 (by kernel_rfl) rfl (d.set2 _ _) rfl ?_;exact Yx d e2 (Za (Za f g f.size) i (JW f.size g.size)) (JY _)
 ·have j:(a==b)=false:=by simpa using k
  clear k;rcases JX X Y with hXY | hXY
  ·have hc:cmpN X Y= -1:=WE hXY;go_enter Tryz.func111,Tryz.ntmps111;go_wp2_with fail;generalize w.alloc _=W at *;refine (ZW _ _ X Y _ d1 d2).mono ?_;rw [hc];rintro e w0 ⟨rfl,h⟩;go_wp2_with fail;refine (WR _ _ (Zi Y) (Zi X) _ (d2.below h) (d1.below h) (by rw [Zh,Zh];omega) (Zo (Nat.le_of_lt hXY)) hs2).mono ?_;rw [Zh,Zh];rintro e w1 ⟨v1,rfl,e1,g⟩;go_wp2_with fail;refine (ZU b _ _ _ e1).mono ?_;rw [← Zhq j (Nat.le_of_lt hXY)];rintro e w2 ⟨v2,rfl,e2,i⟩;obtain ⟨A,n,c,rfl,_⟩:=e2.shape;have d:=((hR.later h).later g).later i;obtain ⟨c0,c1,f0,f1⟩:=d.two;go_wp2;refine Zn Tryz.results111 Tryz.underlying34 (by kernel_rfl) rfl (d.set2 _ _) rfl ?_;have b0:=Za f h f.size;have b1:=Za b0 g b0.size;exact Yx d e2 (Za b1 i b1.size) (JY _)
  ·have hc:0≤cmpN X Y:=(by unfold cmpN;split;omega;split <;> omega);have m:=Zfx X Y;go_enter Tryz.func111,Tryz.ntmps111;go_wp2_with fail;generalize w.alloc _=W at *;refine (ZW _ _ X Y _ d1 d2).mono ?_;rintro e w0 ⟨rfl,h⟩;generalize cmpN X Y=cc at *;go_wp2_with fail;refine (WR _ _ (Zi X) (Zi Y) _ (d1.below h) (d2.below h) (by rw [Zh,Zh];omega) (Zo hXY) hs).mono ?_;rw [Zh,Zh];rintro e w1 ⟨v1,rfl,e1,g⟩;go_wp2_with fail;refine (ZU a _ _ _ e1).mono ?_;rw [← Zhp j hXY];rintro e w2 ⟨v2,rfl,e2,i⟩;obtain ⟨A,n,c,rfl,_⟩:=e2.shape;have d:=((hR.later h).later g).later i;obtain ⟨c0,c1,f0,f1⟩:=d.two;go_wp2;refine Zn Tryz.results111 Tryz.underlying34 (by kernel_rfl) rfl (d.set2 _ _) rfl ?_;have b0:=Za f h f.size;have b1:=Za b0 g b0.size;exact Yx d e2 (Za b1 i b1.size) (JY _)
theorem Zhr [Old] (v1 v2:Value) (a b:RI) (w:World) (h1:ZT w v1 a) (h2:ZT w v2 b) (hs:(Zi (val a.ds)).length≤549755813888) (hs2:(Zi (val b.ds)).length≤549755813888) (hOl:Zb w:=by (repeat (first | assumption | exact Zb.up (by assumption) hOl | exact Zb.up (Hid.out (by assumption)) hOl | with_reducible refine Zb.set ?_ _ _ | with_reducible refine Zb.mk_ ?_ _ | with_reducible refine Zb.dr ?_ | with_reducible refine Zb.drN ?_ | refine Zb.up (by assumption) ?_ | refine Zb.up (Hid.out (by assumption)) ?_))):
 Calls Tryz.prog 94 #[v1,v2] w fun e w'=>∃v',e= .returned v'∧ZT w' v' (canI (a.z+b.z))∧Below w.heap.size w w':=by
 have p:=hOl.le;obtain ⟨A,n,c,rfl,hd⟩:=h1.shape;obtain ⟨A',n',c',rfl,l⟩:=h2.shape;obtain ⟨h,ds⟩:=a;obtain ⟨f,o⟩:=b;simp only at hd hs l hs2 ⊢;obtain ⟨W,hW,hX,i,hR,g⟩:=Zrp w (.bool h) (.slice A n c) (.bool f) (.slice A' n' c');have m:=hd.below g;have j:=l.below g;have k:True:=trivial;go_enter Tryz.func94,Tryz.ntmps94;go_wp2_with fail;clear hW
 go_region_held3 (fun w'=>(w'.cell? ⟨w.heap.size,0,none⟩=some (.bool h)∧w'.cell? ⟨w.heap.size,1,none⟩=some (.slice A n c))∧(w'.cell? ⟨w.heap.size+1,0,none⟩=some (.bool f)∧w'.cell? ⟨w.heap.size+1,1,none⟩=some (.slice A' n' c')))
  (first | exact ⟨hX.pair,i.pair⟩ | exact ⟨(hX.drew.later d).pair,(i.drew.later d).pair⟩ | exact ⟨(hX.drew.later d).two_far (by omega) _ _,(i.drew.later d).two_far (by omega) _ _⟩)
  (first
   | (go_at_call 108;have _t:=k;refine (ZO _ ds _ (m.keep (ZE.drew _))).mono ?_;clear k _t;rintro e w1 ⟨v1,rfl,e1,rfl⟩)
   | (go_at_call 108;refine (ZO _ o _ (j.keep (ZE.drew _))).mono ?_;rintro e w1 ⟨v2,rfl,e2,rfl⟩)
   | (go_at_call 111;refine (VT h f _ _ _ _ _ e1 e2 hs hs2).mono ?_;rintro e w3 ⟨v3,rfl,h3,d⟩;obtain ⟨A3,n3,k3,rfl,_⟩:=h3.shape;obtain ⟨c0,c1,f0,f1⟩:=(hR.drew.later d).two))
 go_wp2;refine Zn Tryz.results94 Tryz.underlying34 (by kernel_rfl) rfl ((hR.drew.later d).set2 _ _) rfl ?_;exact Yx (hR.drew.later d) h3 (Za g.drew d g.size) (by omega)
theorem boxes (w:World) (x y x' y':Value):∃W,(w.alloc (.cells #[x,y] 34)).alloc (.cells #[x',y'] 34)=W∧Bk W w.heap.size 34 [x,y]∧Bk W (w.heap.size+1) 34 [x',y']∧Below w.heap.size w W:=by
 refine ⟨_,rfl,(Bk.new w _ [x,y]).alloc _,?_,(Zd w _).alloc (by simp) _⟩;have:=Bk.new (w.alloc (.cells #[x,y] 34)) 34 [x',y']
 rwa [size_alloc] at this
namespace Pl
theorem Zmb (X Y:Nat):sgn ((X:Int) - Y)=cmpN X Y:=by
 unfold sgn cmpN;rcases Nat.lt_trichotomy X Y with h | h | h
 ·rw [if_pos (by omega),if_pos h]
 ·subst h;simp
 ·rw [if_neg (by omega),if_neg (by omega),if_neg (by omega),if_neg (by omega)]
theorem Zsv (X Y:Nat):sgn (sm true X - sm true Y)=cmpN Y X:=by rw [← Zmb];simp [sm];congr 1;omega
theorem Zco (X Y:Nat):sgn (sm false X - sm false Y)=cmpN X Y:=by rw [← Zmb];simp [sm]
theorem Zmc (X Y:Nat) (h:X≠0):sgn (sm true X - sm false Y)= -1:=by apply Uy;simp [sm];omega
theorem Zmd (X Y:Nat) (h:Y≠0):sgn (sm false X - sm true Y)=1:=by apply Uz;simp [sm];omega
theorem Zum {n:Nat} (h:n=0) (b:Bool):sm b n=sm false n:=by subst h;simp [sm]
end Pl
theorem UK [Old] (v1 v2:Value) (a b:RI) (w:World) (h1:ZT w v1 a) (h2:ZT w v2 b) (hOl:Zb w:=by (repeat (first | assumption | exact Zb.up (by assumption) hOl | exact Zb.up (Hid.out (by assumption)) hOl | with_reducible refine Zb.set ?_ _ _ | with_reducible refine Zb.mk_ ?_ _ | with_reducible refine Zb.dr ?_ | with_reducible refine Zb.drN ?_ | refine Zb.up (by assumption) ?_ | refine Zb.up (Hid.out (by assumption)) ?_))):
 Calls Tryz.prog 88 #[v1,v2] w fun e w'=>e= .returned (.int .i64 (sgn (a.z - b.z)))∧Below w.heap.size w w':=by
 have I:=hOl.le;obtain ⟨A,n,c,rfl,hd⟩:=h1.shape;obtain ⟨A',n',c',rfl,C⟩:=h2.shape;obtain ⟨o,ds⟩:=a;obtain ⟨i,g⟩:=b;simp only at hd C ⊢;obtain ⟨W,hW,hX,j,k⟩:=boxes w (.bool o) (.slice A n c) (.bool i) (.slice A' n' c');have p:=hd.below k;have l:=C.below k;rw [RI.z_eq,RI.z_eq];simp only;have q:True:=trivial;go_enter Tryz.func88,Tryz.ntmps88;go_wp2_with fail;clear hW;obtain ⟨x0,x1,_,_⟩:=hX.two;obtain ⟨D,E,_,_⟩:=j.two
 go_region_held3 (fun w'=>(w'.cell? ⟨w.heap.size,0,none⟩=some (.bool o)∧w'.cell? ⟨w.heap.size,1,none⟩=some (.slice A n c))∧(w'.cell? ⟨w.heap.size+1,0,none⟩=some (.bool i)∧w'.cell? ⟨w.heap.size+1,1,none⟩=some (.slice A' n' c')))
  (exact ⟨hX.pair,j.pair⟩)
  (first
   | (go_at_call 108;have _t:=q;refine (ZO _ ds _ (p.keep (ZE.drew _))).mono ?_;clear q _t;rintro e w1 ⟨v1,rfl,e1,rfl⟩)
   | (go_at_call 108;refine (ZO _ g _ (l.keep (ZE.drew _))).mono ?_;rintro e w1 ⟨v2,rfl,e2,rfl⟩))
 have F:=hX.drew;have r:=j.drew;have d:=k.drew;clear hX j k p l x0 x1 D E;generalize W.drew=W2 at *;obtain ⟨x0,x1,_,_⟩:=F.two;obtain ⟨D,E,_,_⟩:=r.two;obtain ⟨A1,n1,c1,rfl⟩:=e1.shape;obtain ⟨kl,G,J,kc⟩:=e1.len;obtain ⟨A2,n2,c2,rfl⟩:=e2.shape;obtain ⟨jl,H,K,jc⟩:=e2.len;have s:n1=0→val ds=0:=fun h=>len_zero (by omega)
 have t:0 < n1→val ds≠0:=fun h=>Vu (by omega)
 have u:n2=0→val g=0:=fun h=>len_zero (by omega)
 have v:0 < n2→val g≠0:=fun h=>Vu (by omega)
 have x:=JZ s;have y:=JZ t;have m:=JZ u;have B:=JZ v;clear s t u v kl G jl H
 cases o
 ·cases i
  ·go_wp2_with fail;refine (ZW _ _ (val ds) (val g) _ e1 e2).mono ?_;rintro e w3 ⟨rfl,f⟩;go_wp2;go_ret;exact ⟨by rw [Zco];rfl,Za d f d.size⟩
  ·rcases JV n2 with h0 | h0
   ·have ZY:=JZ (m.out h0);subst h0;go_wp2_with fail;refine (ZW _ _ (val ds) (val g) _ e1 e2).mono ?_;rintro e w3 ⟨rfl,f⟩;go_wp2;go_ret;exact ⟨by rw [Zum ZY.out true,Zco];rfl,Za d f d.size⟩
   ·go_wp2;go_ret;exact ⟨by rw [Zmd _ _ (B.out h0)];rfl,d⟩
 ·cases i
  ·rcases JV n1 with h0 | h0
   ·have ZX:=JZ (x.out h0);subst h0;go_wp2_with fail;refine (ZW _ _ (val ds) (val g) _ e1 e2).mono ?_;rintro e w3 ⟨rfl,f⟩;go_wp2;go_ret;exact ⟨by rw [Zum ZX.out true,Zco];rfl,Za d f d.size⟩
   ·go_wp2;go_ret;exact ⟨by rw [Zmc _ _ (y.out h0)];rfl,d⟩
  ·rcases JV n1 with h0 | h0
   ·have ZX:=JZ (x.out h0);subst h0;rcases JV n2 with h0 | h0
    ·have ZY:=JZ (m.out h0);subst h0;go_wp2_with fail;refine (ZW _ _ (val ds) (val g) _ e1 e2).mono ?_;rintro e w3 ⟨rfl,f⟩;go_wp2;go_ret;exact ⟨by rw [Zum ZX.out true,Zum ZY.out true,Zco];rfl,Za d f d.size⟩
    ·go_wp2;go_ret;exact ⟨by rw [Zum ZX.out true,Zmd _ _ (B.out h0)];rfl,d⟩
   ·rcases JV n2 with h1 | h1
    ·have ZY:=JZ (m.out h1);subst h1;go_wp2;go_ret;exact ⟨by rw [Zum ZY.out true,Zmc _ _ (y.out h0)];rfl,d⟩
    ·go_wp2_with fail;refine (ZW _ _ (val g) (val ds) _ e2 e1).mono ?_;rintro e w3 ⟨rfl,f⟩;go_wp2;go_ret;exact ⟨by rw [Zsv];rfl,Za d f d.size⟩
end Go.Proofs.YtidgdpkcloaheaaGreat
