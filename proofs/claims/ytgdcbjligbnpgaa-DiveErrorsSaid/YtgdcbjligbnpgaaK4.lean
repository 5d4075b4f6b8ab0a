/- Lemmas of the claim; no condition. -/
import Derived.Maps.AppendAt
import Derived.Lib.SliceRun
import Derived.Deep.DeepCutAuto
import Derived.Deep.CutBlock
import Derived.Deep.AppendLies
import Derived.Deep.LoopGhost
import Derived.Test.YtgdcbjligbnpgaaK2
set_option linter.all false
set_option maxRecDepth 100000
set_option maxHeartbeats 40000000
namespace Go.Proofs.Ytgdcbjligbnpgaa
open Go.RowKit
open Pl
attribute [local go_sem ↓] Go.wp_at_zero Go.wp_at_succ
theorem own_dig {w:World} {base:Nat} {v:Value} {n:Nat} {ds:List Nat} (h:w.ownsRow base 50 1 v n (ds.map uc)) (ok:okD ds):DigM w v ds:=by
 have hl:ds.length=n:=by simpa using h.1
 subst hl
 rcases h.2 with ⟨rfl,h0⟩ | ⟨g,cap,cur,rfl,hb,hg,hnc,hcm,hcs,htake⟩
 ·exact ⟨none,0,by rw [h0],by omega,by simp,ok,fun hp=>by omega⟩
 ·refine ⟨_,cap,rfl,hnc,hcm,ok,fun _=>⟨g,0,cur,(0,0),rfl,hg,fun k d hk=>?_⟩⟩
  have h1:(cur.toList.take (ds.length * 1))[k]? =some (uc d):=by rw [htake];simp [hk]
  rw [List.getElem?_take] at h1
  split at h1
  ·simpa using h1
  ·cases h1
theorem uc_oneCell (ds:List Nat):∀u∈ds.map uc,u.oneCell'=true:=by
 intro u hu
 obtain ⟨d,_,rfl⟩:=List.mem_map.1 hu
 rfl
theorem DigM.news {w:World} {ad:Addr} {n c:Nat} {ds:List Nat} (h:DigM w (.slice (some ad) n c) ds):∀j u,(ds.map uc)[j]? =some u→w.cell? (ad.add j)=some u:=by
 intro j u hu
 rw [List.getElem?_map] at hu
 cases hd:ds[j]? with
 | none=>rw [hd] at hu;cases hu
 | some d=>
  rw [hd] at hu
  injection hu with hu
  subst hu
  obtain ⟨A',c1,hv,h1,h2,h3,h4⟩:=h
  injection hv with e1 e2 e3
  have hj:j < ds.length:=(List.getElem?_eq_some_iff.1 hd).1
  obtain ⟨b,off,cs,fz,hA,hb,hcell⟩:=h4 (by omega)
  rw [← e1] at hA
  injection hA with hA
  subst hA
  have:(⟨b,off,none⟩:Addr).add j=⟨b,off+j,none⟩:=by unfold Addr.add;split <;> simp_all
  rw [this,cell_of_row w b (off+j) cs _ fz hb]
  exact hcell j d hd
theorem clone_any (v:Value) (ds:List Nat) (w:World) (h:DigM w v ds) (hs:ds.length≤1099511627776):
 Calls Try.prog 96 #[v] w fun e w'=>∃v',e= .returned v'∧w'.ownsRow w.heap.size 50 1 v' ds.length (ds.map uc)∧Below w.heap.size w w':=by
 obtain ⟨A,n,c,rfl⟩:=h.shape
 obtain ⟨hl,hl',hnc,hc⟩:=h.len
 have hn:ds.length=n:=by omega
 rw [hn]
 have HN:=Lib.hid hn
 clear hn
 have heql:=fun (W:World) (a:Option Addr)=>Go.Lib.run_eql_slice_nil (P:=Try.prog) W 66 50 a n c 0 0 Try.underlying66
 obtain ⟨i0,hi,hz0,hz1,hz2⟩:=info_parts info_u32
 cases A with
 | none=>
  have hn0:n=0:=by
   rcases Nat.eq_zero_or_pos n with h0 | h0
   ·exact h0
   ·obtain ⟨b,off,hA,_⟩:=h.at_ h0;cases hA
  subst hn0
  obtain rfl:ds=[]:=List.length_eq_zero_iff.1 HN.out
  have:=heql w none
  clear heql
  go_enter Try.func96,Try.ntmps96
  go_wp2
  go_ret
  exact ⟨_,rfl,World.ownsRow_nil _ _ _ _,Below.refl _ _⟩
 | some ad=>
  have:=heql w (some ad)
  clear heql
  go_enter Try.func96,Try.ntmps96
  go_wp2_with (at_builtin;refine wpList_append_own_at _ rfl (.tmp 5) (.tmp 6) _ rfl w.heap.size 50 i0 _ 1 4 Try.underlying66 hi hz0 hz1 hz2 rfl (by decide) (.slice (some ⟨w.heap.size,0,none⟩) 0 0) 0 [] rfl ?c0 ad n c (ds.map uc) rfl ?c1 ?c2 (uc_oneCell ds) ?c3 ?c4 ?c5 ?_)
  case c0=>exact World.ownsRow_made w #[] 0 (Nat.le_refl _) (by simp) (by simp)
  case c1=>simp;omega
  case c2=>exact (h.below ((Below.refl _ _).alloc (Nat.le_refl _) _)).news
  case c3=>unfold maxLen;omega
  case c4=>omega
  case c5=>simp
  ·intro v' w1 hown hgrow _ _
   go_wp2
   go_ret
   refine ⟨_,rfl,by simpa using hown,((Below.refl _ _).alloc (Nat.le_refl _) _).grown hgrow (by simp) (fun k hk=>?_)⟩
   simp [Value.ownBlock] at hk
   omega
section
def Bk (w:World) (g:Nat) (t:TypeId) (cs:List Value):Prop:=w.heap[g]? =some (.cells cs.toArray t (0,0))
section
variable {w w':World} {g:Nat} {t:TypeId} {cs:List Value}
theorem Bk.lt (h:Bk w g t cs):g < w.heap.size:=lt_heap h
theorem Bk.cell (h:Bk w g t cs) (i:Nat):w.cell? ⟨g,i,none⟩=cs[i]? :=by rw [cell_of_row w g i _ t (0,0) h];simp
theorem Bk.cellAt (h:Bk w g t cs) (i:Nat) {v:Value} (hv:cs[i]? =some v):w.cell? ⟨g,i,none⟩=some v:=by rw [h.cell,hv]
theorem Bk.frozen (h:Bk w g t cs) (i:Nat):w.frozen? ⟨g,i,none⟩=false:=frozen_of_row w g i _ t h
theorem Bk.new (w:World) (t:TypeId) (cs:List Value):Bk (w.alloc (.cells cs.toArray t)) w.heap.size t cs:=heap_alloc_new w _
theorem Bk.alloc (h:Bk w g t cs) (o:Obj):Bk (w.alloc o) g t cs:=(Below.heap_alloc w o g h.lt).trans h
theorem Bk.drew (h:Bk w g t cs):Bk w.drew g t cs:=h
theorem Bk.set_ (h:Bk w g t cs) (i:Nat) (u:Value):Bk (w.setCell ⟨g,i,none⟩ u) g t (cs.set i u):=by
 unfold Bk at h ⊢
 rw [heap_setCell_same w g i _ t u h]
 simp
theorem Bk.far (h:Bk w g t cs) {p:Addr} (hp:g≠p.block) (u:Value):Bk (w.setCell p u) g t cs:=(Below.heap_setCell w p u g hp).trans h
theorem Bk.below {B:Nat} (h:Bk w g t cs) (hb:Below B w w') (hg:g < B):Bk w' g t cs:=(hb.block g hg).trans h
theorem Bk.later (h:Bk w g t cs) (hb:Below w.heap.size w w'):Bk w' g t cs:=h.below hb h.lt
theorem Bk.grown {row:Option Nat} (h:Bk w g t cs) (hg:w.grownBy w' row) (hne:some g≠row):Bk w' g t cs:=(hg.block g h.lt hne).trans h
theorem Bk.ne_of {g':Nat} {t':TypeId} {cs':List Value} (h:Bk w g t cs) (h':Bk w g' t' cs') (hne:t≠t'):g≠g':=by
 rintro rfl
 unfold Bk at h h'
 rw [h] at h'
 injection h' with h'
 injection h' with _ h2 _
 exact hne h2
theorem Bk.keepD (h:Bk w g t cs) (ht:t≠50) (i:Nat) (u:Value):Keep w (w.setCell ⟨g,i,none⟩ u):=Keep.setCell h ht i u
end
theorem ret_cell {P:Program} {fn:Func} {R:Ending→World→Prop} {a:Act} {w:World} {p:Tmp} {ty:TypeId} {g:Nat} {t:TypeId} {cs:List Value} {fs:Array Field} (hres:fn.results=#[.cell p ty]) (hu:P.underlying ty=some (.struct fs)) (hi:(P.info? ty).map (·.size)=some cs.length)
 (hp:a.tmps.getD p undef= .pointer (some ⟨g,0,none⟩)) (hB:Bk w g t cs) (hd:a.defers=[]) (hR:R (.returned (.agg cs.toArray)) w):bodyPost P fn R .ret a w:=
 bodyPost_ret (results_cell_row hres a.tmps w g t cs.toArray (0,0) _ hp hB hu rfl (by simpa using hi)) hd hR
end
namespace Pl
structure RI where
 neg:Bool
 ds:List Nat
def RI.z (a:RI):Int:=if a.neg then -(val a.ds:Int) else (val a.ds:Int)
def canI (z:Int):RI:=⟨decide (z < 0),digs z.natAbs⟩
def sm (neg:Bool) (n:Nat):Int:=if neg then -(n:Int) else (n:Int)
theorem RI.z_eq (a:RI):a.z=sm a.neg (val a.ds):=rfl
theorem canI_sm (neg:Bool) (n:Nat) (h:n≠0):canI (sm neg n)=⟨neg,digs n⟩:=by
 cases neg <;> simp [canI,sm] <;> omega
theorem canI_zero:canI 0=⟨false,[]⟩:=by simp [canI,digs_zero]
theorem sm_zero (neg:Bool):sm neg 0=0:=by cases neg <;> simp [sm]
theorem canI_z (z:Int):(canI z).z=z:=by
 simp only [RI.z,canI,val_digs]
 by_cases h:z < 0
 ·simp [h];omega
 ·simp [h];omega
theorem z_natAbs (a:RI):a.z.natAbs=val a.ds:=by
 unfold RI.z;split <;> simp
end Pl
def IntM (w:World) (v:Value) (a:RI):Prop:=∃s,v= .agg #[.bool a.neg,s]∧DigM w s a.ds
theorem IntM.keep {w w':World} {v:Value} {a:RI} (h:IntM w v a) (hk:Keep w w'):IntM w' v a:=by
 obtain ⟨s,h1,h2⟩:=h;exact ⟨s,h1,h2.keep hk⟩
theorem IntM.below {w w':World} {v:Value} {a:RI} (h:IntM w v a) (hb:Below w.heap.size w w'):IntM w' v a:=h.keep (Keep.of_below hb)
theorem IntM.zero (w:World):IntM w (.agg #[.bool false,.slice none 0 0]) (canI 0):=by
 rw [canI_zero];exact ⟨_,rfl,DigM.nil _ _ _ (by simp)⟩
theorem Bk.two {w:World} {g:Nat} {t:TypeId} {a b:Value} (h:Bk w g t [a,b]):w.cell? ⟨g,0,none⟩=some a∧w.cell? ⟨g,1,none⟩=some b∧w.frozen? ⟨g,0,none⟩=false∧w.frozen? ⟨g,1,none⟩=false:=
 ⟨h.cellAt 0 rfl,h.cellAt 1 rfl,h.frozen 0,h.frozen 1⟩
theorem Bk.set2 {w:World} {g:Nat} {t:TypeId} {a b:Value} (h:Bk w g t [a,b]) (c d:Value):Bk ((w.setCell ⟨g,0,none⟩ c).setCell ⟨g,1,none⟩ d) g t [c,d]:=(h.set_ 0 c).set_ 1 d
theorem Bk.keep2 {w:World} {g:Nat} {t:TypeId} {a b:Value} (h:Bk w g t [a,b]) (ht:t≠50) (c d:Value):Keep w ((w.setCell ⟨g,0,none⟩ c).setCell ⟨g,1,none⟩ d):=
 (h.keepD ht _ _).trans ((h.set_ 0 c).keepD ht _ _)
theorem below_set2 {n g:Nat} {w w':World} (h:Below n w w') (hg:n≤g) (c d:Value):Below n w ((w'.setCell ⟨g,0,none⟩ c).setCell ⟨g,1,none⟩ d):=(h.setCell hg _).setCell hg _
theorem below_new (w:World) (o:Obj):Below w.heap.size w (w.alloc o):=(Below.refl _ _).alloc (Nat.le_refl _) _
theorem below_then {n:Nat} {w w1 w2:World} (h:Below n w w1) (h2:Below w1.heap.size w1 w2) (hn:n≤w1.heap.size):Below n w w2:=h.trans (h2.mono hn)
theorem IntM.shape {w:World} {v:Value} {a:RI} (h:IntM w v a):∃A n c,v= .agg #[.bool a.neg,.slice A n c]∧DigM w (.slice A n c) a.ds:=by
 obtain ⟨s,rfl,h2⟩:=h
 obtain ⟨A,n,c,rfl⟩:=h2.shape
 exact ⟨A,n,c,rfl,h2⟩
theorem fin_int {w w2:World} {m g:Nat} {x y b s:Value} {a:RI} (hR:Bk w2 g 68 [x,y]) (d:IntM w2 (.agg #[b,s]) a) (hbe:Below m w w2) (hg:m≤g):
 ∃v',Ending.returned (.agg [b,s].toArray)= .returned v'∧IntM ((w2.setCell ⟨g,0,none⟩ b).setCell ⟨g,1,none⟩ s) v' a∧Below m w ((w2.setCell ⟨g,0,none⟩ b).setCell ⟨g,1,none⟩ s):=
 ⟨_,rfl,d.keep (hR.keep2 (by decide) _ _),below_set2 hbe hg _ _⟩
theorem wrap_any (neg:Bool) (v:Value) (ds:List Nat) (w:World) (h:DigM w v ds):
 Calls Try.prog 80 #[.bool neg,v] w fun e w'=>∃v',e= .returned v'∧IntM w' v' (canI (sm neg (val ds)))∧Below w.heap.size w w':=by
 have hR:=Bk.new w 68 [.bool false,.slice none 0 0]
 have hbe:=below_new w (.cells [.bool false,.slice none 0 0].toArray 68)
 have h':=h.below hbe
 go_enter Try.func80,Try.ntmps80
 go_wp2_with fail
 generalize w.alloc _=W at *
 refine (trim_any _ ds _ h').mono ?_
 rintro e w1 ⟨v1,rfl,h1,rfl⟩
 obtain ⟨A,n,c,rfl⟩:=h1.shape
 obtain ⟨kl,kl',knc,kc⟩:=h1.len
 obtain ⟨c0,c1,f0,f1⟩:=hR.two
 rcases Nat.eq_zero_or_pos n with h0 | h0
 ·subst h0
  have hv:val ds=0:=by
   rcases Nat.eq_zero_or_pos (val ds) with e | e
   ·exact e
   ·have:=digs_len_pos e;omega
  have HV:=Lib.hid hv
  clear hv kl kl'
  go_wp2
  refine ret_cell Try.results80 Try.underlying68 (by kernel_rfl) rfl (hR.set2 _ _) rfl ?_
  exact ⟨_,rfl,by rw [HV.out,sm_zero];exact IntM.zero _,below_set2 hbe (Nat.le_refl _) _ _⟩
 ·have hv:val ds≠0:=by
   intro e
   rw [e,digs_zero] at kl
   simp at kl
   omega
  have HV:=Lib.hid hv
  clear hv kl kl'
  go_wp2
  refine ret_cell Try.results80 Try.underlying68 (by kernel_rfl) rfl (hR.set2 _ _) rfl ?_
  refine ⟨_,rfl,?_,below_set2 hbe (Nat.le_refl _) _ _⟩
  rw [canI_sm _ _ HV.out]
  exact ⟨_,rfl,h1.keep (hR.keep2 (by decide) _ _)⟩
theorem fromInt64_any (z:Int) (w:World) (h0: -9223372036854775808≤z) (h1:z≤9223372036854775807):
 Calls Try.prog 77 #[.int .i64 z] w fun e w'=>∃v',e= .returned v'∧IntM w' v' (canI z)∧Below w.heap.size w w':=by
 have hR:=Bk.new w 68 [.bool false,.slice none 0 0]
 have hbe:=below_new w (.cells [.bool false,.slice none 0 0].toArray 68)
 rcases Int.lt_or_le z 0 with hn | hn
 ·have e1:IntKind.u64.wrap z=z+18446744073709551616:=by simp [IntKind.wrap,IntKind.bits,IntKind.signed];omega
  have e2:IntKind.u64.wrap (-(z+18446744073709551616))= -z:=by simp [IntKind.wrap,IntKind.bits,IntKind.signed];omega
  go_enter Try.func77,Try.ntmps77
  go_wp2_with fail
  generalize w.alloc _=W at *
  refine (fromWord_any (-z) _ (by omega) (by omega)).mono ?_
  rintro e w1 ⟨v1,rfl,d1,hb1⟩
  go_wp2_with fail
  refine (wrap_any true _ _ _ d1).mono ?_
  have hz:sm true (val (digs (-z).toNat))=z:=by rw [val_digs];simp [sm];omega
  rw [hz]
  rintro e w2 ⟨v2,rfl,d2,hb2⟩
  obtain ⟨A,n,c,rfl,_⟩:=d2.shape
  have hR2:=(hR.later hb1).later hb2
  obtain ⟨c0,c1,f0,f1⟩:=hR2.two
  go_wp2
  refine ret_cell Try.results77 Try.underlying68 (by kernel_rfl) rfl (hR2.set2 _ _) rfl ?_
  exact fin_int hR2 d2 (below_then (below_then hbe hb1 hbe.size) hb2 (Nat.le_trans hbe.size hb1.size)) (Nat.le_refl _)
 ·have e1:IntKind.u64.wrap z=z:=u64_in _ hn (by omega)
  go_enter Try.func77,Try.ntmps77
  go_wp2_with fail
  generalize w.alloc _=W at *
  refine (fromWord_any z _ (by omega) (by omega)).mono ?_
  rintro e w1 ⟨v1,rfl,d1,hb1⟩
  go_wp2_with fail
  refine (wrap_any false _ _ _ d1).mono ?_
  have hz:sm false (val (digs z.toNat))=z:=by rw [val_digs];simp [sm];omega
  rw [hz]
  rintro e w2 ⟨v2,rfl,d2,hb2⟩
  obtain ⟨A,n,c,rfl,_⟩:=d2.shape
  have hR2:=(hR.later hb1).later hb2
  obtain ⟨c0,c1,f0,f1⟩:=hR2.two
  go_wp2
  refine ret_cell Try.results77 Try.underlying68 (by kernel_rfl) rfl (hR2.set2 _ _) rfl ?_
  exact fin_int hR2 d2 (below_then (below_then hbe hb1 hbe.size) hb2 (Nat.le_trans hbe.size hb1.size)) (Nat.le_refl _)
namespace Pl
def sgn (z:Int):Int:=if z < 0 then -1 else if z=0 then 0 else 1
theorem sgn_neg {z:Int} (h:z < 0):sgn z= -1:=by simp [sgn,h]
theorem sgn_zero:sgn 0=0:=by simp [sgn]
theorem sgn_pos {z:Int} (h:0 < z):sgn z=1:=by simp [sgn];omega
theorem len_zero {n:Nat} (h:(digs n).length=0):n=0:=by
 rcases Nat.eq_zero_or_pos n with e | e
 ·exact e
 ·have:=digs_len_pos e;omega
theorem len_pos {n:Nat} (h:0 < (digs n).length):n≠0:=by
 intro e
 rw [e,digs_zero] at h
 simp at h
end Pl
theorem sign_any (v:Value) (a:RI) (w:World) (h:IntM w v a):
 Calls Try.prog 52 #[v] w fun e w'=>e= .returned (.int .i64 (sgn a.z))∧Below w.heap.size w w':=by
 obtain ⟨A,n,c,rfl,hd⟩:=h.shape
 obtain ⟨neg,ds⟩:=a
 simp only at hd ⊢
 have hR:=Bk.new w 68 [.bool neg,.slice A n c]
 have hbe:=below_new w (.cells [.bool neg,.slice A n c].toArray 68)
 go_enter Try.func52,Try.ntmps52
 go_wp2_with fail
 have hd':=hd.below hbe
 generalize w.alloc _=W at *
 obtain ⟨c0,c1,f0,f1⟩:=hR.two
 refine (trim_any _ ds _ hd').mono ?_
 rintro e w1 ⟨v1,rfl,h1,rfl⟩
 obtain ⟨A1,n1,k1,rfl⟩:=h1.shape
 obtain ⟨kl,kl',knc,kc⟩:=h1.len
 rcases Nat.eq_zero_or_pos n1 with h0 | h0
 ·subst h0
  have hv:val ds=0:=len_zero (by omega)
  have hz:sgn (RI.z ⟨neg,ds⟩)=0:=by rw [RI.z_eq,hv,sm_zero,sgn_zero]
  have HZ:=Lib.hid hz
  clear hv hz kl kl'
  go_wp2
  go_ret
  exact ⟨by rw [HZ.out];rfl,hbe⟩
 ·have hv:val ds≠0:=len_pos (by omega)
  clear kl kl'
  cases neg
  ·have hz:sgn (RI.z ⟨false,ds⟩)=1:=by rw [RI.z_eq];exact sgn_pos (by simp [sm];omega)
   have HZ:=Lib.hid hz
   clear hv hz
   go_wp2
   go_ret
   exact ⟨by rw [HZ.out];rfl,hbe⟩
  ·have hz:sgn (RI.z ⟨true,ds⟩)= -1:=by rw [RI.z_eq];exact sgn_neg (by simp [sm];omega)
   have HZ:=Lib.hid hz
   clear hv hz
   go_wp2
   go_ret
   exact ⟨by rw [HZ.out];rfl,hbe⟩
theorem size_alloc (w:World) (o:Obj):(w.alloc o).heap.size=w.heap.size+1:=by simp
theorem box1 (w:World) (x y:Value):∃W,(w.alloc (.cells #[x,y] 68)).alloc (.cells #[.bool false,.slice none 0 0] 68)=W∧Bk W w.heap.size 68 [x,y]∧Bk W (w.heap.size+1) 68 [.bool false,.slice none 0 0]∧Below w.heap.size w W:=by
 refine ⟨_,rfl,(Bk.new w _ [x,y]).alloc _,?_,(below_new w _).alloc (by simp) _⟩
 have:=Bk.new (w.alloc (.cells #[x,y] 68)) 68 [.bool false,.slice none 0 0]
 rwa [size_alloc] at this
theorem box2 (w:World) (x y x' y':Value):∃W,((w.alloc (.cells #[x,y] 68)).alloc (.cells #[x',y'] 68)).alloc (.cells #[.bool false,.slice none 0 0] 68)=W∧Bk W w.heap.size 68 [x,y]∧Bk W (w.heap.size+1) 68 [x',y']∧Bk W (w.heap.size+1+1) 68 [.bool false,.slice none 0 0]∧Below w.heap.size w W:=by
 refine ⟨_,rfl,((Bk.new w _ [x,y]).alloc _).alloc _,?_,?_,((below_new w _).alloc (by simp) _).alloc (by simp;omega) _⟩
 ·have:=Bk.new (w.alloc (.cells #[x,y] 68)) 68 [x',y']
  rw [size_alloc] at this
  exact this.alloc _
 ·have:=Bk.new ((w.alloc (.cells #[x,y] 68)).alloc (.cells #[x',y'] 68)) 68 [.bool false,.slice none 0 0]
  rwa [size_alloc,size_alloc] at this
theorem Bk.pair {w:World} {g:Nat} {t:TypeId} {a b:Value} (h:Bk w g t [a,b]):w.cell? ⟨g,0,none⟩=some a∧w.cell? ⟨g,1,none⟩=some b:=⟨h.two.1,h.two.2.1⟩
theorem Bk.two_far {w:World} {g g':Nat} {t:TypeId} {a b:Value} (h:Bk w g t [a,b]) (hne:g≠g') (c d:Value):((w.setCell ⟨g',0,none⟩ c).setCell ⟨g',1,none⟩ d).cell? ⟨g,0,none⟩=some a∧((w.setCell ⟨g',0,none⟩ c).setCell ⟨g',1,none⟩ d).cell? ⟨g,1,none⟩=some b:=
 ((h.far (p:=⟨g',0,none⟩) hne c).far (p:=⟨g',1,none⟩) hne d).pair
theorem cell_keep {w w':World} {p:Addr} {v:Value} (hb:Below w.heap.size w w') (h:w.cell? p=some v):w'.cell? p=some v:=cell_later hb h
theorem sm_not (neg:Bool) (n:Nat):sm (!neg) n= - sm neg n:=by cases neg <;> simp [sm]
theorem wrap_dig (neg:Bool) (v:Value) (n:Nat) (w:World) (h:DigM w v (digs n)):
 Calls Try.prog 80 #[.bool neg,v] w fun e w'=>∃v',e= .returned v'∧IntM w' v' (canI (sm neg n))∧Below w.heap.size w w':=by
 have:=wrap_any neg v (digs n) w h
 rwa [val_digs] at this
theorem negate_any (v:Value) (a:RI) (w:World) (h:IntM w v a) (hs:(digs (val a.ds)).length≤549755813888):
 Calls Try.prog 78 #[v] w fun e w'=>∃v',e= .returned v'∧IntM w' v' (canI (- a.z))∧Below w.heap.size w w':=by
 obtain ⟨A,n,c,rfl,hd⟩:=h.shape
 obtain ⟨neg,ds⟩:=a
 simp only at hd hs ⊢
 obtain ⟨W,hW,hX,hR,hbe⟩:=box1 w (.bool neg) (.slice A n c)
 have hdX:=hd.below hbe
 go_enter Try.func78,Try.ntmps78
 go_wp2_with fail
 clear hW
 obtain ⟨x0,x1,y0,y1⟩:=hX.two
 go_region_held3 (fun w'=>w'.cell? ⟨w.heap.size,0,none⟩=some (.bool neg)∧w'.cell? ⟨w.heap.size,1,none⟩=some (.slice A n c))
  (first | exact ⟨x0,x1⟩ | exact (hX.drew.later hb2).pair | exact ((hX.drew.later hb2).later hb3).pair | exact ((hX.drew.later hb2).later hb3).two_far (by omega) _ _)
  (first
   | (go_at_call 73;refine (trim_any _ ds _ (hdX.keep (Keep.drew _))).mono ?_;rintro e w1 ⟨v1,rfl,h1,rfl⟩)
   | (go_at_call 96;refine (clone_any _ _ _ h1 (by omega)).mono ?_;rintro e w2 ⟨v2,rfl,h2,hb2⟩)
   | (go_at_call 80;refine (wrap_dig (!neg) _ _ _ (own_dig h2 (okD_digs _))).mono ?_;rintro e w3 ⟨v3,rfl,h3,hb3⟩;obtain ⟨A3,n3,k3,rfl,_⟩:=h3.shape;obtain ⟨c0,c1,f0,f1⟩:=((hR.drew.later hb2).later hb3).two))
 go_wp2
 refine ret_cell Try.results78 Try.underlying68 (by kernel_rfl) rfl (((hR.drew.later hb2).later hb3).set2 _ _) rfl ?_
 rw [RI.z_eq,← sm_not]
 exact fin_int ((hR.drew.later hb2).later hb3) h3 (below_then (below_then hbe.drew hb2 hbe.size) hb3 (Nat.le_trans hbe.size hb2.size)) (Nat.le_succ _)
theorem ret_cct {P:Program} {fn:Func} {R:Ending→World→Prop} {a:Act} {w:World} {p q u:Tmp} {ty ty':TypeId} {g g':Nat} {t t':TypeId} {cs cs':List Value} {fs fs':Array Field} (hres:fn.results=#[.cell p ty,.cell q ty',.tmp u]) (hu:P.underlying ty=some (.struct fs)) (hu':P.underlying ty'=some (.struct fs')) (hi:(P.info? ty).map (·.size)=some cs.length) (hi':(P.info? ty').map (·.size)=some cs'.length)
 (hp:a.tmps.getD p undef= .pointer (some ⟨g,0,none⟩)) (hq:a.tmps.getD q undef= .pointer (some ⟨g',0,none⟩)) (hB:Bk w g t cs) (hB':Bk w g' t' cs') (hd:a.defers=[]) (hR:R (.returned (.tuple #[.agg cs.toArray,.agg cs'.toArray,a.tmps.getD u undef])) w):bodyPost P fn R .ret a w:=by
 refine bodyPost_ret (v:= .tuple #[.agg cs.toArray,.agg cs'.toArray,a.tmps.getD u undef]) ?_ hd hR
 have hp':a.tmps[p]?.getD undef= .pointer (some ⟨g,0,none⟩):=by simpa using hp
 have hq':a.tmps[q]?.getD undef= .pointer (some ⟨g',0,none⟩):=by simpa using hq
 simp [results,hres,hp',hq',asAddr,Sem.run_bind,Result.andThen,run_loadVar_row w g t ty cs.toArray (0,0) _ hB hu rfl (by simpa using hi),run_loadVar_row w g' t' ty' cs'.toArray (0,0) _ hB' hu' rfl (by simpa using hi')]
theorem ret_cc {P:Program} {fn:Func} {R:Ending→World→Prop} {a:Act} {w:World} {p q:Tmp} {ty ty':TypeId} {g g':Nat} {t t':TypeId} {cs cs':List Value} {fs fs':Array Field} (hres:fn.results=#[.cell p ty,.cell q ty']) (hu:P.underlying ty=some (.struct fs)) (hu':P.underlying ty'=some (.struct fs')) (hi:(P.info? ty).map (·.size)=some cs.length) (hi':(P.info? ty').map (·.size)=some cs'.length)
 (hp:a.tmps.getD p undef= .pointer (some ⟨g,0,none⟩)) (hq:a.tmps.getD q undef= .pointer (some ⟨g',0,none⟩)) (hB:Bk w g t cs) (hB':Bk w g' t' cs') (hd:a.defers=[]) (hR:R (.returned (.tuple #[.agg cs.toArray,.agg cs'.toArray])) w):bodyPost P fn R .ret a w:=by
 refine bodyPost_ret (v:= .tuple #[.agg cs.toArray,.agg cs'.toArray]) ?_ hd hR
 have hp':a.tmps[p]?.getD undef= .pointer (some ⟨g,0,none⟩):=by simpa using hp
 have hq':a.tmps[q]?.getD undef= .pointer (some ⟨g',0,none⟩):=by simpa using hq
 simp [results,hres,hp',hq',asAddr,Sem.run_bind,Result.andThen,run_loadVar_row w g t ty cs.toArray (0,0) _ hB hu rfl (by simpa using hi),run_loadVar_row w g' t' ty' cs'.toArray (0,0) _ hB' hu' rfl (by simpa using hi')]
theorem ret_ct {P:Program} {fn:Func} {R:Ending→World→Prop} {a:Act} {w:World} {p u:Tmp} {ty:TypeId} {g:Nat} {t:TypeId} {cs:List Value} {fs:Array Field} (hres:fn.results=#[.cell p ty,.tmp u]) (hu:P.underlying ty=some (.struct fs)) (hi:(P.info? ty).map (·.size)=some cs.length)
 (hp:a.tmps.getD p undef= .pointer (some ⟨g,0,none⟩)) (hB:Bk w g t cs) (hd:a.defers=[]) (hR:R (.returned (.tuple #[.agg cs.toArray,a.tmps.getD u undef])) w):bodyPost P fn R .ret a w:=by
 refine bodyPost_ret (v:= .tuple #[.agg cs.toArray,a.tmps.getD u undef]) ?_ hd hR
 have hp':a.tmps[p]?.getD undef= .pointer (some ⟨g,0,none⟩):=by simpa using hp
 simp [results,hres,hp',asAddr,Sem.run_bind,Result.andThen,run_loadVar_row w g t ty cs.toArray (0,0) _ hB hu rfl (by simpa using hi)]
namespace Pl
theorem sm_mul (a b:Bool) (X Y:Nat):sm (a !=b) (X * Y)=sm a X * sm b Y:=by cases a <;> cases b <;> simp [sm,Int.neg_mul,Int.mul_neg]
end Pl
theorem mulI_any (v1 v2:Value) (a b:RI) (w:World) (h1:IntM w v1 a) (h2:IntM w v2 b) (hs:(digs (val a.ds)).length+(digs (val b.ds)).length≤1099511627776):
 Calls Try.prog 57 #[v1,v2] w fun e w'=>∃v',e= .returned v'∧IntM w' v' (canI (a.z * b.z))∧Below w.heap.size w w':=by
 obtain ⟨A,n,c,rfl,hd⟩:=h1.shape
 obtain ⟨A',n',c',rfl,hd'⟩:=h2.shape
 obtain ⟨neg,ds⟩:=a
 obtain ⟨neg',ds'⟩:=b
 simp only at hd hs hd' ⊢
 obtain ⟨W,hW,hX,hX',hR,hbe⟩:=box2 w (.bool neg) (.slice A n c) (.bool neg') (.slice A' n' c')
 have hdX:=hd.below hbe
 have hdX':=hd'.below hbe
 have tok:True:=trivial
 go_enter Try.func57,Try.ntmps57
 go_wp2_with fail
 clear hW
 go_region_held3 (fun w'=>(w'.cell? ⟨w.heap.size,0,none⟩=some (.bool neg)∧w'.cell? ⟨w.heap.size,1,none⟩=some (.slice A n c))∧(w'.cell? ⟨w.heap.size+1,0,none⟩=some (.bool neg')∧w'.cell? ⟨w.heap.size+1,1,none⟩=some (.slice A' n' c')))
  (first | exact ⟨hX.pair,hX'.pair⟩ | exact ⟨(hX.drew.later hb2).pair,(hX'.drew.later hb2).pair⟩ | exact ⟨((hX.drew.later hb2).later hb3).pair,((hX'.drew.later hb2).later hb3).pair⟩ | exact ⟨((hX.drew.later hb2).later hb3).two_far (by omega) _ _,((hX'.drew.later hb2).later hb3).two_far (by omega) _ _⟩)
  (first
   | (go_at_call 73;have _t:=tok;refine (trim_any _ ds _ (hdX.keep (Keep.drew _))).mono ?_;clear tok _t;rintro e w1 ⟨v1,rfl,e1,rfl⟩)
   | (go_at_call 73;refine (trim_any _ ds' _ (hdX'.keep (Keep.drew _))).mono ?_;rintro e w1 ⟨v2,rfl,e2,rfl⟩)
   | (go_at_call 81;refine (mulMag_any _ _ (digs (val ds)) (digs (val ds')) _ e1 e2 hs).mono ?_;rw [val_digs,val_digs];rintro e w2 ⟨v3,rfl,h3,hb2⟩)
   | (go_at_call 80;refine (wrap_dig (neg !=neg') _ _ _ h3).mono ?_;rintro e w3 ⟨v4,rfl,h4,hb3⟩;obtain ⟨A3,n3,k3,rfl,_⟩:=h4.shape;obtain ⟨c0,c1,f0,f1⟩:=((hR.drew.later hb2).later hb3).two))
 go_wp2
 refine ret_cell Try.results57 Try.underlying68 (by kernel_rfl) rfl (((hR.drew.later hb2).later hb3).set2 _ _) rfl ?_
 rw [RI.z_eq,RI.z_eq,← sm_mul]
 exact fin_int ((hR.drew.later hb2).later hb3) h4 (below_then (below_then hbe.drew hb2 hbe.size) hb3 (Nat.le_trans hbe.size hb2.size)) (by omega)
section
namespace Pl
structure RF where
 num:RI
 den:RI
def RF.q (f:RF):Rat:=Rat.divInt f.num.z f.den.z
def canF (q:Rat):RF:=⟨canI q.num,canI (q.den:Int)⟩
theorem canF_q (q:Rat):(canF q).q=q:=by
 simp only [RF.q,canF,canI_z]
 exact Rat.num_divInt_den q
def RI.Sm (a:RI):Prop:=(digs (val a.ds)).length≤68719476736
def RF.Sm (f:RF):Prop:=f.num.Sm∧f.den.Sm
end Pl
def FracM (w:World) (v:Value) (f:RF):Prop:=
 ∃A n c A' n' c',v= .agg #[.bool f.num.neg,.slice A n c,.bool f.den.neg,.slice A' n' c']∧DigM w (.slice A n c) f.num.ds∧DigM w (.slice A' n' c') f.den.ds
theorem FracM.keep {w w':World} {v:Value} {a:RF} (h:FracM w v a) (hk:Keep w w'):FracM w' v a:=by
 obtain ⟨A,n,c,A',n',c',h1,h2,h3⟩:=h;exact ⟨A,n,c,A',n',c',h1,h2.keep hk,h3.keep hk⟩
theorem FracM.below {w w':World} {v:Value} {a:RF} (h:FracM w v a) (hb:Below w.heap.size w w'):FracM w' v a:=h.keep (Keep.of_below hb)
section
variable {w:World} {g:Nat} {t:TypeId} {a b c d:Value}
theorem Bk.four (h:Bk w g t [a,b,c,d]):(w.cell? ⟨g,0,none⟩=some a∧w.cell? ⟨g,1,none⟩=some b∧w.cell? ⟨g,2,none⟩=some c∧w.cell? ⟨g,3,none⟩=some d):=⟨h.cellAt 0 rfl,h.cellAt 1 rfl,h.cellAt 2 rfl,h.cellAt 3 rfl⟩
theorem Bk.fourF (h:Bk w g t [a,b,c,d]):(w.frozen? ⟨g,0,none⟩=false∧w.frozen? ⟨g,1,none⟩=false∧w.frozen? ⟨g,2,none⟩=false∧w.frozen? ⟨g,3,none⟩=false):=⟨h.frozen 0,h.frozen 1,h.frozen 2,h.frozen 3⟩
end
namespace Pl
def okw (z:Int):Prop:= -2147483648 < z∧z < 2147483648
end Pl
def SmallWordPost (a:RI) (w:World) (e:Ending) (w':World):Prop:=∃(z:Int) (ok:Bool),e= .returned (.tuple #[.int .i64 z,.bool ok])∧(ok=true→z=a.z∧okw z)∧Below w.heap.size w w'
theorem smallWord_any (v:Value) (a:RI) (w:World) (h:IntM w v a):
 Calls Try.prog 94 #[v] w (SmallWordPost a w):=by
 obtain ⟨A,n,c,rfl,hd⟩:=h.shape
 obtain ⟨neg,ds⟩:=a
 simp only at hd ⊢
 have hX:=Bk.new w 68 [.bool neg,.slice A n c]
 have hbe:=below_new w (.cells [.bool neg,.slice A n c].toArray 68)
 have hdX:=hd.below hbe
 obtain ⟨hl,hl',hnc,hc⟩:=hd.len
 rcases Nat.lt_or_ge 1 n with h1 | h1
 ·clear hl hl'
  go_enter Try.func94,Try.ntmps94
  go_wp2
  go_ret2
  exact ⟨_,_,rfl,by simp,hbe⟩
 ·rcases Nat.eq_zero_or_pos n with h0 | h0
  ·subst h0
   have hz:RI.z ⟨neg,ds⟩=0:=by
    obtain rfl:ds=[]:=List.length_eq_zero_iff.1 (by omega)
    rw [RI.z_eq];simp [val,sm]
   have HZ:=Lib.hid hz
   clear hl hl' hz
   go_enter Try.func94,Try.ntmps94
   go_wp2
   go_ret2
   exact ⟨_,_,rfl,fun _=>⟨HZ.out.symm,by simp [okw]⟩,hbe⟩
  ·obtain rfl:n=1:=by omega
   obtain ⟨b,off,rfl,_,hcell⟩:=hdX.at_ (by omega)
   have hc0:=hcell 0 (by omega)
   rw [Nat.add_zero] at hc0
   have y0:=di_nonneg ds 0
   have y1:=di_le hd.ok 0
   have hv:(val ds:Int)=di ds 0:=by
    obtain ⟨d,rfl⟩:∃d,ds=[d]:=List.length_eq_one_iff.1 (by omega)
    simp [val,di,dg]
   have hz:RI.z ⟨neg,ds⟩=if neg then - di ds 0 else di ds 0:=by rw [← hv];rfl
   have HZ:=Lib.hid hz
   clear hl hl' hz hcell hv
   generalize di ds 0=z0 at *
   rcases Int.lt_or_le z0 2147483648 with h2 | h2
   ·cases neg
    ·go_enter Try.func94,Try.ntmps94
     go_wp2
     go_ret2
     exact ⟨z0,_,rfl,fun _=>⟨by rw [HZ.out];rfl,by simp [okw];omega⟩,hbe⟩
    ·go_enter Try.func94,Try.ntmps94
     go_wp2
     go_ret2
     exact ⟨-z0,_,rfl,fun _=>⟨by rw [HZ.out];rfl,by simp [okw];omega⟩,hbe⟩
   ·go_enter Try.func94,Try.ntmps94
    go_wp2
    go_ret2
    exact ⟨_,_,rfl,by simp,hbe⟩
namespace Pl
def okq (n d:Int) (q:Rat):Prop:=okw n∧0 < d∧d < 2147483648∧Rat.divInt n d=q
end Pl
def SmallPartsPost (a:RF) (w:World) (e:Ending) (w':World):Prop:=∃(n d:Int) (ok:Bool),e= .returned (.tuple #[.agg #[.int .i64 n,.int .i64 d],.bool ok])∧(ok=true→okq n d a.q)∧Below w.heap.size w w'
theorem box_small (w:World) (x1 x2 x3 x4:Value):∃W,(w.alloc (.cells #[x1,x2,x3,x4] 70)).alloc (.cells #[.int .i64 0,.int .i64 0] 107)=W∧Bk W w.heap.size 70 [x1,x2,x3,x4]∧Bk W (w.heap.size+1) 107 [.int .i64 0,.int .i64 0]∧Below w.heap.size w W:=by
 refine ⟨_,rfl,(Bk.new w _ [x1,x2,x3,x4]).alloc _,?_,(below_new w _).alloc (by simp) _⟩
 have:=Bk.new (w.alloc (.cells #[x1,x2,x3,x4] 70)) 107 [.int .i64 0,.int .i64 0]
 rwa [size_alloc] at this
theorem fin_small {w W:World} {g:Nat} {x y:Value} {n d:Int} {ok:Bool} {a:RF} (hR:Bk W g 107 [x,y]) (hbe:Below w.heap.size w W) (hg:w.heap.size≤g) (h:ok=true→okq n d a.q):
 SmallPartsPost a w (.returned (.tuple #[.agg [.int .i64 n,.int .i64 d].toArray,.bool ok])) ((W.setCell ⟨g,0,none⟩ (.int .i64 n)).setCell ⟨g,1,none⟩ (.int .i64 d)):=
 ⟨n,d,ok,rfl,h,below_set2 hbe hg _ _⟩
theorem smallParts_any (v:Value) (a:RF) (w:World) (h:FracM w v a):
 Calls Try.prog 76 #[v] w (SmallPartsPost a w):=by
 obtain ⟨A,n,c,A',n',c',rfl,hd,hd'⟩:=h
 obtain ⟨⟨neg,ds⟩,⟨neg',ds'⟩⟩:=a
 simp only at hd hd' ⊢
 obtain ⟨W,hW,hX,hR,hbe⟩:=box_small w (.bool neg) (.slice A n c) (.bool neg') (.slice A' n' c')
 have e1:IntM W (.agg #[.bool neg,.slice A n c]) ⟨neg,ds⟩:=⟨_,rfl,hd.below hbe⟩
 have e2:IntM W (.agg #[.bool neg',.slice A' n' c']) ⟨neg',ds'⟩:=⟨_,rfl,hd'.below hbe⟩
 obtain ⟨p1,p2,p3,p4⟩:=hX.four
 go_enter Try.func76,Try.ntmps76
 go_wp2_with fail
 clear hW
 refine (smallWord_any _ ⟨neg',ds'⟩ _ e2).mono ?_
 rintro e w1 ⟨z,ok,rfl,hz,hb1⟩
 have HZ:=Lib.hid hz
 have hX1:=hX.later hb1
 have hR1:=hR.later hb1
 have hbe1:=below_then hbe hb1 hbe.size
 have e11:=e1.below hb1
 clear hz hX hR hbe e1 e2 hb1 p1 p2 p3 p4
 cases ok
 ·obtain ⟨c0,c1,f0,f1⟩:=hR1.two
  go_wp2
  refine ret_ct Try.results76 Try.underlying107 (by kernel_rfl) rfl (hR1.set2 _ _) rfl ?_
  exact fin_small hR1 hbe1 (by omega) (by simp)
 ·obtain ⟨hz1,hz2⟩:=HZ.out rfl
  unfold okw at hz2
  have HZ1:=Lib.hid hz1
  obtain ⟨p1,p2,p3,p4⟩:=hX1.four
  clear HZ hz1
  go_wp2_with fail
  refine (smallWord_any _ ⟨neg,ds⟩ _ e11).mono ?_
  rintro e w2 ⟨y,ok,rfl,hy,hb2⟩
  have HY:=Lib.hid hy
  have hR2:=hR1.later hb2
  have hbe2:=below_then hbe1 hb2 hbe1.size
  clear hy hX1 hR1 hbe1 e11 hb2 p1 p2 p3 p4
  obtain ⟨c0,c1,f0,f1⟩:=hR2.two
  cases ok
  ·go_wp2
   refine ret_ct Try.results76 Try.underlying107 (by kernel_rfl) rfl (hR2.set2 _ _) rfl ?_
   exact fin_small hR2 hbe2 (by omega) (by simp)
  ·obtain ⟨hy1,hy2⟩:=HY.out rfl
   have HY1:=Lib.hid hy1
   unfold okw at hy2
   clear HY hy1
   rcases Int.lt_trichotomy z 0 with hz | hz | hz
   ·go_wp2
    refine ret_ct Try.results76 Try.underlying107 (by kernel_rfl) rfl (hR2.set2 _ _) rfl ?_
    refine fin_small hR2 hbe2 (by omega) fun _=>⟨⟨by omega,by omega⟩,by omega,by omega,?_⟩
    show _=Rat.divInt (RI.z _) (RI.z _)
    rw [← HY1.out,← HZ1.out,Rat.neg_divInt_neg]
   ·subst hz
    go_wp2
    refine ret_ct Try.results76 Try.underlying107 (by kernel_rfl) rfl (hR2.set2 _ _) rfl ?_
    refine fin_small hR2 hbe2 (by omega) fun _=>⟨⟨by omega,by omega⟩,by omega,by omega,?_⟩
    show _=Rat.divInt (RI.z _) (RI.z _)
    rw [← HZ1.out,Rat.divInt_zero,Rat.zero_divInt]
   ·go_wp2
    refine ret_ct Try.results76 Try.underlying107 (by kernel_rfl) rfl (hR2.set2 _ _) rfl ?_
    refine fin_small hR2 hbe2 (by omega) fun _=>⟨⟨by omega,by omega⟩,by omega,by omega,?_⟩
    show _=Rat.divInt (RI.z _) (RI.z _)
    rw [← HY1.out,← HZ1.out]
end
section
section
variable {w w':World} {g:Nat} {t:TypeId} {a b c d:Value}
theorem Bk.set4 (h:Bk w g t [a,b,c,d]) (x y z u:Value):Bk ((((w.setCell ⟨g,0,none⟩ x).setCell ⟨g,1,none⟩ y).setCell ⟨g,2,none⟩ z).setCell ⟨g,3,none⟩ u) g t [x,y,z,u]:=(((h.set_ 0 x).set_ 1 y).set_ 2 z).set_ 3 u
theorem Bk.keep4 (h:Bk w g t [a,b,c,d]) (ht:t≠50) (x y z u:Value):Keep w ((((w.setCell ⟨g,0,none⟩ x).setCell ⟨g,1,none⟩ y).setCell ⟨g,2,none⟩ z).setCell ⟨g,3,none⟩ u):=
 (((h.keepD ht _ _).trans ((h.set_ 0 x).keepD ht _ _)).trans (((h.set_ 0 x).set_ 1 y).keepD ht _ _)).trans ((((h.set_ 0 x).set_ 1 y).set_ 2 z).keepD ht _ _)
theorem Bk.far4 {g':Nat} {cs:List Value} (h:Bk w g t cs) (hne:g≠g') (x y z u:Value):Bk ((((w.setCell ⟨g',0,none⟩ x).setCell ⟨g',1,none⟩ y).setCell ⟨g',2,none⟩ z).setCell ⟨g',3,none⟩ u) g t cs:=
 (((h.far (p:=⟨g',0,none⟩) hne x).far (p:=⟨g',1,none⟩) hne y).far (p:=⟨g',2,none⟩) hne z).far (p:=⟨g',3,none⟩) hne u
theorem below_set4 {n:Nat} (h:Below n w w') (hg:n≤g) (x y z u:Value):Below n w ((((w'.setCell ⟨g,0,none⟩ x).setCell ⟨g,1,none⟩ y).setCell ⟨g,2,none⟩ z).setCell ⟨g,3,none⟩ u):=(((h.setCell hg _).setCell hg _).setCell hg _).setCell hg _
end
namespace Pl
theorem canF_words {n d:Int} (h:0 < d):canF (Rat.divInt n d)=⟨canI (n / (Int.gcd d n:Nat)),canI (d / (Int.gcd d n:Nat))⟩:=by
 unfold canF
 rw [Rat.num_divInt,Rat.den_divInt,if_neg (by omega),Int.sign_eq_one_of_pos h,Int.one_mul,Int.natCast_ediv,Int.natAbs_of_nonneg (by omega)]
end Pl
end
theorem boxR (w:World) (x y x' y':Value):∃W,((w.alloc (.cells #[x,y] 68)).alloc (.cells #[x',y'] 68)).alloc (.cells #[.bool false,.slice none 0 0,.bool false,.slice none 0 0] 70)=W∧Bk W w.heap.size 68 [x,y]∧Bk W (w.heap.size+1) 68 [x',y']∧Bk W (w.heap.size+1+1) 70 [.bool false,.slice none 0 0,.bool false,.slice none 0 0]∧Below w.heap.size w W:=by
 refine ⟨_,rfl,((Bk.new w _ [x,y]).alloc _).alloc _,?_,?_,((below_new w _).alloc (by simp) _).alloc (by simp;omega) _⟩
 ·have:=Bk.new (w.alloc (.cells #[x,y] 68)) 68 [x',y']
  rw [size_alloc] at this
  exact this.alloc _
 ·have:=Bk.new ((w.alloc (.cells #[x,y] 68)).alloc (.cells #[x',y'] 68)) 70 [.bool false,.slice none 0 0,.bool false,.slice none 0 0]
  rwa [size_alloc,size_alloc] at this
end Go.Proofs.Ytgdcbjligbnpgaa
