/- Contracts and plain facts that the claim is built on, joined out of smaller texts; no condition. -/
import Derived.Test.YtncmobkhenfhpaaGreatB8
set_option linter.unusedVariables false
set_option linter.unusedSimpArgs false
set_option maxRecDepth 100000
set_option maxHeartbeats 40000000
namespace Go.Proofs.YtncmobkhenfhpaaGreat
open Go.RowKit
open Pl
attribute [local go_sem ↓] Go.wp_at_zero Go.wp_at_succ
section
namespace Pl
structure RF where
 num:RI
 den:RI
def RF.q (f:RF):Rat:=Rat.divInt f.num.z f.den.z
def canF (q:Rat):RF:=⟨canI q.num,canI (q.den:Int)⟩
theorem canF_q (q:Rat):(canF q).q=q:=by
 simp only [RF.q,canF,canI_z]
 exact Rat.num_divInt_den q
def RI.Sm (a:RI):Prop:=(digs (val a.ds)).length≤68719476736
def RF.Sm (f:RF):Prop:=f.num.Sm∧f.den.Sm
end Pl
def FracM (w:World) (v:Value) (f:RF):Prop:=
 ∃A n c A' n' c',v= .agg #[.bool f.num.neg,.slice A n c,.bool f.den.neg,.slice A' n' c']∧DigM w (.slice A n c) f.num.ds∧DigM w (.slice A' n' c') f.den.ds
theorem FracM.keep {w w':World} {v:Value} {a:RF} (h:FracM w v a) (hk:Keep w w'):FracM w' v a:=by
 obtain ⟨A,n,c,A',n',c',h1,h2,h3⟩:=h;exact ⟨A,n,c,A',n',c',h1,h2.keep hk,h3.keep hk⟩
theorem FracM.below {w w':World} {v:Value} {a:RF} (h:FracM w v a) (hb:Below w.heap.size w w'):FracM w' v a:=h.keep (Keep.of_below hb)
theorem FracM.mk {w:World} {A A':Option Addr} {n n' c c':Nat} {x y:RI} (h1:IntM w (.agg #[.bool x.neg,.slice A n c]) x) (h2:IntM w (.agg #[.bool y.neg,.slice A' n' c']) y):
 FracM w (.agg #[.bool x.neg,.slice A n c,.bool y.neg,.slice A' n' c']) ⟨x,y⟩:=by
 obtain ⟨s,e,d⟩:=h1
 obtain ⟨s',e',d'⟩:=h2
 simp at e e'
 subst e e'
 exact ⟨_,_,_,_,_,_,rfl,d,d'⟩
section
variable {w:World} {g:Nat} {t:TypeId} {a b c d:Value}
theorem Bk.four (h:Bk w g t [a,b,c,d]):(w.cell? ⟨g,0,none⟩=some a∧w.cell? ⟨g,1,none⟩=some b∧w.cell? ⟨g,2,none⟩=some c∧w.cell? ⟨g,3,none⟩=some d):=⟨h.cellAt 0 rfl,h.cellAt 1 rfl,h.cellAt 2 rfl,h.cellAt 3 rfl⟩
theorem Bk.fourF (h:Bk w g t [a,b,c,d]):(w.frozen? ⟨g,0,none⟩=false∧w.frozen? ⟨g,1,none⟩=false∧w.frozen? ⟨g,2,none⟩=false∧w.frozen? ⟨g,3,none⟩=false):=⟨h.frozen 0,h.frozen 1,h.frozen 2,h.frozen 3⟩
end
namespace Pl
def okw (z:Int):Prop:= -2147483648 < z∧z < 2147483648
end Pl
def SmallWordPost (a:RI) (w:World) (e:Ending) (w':World):Prop:=∃(z:Int) (ok:Bool),e= .returned (.tuple #[.int .i64 z,.bool ok])∧(ok=true→z=a.z∧okw z)∧Below w.heap.size w w'
theorem smallWord_any (v:Value) (a:RI) (w:World) (h:IntM w v a):
 Calls Tryz.prog 162 #[v] w (SmallWordPost a w):=by
 obtain ⟨A,n,c,rfl,hd⟩:=h.shape
 obtain ⟨neg,ds⟩:=a
 simp only at hd ⊢
 have hX:=Bk.new w 46 [.bool neg,.slice A n c]
 have hbe:=below_new w (.cells [.bool neg,.slice A n c].toArray 46)
 have hdX:=hd.below hbe
 obtain ⟨hl,hl',hnc,hc⟩:=hd.len
 rcases Nat.lt_or_ge 1 n with h1 | h1
 ·clear hl hl'
  go_enter Tryz.func162,Tryz.ntmps162
  go_wp2
  go_ret2
  exact ⟨_,_,rfl,by simp,hbe⟩
 ·rcases Nat.eq_zero_or_pos n with h0 | h0
  ·subst h0
   have hz:RI.z ⟨neg,ds⟩=0:=by
    obtain rfl:ds=[]:=List.length_eq_zero_iff.1 (by omega)
    rw [RI.z_eq];simp [val,sm]
   have HZ:=Lib.hid hz
   clear hl hl' hz
   go_enter Tryz.func162,Tryz.ntmps162
   go_wp2
   go_ret2
   exact ⟨_,_,rfl,fun _=>⟨HZ.out.symm,by simp [okw]⟩,hbe⟩
  ·obtain rfl:n=1:=by omega
   obtain ⟨b,off,rfl,_,hcell⟩:=hdX.at_ (by omega)
   have hc0:=hcell 0 (by omega)
   rw [Nat.add_zero] at hc0
   have y0:=di_nonneg ds 0
   have y1:=di_le hd.ok 0
   have hv:(val ds:Int)=di ds 0:=by
    obtain ⟨d,rfl⟩:∃d,ds=[d]:=List.length_eq_one_iff.1 (by omega)
    simp [val,di,dg]
   have hz:RI.z ⟨neg,ds⟩=if neg then - di ds 0 else di ds 0:=by rw [← hv];rfl
   have HZ:=Lib.hid hz
   clear hl hl' hz hcell hv
   generalize di ds 0=z0 at *
   rcases Int.lt_or_le z0 2147483648 with h2 | h2
   ·cases neg
    ·go_enter Tryz.func162,Tryz.ntmps162
     go_wp2
     go_ret2
     exact ⟨z0,_,rfl,fun _=>⟨by rw [HZ.out];rfl,by simp [okw];omega⟩,hbe⟩
    ·go_enter Tryz.func162,Tryz.ntmps162
     go_wp2
     go_ret2
     exact ⟨-z0,_,rfl,fun _=>⟨by rw [HZ.out];rfl,by simp [okw];omega⟩,hbe⟩
   ·go_enter Tryz.func162,Tryz.ntmps162
    go_wp2
    go_ret2
    exact ⟨_,_,rfl,by simp,hbe⟩
namespace Pl
def okq (n d:Int) (q:Rat):Prop:=okw n∧0 < d∧d < 2147483648∧Rat.divInt n d=q
end Pl
def SmallPartsPost (a:RF) (w:World) (e:Ending) (w':World):Prop:=∃(n d:Int) (ok:Bool),e= .returned (.tuple #[.agg #[.int .i64 n,.int .i64 d],.bool ok])∧(ok=true→okq n d a.q)∧Below w.heap.size w w'
theorem box_small (w:World) (x1 x2 x3 x4:Value):∃W,(w.alloc (.cells #[x1,x2,x3,x4] 48)).alloc (.cells #[.int .i64 0,.int .i64 0] 148)=W∧Bk W w.heap.size 48 [x1,x2,x3,x4]∧Bk W (w.heap.size+1) 148 [.int .i64 0,.int .i64 0]∧Below w.heap.size w W:=by
 refine ⟨_,rfl,(Bk.new w _ [x1,x2,x3,x4]).alloc _,?_,(below_new w _).alloc (by simp) _⟩
 have:=Bk.new (w.alloc (.cells #[x1,x2,x3,x4] 48)) 148 [.int .i64 0,.int .i64 0]
 rwa [size_alloc] at this
theorem fin_small {w W:World} {g:Nat} {x y:Value} {n d:Int} {ok:Bool} {a:RF} (hR:Bk W g 148 [x,y]) (hbe:Below w.heap.size w W) (hg:w.heap.size≤g) (h:ok=true→okq n d a.q):
 SmallPartsPost a w (.returned (.tuple #[.agg [.int .i64 n,.int .i64 d].toArray,.bool ok])) ((W.setCell ⟨g,0,none⟩ (.int .i64 n)).setCell ⟨g,1,none⟩ (.int .i64 d)):=
 ⟨n,d,ok,rfl,h,below_set2 hbe hg _ _⟩
theorem smallParts_any (v:Value) (a:RF) (w:World) (h:FracM w v a):
 Calls Tryz.prog 145 #[v] w (SmallPartsPost a w):=by
 obtain ⟨A,n,c,A',n',c',rfl,hd,hd'⟩:=h
 obtain ⟨⟨neg,ds⟩,⟨neg',ds'⟩⟩:=a
 simp only at hd hd' ⊢
 obtain ⟨W,hW,hX,hR,hbe⟩:=box_small w (.bool neg) (.slice A n c) (.bool neg') (.slice A' n' c')
 have e1:IntM W (.agg #[.bool neg,.slice A n c]) ⟨neg,ds⟩:=⟨_,rfl,hd.below hbe⟩
 have e2:IntM W (.agg #[.bool neg',.slice A' n' c']) ⟨neg',ds'⟩:=⟨_,rfl,hd'.below hbe⟩
 obtain ⟨p1,p2,p3,p4⟩:=hX.four
 go_enter Tryz.func145,Tryz.ntmps145
 go_wp2_with fail
 clear hW
 refine (smallWord_any _ ⟨neg',ds'⟩ _ e2).mono ?_
 rintro e w1 ⟨z,ok,rfl,hz,hb1⟩
 have HZ:=Lib.hid hz
 have hX1:=hX.later hb1
 have hR1:=hR.later hb1
 have hbe1:=below_then hbe hb1 hbe.size
 have e11:=e1.below hb1
 clear hz hX hR hbe e1 e2 hb1 p1 p2 p3 p4
 cases ok
 ·obtain ⟨c0,c1,f0,f1⟩:=hR1.two
  go_wp2
  refine ret_ct Tryz.results145 Tryz.underlying148 (by kernel_rfl) rfl (hR1.set2 _ _) rfl ?_
  exact fin_small hR1 hbe1 (by omega) (by simp)
 ·obtain ⟨hz1,hz2⟩:=HZ.out rfl
  unfold okw at hz2
  have HZ1:=Lib.hid hz1
  obtain ⟨p1,p2,p3,p4⟩:=hX1.four
  clear HZ hz1
  go_wp2_with fail
  refine (smallWord_any _ ⟨neg,ds⟩ _ e11).mono ?_
  rintro e w2 ⟨y,ok,rfl,hy,hb2⟩
  have HY:=Lib.hid hy
  have hR2:=hR1.later hb2
  have hbe2:=below_then hbe1 hb2 hbe1.size
  clear hy hX1 hR1 hbe1 e11 hb2 p1 p2 p3 p4
  obtain ⟨c0,c1,f0,f1⟩:=hR2.two
  cases ok
  ·go_wp2
   refine ret_ct Tryz.results145 Tryz.underlying148 (by kernel_rfl) rfl (hR2.set2 _ _) rfl ?_
   exact fin_small hR2 hbe2 (by omega) (by simp)
  ·obtain ⟨hy1,hy2⟩:=HY.out rfl
   have HY1:=Lib.hid hy1
   unfold okw at hy2
   clear HY hy1
   rcases Int.lt_trichotomy z 0 with hz | hz | hz
   ·go_wp2
    refine ret_ct Tryz.results145 Tryz.underlying148 (by kernel_rfl) rfl (hR2.set2 _ _) rfl ?_
    refine fin_small hR2 hbe2 (by omega) fun _=>⟨⟨by omega,by omega⟩,by omega,by omega,?_⟩
    show _=Rat.divInt (RI.z _) (RI.z _)
    rw [← HY1.out,← HZ1.out,Rat.neg_divInt_neg]
   ·subst hz
    go_wp2
    refine ret_ct Tryz.results145 Tryz.underlying148 (by kernel_rfl) rfl (hR2.set2 _ _) rfl ?_
    refine fin_small hR2 hbe2 (by omega) fun _=>⟨⟨by omega,by omega⟩,by omega,by omega,?_⟩
    show _=Rat.divInt (RI.z _) (RI.z _)
    rw [← HZ1.out,Rat.divInt_zero,Rat.zero_divInt]
   ·go_wp2
    refine ret_ct Tryz.results145 Tryz.underlying148 (by kernel_rfl) rfl (hR2.set2 _ _) rfl ?_
    refine fin_small hR2 hbe2 (by omega) fun _=>⟨⟨by omega,by omega⟩,by omega,by omega,?_⟩
    show _=Rat.divInt (RI.z _) (RI.z _)
    rw [← HY1.out,← HZ1.out]
end
section
section
variable {w w':World} {g:Nat} {t:TypeId} {a b c d:Value}
theorem Bk.set4 (h:Bk w g t [a,b,c,d]) (x y z u:Value):Bk ((((w.setCell ⟨g,0,none⟩ x).setCell ⟨g,1,none⟩ y).setCell ⟨g,2,none⟩ z).setCell ⟨g,3,none⟩ u) g t [x,y,z,u]:=(((h.set_ 0 x).set_ 1 y).set_ 2 z).set_ 3 u
theorem Bk.keep4 (h:Bk w g t [a,b,c,d]) (ht:t≠123) (x y z u:Value):Keep w ((((w.setCell ⟨g,0,none⟩ x).setCell ⟨g,1,none⟩ y).setCell ⟨g,2,none⟩ z).setCell ⟨g,3,none⟩ u):=
 (((h.keepD ht _ _).trans ((h.set_ 0 x).keepD ht _ _)).trans (((h.set_ 0 x).set_ 1 y).keepD ht _ _)).trans ((((h.set_ 0 x).set_ 1 y).set_ 2 z).keepD ht _ _)
theorem Bk.far4 {g':Nat} {cs:List Value} (h:Bk w g t cs) (hne:g≠g') (x y z u:Value):Bk ((((w.setCell ⟨g',0,none⟩ x).setCell ⟨g',1,none⟩ y).setCell ⟨g',2,none⟩ z).setCell ⟨g',3,none⟩ u) g t cs:=
 (((h.far (p:=⟨g',0,none⟩) hne x).far (p:=⟨g',1,none⟩) hne y).far (p:=⟨g',2,none⟩) hne z).far (p:=⟨g',3,none⟩) hne u
theorem below_set4 {n:Nat} (h:Below n w w') (hg:n≤g) (x y z u:Value):Below n w ((((w'.setCell ⟨g,0,none⟩ x).setCell ⟨g,1,none⟩ y).setCell ⟨g,2,none⟩ z).setCell ⟨g,3,none⟩ u):=(((h.setCell hg _).setCell hg _).setCell hg _).setCell hg _
end
theorem fin_frac {w w2:World} {m g:Nat} {x y z u b s b' s':Value} {a:RF} (hR:Bk w2 g 48 [x,y,z,u]) (d:FracM w2 (.agg #[b,s,b',s']) a) (hbe:Below m w w2) (hg:m≤g):
 ∃v',Ending.returned (.agg [b,s,b',s'].toArray)= .returned v'∧FracM ((((w2.setCell ⟨g,0,none⟩ b).setCell ⟨g,1,none⟩ s).setCell ⟨g,2,none⟩ b').setCell ⟨g,3,none⟩ s') v' a∧Below m w ((((w2.setCell ⟨g,0,none⟩ b).setCell ⟨g,1,none⟩ s).setCell ⟨g,2,none⟩ b').setCell ⟨g,3,none⟩ s'):=
 ⟨_,rfl,d.keep (hR.keep4 (by decide) _ _ _ _),below_set4 hbe hg _ _ _ _⟩
namespace Pl
theorem canF_words {n d:Int} (h:0 < d):canF (Rat.divInt n d)=⟨canI (n / (Int.gcd d n:Nat)),canI (d / (Int.gcd d n:Nat))⟩:=by
 unfold canF
 rw [Rat.num_divInt,Rat.den_divInt,if_neg (by omega),Int.sign_eq_one_of_pos h,Int.one_mul,Int.natCast_ediv,Int.natAbs_of_nonneg (by omega)]
theorem gcd_stepI {a b:Int} (ha:0≤a) (hb:0≤b):(b % a).gcd a=a.gcd b:=by
 unfold Int.gcd
 rw [Int.natAbs_emod_of_nonneg hb,← Nat.gcd_rec]
theorem small_factor {b k:Int} (hb:0 < b) (h0: -9223372036854775807≤b * k) (h1:b * k≤9223372036854775807): -9223372036854775807≤k∧k≤9223372036854775807:=by
 constructor
 ·rcases Int.lt_or_le k 0 with h | h
  ·have:b * k≤1 * k:=Int.mul_le_mul_of_nonpos_right (by omega) (by omega)
   omega
  ·omega
 ·rcases Int.lt_or_le k 0 with h | h
  ·omega
  ·have:1 * k≤b * k:=Int.mul_le_mul_of_nonneg_right (by omega) h
   omega
end Pl
theorem fromWords_any (n d:Int) (w:World) (h0: -9223372036854775807≤n) (h1:n≤9223372036854775807) (h2:0 < d) (h3:d≤9223372036854775807):
 Calls Tryz.prog 125 #[.int .i64 n,.int .i64 d] w fun e w'=>∃v',e= .returned v'∧FracM w' v' (canF (Rat.divInt n d))∧Below w.heap.size w w':=by
 have hR:=Bk.new w 48 [.bool false,.slice none 0 0,.bool false,.slice none 0 0]
 have hbe:=below_new w (.cells [.bool false,.slice none 0 0,.bool false,.slice none 0 0].toArray 48)
 rcases Int.lt_or_le n 0 with hn | hn
 ·go_enter Tryz.func125,Tryz.ntmps125
  go_wp2_with fail
  generalize w.alloc _=W at *
  go_loop [5,6] (fun x y=>∃a b:Int,x= .int .i64 a∧y= .int .i64 b∧0≤a∧a≤9223372036854775807∧0 < b∧b≤9223372036854775807∧Hid (Int.gcd a b=Int.gcd d n)) (fun x _=>(intOf x).toNat)
  case atStart=>exact ⟨-n,d,by go_num,rfl,by omega,by omega,h2,h3,Lib.hid (by first | exact Int.gcd_comm _ _ | (rw [Int.gcd_comm];simp))⟩
  case round=>
   obtain ⟨a,b,rfl,rfl,a0,a1,b0,b1,hg⟩:=hrel
   rcases Int.lt_or_eq_of_le a0 with ha | ha
   ·have q0:¬a=0:=by omega
    have q2:b.tmod a=b % a:=Int.tmod_eq_emod_of_nonneg (by omega)
    have m0:0≤b % a:=Int.emod_nonneg _ (by omega)
    have m1:b % a < a:=Int.emod_lt_of_pos _ ha
    have q3:IntKind.i64.wrap (b % a)=b % a:=by simp only [IntKind.wrap,IntKind.bits,IntKind.signed];simp;omega
    go_wp2
    go_round
    case rel=>exact ⟨b % a,a,rfl,rfl,m0,by omega,ha,a1,Lib.hid (by rw [← hg.out];exact gcd_stepI (by omega) (by omega))⟩
    case measure=>simp [intOf];omega
   ·subst ha
    have hG:b=(Int.gcd d n:Nat):=by rw [← hg.out,Int.gcd_zero_left];omega
    obtain ⟨n1,hn1⟩:∃n1,n1=n / b:=⟨_,rfl⟩
    obtain ⟨d1,hd1⟩:∃d1,d1=d / b:=⟨_,rfl⟩
    have dv1:b∣n:=by rw [hG];exact Int.gcd_dvd_right ..
    have dv2:b∣d:=by rw [hG];exact Int.gcd_dvd_left ..
    have q0:¬b=0:=by omega
    have q1:n.tdiv b=n1:=by rw [hn1,Int.tdiv_eq_ediv_of_dvd dv1]
    have q2:d.tdiv b=d1:=by rw [hd1,Int.tdiv_eq_ediv_of_dvd dv2]
    have bn: -9223372036854775807≤n1∧n1≤9223372036854775807:=by
     obtain ⟨k,hk⟩:=dv1
     rw [hn1,hk,Int.mul_ediv_cancel_left _ (by omega)]
     exact small_factor b0 (by omega) (by omega)
    have bd: -9223372036854775807≤d1∧d1≤9223372036854775807:=by
     obtain ⟨k,hk⟩:=dv2
     rw [hd1,hk,Int.mul_ediv_cancel_left _ (by omega)]
     exact small_factor b0 (by omega) (by omega)
    have hcan:=canF_words h2 (n:=n)
    rw [← hG,← hn1,← hd1] at hcan
    have HC:=Lib.hid hcan
    obtain ⟨bn0,bn1⟩:=bn
    obtain ⟨bd0,bd1⟩:=bd
    have q3:IntKind.i64.wrap n1=n1:=by simp only [IntKind.wrap,IntKind.bits,IntKind.signed];simp;omega
    have q4:IntKind.i64.wrap d1=d1:=by simp only [IntKind.wrap,IntKind.bits,IntKind.signed];simp;omega
    have tok:True:=trivial
    clear hG hn1 hd1 dv1 dv2 hcan
    go_wp2_with fail
    go_region_held3 (fun _=>True) (exact trivial)
     (first
      | (go_at_call 140;have _t:=tok;refine (fromInt64_any n1 _ (by omega) (by omega)).mono ?_;clear tok _t;rintro e w1 ⟨v1,rfl,e1,hb1⟩;obtain ⟨A1,m1,k1,rfl,_⟩:=e1.shape)
      | (go_at_call 140;refine (fromInt64_any d1 _ (by omega) (by omega)).mono ?_;rintro e w2 ⟨v2,rfl,e2,hb2⟩;obtain ⟨A2,m2,k2,rfl,_⟩:=e2.shape;obtain ⟨c0,c1,c2,c3⟩:=((hR.drew.later hb1).later hb2).four;obtain ⟨f0,f1,f2,f3⟩:=((hR.drew.later hb1).later hb2).fourF))
    go_wp2
    refine ret_cell Tryz.results125 Tryz.underlying48 (by kernel_rfl) rfl (((hR.drew.later hb1).later hb2).set4 _ _ _ _) rfl ?_
    rw [HC.out]
    exact fin_frac ((hR.drew.later hb1).later hb2) (FracM.mk (e1.below hb2) e2) (below_then (below_then hbe.drew hb1 hbe.size) hb2 (Nat.le_trans hbe.size hb1.size)) (Nat.le_refl _)
 ·go_enter Tryz.func125,Tryz.ntmps125
  go_wp2_with fail
  generalize w.alloc _=W at *
  go_loop [5,6] (fun x y=>∃a b:Int,x= .int .i64 a∧y= .int .i64 b∧0≤a∧a≤9223372036854775807∧0 < b∧b≤9223372036854775807∧Hid (Int.gcd a b=Int.gcd d n)) (fun x _=>(intOf x).toNat)
  case atStart=>exact ⟨n,d,by go_num,rfl,by omega,by omega,h2,h3,Lib.hid (by first | exact Int.gcd_comm _ _ | (rw [Int.gcd_comm];simp))⟩
  case round=>
   obtain ⟨a,b,rfl,rfl,a0,a1,b0,b1,hg⟩:=hrel
   rcases Int.lt_or_eq_of_le a0 with ha | ha
   ·have q0:¬a=0:=by omega
    have q2:b.tmod a=b % a:=Int.tmod_eq_emod_of_nonneg (by omega)
    have m0:0≤b % a:=Int.emod_nonneg _ (by omega)
    have m1:b % a < a:=Int.emod_lt_of_pos _ ha
    have q3:IntKind.i64.wrap (b % a)=b % a:=by simp only [IntKind.wrap,IntKind.bits,IntKind.signed];simp;omega
    go_wp2
    go_round
    case rel=>exact ⟨b % a,a,rfl,rfl,m0,by omega,ha,a1,Lib.hid (by rw [← hg.out];exact gcd_stepI (by omega) (by omega))⟩
    case measure=>simp [intOf];omega
   ·subst ha
    have hG:b=(Int.gcd d n:Nat):=by rw [← hg.out,Int.gcd_zero_left];omega
    obtain ⟨n1,hn1⟩:∃n1,n1=n / b:=⟨_,rfl⟩
    obtain ⟨d1,hd1⟩:∃d1,d1=d / b:=⟨_,rfl⟩
    have dv1:b∣n:=by rw [hG];exact Int.gcd_dvd_right ..
    have dv2:b∣d:=by rw [hG];exact Int.gcd_dvd_left ..
    have q0:¬b=0:=by omega
    have q1:n.tdiv b=n1:=by rw [hn1,Int.tdiv_eq_ediv_of_dvd dv1]
    have q2:d.tdiv b=d1:=by rw [hd1,Int.tdiv_eq_ediv_of_dvd dv2]
    have bn: -9223372036854775807≤n1∧n1≤9223372036854775807:=by
     obtain ⟨k,hk⟩:=dv1
     rw [hn1,hk,Int.mul_ediv_cancel_left _ (by omega)]
     exact small_factor b0 (by omega) (by omega)
    have bd: -9223372036854775807≤d1∧d1≤9223372036854775807:=by
     obtain ⟨k,hk⟩:=dv2
     rw [hd1,hk,Int.mul_ediv_cancel_left _ (by omega)]
     exact small_factor b0 (by omega) (by omega)
    have hcan:=canF_words h2 (n:=n)
    rw [← hG,← hn1,← hd1] at hcan
    have HC:=Lib.hid hcan
    obtain ⟨bn0,bn1⟩:=bn
    obtain ⟨bd0,bd1⟩:=bd
    have q3:IntKind.i64.wrap n1=n1:=by simp only [IntKind.wrap,IntKind.bits,IntKind.signed];simp;omega
    have q4:IntKind.i64.wrap d1=d1:=by simp only [IntKind.wrap,IntKind.bits,IntKind.signed];simp;omega
    have tok:True:=trivial
    clear hG hn1 hd1 dv1 dv2 hcan
    go_wp2_with fail
    go_region_held3 (fun _=>True) (exact trivial)
     (first
      | (go_at_call 140;have _t:=tok;refine (fromInt64_any n1 _ (by omega) (by omega)).mono ?_;clear tok _t;rintro e w1 ⟨v1,rfl,e1,hb1⟩;obtain ⟨A1,m1,k1,rfl,_⟩:=e1.shape)
      | (go_at_call 140;refine (fromInt64_any d1 _ (by omega) (by omega)).mono ?_;rintro e w2 ⟨v2,rfl,e2,hb2⟩;obtain ⟨A2,m2,k2,rfl,_⟩:=e2.shape;obtain ⟨c0,c1,c2,c3⟩:=((hR.drew.later hb1).later hb2).four;obtain ⟨f0,f1,f2,f3⟩:=((hR.drew.later hb1).later hb2).fourF))
    go_wp2
    refine ret_cell Tryz.results125 Tryz.underlying48 (by kernel_rfl) rfl (((hR.drew.later hb1).later hb2).set4 _ _ _ _) rfl ?_
    rw [HC.out]
    exact fin_frac ((hR.drew.later hb1).later hb2) (FracM.mk (e1.below hb2) e2) (below_then (below_then hbe.drew hb1 hbe.size) hb2 (Nat.le_trans hbe.size hb1.size)) (Nat.le_refl _)
end
end Go.Proofs.YtncmobkhenfhpaaGreat
