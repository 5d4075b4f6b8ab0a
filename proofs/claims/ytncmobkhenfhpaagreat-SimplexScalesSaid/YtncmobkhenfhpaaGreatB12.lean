/- Contracts and plain facts that the claim is built on, joined out of smaller texts; no condition. -/
import Derived.Test.YtncmobkhenfhpaaGreatB13
set_option linter.unusedVariables false
set_option linter.unusedSimpArgs false
set_option maxRecDepth 100000
set_option maxHeartbeats 40000000
namespace Go.Proofs.YtncmobkhenfhpaaGreat
open Go.RowKit
open Pl
attribute [local go_sem ↓] Go.wp_at_zero Go.wp_at_succ
namespace Pl
theorem RI.Sm.canI_neg {a:RI} (h:a.Sm):(canI (-a.z)).Sm:=by
 unfold RI.Sm at h ⊢
 simp only [canI,val_digs,Int.natAbs_neg,z_natAbs]
 exact h
theorem sm_canI_small {z:Int} (h0: -9223372036854775808≤z) (h1:z≤9223372036854775807):(canI z).Sm:=by
 unfold RI.Sm
 simp only [canI,val_digs]
 have:=digs_lt (n:=z.natAbs) (k:=2) (by unfold B32;omega)
 omega
end Pl
theorem boxP (w:World) (x1 x2 x3 x4:Value):∃W,((w.alloc (.cells #[x1,x2,x3,x4] 48)).alloc (.cells #[.bool false,.slice none 0 0] 46)).alloc (.cells #[.bool false,.slice none 0 0] 46)=W∧Bk W w.heap.size 48 [x1,x2,x3,x4]∧
 Bk W (w.heap.size+1) 46 [.bool false,.slice none 0 0]∧Bk W (w.heap.size+1+1) 46 [.bool false,.slice none 0 0]∧Below w.heap.size w W:=by
 refine ⟨_,rfl,((Bk.new w _ [x1,x2,x3,x4]).alloc _).alloc _,?_,?_,((below_new w _).alloc (by simp) _).alloc (by simp;omega) _⟩
 ·have:=Bk.new (w.alloc (.cells #[x1,x2,x3,x4] 48)) 46 [.bool false,.slice none 0 0]
  rw [size_alloc] at this
  exact this.alloc _
 ·have:=Bk.new ((w.alloc (.cells #[x1,x2,x3,x4] 48)).alloc (.cells #[.bool false,.slice none 0 0] 46)) 46 [.bool false,.slice none 0 0]
  rwa [size_alloc,size_alloc] at this
def PartsPost (a:RF) (w:World) (e:Ending) (w':World):Prop:=
 ∃v1 v2 x y,e= .returned (.tuple #[v1,v2])∧IntM w' v1 x∧IntM w' v2 y∧0 < y.z∧Rat.divInt x.z y.z=a.q∧x.Sm∧y.Sm∧Below w.heap.size w w'
theorem parts_any (v:Value) (a:RF) (w:World) (h:FracM w v a) (hs:a.Sm):
 Calls Tryz.prog 126 #[v] w (PartsPost a w):=by
 obtain ⟨A,n,c,A',n',c',rfl,hd,hd'⟩:=h
 obtain ⟨⟨neg,ds⟩,⟨neg',ds'⟩⟩:=a
 obtain ⟨hs1,hs2⟩:=hs
 simp only at hd hd' ⊢
 obtain ⟨W,hW,hX,hR,hR',hbe⟩:=boxP w (.bool neg) (.slice A n c) (.bool neg') (.slice A' n' c')
 have e1:IntM W (.agg #[.bool neg,.slice A n c]) ⟨neg,ds⟩:=⟨_,rfl,hd.below hbe⟩
 have e2:IntM W (.agg #[.bool neg',.slice A' n' c']) ⟨neg',ds'⟩:=⟨_,rfl,hd'.below hbe⟩
 obtain ⟨p1,p2,p3,p4⟩:=hX.four
 go_enter Tryz.func126,Tryz.ntmps126
 go_wp2_with fail
 clear hW
 refine (sign_any _ ⟨neg',ds'⟩ _ e2).mono ?_
 rintro e w1 ⟨rfl,hb1⟩
 have hX1:=hX.later hb1
 have hR1:=hR.later hb1
 have hR1':=hR'.later hb1
 have hbe1:=below_then hbe hb1 hbe.size
 have e11:=e1.below hb1
 have e21:=e2.below hb1
 clear hX hR hR' hbe e1 e2 hb1 p1 p2 p3 p4
 have hn1:w.heap.size+1≠w.heap.size+1+1:=by omega
 have hn2:w.heap.size≠w.heap.size+1:=by omega
 have hn3:w.heap.size≠w.heap.size+1+1:=by omega
 obtain ⟨p1,p2,p3,p4⟩:=hX1.four
 rcases Int.lt_trichotomy (RI.z ⟨neg',ds'⟩) 0 with hz | hz | hz
 ·have HZ:=Lib.hid hz
  rw [sgn_neg hz]
  clear hz
  go_wp2_with fail
  have tok:True:=trivial
  go_region_held3 (fun w'=>w'.cell? ⟨w.heap.size,0,none⟩=some (.bool neg)∧w'.cell? ⟨w.heap.size,1,none⟩=some (.slice A n c)∧w'.cell? ⟨w.heap.size,2,none⟩=some (.bool neg')∧w'.cell? ⟨w.heap.size,3,none⟩=some (.slice A' n' c'))
   (first | with_reducible exact hX1.four | with_reducible exact hX1.drew.four | with_reducible exact (hX1.drew.later hb6).four | with_reducible exact ((hX1.drew.later hb6).later hb7).four | with_reducible exact (((hX1.drew.later hb6).later hb7).far2 hn2 _ _).four | with_reducible exact ((((hX1.drew.later hb6).later hb7).far2 hn2 _ _).far2 hn3 _ _).four)
   (first
    | (go_at_call 146;have _t:=tok;refine (negate_any _ ⟨neg,ds⟩ _ (e11.keep (Keep.drew _)) (Nat.le_trans hs1 (by decide))).mono ?_;clear tok _t;rintro e w6 ⟨v6,rfl,e6,hb6⟩;obtain ⟨A6,n6,k6,rfl,_⟩:=e6.shape)
    | (go_at_call 146;refine (negate_any _ ⟨neg',ds'⟩ _ ((e21.keep (Keep.drew _)).below hb6) (Nat.le_trans hs2 (by decide))).mono ?_;rintro e w7 ⟨v7,rfl,e7,hb7⟩;obtain ⟨A7,n7,k7,rfl,_⟩:=e7.shape;obtain ⟨c0,c1,f0,f1⟩:=((hR1.drew.later hb6).later hb7).two;obtain ⟨c0',c1',f0',f1'⟩:=((hR1'.drew.later hb6).later hb7).two))
  go_wp2
  obtain ⟨a1,a2,a3,a4,a5⟩:=fin_div ((hR1.drew.later hb6).later hb7) ((hR1'.drew.later hb6).later hb7) hn1 (e6.below hb7) e7 (below_then (below_then hbe1.drew hb6 hbe1.size) hb7 (Nat.le_trans hbe1.size hb6.size)) (by omega) (by omega)
  refine ret_cc Tryz.results126 Tryz.underlying46 Tryz.underlying46 (by kernel_rfl) (by kernel_rfl) rfl rfl a1 a2 rfl ?_
  refine ⟨_,_,_,_,rfl,a3,a4,?_,?_,RI.Sm.canI_neg hs1,RI.Sm.canI_neg hs2,a5⟩
  ·rw [canI_z];have:=HZ.out;omega
  ·rw [canI_z,canI_z,Rat.neg_divInt_neg];rfl
 ·have HZ:=Lib.hid hz
  rw [hz,sgn_zero]
  clear hz
  go_wp2_with fail
  refine (fromInt64_any 1 _ (by omega) (by omega)).mono ?_
  rintro e w2 ⟨v2,rfl,e6,hb2⟩
  obtain ⟨A2,n2,k2,rfl,_⟩:=e6.shape
  have hR2:=hR1.later hb2
  have hR2':=hR1'.later hb2
  have hbe2:=below_then hbe1 hb2 hbe1.size
  obtain ⟨c0,c1,f0,f1⟩:=hR2.two
  obtain ⟨c0',c1',f0',f1'⟩:=hR2'.two
  go_wp2
  obtain ⟨a1,a2,a3,a4,a5⟩:=fin_div hR2 hR2' hn1 (IntM.zero w2) e6 hbe2 (by omega) (by omega)
  refine ret_cc Tryz.results126 Tryz.underlying46 Tryz.underlying46 (by kernel_rfl) (by kernel_rfl) rfl rfl a1 a2 rfl ?_
  refine ⟨_,_,_,_,rfl,a3,a4,?_,?_,sm_canI_small (by omega) (by omega),sm_canI_small (by omega) (by omega),a5⟩
  ·rw [canI_z];omega
  ·rw [canI_z,canI_z,Rat.zero_divInt]
   show _=Rat.divInt (RI.z _) (RI.z _)
   rw [HZ.out,Rat.divInt_zero]
 ·have HZ:=Lib.hid hz
  rw [sgn_pos hz]
  clear hz
  obtain ⟨c0,c1,f0,f1⟩:=hR1.two
  obtain ⟨c0',c1',f0',f1'⟩:=hR1'.two
  go_wp2_with fail
  go_region_held3 (fun w'=>w'.cell? ⟨w.heap.size,0,none⟩=some (.bool neg)∧w'.cell? ⟨w.heap.size,1,none⟩=some (.slice A n c)∧w'.cell? ⟨w.heap.size,2,none⟩=some (.bool neg')∧w'.cell? ⟨w.heap.size,3,none⟩=some (.slice A' n' c'))
   (first | with_reducible exact hX1.four | with_reducible exact hX1.drew.four | with_reducible exact (hX1.far2 hn2 _ _).drew.four | with_reducible exact ((hX1.far2 hn2 _ _).far2 hn3 _ _).drew.four)
   (fail)
  go_wp2
  obtain ⟨a1,a2,a3,a4,a5⟩:=fin_div hR1 hR1' hn1 e11 e21 hbe1 (by omega) (by omega)
  refine ret_cc Tryz.results126 Tryz.underlying46 Tryz.underlying46 (by kernel_rfl) (by kernel_rfl) rfl rfl a1.drew a2.drew rfl ?_
  exact ⟨_,_,_,_,rfl,a3.keep (Keep.drew _),a4.keep (Keep.drew _),HZ.out,rfl,hs1,hs2,a5.drew⟩
namespace Pl
def qs (q:Rat):Int:=sgn q.num
theorem sgn_div {x g:Int} (hg:0 < g) (h:g∣x):sgn (x / g)=sgn x:=by
 obtain ⟨k,rfl⟩:=h
 rw [Int.mul_ediv_cancel_left _ (by omega)]
 unfold sgn
 rcases Int.lt_trichotomy k 0 with h | h | h
 ·rw [if_pos h,if_pos (Int.mul_neg_of_pos_of_neg hg h)]
 ·subst h;simp
 ·have:=Int.mul_pos hg h
  rw [if_neg (by omega),if_neg (by omega),if_neg (by omega),if_neg (by omega)]
theorem qs_divInt (n d:Int):qs (Rat.divInt n d)=sgn n * sgn d:=by
 unfold qs
 rw [Rat.num_divInt]
 rcases Int.lt_trichotomy d 0 with h | h | h
 ·have hg:0 < ((Int.gcd d n:Nat):Int):=by have:=Int.gcd_pos_of_ne_zero_left n (show d≠0 by omega);omega
  rw [Int.sign_eq_neg_one_of_neg h,sgn_div hg (Int.dvd_mul_of_dvd_right (Int.gcd_dvd_right ..)),sgn_neg h]
  unfold sgn
  rcases Int.lt_trichotomy n 0 with k | k | k
  ·rw [if_neg (by omega),if_neg (by omega),if_pos k];rfl
  ·subst k;simp
  ·rw [if_pos (by omega),if_neg (by omega),if_neg (by omega)];rfl
 ·subst h;simp [sgn_zero]
 ·have hg:0 < ((Int.gcd d n:Nat):Int):=by have:=Int.gcd_pos_of_ne_zero_left n (show d≠0 by omega);omega
  rw [Int.sign_eq_one_of_pos h,sgn_div hg (Int.dvd_mul_of_dvd_right (Int.gcd_dvd_right ..)),sgn_pos h,Int.one_mul,Int.mul_one]
theorem sgn_bd (z:Int): -1≤sgn z∧sgn z≤1:=by unfold sgn;split;omega;split <;> omega
theorem qs_bd (q:Rat): -1≤qs q∧qs q≤1:=sgn_bd _
def zeroF:RF:=⟨canI 0,canI 0⟩
end Pl
theorem FracM.zero (w:World):FracM w (.agg #[.bool false,.slice none 0 0,.bool false,.slice none 0 0]) zeroF:=by
 have h:=IntM.zero w
 have:=FracM.mk (x:=canI 0) (y:=canI 0) (by rw [canI_zero] at h ⊢;exact h) (by rw [canI_zero] at h ⊢;exact h)
 rw [canI_zero] at this
 unfold zeroF
 rw [canI_zero]
 exact this
def NewPost (n d:Int) (w:World) (e:Ending) (w':World):Prop:=
 ∃v',e= .returned (.tuple #[v',.int .i64 (if d=0 then 11 else 0)])∧FracM w' v' (if d=0 then zeroF else canF (Rat.divInt n d))∧Below w.heap.size w w'
theorem new_any (v1 v2:Value) (a b:RI) (w:World) (h1:IntM w v1 a) (h2:IntM w v2 b) (hs:(digs (val a.ds)).length≤549755813888) (hs2:(digs (val b.ds)).length≤549755813888):
 Calls Tryz.prog 139 #[v1,v2] w (NewPost a.z b.z w):=by
 obtain ⟨A,n,c,rfl,hd⟩:=h1.shape
 obtain ⟨A',n',c',rfl,hd'⟩:=h2.shape
 obtain ⟨W,hW,hX,hX',hR,hbe⟩:=boxR w (.bool a.neg) (.slice A n c) (.bool b.neg) (.slice A' n' c')
 have e1:=h1.below hbe
 have e2:=h2.below hbe
 clear hd hd' h1 h2
 obtain ⟨x0,x1,_,_⟩:=hX'.two
 go_enter Tryz.func139,Tryz.ntmps139
 go_wp2_with fail
 clear hW
 refine (sign_any _ b _ e2).mono ?_
 rintro e w1 ⟨rfl,hb1⟩
 have hX1:=hX.later hb1
 have hX1':=hX'.later hb1
 have hR1:=hR.later hb1
 have hbe1:=below_then hbe hb1 hbe.size
 have e11:=e1.below hb1
 have e21:=e2.below hb1
 clear hX hX' hR hbe e1 e2 hb1 x0 x1
 by_cases ha:b.z=0
 ·rw [ha,sgn_zero]
  have HA:=Lib.hid ha
  clear ha
  obtain ⟨c0,c1,c2,c3⟩:=hR1.four
  obtain ⟨f0,f1,f2,f3⟩:=hR1.fourF
  go_wp2
  refine ret_ct Tryz.results139 Tryz.underlying48 (by kernel_rfl) rfl (hR1.set4 _ _ _ _) rfl ?_
  obtain ⟨v',q1,q2,q3⟩:=fin_frac hR1 (FracM.zero w1) hbe1 (show w.heap.size≤w.heap.size+1+1 by omega)
  injection q1 with q1
  subst q1
  exact ⟨_,by rw [if_pos HA.out];rfl,by rw [if_pos HA.out];exact q2,q3⟩
 ·have hsg:(sgn b.z==0)=false:=by unfold sgn;split;rfl;rfl
  have HA:=Lib.hid ha
  clear ha
  obtain ⟨x0,x1,_,_⟩:=hX1.two
  obtain ⟨y0,y1,_,_⟩:=hX1'.two
  go_wp2_with fail
  refine (reduce_any _ _ a b _ e11 e21 hs hs2 HA.out).mono ?_
  rintro e w2 ⟨v2,rfl,e3,hb2⟩
  have hR2:=hR1.later hb2
  obtain ⟨B,m,d,B',m',d',rfl,_,_⟩:=id e3
  obtain ⟨c0,c1,c2,c3⟩:=hR2.four
  obtain ⟨f0,f1,f2,f3⟩:=hR2.fourF
  go_wp2
  refine ret_ct Tryz.results139 Tryz.underlying48 (by kernel_rfl) rfl (hR2.set4 _ _ _ _) rfl ?_
  obtain ⟨v',q1,q2,q3⟩:=fin_frac hR2 e3 (below_then hbe1 hb2 hbe1.size) (show w.heap.size≤w.heap.size+1+1 by omega)
  injection q1 with q1
  subst q1
  exact ⟨_,by rw [if_neg HA.out];rfl,by rw [if_neg HA.out];exact q2,q3⟩
theorem fromInts_any (n d:Int) (w:World) (h0: -9223372036854775808≤n) (h1:n≤9223372036854775807) (h2: -9223372036854775808≤d) (h3:d≤9223372036854775807):
 Calls Tryz.prog 114 #[.int .i64 n,.int .i64 d] w (NewPost n d w):=by
 have hR:=Bk.new w 48 [.bool false,.slice none 0 0,.bool false,.slice none 0 0]
 have hbe:=below_new w (.cells [.bool false,.slice none 0 0,.bool false,.slice none 0 0].toArray 48)
 go_enter Tryz.func114,Tryz.ntmps114
 go_wp2_with fail
 generalize w.alloc _=W at *
 refine (fromInt64_any n _ h0 h1).mono ?_
 rintro e w1 ⟨v1,rfl,e1,hb1⟩
 go_wp2_with fail
 refine (fromInt64_any d _ h2 h3).mono ?_
 rintro e w2 ⟨v2,rfl,e2,hb2⟩
 go_wp2_with fail
 refine (new_any _ _ (canI n) (canI d) _ (e1.below hb2) e2 (Nat.le_trans (sm_canI_small h0 h1) (by decide)) (Nat.le_trans (sm_canI_small h2 h3) (by decide))).mono ?_
 rw [canI_z,canI_z]
 rintro e w3 ⟨v3,rfl,e3,hb3⟩
 generalize hE:(if d=0 then (11:Int) else 0)=ee at *
 generalize hF:(if d=0 then zeroF else canF (Rat.divInt n d))=ff at *
 have HE:=Lib.hid hE
 have HF:=Lib.hid hF
 clear hE hF
 have hR3:=((hR.later hb1).later hb2).later hb3
 have b1:=below_then hbe hb1 hbe.size
 have b2:=below_then b1 hb2 b1.size
 have b3:=below_then b2 hb3 b2.size
 obtain ⟨B,m,d',B',m',d'',rfl,_,_⟩:=id e3
 obtain ⟨c0,c1,c2,c3⟩:=hR3.four
 obtain ⟨f0,f1,f2,f3⟩:=hR3.fourF
 go_wp2
 refine ret_ct Tryz.results114 Tryz.underlying48 (by kernel_rfl) rfl (hR3.set4 _ _ _ _) rfl ?_
 obtain ⟨v',q1,q2,q3⟩:=fin_frac hR3 e3 b3 (Nat.le_refl _)
 injection q1 with q1
 subst q1
 exact ⟨_,by rw [HE.out];rfl,by rw [HF.out];exact q2,q3⟩
theorem signF_any (v:Value) (a:RF) (w:World) (h:FracM w v a):
 Calls Tryz.prog 88 #[v] w fun e w'=>e= .returned (.int .i64 (qs a.q))∧Below w.heap.size w w':=by
 obtain ⟨A,n,c,A',n',c',rfl,hd,hd'⟩:=h
 have hX:=Bk.new w 48 [.bool a.num.neg,.slice A n c,.bool a.den.neg,.slice A' n' c']
 have hbe:=below_new w (.cells [.bool a.num.neg,.slice A n c,.bool a.den.neg,.slice A' n' c'].toArray 48)
 have e1:IntM w (.agg #[.bool a.num.neg,.slice A n c]) a.num:=⟨_,rfl,hd⟩
 have e2:IntM w (.agg #[.bool a.den.neg,.slice A' n' c']) a.den:=⟨_,rfl,hd'⟩
 have e1:=e1.below hbe
 have e2:=e2.below hbe
 have HS:=Lib.hid (qs_divInt a.num.z a.den.z)
 have hw:IntKind.i64.wrap (sgn a.num.z * sgn a.den.z)=sgn a.num.z * sgn a.den.z:=by
  have:=sgn_bd a.num.z
  have:=sgn_bd a.den.z
  rw [← HS.out]
  have:=qs_bd (Rat.divInt a.num.z a.den.z)
  simp only [IntKind.wrap,IntKind.bits,IntKind.signed];simp;omega
 have tok:True:=trivial
 go_enter Tryz.func88,Tryz.ntmps88
 go_wp2_with fail
 generalize w.alloc _=W at *
 go_region_held3 (fun w'=>w'.cell? ⟨w.heap.size,0,none⟩=some (.bool a.num.neg)∧w'.cell? ⟨w.heap.size,1,none⟩=some (.slice A n c)∧w'.cell? ⟨w.heap.size,2,none⟩=some (.bool a.den.neg)∧w'.cell? ⟨w.heap.size,3,none⟩=some (.slice A' n' c'))
  (first | with_reducible exact hX.four | with_reducible exact hX.drew.four | with_reducible exact (hX.drew.later hb6).four | with_reducible exact ((hX.drew.later hb6).later hb7).four)
  (first
   | (go_at_call 119;have _t:=tok;refine (sign_any _ a.num _ (e1.keep (Keep.drew _))).mono ?_;clear tok _t;rintro e w6 ⟨rfl,hb6⟩)
   | (go_at_call 119;refine (sign_any _ a.den _ ((e2.keep (Keep.drew _)).below hb6)).mono ?_;rintro e w7 ⟨rfl,hb7⟩))
 go_wp2
 go_ret
 refine ⟨?_,below_then (below_then hbe.drew hb6 hbe.size) hb7 (Nat.le_trans hbe.size hb6.size)⟩
 rw [show qs a.q=sgn a.num.z * sgn a.den.z from HS.out]
 rfl
end Go.Proofs.YtncmobkhenfhpaaGreat
