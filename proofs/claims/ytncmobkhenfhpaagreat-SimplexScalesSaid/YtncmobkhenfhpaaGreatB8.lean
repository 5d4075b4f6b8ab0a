/- Contracts and plain facts that the claim is built on, joined out of smaller texts; no condition. -/
import Derived.Test.YtncmobkhenfhpaaGreatB6
import Derived.Test.YtncmobkhenfhpaaGreatB7
import Derived.Test.YtncmobkhenfhpaaGreatB9
set_option linter.unusedVariables false
set_option linter.unusedSimpArgs false
set_option maxRecDepth 100000
set_option maxHeartbeats 40000000
namespace Go.Proofs.YtncmobkhenfhpaaGreat
open Go.RowKit
open Pl
attribute [local go_sem ↓] Go.wp_at_zero Go.wp_at_succ
theorem window1_any (i:Int) (g:Nat) (A:Option Addr) (n c:Nat) (ds:List Nat) (w:World) (h:DigM w (.slice A n c) ds) (hg:w.cell? ⟨g,0,none⟩=some (.slice A n c)) (i0:0≤i) (i1:i≤1099511627776):
 Calls Tryz.prog 180 #[.int .i64 i,.pointer (some ⟨g,0,none⟩)] w fun e w'=>e= .returned (.int .u64 (di ds i.toNat))∧w=w':=by
 obtain ⟨hl,hl',hnc,hc⟩:=h.len
 obtain ⟨k,rfl⟩:=Int.eq_ofNat_of_zero_le i0
 rw [Int.toNat_natCast]
 have x0:=di_nonneg ds k
 have x1:=di_le h.ok k
 rcases Nat.lt_or_ge k n with hk | hk
 ·obtain ⟨b,off,rfl,hb,hcell⟩:=h.at_ (by omega)
  have hx:=hcell k hk
  clear hcell
  go_enter Tryz.func180,Tryz.ntmps180
  go_wp2
  go_ret
  exact ⟨rfl,rfl⟩
 ·have e:di ds k=0:=by rw [di_eq,dg_ge (by omega)];rfl
  rw [e]
  clear e
  go_enter Tryz.func180,Tryz.ntmps180
  go_wp2
  go_ret
  exact ⟨rfl,rfl⟩
theorem or_shift2 {z x:Int} {s:Nat} (hs:s≤31) (z0:0≤z) (z1:z < 2^s) (x0:0≤x) (q1:x * 2^s≤18446744073709551615):bits .or .u64 (x * 2^s) z=x * 2^s+z:=by
 obtain ⟨a,rfl⟩:=Int.eq_ofNat_of_zero_le z0
 obtain ⟨b,rfl⟩:=Int.eq_ofNat_of_zero_le x0
 have hp31:=pow_le_31 hs
 rw [pow_cast] at *
 rw [← Int.natCast_mul] at *
 rw [u64_or_nat _ _ (by omega) (by omega),← Nat.shiftLeft_eq,← Nat.shiftLeft_add_eq_or_of_lt (by omega),Nat.shiftLeft_eq]
 omega
theorem div_pow_lt {s:Nat} {x:Int} (hs:s≤31) (x0:0≤x) (x1:x≤4294967295):0≤x / 2^(32 - s)∧x / 2^(32 - s) < 2^s:=by
 have hp:(0:Int) < 2^(32 - s):=by have:=pow_pos_1 (32 - s);omega
 refine ⟨Int.ediv_nonneg x0 (by omega),?_⟩
 rw [Int.ediv_lt_iff_lt_mul hp,← Int.pow_add,show s+(32 - s)=32 from by omega]
 omega
theorem window_any (v:Value) (ds:List Nat) (m s:Nat) (w:World) (h:DigM w v ds) (hs:s≤31) (hm:(m:Int)≤549755813888) (ht:(di ds (m+2)+1) * 2^s≤4294967296):
 Calls Tryz.prog 175 #[v,.int .i64 ((m:Int)+3),.int .u64 (s:Int)] w fun e w'=>e= .returned (.int .u64 ((di ds (m+2) * 4294967296+di ds (m+1)) * 2^s+di ds m / 2^(32 - s)))∧Below w.heap.size w w':=by
 obtain ⟨A,n,c,rfl⟩:=h.shape
 have d20:=di_nonneg ds (m+2)
 have d21:=di_le h.ok (m+2)
 have d10:=di_nonneg ds (m+1)
 have d11:=di_le h.ok (m+1)
 have d00:=di_nonneg ds m
 have d01:=di_le h.ok m
 have hW:Below w.heap.size w (w.alloc (.cells #[.slice A n c] 44)):=(Below.refl _ _).alloc (Nat.le_refl _) _
 have hD:=h.below hW
 have hcell:(w.alloc (.cells #[.slice A n c] 44)).cell? ⟨w.heap.size,0,none⟩=some (.slice A n c):=by simp
 have HD:=Lib.hid hD
 have HC:=Lib.hid hcell
 clear hD hcell
 have hp1:=pow_le_31 hs
 have hp0:(1:Int)≤2^s:=pow_pos_1 s
 have q0:0≤di ds (m+2) * 2^s:=Int.mul_nonneg d20 (by omega)
 have q1:di ds (m+1) * 2^s≤4294967295 * 2^s:=Int.mul_le_mul_of_nonneg_right d11 (by omega)
 have q2:0≤di ds (m+1) * 2^s:=Int.mul_nonneg d10 (by omega)
 have ht':di ds (m+2) * 2^s+2^s≤4294967296:=by rw [Int.add_mul,Int.one_mul] at ht;exact ht
 have hH:(di ds (m+2) * 4294967296+di ds (m+1)) * 2^s=di ds (m+2) * 2^s * 4294967296+di ds (m+1) * 2^s:=by rw [Int.add_mul,Int.mul_right_comm]
 have hH0:0≤(di ds (m+2) * 4294967296+di ds (m+1)) * 2^s:=by omega
 have hH1:(di ds (m+2) * 4294967296+di ds (m+1)) * 2^s≤18446744073709551615:=by omega
 have HH1:=Lib.hid hH1
 have r1:IntKind.u64.wrap ((di ds (m+2) * 4294967296+di ds (m+1)) * 2^s)=(di ds (m+2) * 4294967296+di ds (m+1)) * 2^s:=u64_in _ hH0 hH1
 have r4:=or_words d10 d11 d20 d21
 have R1:=Lib.hid r1
 clear hH hH0 hH1 ht ht' q0 q1 q2 r1
 have t0:(0:Int)≤32 - (s:Int):=by omega
 go_enter Tryz.func175,Tryz.ntmps175
 go_wp2_with fail
 refine (window1_any _ _ A n c ds _ HD.out HC.out (by omega) (by omega)).mono ?_
 rw [show ((m:Int)+3 - 1).toNat=m+2 from by omega]
 rintro e w1 ⟨rfl,rfl⟩
 go_wp2_with fail
 refine (window1_any _ _ A n c ds _ HD.out HC.out (by omega) (by omega)).mono ?_
 rw [show ((m:Int)+3 - 2).toNat=m+1 from by omega]
 rintro e w1 ⟨rfl,rfl⟩
 go_wp2_with fail
 refine (window1_any _ _ A n c ds _ HD.out HC.out (by omega) (by omega)).mono ?_
 rw [Int.toNat_natCast]
 rintro e w1 ⟨rfl,rfl⟩
 have r1:=R1.out
 go_wp2_with fail
 go_ret
 exact ⟨ret_int (or_shift2 hs (div_pow_lt hs d00 d01).1 (div_pow_lt hs d00 d01).2 (by omega) HH1.out),hW⟩
theorem win_val {X m s:Nat} (hs:s≤31) (hl:(digs X).length≤m+3):(di (digs X) (m+2) * 4294967296+di (digs X) (m+1)) * 2^s+di (digs X) m / 2^(32 - s)=((X / (2^(32 - s) * B32^m):Nat):Int):=by
 have hX:X=vt (digs X) (m+3):=by rw [vt_ge hl,val_digs]
 have e:X / (2^(32 - s) * B32^m)=(dg (digs X) (m+2) * B32+dg (digs X) (m+1)) * 2^s+dg (digs X) m / 2^(32 - s):=by
  have hlow:=vt_lt (okD_digs X) m
  conv=>lhs;rw [hX]
  rw [vt_top3,Nat.mul_comm (2^(32 - s)),← Nat.div_div_eq_div_mul,Nat.mul_comm _ (B32^m),Nat.mul_add_div (Nat.pow_pos B32_pos),Nat.div_eq_of_lt hlow,Nat.add_zero]
  have hB:B32=2^(32 - s) * 2^s:=by rw [← Nat.pow_add,show 32 - s+s=32 from by omega];rfl
  generalize dg (digs X) (m+2) * B32+dg (digs X) (m+1)=T
  have hp:=Nat.pow_pos (n:=32 - s) (show 0 < 2 by decide)
  rw [hB,show T * (2^(32 - s) * 2^s)=2^(32 - s) * (T * 2^s) from by rw [Nat.mul_left_comm],Nat.mul_add_div hp]
 rw [e,Int.natCast_add,Int.natCast_ediv,Int.natCast_mul,Int.natCast_add,Int.natCast_mul,← pow_cast,← pow_cast]
 rfl
theorem top_up {t s:Nat} (hs:s≤31) (h1:t * 2^s≤4294967295):(t+1) * 2^s≤4294967296:=by
 have hB:2^s * 2^(32 - s)=4294967296:=by rw [← Nat.pow_add,show s+(32 - s)=32 from by omega]
 have a:t * 2^s < 2^(32 - s) * 2^s:=by rw [Nat.mul_comm (2^(32 - s)),hB];omega
 have b:=Nat.lt_of_mul_lt_mul_right a
 have c:(t+1) * 2^s≤2^(32 - s) * 2^s:=Nat.mul_le_mul_right _ b
 rwa [Nat.mul_comm (2^(32 - s)),hB] at c
theorem dg_top {X m:Nat} (hl:(digs X).length≤m+3):dg (digs X) (m+2)=X / B32^(m+2):=by
 have hX:X=vt (digs X) (m+3):=by rw [vt_ge hl,val_digs]
 have hlow:=vt_lt (okD_digs X) (m+2)
 conv=>rhs;rw [hX]
 rw [vt_succ',Nat.add_comm (vt _ _),Nat.mul_comm (dg _ _),Nat.mul_add_div (Nat.pow_pos B32_pos),Nat.div_eq_of_lt hlow]
 rfl
theorem win_le {X m s:Nat} (hs:s≤31) (hl:(digs X).length≤m+3) (ht:(di (digs X) (m+2)+1) * 2^s≤4294967296):((X / (2^(32 - s) * B32^m):Nat):Int)≤18446744073709551615:=by
 rw [← win_val hs hl]
 have d10:=di_nonneg (digs X) (m+1)
 have d11:=di_le (okD_digs X) (m+1)
 have d00:=di_nonneg (digs X) m
 have d01:=di_le (okD_digs X) m
 have hp0:(1:Int)≤2^s:=pow_pos_1 s
 have hp1:=pow_le_31 hs
 have q1:di (digs X) (m+1) * 2^s≤4294967295 * 2^s:=Int.mul_le_mul_of_nonneg_right d11 (by omega)
 obtain ⟨z0,z1⟩:=div_pow_lt hs d00 d01
 rw [Int.add_mul,Int.one_mul] at ht
 rw [Int.add_mul,Int.mul_right_comm]
 omega
theorem cofactors_any (v1 v2:Value) (X Y m:Nat) (w:World) (h1:DigM w v1 (digs X)) (h2:DigM w v2 (digs Y)) (hl1:(digs X).length=m+3) (hYX:Y≤X) (hm:(m:Int)≤549755813888):
 Calls Tryz.prog 168 #[v1,v2] w fun e w'=>∃(u0 u1 v0 v1:Int) (ev:Bool),e= .returned (.agg #[.int .u64 u0,.int .u64 u1,.int .u64 v0,.int .u64 v1,.bool ev])∧
  0≤u0∧u0≤4294967295∧0≤u1∧u1≤4294967295∧0≤v0∧v0≤4294967295∧0≤v1∧v1≤4294967295∧(v0≠0→∃R0 R1:Nat,Cof X Y u0.toNat u1.toNat v0.toNat v1.toNat ev R0 R1)∧Below w.heap.size w w':=by
 have hl2:(digs Y).length≤m+3:=by have:=digs_len_mono hYX;omega
 have hXpos:0 < X:=by
  rcases Nat.eq_zero_or_pos X with e | e
  ·subst e;rw [digs_zero] at hl1;simp at hl1
  ·exact e
 have y0:1≤di (digs X) (m+2):=by
  have:=dg_digs_last hXpos
  rw [hl1] at this
  rw [di_eq]
  simp at this
  omega
 have y1:=di_le (okD_digs X) (m+2)
 have htt:di (digs Y) (m+2)≤di (digs X) (m+2):=by
  rw [di_eq,di_eq,dg_top hl2,dg_top (by omega)]
  have:=Nat.div_le_div_right (c:=B32^(m+2)) hYX
  omega
 have HTT:=Lib.hid htt
 have HL2:=Lib.hid hl2
 have HYX:=Lib.hid hYX
 clear htt hl2 hYX
 obtain ⟨A,n1,c,rfl⟩:=h1.shape
 obtain ⟨kl,kl',knc,kc⟩:=h1.len
 obtain ⟨b1,off1,rfl,hb1,hcell1⟩:=h1.at_ (by omega)
 obtain rfl:n1=m+3:=by omega
 have hx:=hcell1 (m+2) (by omega)
 have HL1:=Lib.hid hl1
 clear hcell1 hl1 kl kl'
 go_enter Tryz.func168,Tryz.ntmps168
 go_wp2_with fail
 refine (clz32_any _ _ y0 y1).mono ?_
 rintro e w1 ⟨s,rfl,rfl,hs31,ht0,ht1⟩
 have hup:(di (digs X) (m+2)+1) * 2^s≤4294967296:=by
  have:=top_up hs31 (top_nat' ht1)
  rw [di_eq,pow_cast,show ((dg (digs X) (m+2):Nat):Int)+1=((dg (digs X) (m+2)+1:Nat):Int) from by omega,← Int.natCast_mul]
  omega
 have hup2:(di (digs Y) (m+2)+1) * 2^s≤4294967296:=by
  have:(di (digs Y) (m+2)+1) * 2^s≤(di (digs X) (m+2)+1) * 2^s:=Int.mul_le_mul_of_nonneg_right (by have:=HTT.out;omega) (by have:=pow_pos_1 s;omega)
  omega
 have HU1:=Lib.hid hup
 have HU2:=Lib.hid hup2
 clear ht0 ht1 hup hup2
 have hW:Below w.heap.size w (w.alloc (.cells #[.int .u64 0,.int .u64 0,.int .u64 0,.int .u64 0,.bool false] 180)):=(Below.refl _ _).alloc (Nat.le_refl _) _
 have hR0:=Bk.new w 180 [.int .u64 0,.int .u64 0,.int .u64 0,.int .u64 0,.bool false]
 have eX:=win_val hs31 (show (digs X).length≤m+3 by rw [HL1.out];exact Nat.le_refl _)
 have eY:=win_val hs31 HL2.out
 have hAle:=win_le hs31 (show (digs X).length≤m+3 by rw [HL1.out];exact Nat.le_refl _) HU1.out
 have hBA:Y / (2^(32 - s) * B32^m)≤X / (2^(32 - s) * B32^m):=Nat.div_le_div_right HYX.out
 have hDpos:0 < 2^(32 - s) * B32^m:=Nat.mul_pos (Nat.pow_pos (by decide)) (Nat.pow_pos B32_pos)
 have hXd:=Nat.div_add_mod X (2^(32 - s) * B32^m)
 have hYd:=Nat.div_add_mod Y (2^(32 - s) * B32^m)
 have hXm:=Nat.mod_lt X hDpos
 have hYm:=Nat.mod_lt Y hDpos
 generalize 2^(32 - s) * B32^m=D at *
 obtain ⟨A0,hA0⟩:∃A0,A0=X / D:=⟨_,rfl⟩
 obtain ⟨B0,hB0⟩:∃B0,B0=Y / D:=⟨_,rfl⟩
 rw [← hA0] at hAle hBA hXd eX
 rw [← hB0] at hBA hYd eY
 have hLeh:=Leh.start (X:=X) (Y:=Y) hBA
 have hstep:∀(a1 a2 u0 u1 u2 v0 v1 v2:Int) (ev:Bool),Leh A0 B0 X Y a1 a2 u0 u1 u2 v0 v1 v2 ev→v2≤a2→v1+v2≤a1 - a2→Leh A0 B0 X Y a2 (a1 % a2) u1 u2 (u1+(a1 / a2) * u2) v1 v2 (v1+(a1 / a2) * v2) (!ev):=by
  intro a1 a2 u0 u1 u2 v0 v1 v2 ev hh c1 c2
  refine hh.step (D:=D) (e1:=(X % D:Nat)) (e2:=(Y % D:Nat)) (by omega) ?_ ?_ (by omega) (by omega) (by omega) (by omega) hAle c1 c2
  ·have:((D * A0:Nat):Int)=(A0:Int) * D:=by rw [Int.natCast_mul,Int.mul_comm]
   omega
  ·have:((D * B0:Nat):Int)=(B0:Int) * D:=by rw [Int.natCast_mul,Int.mul_comm]
   omega
 have HST:=Lib.hid hstep
 have hb0:(B0:Int)≤18446744073709551615:=by omega
 have hA00:(0:Int)≤A0:=by omega
 have hB00:(0:Int)≤B0:=by omega
 have hBA':(B0:Int)≤A0:=by omega
 clear hstep hXd hYd hXm hYm hBA hA0 hB0 hDpos
 obtain ⟨AI,hAI⟩:∃AI:Int,AI=(A0:Int):=⟨_,rfl⟩
 obtain ⟨BI,hBI⟩:∃BI:Int,BI=(B0:Int):=⟨_,rfl⟩
 rw [← hAI] at hAle hA00 eX hBA' hLeh
 rw [← hBI] at hb0 hB00 eY hBA' hLeh
 have EX:=Lib.hid eX
 have EY:=Lib.hid eY
 have HLEH:=Lib.hid hLeh
 have HAI:=Lib.hid hAI
 clear hAI hBI eX eY hLeh
 go_wp2_with fail
 refine (window_any _ (digs X) m s _ (h1.below hW) hs31 hm HU1.out).mono ?_
 rw [EX.out]
 rintro e w2 ⟨rfl,hbe2⟩
 have hR2:=hR0.later hbe2
 have hbW2:Below w.heap.size w w2:=hW.trans (hbe2.mono (by simp))
 clear hR0 hbe2 hW
 go_wp2_with fail
 refine (window_any _ (digs Y) m s _ (h2.below hbW2) hs31 hm HU2.out).mono ?_
 rw [EY.out]
 rintro e w3 ⟨rfl,hbe3⟩
 have hR3:=hR2.later hbe3
 have hbW3:Below w.heap.size w w3:=hbW2.trans (hbe3.mono hbW2.size)
 clear hR2 hbe3 hbW2
 go_wp2_with fail
 go_loopw [7,8,10,11] (fun t1 t2 t3 t4 wr=>∃(a1 a2 u0 u1 u2 v0 v1 v2:Int) (ev:Bool),t1= .int .u64 a1∧t2= .int .u64 a2∧t3= .int .u64 u2∧t4= .int .u64 v2∧
  Bk wr w3.heap.size 180 [.int .u64 u0,.int .u64 u1,.int .u64 v0,.int .u64 v1,.bool ev]∧Bk wr w.heap.size 180 [.int .u64 0,.int .u64 0,.int .u64 0,.int .u64 0,.bool false]∧Below w.heap.size w wr∧a1≤AI∧Leh A0 B0 X Y a1 a2 u0 u1 u2 v0 v1 v2 ev) (fun _ t2 _ _ _=>(intOf t2).toNat)
 case atStart=>exact ⟨AI,BI,0,1,0,0,0,1,false,rfl,rfl,rfl,rfl,Bk.new w3 _ _,hR3.alloc _,hbW3.alloc hbW3.size _,Int.le_refl _,HLEH.out⟩
 case round=>
  obtain ⟨a1,a2,u0,u1,u2,v0,v1,v2,ev,rfl,rfl,rfl,rfl,hC,hR,hbe,haA,hL⟩:=hrel
  have n1:=hL.a2n
  have n2:=hL.a21
  have n3:=hL.v2n
  have n4:=hL.v1n
  have n5:=hL.u1n
  have n6:=hL.u2n
  have n7:=hL.u0n
  have n8:=hL.v0n
  have n9:=hL.b1
  have n10:=hL.b3
  have n11:=hL.b0
  have n12:=hL.b2
  have e0:=hC.cellAt 0 rfl
  have e1:=hC.cellAt 1 rfl
  have e2:=hC.cellAt 2 rfl
  have e3:=hC.cellAt 3 rfl
  have e4:=hC.cellAt 4 rfl
  have f0:=hC.frozen 0
  have f1:=hC.frozen 1
  have f2:=hC.frozen 2
  have f3:=hC.frozen 3
  have f4:=hC.frozen 4
  have HL:=Lib.hid hL
  clear hL
  have hdec:(decide (v2≤a2)=false∧decide (v2≤a2)=false)∨(v2≤a2∧a1 - a2 < v1+v2)∨(v2≤a2∧v1+v2≤a1 - a2):=by
   rcases Int.lt_or_le a2 v2 with c1 | c1
   ·left;simp;omega
   ·right;rcases Int.lt_or_le (a1 - a2) (v1+v2) with c2 | c2
    ·left;exact ⟨c1,c2⟩
    ·right;exact ⟨c1,c2⟩
  have hsum:v2≤a2→v1+v2≤18446744073709551615:=fun c1=>by
   obtain ⟨r1,r2,r3,r4,r5⟩:=HL.out.room c1
   have:1 * v2≤a1 / a2 * v2:=Int.mul_le_mul_of_nonneg_right r5 (by omega)
   have:=HAI.out
   omega
  have hne:w.heap.size≠w3.heap.size:=by have:=hR3.lt;omega
  have hlt3:=hR3.lt
  rcases hdec with ⟨c1,_⟩ | ⟨c1,c2⟩ | ⟨c1,c2⟩
  ·have g0:=hR.cellAt 0 rfl
   have g1:=hR.cellAt 1 rfl
   have g2:=hR.cellAt 2 rfl
   have g3:=hR.cellAt 3 rfl
   have g4:=hR.cellAt 4 rfl
   have k0:=hR.frozen 0
   have k1:=hR.frozen 1
   have k2:=hR.frozen 2
   have k3:=hR.frozen 3
   have k4:=hR.frozen 4
   go_wp2
   refine ret_cell Tryz.results168 Tryz.underlying180 (by kernel_rfl) rfl (((((hR.set_ 0 _).set_ 1 _).set_ 2 _).set_ 3 _).set_ 4 _) rfl ?_
   exact ⟨u0,u1,v0,v1,ev,rfl,n7,n11,n5,n9,n8,n12,n4,n10,fun h=>HL.out.cof h,((((hbe.setCell (Nat.le_refl _) _).setCell (Nat.le_refl _) _).setCell (Nat.le_refl _) _).setCell (Nat.le_refl _) _).setCell (Nat.le_refl _) _⟩
  ·have hs1:=hsum c1
   have c2':decide (v1+v2≤a1 - a2)=false:=by simp;omega
   have g0:=hR.cellAt 0 rfl
   have g1:=hR.cellAt 1 rfl
   have g2:=hR.cellAt 2 rfl
   have g3:=hR.cellAt 3 rfl
   have g4:=hR.cellAt 4 rfl
   have k0:=hR.frozen 0
   have k1:=hR.frozen 1
   have k2:=hR.frozen 2
   have k3:=hR.frozen 3
   have k4:=hR.frozen 4
   go_wp2
   refine ret_cell Tryz.results168 Tryz.underlying180 (by kernel_rfl) rfl (((((hR.set_ 0 _).set_ 1 _).set_ 2 _).set_ 3 _).set_ 4 _) rfl ?_
   exact ⟨u0,u1,v0,v1,ev,rfl,n7,n11,n5,n9,n8,n12,n4,n10,fun h=>HL.out.cof h,((((hbe.setCell (Nat.le_refl _) _).setCell (Nat.le_refl _) _).setCell (Nat.le_refl _) _).setCell (Nat.le_refl _) _).setCell (Nat.le_refl _) _⟩
  ·have hs1:=hsum c1
   obtain ⟨r1,r2,r3,r4,r5⟩:=HL.out.room c1
   have hNew:=HST.out _ _ _ _ _ _ _ _ _ HL.out c1 c2
   have HN:=Lib.hid hNew
   have m0:=hNew.a2n
   have m1:a1 % a2 < a2:=Int.emod_lt_of_pos _ (by omega)
   have hA:=HAI.out
   have d1:a1 / a2≤a1:=Int.ediv_le_self _ (by omega)
   have q0:¬a2=0:=by omega
   have q2:a1.tmod a2=a1 % a2:=Int.tmod_eq_emod_of_nonneg (by omega)
   have q3:IntKind.u64.wrap (a1 % a2)=a1 % a2:=u64_in _ m0 (by omega)
   rw [← hA] at r1 r2
   clear hNew hA
   go_wp2
   go_quiet (fail)
   clear q0 q2 q3
   go_wp2
   go_roundw
   case rel=>
    refine ⟨a2,a1 % a2,u1,u2,_,v1,v2,_,!ev,rfl,rfl,rfl,rfl,?_,?_,?_,by omega,HN.out⟩
    ·exact ((((((hC.drewN nq).set_ 0 _).set_ 1 _).set_ 2 _).set_ 3 _).set_ 4 _)
    ·exact ((((((hR.drewN nq).far hne _).far hne _).far hne _).far hne _).far hne _)
    ·have hb:=below_drewN hbe nq
     exact ((((hb.setCell (Nat.le_of_lt hlt3) _).setCell (Nat.le_of_lt hlt3) _).setCell (Nat.le_of_lt hlt3) _).setCell (Nat.le_of_lt hlt3) _).setCell (Nat.le_of_lt hlt3) _
   case measure=>simp [intOf];omega
theorem cof_even {X Y u0 u1 v0 v1 R0 R1:Nat} (h:Cof X Y u0 u1 v0 v1 true R0 R1):(u0:Int) * X - (v0:Int) * Y=R0∧(v1:Int) * Y - (u1:Int) * X=R1:=by
 have a:=h.e0
 have b:=h.e1
 simp only [if_true] at a b
 rw [Int.mul_comm (u0:Int),Int.mul_comm (v0:Int),Int.mul_comm (v1:Int),Int.mul_comm (u1:Int),← Int.natCast_mul,← Int.natCast_mul,← Int.natCast_mul,← Int.natCast_mul]
 omega
theorem cof_odd {X Y u0 u1 v0 v1 R0 R1:Nat} (h:Cof X Y u0 u1 v0 v1 false R0 R1):(v0:Int) * Y - (u0:Int) * X=R0∧(u1:Int) * X - (v1:Int) * Y=R1:=by
 have a:=h.e0
 have b:=h.e1
 simp only [Bool.false_eq_true,if_false] at a b
 rw [Int.mul_comm (u0:Int),Int.mul_comm (v0:Int),Int.mul_comm (v1:Int),Int.mul_comm (u1:Int),← Int.natCast_mul,← Int.natCast_mul,← Int.natCast_mul,← Int.natCast_mul]
 omega
theorem combine_mag (v1 v2:Value) (X Y:Nat) (u v:Int) (R:Nat) (w:World) (h1:DigM w v1 (digs X)) (h2:DigM w v2 (digs Y)) (u0:0≤u) (u1:u≤4294967295) (w0:0≤v) (w1:v≤4294967295) (hs:(digs X).length≤549755813888) (hs2:(digs Y).length≤549755813888)
 (hR:u * X - v * Y=(R:Int)) (hlt:R≤X∨R≤Y):
 Calls Tryz.prog 169 #[v1,.int .u64 u,v2,.int .u64 v] w fun e w'=>∃v',e= .returned v'∧DigM w' v' (digs R)∧Below w.heap.size w w':=by
 have hX:=digs_lt_pow X
 have hY:=digs_lt_pow Y
 rcases Nat.lt_or_ge (digs X).length (digs Y).length with h | h
 ·have:=Nat.pow_le_pow_right B32_pos (Nat.le_of_lt h)
  exact combine_lt v1 v2 (digs X) (digs Y) u v R w h1 h2 h u0 u1 w0 w1 hs2 (by rw [val_digs,val_digs];exact hR) (by omega)
 ·have:=Nat.pow_le_pow_right B32_pos h
  exact combine_ge v1 v2 (digs X) (digs Y) u v R w h1 h2 h u0 u1 w0 w1 hs (by rw [val_digs,val_digs];exact hR) (by omega)
def GcdAt (G:Nat) (w:World) (Y:Nat) (v1 v2:Value) (wr:World):Prop:=
 ∃X:Nat,DigM wr v1 (digs X)∧DigM wr v2 (digs Y)∧Y≤X∧Nat.gcd X Y=G∧(digs X).length≤549755813888∧Below w.heap.size w wr
theorem gcdMag_any (v1 v2:Value) (X Y:Nat) (w:World) (h1:DigM w v1 (digs X)) (h2:DigM w v2 (digs Y)) (hs:(digs X).length≤549755813888) (hs2:(digs Y).length≤549755813888):
 Calls Tryz.prog 164 #[v1,v2] w fun e w'=>∃v',e= .returned v'∧DigM w' v' (digs (Nat.gcd X Y))∧Below w.heap.size w w':=by
 generalize hG:Nat.gcd X Y=G
 have HG:=Lib.hid hG
 clear hG
 go_enter Tryz.func164,Tryz.ntmps164
 go_wp2_with fail
 refine (compareMag_any _ _ X Y _ h1 h2).mono ?_
 rintro e w1 ⟨rfl,hbe1⟩
 have g1:=h1.below hbe1
 have g2:=h2.below hbe1
 have start:(Y≤X∧0≤cmpN X Y)∨(X≤Y∧cmpN X Y < 0):=by
  rcases Nat.lt_trichotomy X Y with h | h | h
  ·right;exact ⟨by omega,by rw [cmpN_lt h];decide⟩
  ·left;exact ⟨by omega,by rw [cmpN_eq h];decide⟩
  ·left;exact ⟨by omega,by rw [cmpN_gt h];decide⟩
 generalize cmpN X Y=cc at *
 go_upto_if 15 with (fail)
 go_cut [0,1] (fun s0 s1 wx=>∃n,GcdAt G w n s0 s1 wx)
 case first=>
  rcases start with ⟨hle,hc⟩ | ⟨hle,hc⟩
  ·go_wp2_with fail
   go_meet
   exact ⟨Y,X,g1,g2,hle,HG.out,hs,hbe1⟩
  ·go_wp2_with fail
   go_meet
   exact ⟨X,Y,g2,g1,hle,by rw [Nat.gcd_comm];exact HG.out,hs2,hbe1⟩
 case rest=>
  obtain ⟨n0,hn0⟩:=hcut
  have HN0:=Lib.hid hn0
  clear hn0 h1 h2 g1 g2 start HG hs hs2 hbe1
  go_wp2_with fail
  go_loopg [0,1] n0 (fun k s0 s1 wr=>GcdAt G w k s0 s1 wr)
  case atStart=>exact HN0.out
  case round=>
   obtain ⟨X',hx,hy,hle,hgcd,hlen,hbe⟩:=hrel
   have HGC:=Lib.hid hgcd
   clear hgcd
   obtain ⟨A,l,c,rfl⟩:=hx.shape
   obtain ⟨hl,hl',hnc,hc⟩:=hx.len
   obtain ⟨A2,l2,c2,rfl⟩:=hy.shape
   obtain ⟨kl,kl',knc,kc⟩:=hy.len
   have hll:=digs_len_mono hle
   rcases Nat.lt_or_ge 2 l2 with h2 | h2
   ·go_wp2_with fail
    refine (cofactors_any _ _ X' gk (l - 3) _ hx hy (by omega) hle (by omega)).mono ?_
    rintro e w2 ⟨u0,u1,v0,v1,ev,rfl,a0,a1,b0,b1,c0,c1,d0,d1,hcof,hbe2⟩
    have HCOF:=Lib.hid hcof
    clear hcof
    have hx2:=hx.below hbe2
    have hy2:=hy.below hbe2
    have hlen2:(digs gk).length≤549755813888:=by omega
    have tok:True:=trivial
    by_cases hv0:v0=0
    ·subst hv0
     have hkpos:0 < gk:=by
      rcases Nat.eq_zero_or_pos gk with e | e
      ·subst e;rw [digs_zero] at kl;simp at kl;omega
      ·exact e
     go_wp2_with fail
     refine (divMag_any _ _ X' gk _ (hx2.below ((Below.refl _ _).alloc (Nat.le_refl _) _)) (hy2.below ((Below.refl _ _).alloc (Nat.le_refl _) _)) hkpos hlen hlen2).mono ?_
     rintro e w3 ⟨qv,rv,rfl,hq,hr,hbe3⟩
     have hb3:Below w2.heap.size w2 w3:=((Below.refl _ _).alloc (Nat.le_refl _) _).trans (hbe3.mono (by simp))
     have hb2:=hbe.trans (hbe2.mono hbe.size)
     have hb4:=hb2.trans (hb3.mono hb2.size)
     have hy4:=hy2.below hb3
     clear hbe3
     go_wp2_with fail
     go_roundg (X' % gk)
     case measure=>exact Nat.mod_lt _ hkpos
     case rel=>exact ⟨gk,hy4,hr,Nat.le_of_lt (Nat.mod_lt _ hkpos),by rw [← HGC.out,Nat.gcd_comm X' gk,Nat.gcd_rec gk X',Nat.gcd_comm],hlen2,hb4⟩
    ·have hvb:(v0==0)=false:=by simpa using hv0
     obtain ⟨R0,R1,hC⟩:=HCOF.out hv0
     cases ev with
     | true=>
      have HC:=Lib.hid hC
      obtain ⟨hc1,hc2⟩:=cof_even hC
      simp only [Int.toNat_of_nonneg a0,Int.toNat_of_nonneg b0,Int.toNat_of_nonneg c0,Int.toNat_of_nonneg d0] at hc1 hc2
      have HC1:=Lib.hid hc1
      have HC2:=Lib.hid hc2
      clear hC hc1 hc2 HCOF
      go_wp2_with fail
      have hBk:=Bk.new w2 180 [.int .u64 u0,.int .u64 u1,.int .u64 v0,.int .u64 v1,.bool true]
      have hW:Below w2.heap.size w2 (w2.alloc (.cells #[.int .u64 u0,.int .u64 u1,.int .u64 v0,.int .u64 v1,.bool true] 180)):=(Below.refl _ _).alloc (Nat.le_refl _) _
      have hx3:=hx2.below hW
      have hy3:=hy2.below hW
      have hbe3:=(hbe.trans (hbe2.mono hbe.size)).trans (hW.mono (Nat.le_trans hbe.size hbe2.size))
      have q0:=hBk.cellAt 0 rfl
      have q1:=hBk.cellAt 1 rfl
      have q2:=hBk.cellAt 2 rfl
      have q3:=hBk.cellAt 3 rfl
      generalize w2.heap.size=B2 at *
      simp only [List.toArray] at hBk
      generalize w2.alloc (.cells #[.int .u64 u0,.int .u64 u1,.int .u64 v0,.int .u64 v1,.bool true] 180)=W at *
      clear hW hBk hx2 hy2 hbe2
      go_region_held3 (fun w'=>w'.cell? ⟨B2,0,none⟩=some (.int .u64 u0)∧w'.cell? ⟨B2,1,none⟩=some (.int .u64 u1)∧w'.cell? ⟨B2,2,none⟩=some (.int .u64 v0)∧w'.cell? ⟨B2,3,none⟩=some (.int .u64 v1))
       (first | exact ⟨q0,q1,q2,q3⟩ | exact ⟨cell_later hbe4 q0,cell_later hbe4 q1,cell_later hbe4 q2,cell_later hbe4 q3⟩ | exact ⟨cell_later hbe5 (cell_later hbe4 q0),cell_later hbe5 (cell_later hbe4 q1),cell_later hbe5 (cell_later hbe4 q2),cell_later hbe5 (cell_later hbe4 q3)⟩)
       (first | (go_at_call 169;have _t:=tok;refine (combine_mag _ _ X' gk u0 v0 R0 _ (hx3.keep (Keep.drew _)) (hy3.keep (Keep.drew _)) a0 a1 c0 c1 hlen hlen2 HC1.out (.inr HC.out.le)).mono ?_;clear tok _t;rintro e w4 ⟨v4,rfl,hv4,hbe4⟩) | (go_at_call 169;refine (combine_mag _ _ gk X' v1 u1 R1 _ (hy3.keep ((Keep.drew _).trans (Keep.of_below hbe4))) (hx3.keep ((Keep.drew _).trans (Keep.of_below hbe4))) d0 d1 b0 b1 hlen2 hlen HC2.out (.inl (by have:=HC.out.le;have:=HC.out.lt;omega))).mono ?_;rintro e w5 ⟨v5,rfl,hv5,hbe5⟩))
      go_wp2_with fail
      go_roundg R1
      case measure=>have:=HC.out.le;have:=HC.out.lt;omega
      case rel=>exact ⟨R0,hv4.below hbe5,hv5,Nat.le_of_lt HC.out.lt,by rw [HC.out.gcd];exact HGC.out,Nat.le_trans (digs_len_mono HC.out.le) hlen2,hbe3.trans (((below_drew hbe4).trans (hbe5.mono hbe4.size)).mono hbe3.size)⟩
     | false=>
      have HC:=Lib.hid hC
      obtain ⟨hc1,hc2⟩:=cof_odd hC
      simp only [Int.toNat_of_nonneg a0,Int.toNat_of_nonneg b0,Int.toNat_of_nonneg c0,Int.toNat_of_nonneg d0] at hc1 hc2
      have HC1:=Lib.hid hc1
      have HC2:=Lib.hid hc2
      clear hC hc1 hc2 HCOF
      go_wp2_with fail
      have hBk:=Bk.new w2 180 [.int .u64 u0,.int .u64 u1,.int .u64 v0,.int .u64 v1,.bool false]
      have hW:Below w2.heap.size w2 (w2.alloc (.cells #[.int .u64 u0,.int .u64 u1,.int .u64 v0,.int .u64 v1,.bool false] 180)):=(Below.refl _ _).alloc (Nat.le_refl _) _
      have hx3:=hx2.below hW
      have hy3:=hy2.below hW
      have hbe3:=(hbe.trans (hbe2.mono hbe.size)).trans (hW.mono (Nat.le_trans hbe.size hbe2.size))
      have q0:=hBk.cellAt 0 rfl
      have q1:=hBk.cellAt 1 rfl
      have q2:=hBk.cellAt 2 rfl
      have q3:=hBk.cellAt 3 rfl
      generalize w2.heap.size=B2 at *
      simp only [List.toArray] at hBk
      generalize w2.alloc (.cells #[.int .u64 u0,.int .u64 u1,.int .u64 v0,.int .u64 v1,.bool false] 180)=W at *
      clear hW hBk hx2 hy2 hbe2
      go_region_held3 (fun w'=>w'.cell? ⟨B2,0,none⟩=some (.int .u64 u0)∧w'.cell? ⟨B2,1,none⟩=some (.int .u64 u1)∧w'.cell? ⟨B2,2,none⟩=some (.int .u64 v0)∧w'.cell? ⟨B2,3,none⟩=some (.int .u64 v1))
       (first | exact ⟨q0,q1,q2,q3⟩ | exact ⟨cell_later hbe4 q0,cell_later hbe4 q1,cell_later hbe4 q2,cell_later hbe4 q3⟩ | exact ⟨cell_later hbe5 (cell_later hbe4 q0),cell_later hbe5 (cell_later hbe4 q1),cell_later hbe5 (cell_later hbe4 q2),cell_later hbe5 (cell_later hbe4 q3)⟩)
       (first | (go_at_call 169;have _t:=tok;refine (combine_mag _ _ gk X' v0 u0 R0 _ (hy3.keep (Keep.drew _)) (hx3.keep (Keep.drew _)) c0 c1 a0 a1 hlen2 hlen HC1.out (.inl HC.out.le)).mono ?_;clear tok _t;rintro e w4 ⟨v4,rfl,hv4,hbe4⟩) | (go_at_call 169;refine (combine_mag _ _ X' gk u1 v1 R1 _ (hx3.keep ((Keep.drew _).trans (Keep.of_below hbe4))) (hy3.keep ((Keep.drew _).trans (Keep.of_below hbe4))) b0 b1 d0 d1 hlen hlen2 HC2.out (.inr (by have:=HC.out.le;have:=HC.out.lt;omega))).mono ?_;rintro e w5 ⟨v5,rfl,hv5,hbe5⟩))
      go_wp2_with fail
      go_roundg R1
      case measure=>have:=HC.out.le;have:=HC.out.lt;omega
      case rel=>exact ⟨R0,hv4.below hbe5,hv5,Nat.le_of_lt HC.out.lt,by rw [HC.out.gcd];exact HGC.out,Nat.le_trans (digs_len_mono HC.out.le) hlen2,hbe3.trans (((below_drew hbe4).trans (hbe5.mono hbe4.size)).mono hbe3.size)⟩
   ·rcases Nat.eq_zero_or_pos l2 with h0 | h0
    ·obtain rfl:l2=0:=h0
     have hk0:gk=0:=digs_eq_nil.1 (List.length_eq_zero_iff.1 (by omega))
     go_wp2_with fail
     refine (clone_any _ (digs X') _ hx (by omega)).mono ?_
     rintro e w2 ⟨v',rfl,hown,hbe2⟩
     go_wp2
     go_ret
     refine ⟨_,rfl,?_,hbe.trans (hbe2.mono hbe.size)⟩
     rw [← HGC.out,hk0,Nat.gcd_zero_right]
     exact own_dig hown (okD_digs X')
    ·have t1:((l2:Int)==0)=false:=by simp;omega
     have hkpos:0 < gk:=by
      rcases Nat.eq_zero_or_pos gk with e | e
      ·subst e;rw [digs_zero] at kl;simp at kl;omega
      ·exact e
     have hk2:gk < B32 * B32:=digs_len2 (by omega)
     rcases Nat.lt_or_ge 2 l with hl2 | hl2
     ·go_wp2_with fail
      refine (divMag_any _ _ X' gk _ hx hy hkpos hlen (by omega)).mono ?_
      rintro e w3 ⟨qv,rv,rfl,hq,hr,hbe3⟩
      have hy3:=hy.below hbe3
      have hm2:X' % gk < B32 * B32:=by have:=Nat.mod_lt X' hkpos;omega
      go_wp2_with fail
      refine (toWord_any _ gk _ hy3 hk2).mono ?_
      rintro e w4 ⟨rfl,hbe4⟩
      obtain ⟨za,hza⟩:∃za:Int,za=(gk:Int):=⟨_,rfl⟩
      have za0:0≤za:=by omega
      have za1:za≤18446744073709551615:=by unfold B32 at hk2;omega
      rw [← hza]
      have HZA:=Lib.hid hza
      clear hza
      go_wp2_with fail
      refine (toWord_any _ (X' % gk) _ (hr.below hbe4) hm2).mono ?_
      rintro e w5 ⟨rfl,hbe5⟩
      obtain ⟨zb,hzb⟩:∃zb:Int,zb=((X' % gk:Nat):Int):=⟨_,rfl⟩
      have zb0:0≤zb:=by omega
      have zb1:zb≤18446744073709551615:=by unfold B32 at hm2;omega
      rw [← hzb]
      have HZB:=Lib.hid hzb
      clear hzb
      go_wp2_with fail
      refine (gcdWord_any za zb _ za0 za1 zb0 zb1).mono ?_
      rintro e w6 ⟨rfl,hbe6⟩
      obtain ⟨zg,hzg⟩:∃zg:Int,zg=((Nat.gcd za.toNat zb.toNat:Nat):Int):=⟨_,rfl⟩
      have hzv:zg=(G:Int):=by rw [hzg,HZA.out,HZB.out,Int.toNat_natCast,Int.toNat_natCast,← HGC.out,Nat.gcd_comm X' gk,Nat.gcd_rec gk X',Nat.gcd_comm]
      have zg0:0≤zg:=by omega
      have zg1:zg≤18446744073709551615:=by
       have:Nat.gcd X' gk≤gk:=Nat.gcd_le_right _ hkpos
       have:=HGC.out
       have:=HZA.out
       omega
      rw [← hzg]
      have HZV:=Lib.hid hzv
      clear hzg hzv
      go_wp2_with fail
      refine (fromWord_any zg _ zg0 zg1).mono ?_
      rintro e w7 ⟨v7,rfl,hv7,hbe7⟩
      go_wp2
      go_ret
      refine ⟨_,rfl,by rwa [HZV.out,Int.toNat_natCast] at hv7,?_⟩
      have b3:=hbe.trans (hbe3.mono hbe.size)
      have b4:=b3.trans (hbe4.mono b3.size)
      have b5:=b4.trans (hbe5.mono b4.size)
      have b6:=b5.trans (hbe6.mono b5.size)
      exact b6.trans (hbe7.mono b6.size)
     ·have hx2':X' < B32 * B32:=digs_len2 (by omega)
      go_wp2_with fail
      refine (toWord_any _ X' _ hx hx2').mono ?_
      rintro e w4 ⟨rfl,hbe4⟩
      obtain ⟨za,hza⟩:∃za:Int,za=(X':Int):=⟨_,rfl⟩
      have za0:0≤za:=by omega
      have za1:za≤18446744073709551615:=by unfold B32 at hx2';omega
      rw [← hza]
      have HZA:=Lib.hid hza
      clear hza
      go_wp2_with fail
      refine (toWord_any _ gk _ (hy.below hbe4) hk2).mono ?_
      rintro e w5 ⟨rfl,hbe5⟩
      obtain ⟨zb,hzb⟩:∃zb:Int,zb=(gk:Int):=⟨_,rfl⟩
      have zb0:0≤zb:=by omega
      have zb1:zb≤18446744073709551615:=by unfold B32 at hk2;omega
      rw [← hzb]
      have HZB:=Lib.hid hzb
      clear hzb
      go_wp2_with fail
      refine (gcdWord_any za zb _ za0 za1 zb0 zb1).mono ?_
      rintro e w6 ⟨rfl,hbe6⟩
      obtain ⟨zg,hzg⟩:∃zg:Int,zg=((Nat.gcd za.toNat zb.toNat:Nat):Int):=⟨_,rfl⟩
      have hzv:zg=(G:Int):=by rw [hzg,HZA.out,HZB.out,Int.toNat_natCast,Int.toNat_natCast,← HGC.out]
      have zg0:0≤zg:=by omega
      have zg1:zg≤18446744073709551615:=by
       have:Nat.gcd X' gk≤gk:=Nat.gcd_le_right _ hkpos
       have:=HGC.out
       have:=HZB.out
       omega
      rw [← hzg]
      have HZV:=Lib.hid hzv
      clear hzg hzv
      go_wp2_with fail
      refine (fromWord_any zg _ zg0 zg1).mono ?_
      rintro e w7 ⟨v7,rfl,hv7,hbe7⟩
      go_wp2
      go_ret
      refine ⟨_,rfl,by rwa [HZV.out,Int.toNat_natCast] at hv7,?_⟩
      have b4:=hbe.trans (hbe4.mono hbe.size)
      have b5:=b4.trans (hbe5.mono b4.size)
      have b6:=b5.trans (hbe6.mono b5.size)
      exact b6.trans (hbe7.mono b6.size)
theorem ret_cct {P:Program} {fn:Func} {R:Ending→World→Prop} {a:Act} {w:World} {p q u:Tmp} {ty ty':TypeId} {g g':Nat} {t t':TypeId} {cs cs':List Value} {fs fs':Array Field} (hres:fn.results=#[.cell p ty,.cell q ty',.tmp u]) (hu:P.underlying ty=some (.struct fs)) (hu':P.underlying ty'=some (.struct fs')) (hi:(P.info? ty).map (·.size)=some cs.length) (hi':(P.info? ty').map (·.size)=some cs'.length)
 (hp:a.tmps.getD p undef= .pointer (some ⟨g,0,none⟩)) (hq:a.tmps.getD q undef= .pointer (some ⟨g',0,none⟩)) (hB:Bk w g t cs) (hB':Bk w g' t' cs') (hd:a.defers=[]) (hR:R (.returned (.tuple #[.agg cs.toArray,.agg cs'.toArray,a.tmps.getD u undef])) w):bodyPost P fn R .ret a w:=by
 refine bodyPost_ret (v:= .tuple #[.agg cs.toArray,.agg cs'.toArray,a.tmps.getD u undef]) ?_ hd hR
 have hp':a.tmps[p]?.getD undef= .pointer (some ⟨g,0,none⟩):=by simpa using hp
 have hq':a.tmps[q]?.getD undef= .pointer (some ⟨g',0,none⟩):=by simpa using hq
 simp [results,hres,hp',hq',asAddr,Sem.run_bind,Result.andThen,run_loadVar_row w g t ty cs.toArray (0,0) _ hB hu rfl (by simpa using hi),run_loadVar_row w g' t' ty' cs'.toArray (0,0) _ hB' hu' rfl (by simpa using hi')]
theorem ret_cc {P:Program} {fn:Func} {R:Ending→World→Prop} {a:Act} {w:World} {p q:Tmp} {ty ty':TypeId} {g g':Nat} {t t':TypeId} {cs cs':List Value} {fs fs':Array Field} (hres:fn.results=#[.cell p ty,.cell q ty']) (hu:P.underlying ty=some (.struct fs)) (hu':P.underlying ty'=some (.struct fs')) (hi:(P.info? ty).map (·.size)=some cs.length) (hi':(P.info? ty').map (·.size)=some cs'.length)
 (hp:a.tmps.getD p undef= .pointer (some ⟨g,0,none⟩)) (hq:a.tmps.getD q undef= .pointer (some ⟨g',0,none⟩)) (hB:Bk w g t cs) (hB':Bk w g' t' cs') (hd:a.defers=[]) (hR:R (.returned (.tuple #[.agg cs.toArray,.agg cs'.toArray])) w):bodyPost P fn R .ret a w:=by
 refine bodyPost_ret (v:= .tuple #[.agg cs.toArray,.agg cs'.toArray]) ?_ hd hR
 have hp':a.tmps[p]?.getD undef= .pointer (some ⟨g,0,none⟩):=by simpa using hp
 have hq':a.tmps[q]?.getD undef= .pointer (some ⟨g',0,none⟩):=by simpa using hq
 simp [results,hres,hp',hq',asAddr,Sem.run_bind,Result.andThen,run_loadVar_row w g t ty cs.toArray (0,0) _ hB hu rfl (by simpa using hi),run_loadVar_row w g' t' ty' cs'.toArray (0,0) _ hB' hu' rfl (by simpa using hi')]
theorem ret_ct {P:Program} {fn:Func} {R:Ending→World→Prop} {a:Act} {w:World} {p u:Tmp} {ty:TypeId} {g:Nat} {t:TypeId} {cs:List Value} {fs:Array Field} (hres:fn.results=#[.cell p ty,.tmp u]) (hu:P.underlying ty=some (.struct fs)) (hi:(P.info? ty).map (·.size)=some cs.length)
 (hp:a.tmps.getD p undef= .pointer (some ⟨g,0,none⟩)) (hB:Bk w g t cs) (hd:a.defers=[]) (hR:R (.returned (.tuple #[.agg cs.toArray,a.tmps.getD u undef])) w):bodyPost P fn R .ret a w:=by
 refine bodyPost_ret (v:= .tuple #[.agg cs.toArray,a.tmps.getD u undef]) ?_ hd hR
 have hp':a.tmps[p]?.getD undef= .pointer (some ⟨g,0,none⟩):=by simpa using hp
 simp [results,hres,hp',asAddr,Sem.run_bind,Result.andThen,run_loadVar_row w g t ty cs.toArray (0,0) _ hB hu rfl (by simpa using hi)]
namespace Pl
theorem sm_mul (a b:Bool) (X Y:Nat):sm (a !=b) (X * Y)=sm a X * sm b Y:=by cases a <;> cases b <;> simp [sm,Int.neg_mul,Int.mul_neg]
end Pl
theorem mulI_any (v1 v2:Value) (a b:RI) (w:World) (h1:IntM w v1 a) (h2:IntM w v2 b) (hs:(digs (val a.ds)).length+(digs (val b.ds)).length≤1099511627776):
 Calls Tryz.prog 128 #[v1,v2] w fun e w'=>∃v',e= .returned v'∧IntM w' v' (canI (a.z * b.z))∧Below w.heap.size w w':=by
 obtain ⟨A,n,c,rfl,hd⟩:=h1.shape
 obtain ⟨A',n',c',rfl,hd'⟩:=h2.shape
 obtain ⟨neg,ds⟩:=a
 obtain ⟨neg',ds'⟩:=b
 simp only at hd hs hd' ⊢
 obtain ⟨W,hW,hX,hX',hR,hbe⟩:=box2 w (.bool neg) (.slice A n c) (.bool neg') (.slice A' n' c')
 have hdX:=hd.below hbe
 have hdX':=hd'.below hbe
 have tok:True:=trivial
 go_enter Tryz.func128,Tryz.ntmps128
 go_wp2_with fail
 clear hW
 go_region_held3 (fun w'=>(w'.cell? ⟨w.heap.size,0,none⟩=some (.bool neg)∧w'.cell? ⟨w.heap.size,1,none⟩=some (.slice A n c))∧(w'.cell? ⟨w.heap.size+1,0,none⟩=some (.bool neg')∧w'.cell? ⟨w.heap.size+1,1,none⟩=some (.slice A' n' c')))
  (first | exact ⟨hX.pair,hX'.pair⟩ | exact ⟨(hX.drew.later hb2).pair,(hX'.drew.later hb2).pair⟩ | exact ⟨((hX.drew.later hb2).later hb3).pair,((hX'.drew.later hb2).later hb3).pair⟩ | exact ⟨((hX.drew.later hb2).later hb3).two_far (by omega) _ _,((hX'.drew.later hb2).later hb3).two_far (by omega) _ _⟩)
  (first
   | (go_at_call 143;have _t:=tok;refine (trim_any _ ds _ (hdX.keep (Keep.drew _))).mono ?_;clear tok _t;rintro e w1 ⟨v1,rfl,e1,rfl⟩)
   | (go_at_call 143;refine (trim_any _ ds' _ (hdX'.keep (Keep.drew _))).mono ?_;rintro e w1 ⟨v2,rfl,e2,rfl⟩)
   | (go_at_call 150;refine (mulMag_any _ _ (digs (val ds)) (digs (val ds')) _ e1 e2 hs).mono ?_;rw [val_digs,val_digs];rintro e w2 ⟨v3,rfl,h3,hb2⟩)
   | (go_at_call 149;refine (wrap_dig (neg !=neg') _ _ _ h3).mono ?_;rintro e w3 ⟨v4,rfl,h4,hb3⟩;obtain ⟨A3,n3,k3,rfl,_⟩:=h4.shape;obtain ⟨c0,c1,f0,f1⟩:=((hR.drew.later hb2).later hb3).two))
 go_wp2
 refine ret_cell Tryz.results128 Tryz.underlying46 (by kernel_rfl) rfl (((hR.drew.later hb2).later hb3).set2 _ _) rfl ?_
 rw [RI.z_eq,RI.z_eq,← sm_mul]
 exact fin_int ((hR.drew.later hb2).later hb3) h4 (below_then (below_then hbe.drew hb2 hbe.size) hb3 (Nat.le_trans hbe.size hb2.size)) (by omega)
theorem gcdI_any (v1 v2:Value) (a b:RI) (w:World) (h1:IntM w v1 a) (h2:IntM w v2 b) (hs:(digs (val a.ds)).length≤549755813888) (hs2:(digs (val b.ds)).length≤549755813888):
 Calls Tryz.prog 147 #[v1,v2] w fun e w'=>∃v',e= .returned v'∧IntM w' v' (canI (Int.gcd a.z b.z:Nat))∧Below w.heap.size w w':=by
 obtain ⟨A,n,c,rfl,hd⟩:=h1.shape
 obtain ⟨A',n',c',rfl,hd'⟩:=h2.shape
 obtain ⟨neg,ds⟩:=a
 obtain ⟨neg',ds'⟩:=b
 simp only at hd hs hd' hs2 ⊢
 obtain ⟨W,hW,hX,hX',hR,hbe⟩:=box2 w (.bool neg) (.slice A n c) (.bool neg') (.slice A' n' c')
 have hdX:=hd.below hbe
 have hdX':=hd'.below hbe
 have tok:True:=trivial
 go_enter Tryz.func147,Tryz.ntmps147
 go_wp2_with fail
 clear hW
 go_region_held3 (fun w'=>(w'.cell? ⟨w.heap.size,0,none⟩=some (.bool neg)∧w'.cell? ⟨w.heap.size,1,none⟩=some (.slice A n c))∧(w'.cell? ⟨w.heap.size+1,0,none⟩=some (.bool neg')∧w'.cell? ⟨w.heap.size+1,1,none⟩=some (.slice A' n' c')))
  (first | exact ⟨hX.pair,hX'.pair⟩ | exact ⟨(hX.drew.later hb2).pair,(hX'.drew.later hb2).pair⟩ | exact ⟨((hX.drew.later hb2).later hb3).pair,((hX'.drew.later hb2).later hb3).pair⟩ | exact ⟨((hX.drew.later hb2).later hb3).two_far (by omega) _ _,((hX'.drew.later hb2).later hb3).two_far (by omega) _ _⟩)
  (first
   | (go_at_call 143;have _t:=tok;refine (trim_any _ ds _ (hdX.keep (Keep.drew _))).mono ?_;clear tok _t;rintro e w1 ⟨v1,rfl,e1,rfl⟩)
   | (go_at_call 143;refine (trim_any _ ds' _ (hdX'.keep (Keep.drew _))).mono ?_;rintro e w1 ⟨v2,rfl,e2,rfl⟩)
   | (go_at_call 164;refine (gcdMag_any _ _ (val ds) (val ds') _ e1 e2 hs hs2).mono ?_;rintro e w2 ⟨v3,rfl,h3,hb2⟩)
   | (go_at_call 149;refine (wrap_dig false _ _ _ h3).mono ?_;rintro e w3 ⟨v4,rfl,h4,hb3⟩;obtain ⟨A3,n3,k3,rfl,_⟩:=h4.shape;obtain ⟨c0,c1,f0,f1⟩:=((hR.drew.later hb2).later hb3).two))
 go_wp2
 refine ret_cell Tryz.results147 Tryz.underlying46 (by kernel_rfl) rfl (((hR.drew.later hb2).later hb3).set2 _ _) rfl ?_
 rw [Int.gcd,z_natAbs,z_natAbs]
 exact fin_int ((hR.drew.later hb2).later hb3) h4 (below_then (below_then hbe.drew hb2 hbe.size) hb3 (Nat.le_trans hbe.size hb2.size)) (by omega)
end Go.Proofs.YtncmobkhenfhpaaGreat
