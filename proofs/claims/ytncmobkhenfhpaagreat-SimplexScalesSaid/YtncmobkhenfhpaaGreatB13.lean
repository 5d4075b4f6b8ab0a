/- Contracts and plain facts that the claim is built on, joined out of smaller texts; no condition. -/
import Derived.Test.YtncmobkhenfhpaaGreatB10
set_option linter.unusedVariables false
set_option linter.unusedSimpArgs false
set_option maxRecDepth 100000
set_option maxHeartbeats 40000000
namespace Go.Proofs.YtncmobkhenfhpaaGreat
open Go.RowKit
open Pl
attribute [local go_sem ↓] Go.wp_at_zero Go.wp_at_succ
theorem boxR (w:World) (x y x' y':Value):∃W,((w.alloc (.cells #[x,y] 46)).alloc (.cells #[x',y'] 46)).alloc (.cells #[.bool false,.slice none 0 0,.bool false,.slice none 0 0] 48)=W∧Bk W w.heap.size 46 [x,y]∧Bk W (w.heap.size+1) 46 [x',y']∧Bk W (w.heap.size+1+1) 48 [.bool false,.slice none 0 0,.bool false,.slice none 0 0]∧Below w.heap.size w W:=by
 refine ⟨_,rfl,((Bk.new w _ [x,y]).alloc _).alloc _,?_,?_,((below_new w _).alloc (by simp) _).alloc (by simp;omega) _⟩
 ·have:=Bk.new (w.alloc (.cells #[x,y] 46)) 46 [x',y']
  rw [size_alloc] at this
  exact this.alloc _
 ·have:=Bk.new ((w.alloc (.cells #[x,y] 46)).alloc (.cells #[x',y'] 46)) 48 [.bool false,.slice none 0 0,.bool false,.slice none 0 0]
  rwa [size_alloc,size_alloc] at this
def RedAt (a b:RI) (w:World) (x y:RI) (wx:World) (B B':Option Addr) (m d m' d':Nat):Prop:=
 Bk wx w.heap.size 46 [.bool x.neg,.slice B m d]∧Bk wx (w.heap.size+1) 46 [.bool y.neg,.slice B' m' d']∧Bk wx (w.heap.size+1+1) 48 [.bool false,.slice none 0 0,.bool false,.slice none 0 0]∧Below w.heap.size w wx∧
 IntM wx (.agg #[.bool x.neg,.slice B m d]) x∧IntM wx (.agg #[.bool y.neg,.slice B' m' d']) y∧0 < y.z∧Rat.divInt x.z y.z=Rat.divInt a.z b.z∧(digs (val x.ds)).length≤549755813888∧(digs (val y.ds)).length≤549755813888
theorem reduce_any (v1 v2:Value) (a b:RI) (w:World) (h1:IntM w v1 a) (h2:IntM w v2 b) (hs:(digs (val a.ds)).length≤549755813888) (hs2:(digs (val b.ds)).length≤549755813888) (hb:b.z≠0):
 Calls Tryz.prog 127 #[v1,v2] w fun e w'=>∃v',e= .returned v'∧FracM w' v' (canF (Rat.divInt a.z b.z))∧Below w.heap.size w w':=by
 obtain ⟨A,n,c,rfl,hd⟩:=h1.shape
 obtain ⟨A',n',c',rfl,hd'⟩:=h2.shape
 obtain ⟨W,hW,hX,hX',hR,hbe⟩:=boxR w (.bool a.neg) (.slice A n c) (.bool b.neg) (.slice A' n' c')
 have e1:=h1.below hbe
 have e2:=h2.below hbe
 have HB:=Lib.hid hb
 clear hb hd hd' h1 h2
 obtain ⟨x0,x1,_,_⟩:=hX.two
 go_enter Tryz.func127,Tryz.ntmps127
 go_wp2_with fail
 clear hW
 refine (sign_any _ a _ e1).mono ?_
 rintro e w1 ⟨rfl,hb1⟩
 have hX1:=hX.later hb1
 have hX1':=hX'.later hb1
 have hR1:=hR.later hb1
 have hbe1:=below_then hbe hb1 hbe.size
 have e11:=e1.below hb1
 have e21:=e2.below hb1
 clear hX hX' hR hbe e1 e2 hb1 x0 x1
 by_cases ha:a.z=0
 ·rw [ha,sgn_zero]
  have HA:=Lib.hid ha
  clear ha
  go_wp2_with fail
  refine (fromWords_any 0 1 _ (by omega) (by omega) (by omega) (by omega)).mono ?_
  rw [show Rat.divInt 0 1=Rat.divInt a.z b.z from by rw [HA.out,Rat.zero_divInt,Rat.zero_divInt]]
  rintro e w2 ⟨v2,rfl,e3,hb2⟩
  have hR2:=hR1.later hb2
  obtain ⟨B,m,d,B',m',d',rfl,_,_⟩:=id e3
  obtain ⟨c0,c1,c2,c3⟩:=hR2.four
  obtain ⟨f0,f1,f2,f3⟩:=hR2.fourF
  go_wp2
  refine ret_cell Tryz.results127 Tryz.underlying48 (by kernel_rfl) rfl (hR2.set4 _ _ _ _) rfl ?_
  exact fin_frac hR2 e3 (below_then hbe1 hb2 hbe1.size) (by omega)
 ·have hsg:(sgn a.z==0)=false:=by unfold sgn;split;rfl;rfl
  have HA:=Lib.hid ha
  clear ha
  obtain ⟨y0,y1,_,_⟩:=hX1'.two
  go_wp2_with fail
  refine (sign_any _ b _ e21).mono ?_
  rintro e w2 ⟨rfl,hb2⟩
  have hX2:=hX1.later hb2
  have hX2':=hX1'.later hb2
  have hR2:=hR1.later hb2
  have hbe2:=below_then hbe1 hb2 hbe1.size
  have e12:=e11.below hb2
  have e22:=e21.below hb2
  clear hX1 hX1' hR1 hbe1 e11 e21 hb2 y0 y1 hsg
  have tok:True:=trivial
  go_upto_if 18 with (fail)
  go_cut [2,3] (fun s2 s3 wx=>s2= .pointer (some ⟨w.heap.size,0,none⟩)∧s3= .pointer (some ⟨w.heap.size+1,0,none⟩)∧∃(x y:RI) (B B':Option Addr) (m d m' d':Nat),RedAt a b w x y wx B B' m d m' d')
  case first=>
   rcases Int.lt_or_le b.z 0 with hz | hz
   ·have HN:=Lib.hid hz
    have hsg:sgn b.z= -1:=sgn_neg hz
    have hn1:w.heap.size≠w.heap.size+1:=by omega
    have hn2:w.heap.size+1+1≠w.heap.size:=by omega
    have hn3:w.heap.size+1+1≠w.heap.size+1:=by omega
    clear hz
    obtain ⟨x0,x1,f0,f1⟩:=hX2.two
    obtain ⟨y0,y1,k0,k1⟩:=hX2'.two
    go_wp2_with fail
    clear hsg
    go_region_with (first
     | (go_at_call 146;have _t:=tok;refine (negate_any _ a _ (e12.keep (Keep.drew _)) hs).mono ?_;clear tok _t;rintro e w6 ⟨v6,rfl,e6,hb6⟩;obtain ⟨A6,n6,k6,rfl,_⟩:=e6.shape;obtain ⟨y0',y1',_,_⟩:=(hX2'.drew.later hb6).two)
     | (go_at_call 146;refine (negate_any _ b _ ((e22.keep (Keep.drew _)).below hb6) hs2).mono ?_;rintro e w7 ⟨v7,rfl,e7,hb7⟩;obtain ⟨A7,n7,k7,rfl,_⟩:=e7.shape;obtain ⟨c0,c1,r0,r1⟩:=((hX2.drew.later hb6).later hb7).two;obtain ⟨c0',c1',r0',r1'⟩:=((hX2'.drew.later hb6).later hb7).two))
    all_goals
     go_wp2_with fail
     go_meet
     obtain ⟨a1,a2,a3,a4,a5⟩:=fin_div ((hX2.drew.later hb6).later hb7) ((hX2'.drew.later hb6).later hb7) hn1 (e6.below hb7) e7 (below_then (below_then hbe2.drew hb6 hbe2.size) hb7 (Nat.le_trans hbe2.size hb6.size)) (by omega) (by omega)
     refine ⟨rfl,rfl,_,_,A6,A7,n6,k6,n7,k7,a1,a2,((((hR2.drew.later hb6).later hb7).far2 hn2 _ _).far2 hn3 _ _),a5,a3,a4,?_,?_,?_,?_⟩
     ·rw [canI_z];have:=HN.out;omega
     ·rw [canI_z,canI_z,Rat.neg_divInt_neg]
     ·simp only [canI,val_digs,Int.natAbs_neg,z_natAbs];exact hs
     ·simp only [canI,val_digs,Int.natAbs_neg,z_natAbs];exact hs2
   ·have hz':0 < b.z:=by have:=HB.out;omega
    have hsg:sgn b.z=1:=sgn_pos hz'
    have HZ:=Lib.hid hz'
    clear hz hz'
    go_wp2_with fail
    go_meet
    exact ⟨rfl,rfl,a,b,A,A',n,c,n',c',hX2,hX2',hR2,hbe2,e12,e22,HZ.out,rfl,hs,hs2⟩
  case rest=>
   obtain ⟨rfl,rfl,x,y,B,B',m,d,m',d',hX3,hX3',hR3,hbe3,e13,e23,hy,hxy,hl1,hl2⟩:=hcut
   have HZ:=Lib.hid hy
   have HXY:=Lib.hid hxy
   clear hy hxy hX2 hX2' hR2 hbe2 e12 e22 hs hs2 tok
   obtain ⟨x0,x1,_,_⟩:=hX3.two
   obtain ⟨y0,y1,_,_⟩:=hX3'.two
   go_wp2_with fail
   refine (gcdI_any _ _ x y _ e13 e23 hl1 hl2).mono ?_
   rintro e w6 ⟨v6,rfl,e6,hb6⟩
   obtain ⟨A6,n6,k6,rfl,_⟩:=e6.shape
   have bX:=hX3.later hb6
   have bY:=hX3'.later hb6
   have bR:=hR3.later hb6
   have be6:=below_then hbe3 hb6 hbe3.size
   have i1:=e13.below hb6
   have i2:=e23.below hb6
   clear hX3 hX3' hR3 hbe3 e13 e23 hb6 x0 x1 y0 y1
   have gz:(canI (Int.gcd (RI.z x) (RI.z y):Nat)).z=(Int.gcd (RI.z x) (RI.z y):Nat):=canI_z _
   have gs:(digs (val (canI (Int.gcd (RI.z x) (RI.z y):Nat)).ds)).length≤549755813888:=by
    rw [show val (canI (Int.gcd (RI.z x) (RI.z y):Nat)).ds=Int.gcd (RI.z x) (RI.z y) from by simp [canI,val_digs]]
    refine Nat.le_trans (digs_len_mono (Nat.le_of_dvd ?_ (show Int.gcd (RI.z x) (RI.z y)∣val (RI.ds y) from by rw [← z_natAbs];exact Int.gcd_dvd_natAbs_right ..))) hl2
    have:=HZ.out
    have:=z_natAbs y
    omega
   generalize canI (Int.gcd (RI.z x) (RI.z y):Nat)=G at *
   have GZ:=Lib.hid gz
   clear gz
   have bG:=Bk.new w6 46 [.bool G.neg,.slice A6 n6 k6]
   have bn:=below_new w6 (.cells [.bool G.neg,.slice A6 n6 k6].toArray 46)
   have cX:=bX.later bn
   have cY:=bY.later bn
   have cR:=bR.later bn
   have be7:=below_then be6 bn be6.size
   have j1:=i1.below bn
   have j2:=i2.below bn
   have j3:=e6.below bn
   obtain ⟨x0,x1,_,_⟩:=cX.two
   obtain ⟨y0,y1,_,_⟩:=cY.two
   obtain ⟨g0,g1,_,_⟩:=bG.two
   clear bX bY bR be6 i1 i2 e6 bn
   go_wp2_with fail
   generalize w6.alloc _=W7 at *
   refine (divModI_any _ _ x G _ j1 j3 hl1 gs).mono ?_
   have hG0:G.z≠0:=by
    rw [GZ.out]
    have:=Int.gcd_pos_of_ne_zero_right (RI.z x) (show RI.z y≠0 by have:=HZ.out;omega)
    omega
   rintro e w8 ⟨q,r,rfl,dq,dr,hb8⟩
   rw [if_neg hG0] at dq dr ⊢
   obtain ⟨A8,n8,k8,rfl,_⟩:=dq.shape
   obtain ⟨A9,n9,k9,rfl,_⟩:=dr.shape
   have bX:=cX.later hb8
   have bY:=cY.later hb8
   have bR:=cR.later hb8
   have bG8:=bG.later hb8
   have be8:=below_then be7 hb8 be7.size
   have i2:=j2.below hb8
   have i3:=j3.below hb8
   clear cX cY cR be7 j1 j2 j3 bG hb8 x0 x1 y0 y1 g0 g1
   have HG0:=Lib.hid hG0
   clear hG0
   have hq:canI ((RI.z x).fdiv G.z)=canI ((RI.z x) / G.z):=by rw [Int.fdiv_eq_ediv_of_nonneg _ (by rw [GZ.out];omega)]
   rw [hq] at dq ⊢
   clear hq
   generalize canI ((RI.z x).fmod G.z)=R1 at *
   generalize hQ1:canI ((RI.z x) / G.z)=Q1 at *
   have HQ1:=Lib.hid hQ1
   clear hQ1
   have bQ:=(Bk.new w8 46 [.bool Q1.neg,.slice A8 n8 k8]).alloc (.cells #[.bool R1.neg,.slice A9 n9 k9] 46)
   have bn:=(below_new w8 (.cells [.bool Q1.neg,.slice A8 n8 k8].toArray 46)).alloc (by simp) (.cells #[.bool R1.neg,.slice A9 n9 k9] 46)
   have cX:=bX.later bn
   have cY:=bY.later bn
   have cR:=bR.later bn
   have cG:=bG8.later bn
   have be9:=below_then be8 bn be8.size
   have j2:=i2.below bn
   have j3:=i3.below bn
   have j4:=dq.below bn
   obtain ⟨y0,y1,_,_⟩:=cY.two
   obtain ⟨g0,g1,_,_⟩:=cG.two
   obtain ⟨q0,q1,_,_⟩:=bQ.two
   clear bX bY bR bG8 be8 i2 i3 dq dr bn
   go_wp2_with fail
   generalize (w8.alloc _).alloc _=W9 at *
   refine (divModI_any _ _ y G _ j2 j3 hl2 gs).mono ?_
   rintro e w10 ⟨q',r',rfl,dq,dr,hb10⟩
   rw [if_neg HG0.out] at dq dr ⊢
   obtain ⟨A10,n10,k10,rfl,_⟩:=dq.shape
   obtain ⟨A11,n11,k11,rfl,_⟩:=dr.shape
   have bR:=cR.later hb10
   have bQ10:=bQ.later hb10
   have be10:=below_then be9 hb10 be9.size
   have i4:=j4.below hb10
   clear cX cY cR cG be9 j2 j3 j4 bQ hb10 y0 y1 g0 g1 q0 q1
   have hq:canI ((RI.z y).fdiv G.z)=canI ((RI.z y) / G.z):=by rw [Int.fdiv_eq_ediv_of_nonneg _ (by rw [GZ.out];omega)]
   rw [hq] at dq ⊢
   clear hq
   generalize canI ((RI.z y).fmod G.z)=R2 at *
   generalize hQ2:canI ((RI.z y) / G.z)=Q2 at *
   have HQ2:=Lib.hid hQ2
   clear hQ2
   have bD:=(Bk.new w10 46 [.bool Q2.neg,.slice A10 n10 k10]).alloc (.cells #[.bool R2.neg,.slice A11 n11 k11] 46)
   have bn:=(below_new w10 (.cells [.bool Q2.neg,.slice A10 n10 k10].toArray 46)).alloc (by simp) (.cells #[.bool R2.neg,.slice A11 n11 k11] 46)
   have cR:=bR.later bn
   have cQ:=bQ10.later bn
   have be11:=below_then be10 bn be10.size
   have j4:=i4.below bn
   have j5:=dq.below bn
   obtain ⟨q0,q1,_,_⟩:=cQ.two
   obtain ⟨d0,d1,_,_⟩:=bD.two
   obtain ⟨c0,c1,c2,c3⟩:=cR.four
   obtain ⟨f0,f1,f2,f3⟩:=cR.fourF
   clear bR bQ10 be10 i4 dq dr bn
   generalize hW11:(w10.alloc _).alloc _=W11 at *
   go_wp2
   refine ret_cell Tryz.results127 Tryz.underlying48 (by kernel_rfl) rfl (cR.set4 _ _ _ _) rfl ?_
   rw [← HXY.out,canF_words HZ.out,Int.gcd_comm,← GZ.out,HQ1.out,HQ2.out]
   exact fin_frac cR (FracM.mk j4 j5) be11 (by omega)
end Go.Proofs.YtncmobkhenfhpaaGreat
