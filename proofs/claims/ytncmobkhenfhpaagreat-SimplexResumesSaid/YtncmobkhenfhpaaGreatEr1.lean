/- Contracts and plain facts that the claim is built on, joined out of smaller texts; no condition. -/
import Derived.Test.YtncmobkhenfhpaaGreatB48
import Derived.Test.YtncmobkhenfhpaaGreatSmTJ
set_option linter.unusedVariables false
set_option linter.unusedSimpArgs false
set_option maxRecDepth 100000
set_option maxHeartbeats 40000000
namespace Go.Proofs.YtncmobkhenfhpaaGreat
open Go.RowKit
namespace Pl
end Pl
open Pl
attribute [local go_sem ↓] Go.wp_at_zero Go.wp_at_succ
section
attribute [local irreducible] wpAlone
end
section
open Go.Maps (int_keyed keyOf_int_mk)
end
section
attribute [local irreducible] wpAlone
end
namespace Pl
def Gd (p:LPd) (b:Int) (t:LSt):Prop:=Val p t∧settleQ p t=t∧t.pivots≤b
theorem Gd.start (p:LPd):Gd p 0 (settleQ p (startS p)):=⟨(start_val p).settle,settle_twice,by show (0:Int)≤0;omega⟩
theorem Gd.run {p:LPd} {b:Int} {t:LSt} (h:Gd p b t) (N:Nat):Gd p (b+N) (runL p N t):=⟨runL_val h.1,runL_settled h.2.1,by have:=runL_pivots (n:=N) h.1;have:=h.2.2;omega⟩
theorem Gd.err {p:LPd} {b:Int} {t:LSt} (h:Gd p b t) (hz:lpErr p=0):smErr p t=0:=by rw [smErr_vs hz];exact h.1.vs
theorem Gd.ru {p:LPd} {b:Int} {t:LSt} (h:Gd p b t) (hz:lpErr p=0) (N:Nat):smRun p t N=runL p N t:=by rw [smRun_yes (h.err hz),h.2.1]
theorem Gd.st {p:LPd} {b:Int} {t:LSt} (h:Gd p b t) (hz:lpErr p=0):smSt p t=(statQ p t,statJ p t):=by rw [smSt_yes (h.err hz),h.2.1]
theorem Gd.va {p:LPd} {b:Int} {t:LSt} (h:Gd p b t) (hz:lpErr p=0):smVa p t=canF (objQ p 2 t):=by rw [smVa_yes (h.err hz),h.2.1]
theorem Gd.rg {p:LPd} {b:Int} {t:LSt} (h:Gd p b t) {K:Nat} (F:p.Ft K):t.basis.length≤1099511627776∧∀z∈t.basis,-9223372036854775808≤z∧z≤9223372036854775807:=fit_rg h.1.fit F.2.1 F.1.cols
theorem Gd.pv {p:LPd} {b:Int} {t:LSt} (h:Gd p b t) {N:Nat} (hb:b+N≤9223372036854775807):t.pivots+(N:Int)≤9223372036854775807:=by have:=h.2.2;omega
theorem Gd.step {p:LPd} {b:Int} {t:LSt} (h:Gd p b t) (h2:t.phase=2):objQ p 2 (runL p 1 t)≤objQ p 2 t:=by
 cases e:pivQ p t with
 | none=>rw [runL_stop e];exact Rat.le_refl
 | some u=>rw [runL_step e];exact (pivQ_obj2 h.1 h2 e).1
theorem Gd.phase {p:LPd} {b:Int} {t:LSt} (h:Gd p b t) (N:Nat):t.phase≤(runL p N t).phase:=runL_phase h.1
end Pl
theorem simplexResumes_any (v0:Value) (a1:Int) (a2:Int) (zl0:List Int) (w:World) (h0:IntsM w v0 zl0) (_g1: -9223372036854775808≤a1) (_k1:a1≤9223372036854775807) (_g2: -9223372036854775808≤a2) (_k2:a2≤9223372036854775807):
 Calls Tryz.prog 4 #[v0,.int .i64 a1,.int .i64 a2] w fun e w'=>e= .returned (.bool true)∧Below w.heap.size w w':=by
 obtain ⟨b0,d0,rfl,_,_⟩:=h0.shape
 generalize hn0:zl0.length=m0 at *
 clear hn0
 go_enter Tryz.func4,Tryz.ntmps4
 go_wp2_with fail
 refine (lp_own _ zl0 _ h0).mono ?_
 rintro _ w1 ⟨vp,p,rfl,hp,hok,hrr,hb⟩
 have HOK:=Lib.hid hok
 have HF:=Lib.hid (hok.ft (hrr.mono (by decide)))
 have HZ:=Lib.hid hok.err
 have hlp:=hp.lp
 obtain ⟨A0,n0,c0,A1,n1,c1,A2,m,c2,rfl,_,_,_⟩:=id hlp
 clear hok hrr hp
 obtain ⟨W1,hW1,hB,hn⟩:=box_lp w1 (.slice A0 n0 c0) (.slice A1 n1 c1) (.slice A2 m c2)
 have hc:=below_then hb hn hb.size
 have LP_1:=Lib.hid ((hlp).below hn)
 have X_1:=Lib.hid hB
 have hbw1:=hc
 clear hc hb hn hB
 clear hlp h0
 obtain ⟨cX0,cX1,cX2⟩:=X_1.out.three
 go_wp2_with fail
 clear hW1
 rw [i64_and7,i64_and7]
 obtain ⟨N,hN⟩:∃N:Nat,a1 % 8=N:=⟨(a1 % 8).toNat,by omega⟩
 obtain ⟨M,hM⟩:∃M:Nat,a2 % 8=M:=⟨(a2 % 8).toNat,by omega⟩
 have bN:N < 8:=by omega
 have bM:M < 8:=by omega
 rw [hN,hM]
 clear hN hM
 refine (sstart_own _ p 32 _ LP_1.out HF.out.1.ok (fun _=>HF.out)).mono ?_
 rw [smSta_yes HZ.out,HZ.out]
 have HGs:=Lib.hid (Gd.start p)
 obtain ⟨s,hs⟩:∃s,s=settleQ p (startS p):=⟨_,rfl⟩
 have HDs:=Lib.hid hs
 rw [← hs] at HGs ⊢
 clear hs
 have HRs:=Lib.hid (HGs.out.rg HF.out)
 rintro _ w2 ⟨v2,rfl,⟨A2,n2,c2,rfl,hI⟩,hb⟩
 obtain ⟨W2,hW2,hB,hn⟩:=box_st w2 (.int .i64 s.phase) (.slice A2 n2 c2) (.int .i64 s.pivots)
 have hc:=below_then hb hn hb.size
 have LP_2:=Lib.hid (LP_1.out.below hc)
 have X_2:=Lib.hid (X_1.out.later hc)
 have Ms_2:=Lib.hid (StM.below ((⟨A2,n2,c2,rfl,hI.ints⟩:StM w2 (.agg #[.int .i64 s.phase,.slice A2 n2 c2,.int .i64 s.pivots]) s)) hn)
 have Bs_2:=Lib.hid hB
 have hbw2:=below_then hbw1 hc hbw1.size
 clear cX0 cX1 cX2
 clear LP_1 X_1 hbw1 hc hb hn hB
 clear hI
 obtain ⟨cX0,cX1,cX2⟩:=X_2.out.three
 obtain ⟨cBs0,cBs1,cBs2⟩:=Bs_2.out.three
 go_wp2_with fail
 clear hW2
 refine (srun_own _ _ p s 32 _ LP_2.out Ms_2.out HF.out.1.ok (fun _=>HF.out) HRs.out.1 HRs.out.2 N (by omega) (fun _=>HGs.out.pv (by omega))).mono ?_
 rw [HGs.out.ru HZ.out,HGs.out.err HZ.out]
 have HGt:=Lib.hid (HGs.out.run N)
 obtain ⟨t,ht⟩:∃t,t=runL p N s:=⟨_,rfl⟩
 have HDt:=Lib.hid ht
 rw [← ht] at HGt ⊢
 clear ht
 have HRt:=Lib.hid (HGt.out.rg HF.out)
 rintro _ w3 ⟨v3,rfl,⟨A3,n3,c3,rfl,hI⟩,hb⟩
 obtain ⟨W3,hW3,hB,hn⟩:=box_st w3 (.int .i64 t.phase) (.slice A3 n3 c3) (.int .i64 t.pivots)
 have hc:=below_then hb hn hb.size
 have LP_3:=Lib.hid (LP_2.out.below hc)
 have X_3:=Lib.hid (X_2.out.later hc)
 have Ms_3:=Lib.hid (Ms_2.out.below hc)
 have Bs_3:=Lib.hid (Bs_2.out.later hc)
 have Mt_3:=Lib.hid (StM.below ((⟨A3,n3,c3,rfl,hI.ints⟩:StM w3 (.agg #[.int .i64 t.phase,.slice A3 n3 c3,.int .i64 t.pivots]) t)) hn)
 have Bt_3:=Lib.hid hB
 have hbw3:=below_then hbw2 hc hbw2.size
 clear cX0 cX1 cX2 cBs0 cBs1 cBs2
 clear LP_2 X_2 Ms_2 Bs_2 hbw2 hc hb hn hB
 clear hI
 obtain ⟨cX0,cX1,cX2⟩:=X_3.out.three
 obtain ⟨cBt0,cBt1,cBt2⟩:=Bt_3.out.three
 go_wp2_with fail
 clear hW3
 refine (srun_own _ _ p t 32 _ LP_3.out Mt_3.out HF.out.1.ok (fun _=>HF.out) HRt.out.1 HRt.out.2 M (by omega) (fun _=>HGt.out.pv (by omega))).mono ?_
 rw [HGt.out.ru HZ.out,HGt.out.err HZ.out]
 have HGu:=Lib.hid (HGt.out.run M)
 obtain ⟨u,hu⟩:∃u,u=runL p M t:=⟨_,rfl⟩
 have HDu:=Lib.hid hu
 rw [← hu] at HGu ⊢
 clear hu
 have HRu:=Lib.hid (HGu.out.rg HF.out)
 rintro _ w4 ⟨v4,rfl,⟨A4,n4,c4,rfl,hI⟩,hb⟩
 obtain ⟨W4,hW4,hB,hn⟩:=box_st w4 (.int .i64 u.phase) (.slice A4 n4 c4) (.int .i64 u.pivots)
 have hc:=below_then hb hn hb.size
 have LP_4:=Lib.hid (LP_3.out.below hc)
 have X_4:=Lib.hid (X_3.out.later hc)
 have Ms_4:=Lib.hid (Ms_3.out.below hc)
 have Bs_4:=Lib.hid (Bs_3.out.later hc)
 have Mt_4:=Lib.hid (Mt_3.out.below hc)
 have Bt_4:=Lib.hid (Bt_3.out.later hc)
 have Mu_4:=Lib.hid (StM.below ((⟨A4,n4,c4,rfl,hI.ints⟩:StM w4 (.agg #[.int .i64 u.phase,.slice A4 n4 c4,.int .i64 u.pivots]) u)) hn)
 have Bu_4:=Lib.hid hB
 have hbw4:=below_then hbw3 hc hbw3.size
 clear cX0 cX1 cX2 cBt0 cBt1 cBt2
 clear LP_3 X_3 Ms_3 Bs_3 Mt_3 Bt_3 hbw3 hc hb hn hB
 clear hI
 obtain ⟨cX0,cX1,cX2⟩:=X_4.out.three
 obtain ⟨cBs0,cBs1,cBs2⟩:=Bs_4.out.three
 go_wp2_with fail
 obtain ⟨T,hT⟩:∃T:Nat,(N:Int)+(M:Int)=T:=⟨N+M,by omega⟩
 have eT:T=N+M:=by omega
 rw [hT]
 clear hT
 clear hW4
 refine (srun_own _ _ p s 32 _ LP_4.out Ms_4.out HF.out.1.ok (fun _=>HF.out) HRs.out.1 HRs.out.2 T (by omega) (fun _=>HGs.out.pv (by omega))).mono ?_
 rw [HGs.out.ru HZ.out,HGs.out.err HZ.out]
 have HGv:=Lib.hid (HGs.out.run T)
 obtain ⟨v,hv⟩:∃v,v=runL p T s:=⟨_,rfl⟩
 have HDv:=Lib.hid hv
 rw [← hv] at HGv ⊢
 clear hv
 have HRv:=Lib.hid (HGv.out.rg HF.out)
 rintro _ w5 ⟨v5,rfl,⟨A5,n5,c5,rfl,hI⟩,hb⟩
 obtain ⟨W5,hW5,hB,hn⟩:=box_st w5 (.int .i64 v.phase) (.slice A5 n5 c5) (.int .i64 v.pivots)
 have hc:=below_then hb hn hb.size
 have LP_5:=Lib.hid (LP_4.out.below hc)
 have X_5:=Lib.hid (X_4.out.later hc)
 have Ms_5:=Lib.hid (Ms_4.out.below hc)
 have Bs_5:=Lib.hid (Bs_4.out.later hc)
 have Mt_5:=Lib.hid (Mt_4.out.below hc)
 have Bt_5:=Lib.hid (Bt_4.out.later hc)
 have Mu_5:=Lib.hid (Mu_4.out.below hc)
 have Bu_5:=Lib.hid (Bu_4.out.later hc)
 have Mv_5:=Lib.hid (StM.below ((⟨A5,n5,c5,rfl,hI.ints⟩:StM w5 (.agg #[.int .i64 v.phase,.slice A5 n5 c5,.int .i64 v.pivots]) v)) hn)
 have Bv_5:=Lib.hid hB
 have hbw5:=below_then hbw4 hc hbw4.size
 clear cX0 cX1 cX2 cBs0 cBs1 cBs2
 clear LP_4 X_4 Ms_4 Bs_4 Mt_4 Bt_4 Mu_4 Bu_4 hbw4 hc hb hn hB
 clear hI
 obtain rfl:u=v:=by rw [HDu.out,HDv.out,HDt.out,eT,runL_add]
 obtain ⟨cBu0,cBu1,cBu2⟩:=Bu_5.out.three
 obtain ⟨cBv0,cBv1,cBv2⟩:=Bv_5.out.three
 go_wp2_with fail
 clear hW5
 refine (samestate_any _ _ u _ Mu_5.out Mv_5.out HRu.out.1).mono ?_
 rintro _ w6 ⟨rfl,hb⟩
 have hc:=hb
 have LP_6:=Lib.hid (LP_5.out.below hc)
 have X_6:=Lib.hid (X_5.out.later hc)
 have Ms_6:=Lib.hid (Ms_5.out.below hc)
 have Bs_6:=Lib.hid (Bs_5.out.later hc)
 have Mt_6:=Lib.hid (Mt_5.out.below hc)
 have Bt_6:=Lib.hid (Bt_5.out.later hc)
 have Mu_6:=Lib.hid (Mu_5.out.below hc)
 have Bu_6:=Lib.hid (Bu_5.out.later hc)
 have Mv_6:=Lib.hid (Mv_5.out.below hc)
 have Bv_6:=Lib.hid (Bv_5.out.later hc)
 have hbw6:=below_then hbw5 hc hbw5.size
 clear cBu0 cBu1 cBu2 cBv0 cBv1 cBv2
 clear LP_5 X_5 Ms_5 Bs_5 Mt_5 Bt_5 Mu_5 Bu_5 Mv_5 Bv_5 hbw5 hc hb
 go_wp2_with fail
 refine (known_own _).mono ?_
 rintro _ w7 ⟨rfl,hb⟩
 have hc:=hb
 have LP_7:=Lib.hid (LP_6.out.below hc)
 have X_7:=Lib.hid (X_6.out.later hc)
 have Ms_7:=Lib.hid (Ms_6.out.below hc)
 have Bs_7:=Lib.hid (Bs_6.out.later hc)
 have Mt_7:=Lib.hid (Mt_6.out.below hc)
 have Bt_7:=Lib.hid (Bt_6.out.later hc)
 have Mu_7:=Lib.hid (Mu_6.out.below hc)
 have Bu_7:=Lib.hid (Bu_6.out.later hc)
 have Mv_7:=Lib.hid (Mv_6.out.below hc)
 have Bv_7:=Lib.hid (Bv_6.out.later hc)
 have hbw7:=below_then hbw6 hc hbw6.size
 clear LP_6 X_6 Ms_6 Bs_6 Mt_6 Bt_6 Mu_6 Bu_6 Mv_6 Bv_6 hbw6 hc hb
 go_wp2
 go_ret
 exact ⟨rfl,hbw7⟩
end Go.Proofs.YtncmobkhenfhpaaGreat
