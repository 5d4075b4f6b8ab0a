/- Contracts and plain facts that the claim is built on, joined out of smaller texts; no condition. -/
import Derived.Test.YtncmobkhenfhpaaGreatB48
import Derived.Test.YtncmobkhenfhpaaGreatSmTJ
set_option linter.unusedVariables false
set_option linter.unusedSimpArgs false
set_option maxRecDepth 100000
set_option maxHeartbeats 40000000
namespace Go.Proofs.YtncmobkhenfhpaaGreat
open Go.RowKit
namespace Pl
end Pl
open Pl
attribute [local go_sem ↓] Go.wp_at_zero Go.wp_at_succ
section
attribute [local irreducible] wpAlone
end
section
open Go.Maps (int_keyed keyOf_int_mk)
end
section
attribute [local irreducible] wpAlone
end
theorem simplexEnds_any (v1:Value) (n:Int) (zl:List Int) (w:World) (h1:IntsM w v1 zl) (_g0: -9223372036854775808≤n) (_g1:n≤9223372036854775807):
 Calls Tryz.prog 5 #[v1,.int .i64 n] w fun e w'=>e= .returned (.bool true)∧Below w.heap.size w w':=by
 obtain ⟨a,cap,rfl,_,_⟩:=h1.shape
 generalize hn:zl.length=nl at *
 clear hn
 go_enter Tryz.func5,Tryz.ntmps5
 go_wp2_with fail
 refine (lp_own _ zl _ h1).mono ?_
 rintro _ w1 ⟨vp,p,rfl,hp,hok,hrr,hb1⟩
 have HOK:=Lib.hid hok
 have HF:=Lib.hid (hok.ft (hrr.mono (by decide)))
 have hlp:=hp.lp
 obtain ⟨A0,n0,c0,A1,n1,c1,A2,m,c2,rfl,_,_,_⟩:=id hlp
 obtain ⟨W2,hW2,hX,hbn⟩:=box_lp w1 (.slice A0 n0 c0) (.slice A1 n1 c1) (.slice A2 m c2)
 have hb2:=below_then hb1 hbn hb1.size
 have hlp2:=hlp.below hbn
 obtain ⟨x0,x1,x2⟩:=hX.three
 clear hok hrr hp hlp hb1 hbn h1
 go_wp2_with fail
 clear hW2
 refine (finish_own _ p 32 _ hlp2 HF.out HOK.out.err).mono ?_
 have hg1:=fit_rg (finL_val p).fit HF.out.2.1 HF.out.1.cols
 have hr1:=fin_run HOK.out
 have he1:=sm_fin HOK.out.err
 have hp1:=fin_pivots p
 have hs1:=fin_stat HOK.out
 have hv1:(finL p).pivots+64≤9223372036854775807:=by omega
 generalize finL p=s at hg1 hr1 he1 hp1 hs1 hv1 ⊢
 have hq:(statQ p s !=0)=true:=by simpa using hs1
 generalize statQ p s=q at hq ⊢
 have HG:=Lib.hid hg1
 have HR:=Lib.hid hr1
 have HE:=Lib.hid he1
 have HV:=Lib.hid hv1
 have HP:=Lib.hid hp1
 have HQ:=Lib.hid hq
 clear hg1 hr1 he1 hp1 hs1 hv1 hq
 rintro _ w3 ⟨v3,rfl,⟨A3,n3,c3,rfl,hI3⟩,hb3⟩
 obtain ⟨W3,hW3,hS3,hn3⟩:=box_st w3 (.int .i64 s.phase) (.slice A3 n3 c3) (.int .i64 s.pivots)
 have hc3:=below_then hb3 hn3 hb3.size
 have hbW3:=below_then hb2 hc3 hb2.size
 have hX3:=hX.later hc3
 have hlp3:=hlp2.below hc3
 have hI3':=(hI3.below hn3).ints
 have hM3:StM W3 (.agg #[.int .i64 s.phase,.slice A3 n3 c3,.int .i64 s.pivots]) s:=⟨A3,n3,c3,rfl,hI3'⟩
 clear x0 x1 x2 hX hlp2 hb2 hb3 hn3 hc3 hI3
 obtain ⟨x0,x1,x2⟩:=hX3.three
 obtain ⟨y0,y1,y2⟩:=hS3.three
 go_wp2_with fail
 clear hW3
 rw [i64_and63]
 obtain ⟨N,hN⟩:∃N:Nat,n % 64=N:=⟨(n % 64).toNat,by omega⟩
 have hN2:N < 64:=by omega
 rw [hN]
 refine (srun_own _ _ p s 32 _ hlp3 hM3 HF.out.1.ok (fun _=>HF.out) HG.out.1 HG.out.2 N (by omega) (fun _=>by have:=HV.out;omega)).mono ?_
 rw [HR.out N,HE.out]
 rintro _ w4 ⟨v4,rfl,⟨A4,n4,c4,rfl,hI4⟩,hb4⟩
 obtain ⟨W4,hW4,hT4,hn4⟩:=box_st w4 (.int .i64 s.phase) (.slice A4 n4 c4) (.int .i64 s.pivots)
 have hc4:=below_then hb4 hn4 hb4.size
 have hbW4:=below_then hbW3 hc4 hbW3.size
 have hS4:=hS3.later hc4
 have hM4:=hM3.below hc4
 have hN4:StM W4 (.agg #[.int .i64 s.phase,.slice A4 n4 c4,.int .i64 s.pivots]) s:=⟨A4,n4,c4,rfl,(hI4.below hn4).ints⟩
 clear x0 x1 x2 y0 y1 y2 hX3 hS3 hM3 hlp3 hI3' hbW3 hb4 hn4 hc4 hI4 hN hN2
 obtain ⟨x0,x1,x2⟩:=hS4.three
 obtain ⟨y0,y1,y2⟩:=hT4.three
 have hq:=HQ.out
 go_wp2_with fail
 clear hW4 hq
 refine (samestate_any _ _ s _ hM4 hN4 HG.out.1).mono ?_
 rintro _ w5 ⟨rfl,hb5⟩
 have hbW5:=below_then hbW4 hb5 hbW4.size
 have hS5:=hS4.later hb5
 clear x0 x1 x2 y0 y1 y2 hS4 hT4 hM4 hN4 hbW4 hb5
 obtain ⟨x0,x1,x2⟩:=hS5.three
 have hp1:=HP.out
 go_wp2_with fail
 clear hp1
 refine (known_own _).mono ?_
 rintro _ w6 ⟨rfl,hb6⟩
 have bfin:=below_then hbW5 hb6 hbW5.size
 clear x0 x1 x2 hS5
 go_wp2
 go_ret
 exact ⟨rfl,bfin⟩
end Go.Proofs.YtncmobkhenfhpaaGreat
