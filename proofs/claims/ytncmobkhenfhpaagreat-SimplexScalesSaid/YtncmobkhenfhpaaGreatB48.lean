/- Contracts and plain facts that the claim is built on, joined out of smaller texts; no condition. -/
import Derived.Great.BuildSlice
import Derived.Test.YtncmobkhenfhpaaGreatB41
import Derived.Test.YtncmobkhenfhpaaGreatB47
set_option linter.unusedVariables false
set_option linter.unusedSimpArgs false
set_option maxRecDepth 100000
set_option maxHeartbeats 40000000
namespace Go.Proofs.YtncmobkhenfhpaaGreat
open Go.RowKit
open Pl
attribute [local go_sem ↓] Go.wp_at_zero Go.wp_at_succ
namespace Pl
def smRun (p:LPd) (s:LSt) (N:Nat):LSt:=if smErr p s=0 then runL p N (settleQ p s) else ⟨0,[],0⟩
theorem smRun_no {p:LPd} {s:LSt} {N:Nat} (h:smErr p s≠0):smRun p s N=⟨0,[],0⟩:=if_neg h
theorem smRun_yes {p:LPd} {s:LSt} {N:Nat} (h:smErr p s=0):smRun p s N=runL p N (settleQ p s):=if_pos h
end Pl
theorem srun_own (v1 v2:Value) (p:LPd) (s:LSt) (K:Nat) (w:World) (h:LpM w v1 p) (h2:StM w v2 s) (ok:p.Ok K) (hF:lpErr p=0→p.Ft K) (hbl:s.basis.length≤1099511627776) (hrg:∀z∈s.basis,-9223372036854775808≤z∧z≤9223372036854775807) (N:Nat) (hN:N≤9223372036854775807) (hpv:smErr p s=0→s.pivots+N≤9223372036854775807):
 Calls Tryz.prog 18 #[v1,v2,.int .i64 (N:Int)] w fun o w'=>∃v',o= .returned (.tuple #[v',.int .i64 (smErr p s)])∧StO w.heap.size w' v' (smRun p s N)∧Below w.heap.size w w':=by
 have HPV:=Lib.hid hpv
 clear hpv
 obtain ⟨A,n,c,A',n',c',A'',n'',c'',rfl,hc,hv,hr⟩:=id h
 obtain ⟨Ab,nb,cb,rfl,hI⟩:=id h2
 obtain ⟨W,hW,hX0,hbe0⟩:=box_lp w (.slice A n c) (.slice A' n' c') (.slice A'' n'' c'')
 obtain ⟨W1,hW1,hS0,hbe1⟩:=box_st W (.int .i64 s.phase) (.slice Ab nb cb) (.int .i64 s.pivots)
 obtain ⟨W2,hW2,hR0,hbR⟩:=box_st W1 (.int .i64 0) (.slice none 0 0) (.int .i64 0)
 have hX:=(hX0.later hbe1).later hbR
 have hbe':=below_then hbe0 hbe1 hbe0.size
 have hbe:=below_then hbe' hbR hbe'.size
 have hsz:W.heap.size=w.heap.size+1:=by rw [← hW];simp
 rw [hsz] at hS0
 have HLP:=Lib.hid h
 have HST:=Lib.hid h2
 have HOK:=Lib.hid (⟨ok,hF,hbl,hrg⟩:p.Ok K∧(lpErr p=0→p.Ft K)∧s.basis.length≤1099511627776∧∀z∈s.basis,-9223372036854775808≤z∧z≤9223372036854775807)
 obtain ⟨x0,x1,x2⟩:=hX.three
 obtain ⟨y0,y1,y2⟩:=(hS0.later hbR).three
 have hgr:w.heap.size≤W1.heap.size:=hbe'.size
 have hN0:0≤(N:Int):=by omega
 clear hbe' hbR h h2 hc hv hr hI hX0 hbe0 hbe1 hX hS0 ok hF hbl hrg
 go_enter Tryz.func18,Tryz.ntmps18
 go_wp2_with fail
 clear hW hW1 hW2
 refine (open_own _ _ p s K _ (HLP.out.below hbe) (HST.out.below hbe) HOK.out.1 HOK.out.2.1 HOK.out.2.2.1 HOK.out.2.2.2).mono ?_
 intro o w2 ho
 obtain ⟨hb2,ho⟩:=ho
 have hbe2:=below_then hbe hb2 hbe.size
 have HBU:=Lib.hid hbe
 have HRU:=Lib.hid hR0
 clear hbe hR0 x0 x1 x2 y0 y1 y2
 generalize W1.heap.size=gr at *
 rcases ho with ⟨he,rfl⟩ | ⟨hz,he,rfl⟩ | ⟨hz,he,e,rfl,hE⟩
 ·have hS:smErr p s=lpErr p:=smErr_lp he
  have hne:(lpErr p !=0)=true:=by simpa using he
  have HS:=Lib.hid hS
  have HE:Hid (smErr p s≠0):=Lib.hid (by rw [hS];exact he)
  have HB2:=Lib.hid hb2
  clear hS he hb2
  generalize lpErr p=L at *
  have hR2:=HRU.out.later HB2.out
  obtain ⟨c0,c1,c2⟩:=hR2.three
  obtain ⟨f0,f1,f2⟩:=hR2.threeF
  have g0:=hR2.set_ 0 (.int .i64 0)
  have g1:=g0.set_ 1 (.slice none 0 0)
  have g2:=g1.set_ 2 (.int .i64 0)
  have hbz:=((hbe2.setCell (p:=⟨gr,0,none⟩) hgr (.int .i64 0)).setCell (p:=⟨gr,1,none⟩) hgr (.slice none 0 0)).setCell (p:=⟨gr,2,none⟩) hgr (.int .i64 0)
  go_wp2
  refine ret_ct Tryz.results18 Tryz.underlying29 (by kernel_rfl) rfl g2 rfl ?_
  exact ⟨_,by rw [HS.out];rfl,by rw [smRun_no HE.out];exact ⟨none,0,0,rfl,IntsO.nil _ _⟩,hbz⟩
 ·have hS:smErr p s=vsErr p s:=smErr_vs hz
  have hne:(vsErr p s !=0)=true:=by simpa using he
  have HS:=Lib.hid hS
  have HE:Hid (smErr p s≠0):=Lib.hid (by rw [hS];exact he)
  have HB2:=Lib.hid hb2
  clear hS he hz hb2
  generalize vsErr p s=L at *
  have hR2:=HRU.out.later HB2.out
  obtain ⟨c0,c1,c2⟩:=hR2.three
  obtain ⟨f0,f1,f2⟩:=hR2.threeF
  have g0:=hR2.set_ 0 (.int .i64 0)
  have g1:=g0.set_ 1 (.slice none 0 0)
  have g2:=g1.set_ 2 (.int .i64 0)
  have hbz:=((hbe2.setCell (p:=⟨gr,0,none⟩) hgr (.int .i64 0)).setCell (p:=⟨gr,1,none⟩) hgr (.slice none 0 0)).setCell (p:=⟨gr,2,none⟩) hgr (.int .i64 0)
  go_wp2
  refine ret_ct Tryz.results18 Tryz.underlying29 (by kernel_rfl) rfl g2 rfl ?_
  exact ⟨_,by rw [HS.out];rfl,by rw [smRun_no HE.out];exact ⟨none,0,0,rfl,IntsO.nil _ _⟩,hbz⟩
 ·have HS:Hid (smErr p s=0):=Lib.hid (by rw [smErr_vs hz];exact he)
  have HV:=Lib.hid (val_of he)
  have HFT:=Lib.hid (HOK.out.2.1 hz)
  have HER:=Lib.hid hE.r
  have HZ:=Lib.hid hz
  have HEO:=Lib.hid hE
  have HPP:=Lib.hid (HPV.out HS.out)
  have HT0:Hid (settleQ p s=settleQ p s):=Lib.hid rfl
  have HVS:=Lib.hid HV.out.settle
  have HP0:Hid ((settleQ p s).pivots=s.pivots∧0≤s.pivots):=Lib.hid ⟨rfl,HV.out.pv⟩
  obtain ⟨t0,ht0⟩:∃t0,t0=settleQ p s:=⟨_,rfl⟩
  replace HT0:Hid (settleQ p s=t0):=Lib.hid ht0.symm
  rw [← ht0] at HEO HVS HP0
  clear hz he hb2 hE HER ht0
  go_wp2
  go_loopw [27] (fun x wr=>∃(n:Nat) (t:LSt),n≤N∧x= .int .i64 n∧EngO W2 wr e p t K∧Val p t∧runL p (N - n) t=runL p N t0∧0≤t.pivots∧t.pivots≤s.pivots+n) (fun x _=>N - (intOf x).toNat)
  case atStart=>exact ⟨0,t0,by omega,rfl,HEO.out,HVS.out,rfl,by have:=HP0.out;omega,by have:=HP0.out;omega⟩
  case round=>
   obtain ⟨n,t,hn,rfl,hE,hVt,hrn,hp0,hp1⟩:=hrel
   have HVT:=Lib.hid hVt
   have HRN:=Lib.hid hrn
   clear hVt hrn
   rcases Nat.lt_or_ge n N with hnl | hnl
   ·have hnI:(n:Int) < N:=by omega
    have HE0:=Lib.hid hE
    go_wp2_with fail
    refine (estatus_any e p t K _ hE.r HVT.out.fit HFT.out HZ.out HVT.out.ph).mono ?_
    rintro _ w5 ⟨v5,rfl,e5,hb5⟩
    obtain ⟨Ad,nd,cd,rfl⟩:=e5.sliceN
    have hE5:=hE.below hb5
    by_cases hq:statQ p t=0
    ·obtain ⟨j,hje,hj,hJ,hD⟩:=run_ent hq
     rw [hq,hJ]
     rw [hD] at e5
     have HPQ:=Lib.hid hq
     have HDD:=Lib.hid hD
     have HJJ:=Lib.hid hJ
     have hpvt:t.pivots+1≤9223372036854775807:=by have:=HPP.out;omega
     clear hq hJ hje hD hE5
     go_wp2_with fail
     refine (pivot_own W2 _ e p t K j _ _ HE0.out hb5 e5 hj HVT.out.fit HFT.out HZ.out hp0 hpvt).mono ?_
     rintro o6 w6 (⟨i,hl,rfl,hE6⟩ | ⟨hl,rfl,hE6⟩)
     ·have hl':leavQ p t (zL p t) (statD p t)=some i:=by rw [HDD.out];exact hl
      obtain ⟨t',ht'⟩:∃t',t'=settleQ p (preS t i (j:Int)):=⟨_,rfl⟩
      rw [← ht'] at hE6
      have hpq:pivQ p t=some t':=by rw [pivQ_3 HPQ.out hl',HJJ.out,ht'];rfl
      have hV':Val p t':=pivQ_val HVT.out hpq
      have hr':runL p (N - (n+1)) t'=runL p N t0:=by
       rw [← HRN.out,show N - n=(N - (n+1))+1 by omega,runL_step hpq]
      have hpt:t'.pivots=t.pivots+1:=by rw [ht'];rfl
      clear hE e5 hl hl' hb5 ht' hpq
      go_wp2
      go_roundw
      case rel=>exact ⟨n+1,t',by omega,by go_num,hE6,hV',hr',by omega,by omega⟩
      case measure=>simp [intOf];omega
     ·have HEE:Hid (runL p N t0=t):=Lib.hid (by rw [← HRN.out];exact runL_stop (pivQ_2 (by rw [HDD.out];exact hl)) _)
      have HEX:=Lib.hid hE6
      clear hE e5 hl hb5 hE6 hn hnl hnI
      go_wp2_with fail
      refine (state_any _ e p t K _ HEX.out HFT.out HVT.out.fit).mono ?_
      rintro _ w9 ⟨v9,rfl,e9,hb9⟩
      obtain ⟨A9,n9,c9,rfl,hI9⟩:=e9
      have hbx:=below_then HBU.out HEX.out.bel HBU.out.size
      have hbe9:=below_then hbx hb9 hbx.size
      have hR9:=(HRU.out.later HEX.out.bel).later hb9
      obtain ⟨c0,c1,c2⟩:=hR9.three
      obtain ⟨f0,f1,f2⟩:=hR9.threeF
      have k0:=KeepBut.setCell hR9 0 (.int .i64 t.phase)
      have g0:=hR9.set_ 0 (.int .i64 t.phase)
      have k1:=KeepBut.setCell g0 1 (.slice A9 n9 c9)
      have g1:=g0.set_ 1 (.slice A9 n9 c9)
      have k2:=KeepBut.setCell g1 2 (.int .i64 t.pivots)
      have g2:=g1.set_ 2 (.int .i64 t.pivots)
      have hO9:=hI9.but ((k0.trans k1).trans k2) (by decide)
      have hbz:=((hbe9.setCell (p:=⟨gr,0,none⟩) hgr (.int .i64 t.phase)).setCell (p:=⟨gr,1,none⟩) hgr (.slice A9 n9 c9)).setCell (p:=⟨gr,2,none⟩) hgr (.int .i64 t.pivots)
      go_wp2
      refine ret_ct Tryz.results18 Tryz.underlying29 (by kernel_rfl) rfl g2 rfl ?_
      exact ⟨_,by rw [HS.out];rfl,by rw [smRun_yes HS.out,HT0.out,HEE.out];exact ⟨A9,n9,c9,rfl,hO9.monoB hbx.size⟩,hbz⟩
    ·have HEE:Hid (runL p N t0=t):=Lib.hid (by rw [← HRN.out];exact runL_stop (pivQ_1 hq) _)
     have hqe:(statQ p t !=0)=true:=by simpa using hq
     have HEX:=Lib.hid hE5
     clear hE e5 hb5 hE5 hn hnl hnI hq
     go_wp2_with fail
     refine (state_any _ e p t K _ HEX.out HFT.out HVT.out.fit).mono ?_
     rintro _ w9 ⟨v9,rfl,e9,hb9⟩
     obtain ⟨A9,n9,c9,rfl,hI9⟩:=e9
     have hbx:=below_then HBU.out HEX.out.bel HBU.out.size
     have hbe9:=below_then hbx hb9 hbx.size
     have hR9:=(HRU.out.later HEX.out.bel).later hb9
     obtain ⟨c0,c1,c2⟩:=hR9.three
     obtain ⟨f0,f1,f2⟩:=hR9.threeF
     have k0:=KeepBut.setCell hR9 0 (.int .i64 t.phase)
     have g0:=hR9.set_ 0 (.int .i64 t.phase)
     have k1:=KeepBut.setCell g0 1 (.slice A9 n9 c9)
     have g1:=g0.set_ 1 (.slice A9 n9 c9)
     have k2:=KeepBut.setCell g1 2 (.int .i64 t.pivots)
     have g2:=g1.set_ 2 (.int .i64 t.pivots)
     have hO9:=hI9.but ((k0.trans k1).trans k2) (by decide)
     have hbz:=((hbe9.setCell (p:=⟨gr,0,none⟩) hgr (.int .i64 t.phase)).setCell (p:=⟨gr,1,none⟩) hgr (.slice A9 n9 c9)).setCell (p:=⟨gr,2,none⟩) hgr (.int .i64 t.pivots)
     go_wp2
     refine ret_ct Tryz.results18 Tryz.underlying29 (by kernel_rfl) rfl g2 rfl ?_
     exact ⟨_,by rw [HS.out];rfl,by rw [smRun_yes HS.out,HT0.out,HEE.out];exact ⟨A9,n9,c9,rfl,hO9.monoB hbx.size⟩,hbz⟩
   ·obtain rfl:N=n:=by omega
    have HEE:Hid (runL p N t0=t):=Lib.hid (by rw [← HRN.out,Nat.sub_self];rfl)
    have HEX:=Lib.hid hE
    clear hE hn hnl
    go_wp2_with fail
    refine (state_any _ e p t K _ HEX.out HFT.out HVT.out.fit).mono ?_
    rintro _ w9 ⟨v9,rfl,e9,hb9⟩
    obtain ⟨A9,n9,c9,rfl,hI9⟩:=e9
    have hbx:=below_then HBU.out HEX.out.bel HBU.out.size
    have hbe9:=below_then hbx hb9 hbx.size
    have hR9:=(HRU.out.later HEX.out.bel).later hb9
    obtain ⟨c0,c1,c2⟩:=hR9.three
    obtain ⟨f0,f1,f2⟩:=hR9.threeF
    have k0:=KeepBut.setCell hR9 0 (.int .i64 t.phase)
    have g0:=hR9.set_ 0 (.int .i64 t.phase)
    have k1:=KeepBut.setCell g0 1 (.slice A9 n9 c9)
    have g1:=g0.set_ 1 (.slice A9 n9 c9)
    have k2:=KeepBut.setCell g1 2 (.int .i64 t.pivots)
    have g2:=g1.set_ 2 (.int .i64 t.pivots)
    have hO9:=hI9.but ((k0.trans k1).trans k2) (by decide)
    have hbz:=((hbe9.setCell (p:=⟨gr,0,none⟩) hgr (.int .i64 t.phase)).setCell (p:=⟨gr,1,none⟩) hgr (.slice A9 n9 c9)).setCell (p:=⟨gr,2,none⟩) hgr (.int .i64 t.pivots)
    go_wp2
    refine ret_ct Tryz.results18 Tryz.underlying29 (by kernel_rfl) rfl g2 rfl ?_
    exact ⟨_,by rw [HS.out];rfl,by rw [smRun_yes HS.out,HT0.out,HEE.out];exact ⟨A9,n9,c9,rfl,hO9.monoB hbx.size⟩,hbz⟩
namespace Pl
def finL (p:LPd):LSt:=runL p 200 (settleQ p (startS p))
theorem finL_val (p:LPd):Val p (finL p):=runL_val (start_val p).settle
theorem finL_set (p:LPd):settleQ p (finL p)=finL p:=runL_settled settle_twice
theorem sm_start {p:LPd} (hz:lpErr p=0):smErr p (settleQ p (startS p))=0:=by rw [smErr_vs hz];exact (start_val p).settle.vs
theorem sm_fin {p:LPd} (hz:lpErr p=0):smErr p (finL p)=0:=by rw [smErr_vs hz];exact (finL_val p).vs
theorem sm_run {p:LPd} (hz:lpErr p=0):smRun p (settleQ p (startS p)) 200=finL p:=by rw [smRun_yes (sm_start hz),settle_twice];rfl
theorem sm_stat {p:LPd} (hz:lpErr p=0):(smSt p (finL p)).1=statQ p (finL p):=by rw [smSt_yes (sm_fin hz),finL_set]
theorem fit_rg {p:LPd} {s:LSt} (S:s.Fit p) (h1:p.right.length≤7) (h2:p.cols.length≤1200):s.basis.length≤1099511627776∧∀z∈s.basis,-9223372036854775808≤z∧z≤9223372036854775807:=by
 refine ⟨by rw [S.2];omega,fun z hz=>?_⟩
 obtain ⟨i,hi⟩:=List.getElem?_of_mem hz
 have:=S.1 i z hi
 omega
end Pl
theorem ret_ctt {P:Program} {fn:Func} {R:Ending→World→Prop} {a:Act} {w:World} {p u u2:Tmp} {ty:TypeId} {g:Nat} {t:TypeId} {cs:List Value} {fs:Array Field} (hres:fn.results=#[.cell p ty,.tmp u,.tmp u2]) (hu:P.underlying ty=some (.struct fs)) (hi:(P.info? ty).map (·.size)=some cs.length)
 (hp:a.tmps.getD p undef= .pointer (some ⟨g,0,none⟩)) (hB:Bk w g t cs) (hd:a.defers=[]) (hR:R (.returned (.tuple #[.agg cs.toArray,a.tmps.getD u undef,a.tmps.getD u2 undef])) w):bodyPost P fn R .ret a w:=by
 refine bodyPost_ret (v:= .tuple #[.agg cs.toArray,a.tmps.getD u undef,a.tmps.getD u2 undef]) ?_ hd hR
 have hp':a.tmps[p]?.getD undef= .pointer (some ⟨g,0,none⟩):=by simpa using hp
 simp [results,hres,hp',asAddr,Sem.run_bind,Result.andThen,run_loadVar_row w g t ty cs.toArray (0,0) _ hB hu rfl (by simpa using hi)]
theorem finish_own (v1:Value) (p:LPd) (K:Nat) (w:World) (h:LpM w v1 p) (F:p.Ft K) (hz:lpErr p=0):
 Calls Tryz.prog 24 #[v1] w fun o w'=>∃v',o= .returned (.tuple #[v',.int .i64 (statQ p (finL p)),.bool true])∧StO w.heap.size w' v' (finL p)∧Below w.heap.size w w':=by
 obtain ⟨A,n,c,A',n',c',A'',m,c'',rfl,hc,hv,hr⟩:=id h
 obtain ⟨W,hW,hX0,hbe0⟩:=box_lp w (.slice A n c) (.slice A' n' c') (.slice A'' m c'')
 obtain ⟨W1,hW1,hR0,hbe1⟩:=box_st W (.int .i64 0) (.slice none 0 0) (.int .i64 0)
 have hX:=hX0.later hbe1
 have hbe:=below_then hbe0 hbe1 hbe0.size
 have HLP:=Lib.hid h
 have HF:=Lib.hid F
 have HZ:=Lib.hid hz
 have hg0:=fit_rg (start_val p).settle.fit F.2.1 F.1.cols
 have HG0:=Lib.hid hg0
 have hg1:=fit_rg (finL_val p).fit F.2.1 F.1.cols
 have HG1:=Lib.hid hg1
 obtain ⟨x0,x1,x2⟩:=hX.three
 have hgr:w.heap.size≤W.heap.size:=hbe0.size
 clear h hc hv hr hX0 hbe0 hbe1 F hz hg0 hg1
 go_enter Tryz.func24,Tryz.ntmps24
 go_wp2_with fail
 clear hW hW1
 refine (sstart_own _ p K _ (HLP.out.below hbe) HF.out.1.ok (fun _=>HF.out)).mono ?_
 rw [smSta_yes HZ.out,HZ.out]
 rintro _ w3 ⟨v3,rfl,⟨A3,n3,c3,rfl,hI3⟩,hb3⟩
 have hbe3:=below_then hbe hb3 hbe.size
 obtain ⟨s1,hs1⟩:∃s1,s1=settleQ p (startS p):=⟨_,rfl⟩
 have HS1:=Lib.hid hs1
 rw [← hs1] at hI3 HG0 ⊢
 obtain ⟨W4,hW4,hS4,hb4⟩:=box_st w3 (.int .i64 s1.phase) (.slice A3 n3 c3) (.int .i64 s1.pivots)
 have hbe4:=below_then hbe3 hb4 hbe3.size
 have hX4:=(hX.later hb3).later hb4
 have hR4:=(hR0.later hb3).later hb4
 have HM1:Hid (StM W4 (.agg #[.int .i64 s1.phase,.slice A3 n3 c3,.int .i64 s1.pivots]) s1):=Lib.hid ⟨A3,n3,c3,rfl,(hI3.below hb4).ints⟩
 clear hs1 x0 x1 x2 hX hR0 hb3 hb4 hI3 hbe hbe3
 obtain ⟨x0,x1,x2⟩:=hX4.three
 obtain ⟨y0,y1,y2⟩:=hS4.three
 go_wp2_with fail
 clear hW4
 refine (srun_own _ _ p s1 K _ (HLP.out.below hbe4) HM1.out HF.out.1.ok (fun _=>HF.out) HG0.out.1 HG0.out.2 200 (by omega) (fun _=>by rw [HS1.out];show (0:Int)+200≤_;omega)).mono ?_
 have HE1:Hid (smErr p s1=0∧smRun p s1 200=finL p):=Lib.hid (by rw [HS1.out];exact ⟨sm_start HZ.out,sm_run HZ.out⟩)
 rw [HE1.out.1,HE1.out.2]
 rintro _ w5 ⟨v5,rfl,⟨A5,n5,c5,rfl,hI5⟩,hb5⟩
 obtain ⟨t,ht⟩:∃t,t=finL p:=⟨_,rfl⟩
 have HTT:=Lib.hid ht
 rw [← ht] at hI5 HG1 ⊢
 have hbe5:=below_then hbe4 hb5 hbe4.size
 obtain ⟨W6,hW6,hS6,hb6⟩:=box_st w5 (.int .i64 t.phase) (.slice A5 n5 c5) (.int .i64 t.pivots)
 have hbe6:=below_then hbe5 hb6 hbe5.size
 have hX6:=(hX4.later hb5).later hb6
 have hR6:=(hR4.later hb5).later hb6
 have hI6:=hI5.below hb6
 have hw4:=hbe4.size
 have HM2:Hid (StM W6 (.agg #[.int .i64 t.phase,.slice A5 n5 c5,.int .i64 t.pivots]) t):=Lib.hid ⟨A5,n5,c5,rfl,hI6.ints⟩
 clear ht x0 x1 x2 y0 y1 y2 hX4 hR4 hS4 hb5 hb6 hI5 hbe4 hbe5
 obtain ⟨x0,x1,x2⟩:=hX6.three
 obtain ⟨y0,y1,y2⟩:=hS6.three
 go_wp2_with fail
 clear hW6
 refine (sstatus_own _ _ p t K _ (HLP.out.below hbe6) HM2.out HF.out.1.ok (fun _=>HF.out) HG1.out.1 HG1.out.2).mono ?_
 have HE2:Hid (smErr p t=0∧(smSt p t).1=statQ p t):=Lib.hid (by rw [HTT.out];exact ⟨sm_fin HZ.out,sm_stat HZ.out⟩)
 rw [HE2.out.1,HE2.out.2]
 rintro _ w7 ⟨rfl,hb7⟩
 have hbe7:=below_then hbe6 hb7 hbe6.size
 have hR7:=hR6.later hb7
 have hS7:=hS6.later hb7
 have hI7:=hI6.below hb7
 generalize W.heap.size=gr at *
 clear x0 x1 x2 y0 y1 y2 hX6 hR6 hS6 hb7 hI6 hbe6
 obtain ⟨y0,y1,y2⟩:=hS7.three
 obtain ⟨c0,c1,c2⟩:=hR7.three
 obtain ⟨f0,f1,f2⟩:=hR7.threeF
 have k0:=KeepBut.setCell hR7 0 (.int .i64 t.phase)
 have g0:=hR7.set_ 0 (.int .i64 t.phase)
 have k1:=KeepBut.setCell g0 1 (.slice A5 n5 c5)
 have g1:=g0.set_ 1 (.slice A5 n5 c5)
 have k2:=KeepBut.setCell g1 2 (.int .i64 t.pivots)
 have g2:=g1.set_ 2 (.int .i64 t.pivots)
 have hO9:=hI7.but ((k0.trans k1).trans k2) (by decide)
 have hbz:=((hbe7.setCell (p:=⟨gr,0,none⟩) hgr (.int .i64 t.phase)).setCell (p:=⟨gr,1,none⟩) hgr (.slice A5 n5 c5)).setCell (p:=⟨gr,2,none⟩) hgr (.int .i64 t.pivots)
 go_wp2
 refine ret_ctt Tryz.results24 Tryz.underlying29 (by kernel_rfl) rfl g2 rfl ?_
 exact ⟨_,by rw [← HTT.out];rfl,by rw [← HTT.out];exact ⟨A5,n5,c5,rfl,hO9.monoB hw4⟩,hbz⟩
namespace Pl
theorem pow_ft {m:Nat} (h:m≤3):5^m * 32≤4000:=by
 have:m=0∨m=1∨m=2∨m=3:=by omega
 rcases this with rfl | rfl | rfl | rfl <;> decide
theorem LpOK.ft {p:LPd} (hok:LpOK p) (hr:RsL 32 p.right):p.Ft 32:=by
 have h1:=hok.2.1
 have h2:=hok.2.2.1
 have h3:=pow_ft h1
 exact ⟨⟨hok.ok (by decide) hr,(lpErr_zero hok.err).2.2.2.1,by omega,hok.2.2.2.1,by omega,by decide,by omega⟩,by omega,by omega⟩
theorem fin_none {p:LPd} (hok:LpOK p):pivQ p (finL p)=none:=run_ends hok.2.1 hok.2.2.1 (by decide)
theorem fin_stat {p:LPd} (hok:LpOK p):statQ p (finL p)≠0:=fun h=>run_piv (finL_val p) h (fin_none hok)
theorem fin_run {p:LPd} (hok:LpOK p) (N:Nat):smRun p (finL p) N=finL p:=by
 rw [smRun_yes (sm_fin hok.err),finL_set,runL_stop (fin_none hok)]
theorem fin_pivots (p:LPd):(finL p).pivots≤200:=by
 have:=runL_pivots (n:=200) (start_val p).settle
 have e:(settleQ p (startS p)).pivots=0:=rfl
 unfold finL
 omega
def knP:LPd:=⟨[canF (-1),canF 0],[[⟨0,canF 1⟩],[⟨0,canF 1⟩]],[canF 4]⟩
theorem ke_err:lpErr knP=0:=by decide+kernel
theorem ke_start:(settleQ knP (startS knP)).phase=1∧(settleQ knP (startS knP)).basis=[-1]∧(settleQ knP (startS knP)).pivots=0:=by decide+kernel
theorem ke_run:(runL knP 1 ⟨1,[-1],0⟩).phase=2∧(runL knP 1 ⟨1,[-1],0⟩).basis=[0]∧(runL knP 1 ⟨1,[-1],0⟩).pivots=1:=by decide+kernel
theorem ke_set:(settleQ knP ⟨2,[0],1⟩).phase=2:=by decide+kernel
theorem ke_stat:statQ knP ⟨2,[0],1⟩=1∧statJ knP ⟨2,[0],1⟩= -1:=by decide+kernel
theorem ke_val:objQ knP 2 ⟨2,[0],1⟩= -4:=by decide+kernel
theorem ke_ok:LpOK knP:=by
 have e1:RsL 1 knP.cost:=((RsL.nil 1).snoc (Sz.rs (Sz_int (z:= -1) (by decide) (by decide)))).snoc (Sz.rs (Sz_int (z:=0) (by decide) (by decide)))
 have c1:ColOK 1 ([]++[⟨((0:Nat):Int),canF ((1:Int):Rat)⟩]):=ColOK.nil.snoc (by decide) (by decide) (by decide)
 exact ⟨by decide,by decide,by decide,rfl,e1,cols_snoc (cols:=[[⟨0,canF 1⟩]]) (cols_snoc (cols:=[]) (fun j c h=>by simp at h) c1) c1⟩
theorem ke_rs:RsL 32 knP.right:=((RsL.nil 1).snoc (Sz.rs (Sz_int (z:=4) (by decide) (by decide)))).mono (by decide)
theorem ke_ft:knP.Ft 32:=ke_ok.ft ke_rs
theorem lst_eq {s:LSt} {a:Int} {b:List Int} {c:Int} (h:s.phase=a∧s.basis=b∧s.pivots=c):s=⟨a,b,c⟩:=by cases s;obtain ⟨rfl,rfl,rfl⟩:=h;rfl
theorem ke_s:settleQ knP (startS knP)=⟨1,[-1],0⟩:=lst_eq ke_start
theorem ke_t:runL knP 1 ⟨1,[-1],0⟩=⟨2,[0],1⟩:=lst_eq ke_run
theorem ke_st:settleQ knP ⟨2,[0],1⟩=⟨2,[0],1⟩:=lst_eq ⟨ke_set,rfl,rfl⟩
theorem ke_v1:Val knP ⟨1,[-1],0⟩:=by rw [← ke_s];exact (start_val knP).settle
theorem ke_v2:Val knP ⟨2,[0],1⟩:=by rw [← ke_t];exact runL_val ke_v1
theorem ke_e1:smErr knP ⟨1,[-1],0⟩=0:=by rw [smErr_vs ke_err];exact ke_v1.vs
theorem ke_e2:smErr knP ⟨2,[0],1⟩=0:=by rw [smErr_vs ke_err];exact ke_v2.vs
theorem ke_ru:smRun knP ⟨1,[-1],0⟩ 1=⟨2,[0],1⟩:=by rw [smRun_yes ke_e1,← ke_s,settle_twice,ke_s,ke_t]
theorem ke_sm:smSt knP ⟨2,[0],1⟩=(1,-1):=by rw [smSt_yes ke_e2,ke_st,ke_stat.1,ke_stat.2]
theorem ke_va:smVa knP ⟨2,[0],1⟩=canF (-4):=by rw [smVa_yes ke_e2,ke_st,ke_val]
end Pl
section
section
variable {P:Program} {ops:Array Oper} {Q:Exit→Act→World→Prop} {S:World→Prop} {n:Nat}
def putA (a:Act) (l:List (Nat × Nat)) (s:Nat→Value):Act:=l.foldl (fun a x=>a.put (some x.2) (s x.1)) a
def updV (s:Nat→Value) (i:Nat) (v:Value):Nat→Value:=fun k=>if k=i then v else s k
def Grow (P:Program) (ops:Array Oper) (Q:Exit→Act→World→Prop) (S:World→Prop) (n:Nat) (l:List (Nat × Nat)) (a:Act) (U:World) (Good:Nat→World→Value→Prop) (i:Nat):Prop:=
 ∀s w,(∀k∈l.map (·.1),depB ops i k=true→Good k w (s k))→Below U.heap.size U w→wpAlone P ops Q S n i (fun a' w'=>Below w.heap.size w w'∧∃v,a'=putA a l (updV s i v)∧Good i w' v) (putA a l s) w
theorem plan_grow {l:List (Nat × Nat)} {is:List Nat} {p:Plan} {a:Act} {w:World} (U:World) (Good:Nat→World→Value→Prop) (s0:Nat→Value) (his:l.map (·.1)=is) (ha:a=putA a l s0) (hl:is.Nodup) (hU:Below U.heap.size U w)
 (hg:∀k w w' v,Good k w v→Below w.heap.size w w'→Good k w' v) (hs:∀i∈is,Grow P ops Q S n l a U Good i)
 (h1:∀s w,(∀k∈is,Good k w (s k))→Below U.heap.size U w→wpPlan P ops Q S n p (putA a l s) w):wpPlan P ops Q S n (.bag is p) a w:=by
 subst his
 refine plan_bag (fun D a' w=>∃s,a'=putA a l s∧Below U.heap.size U w∧∀k∈l.map (·.1),D k→Good k w (s k)) hl ⟨s0,ha,hU,fun _ _ h=>h.elim⟩ ?_ ?_
 ·rintro D a' w i oi hi hn ho hd ⟨s,rfl,hb,hG⟩
  refine (hs i hi s w (fun k hk hb=>hG k hk ?_) hb).mono ?_
  ·unfold depB at hb
   rw [ho] at hb
   simp only [Array.any_eq_true,Bool.and_eq_true,beq_iff_eq] at hb
   obtain ⟨j,hj,h1,h2⟩:=hb
   subst h2
   exact hd _ (Array.getElem_mem hj) h1 hk
  ·rintro a' w' ⟨hw,v,rfl,hv⟩
   refine ⟨_,rfl,below_then hb hw hb.size,fun k hk hd=>?_⟩
   unfold updV
   by_cases e:k=i
   ·rw [if_pos e,e];exact hv
   ·rw [if_neg e];exact hg _ _ _ _ (hG k hk (hd.resolve_right e)) hw
 ·rintro D a' w hd ⟨s,rfl,hb,hG⟩
  exact h1 s w (fun k hk=>hG k hk (hd k hk)) hb
theorem Grow.mk {l:List (Nat × Nat)} {a:Act} {U:World} {Good:Nat→World→Value→Prop} {i:Nat} {o:Oper} (ho:ops[i]? =some o)
 (h:∀s w b,b=putA a l s→(∀k∈l.map (·.1),depB ops i k=true→Good k w (s k))→Below U.heap.size U w→∀K':Act→World→Prop,Shut (∀a' w',(n≤i∨S w')→(Below w.heap.size w w'∧∃v,a'=putA a l (updV s i v)∧Good i w' v)→K' a' w')→if Region.wanted o (yielded ops b.tmps)=true then Oper.wp P o b w K' Q else K' (b.put o.dst undef) w):Grow P ops Q S n l a U Good i:=
 fun s w hd hb=>alone_step ho (h s w _ rfl hd hb)
end
theorem row_lit (w:World) (t:TypeId) (s n:Nat) (cs:List Value) (hl:cs.length=n * s) (hn:n≤maxLen):RowM (w.alloc (.cells cs.toArray t)) t s (.slice (some ⟨w.heap.size,0,none⟩) n n) n cs:=
 ⟨_,n,rfl,hl,Nat.le_refl _,hn,fun _=>⟨w.heap.size,0,cs.toArray,_,rfl,heap_alloc_new w _,fun j u h=>by simpa using h⟩⟩
theorem frs_lit1 {w:World} {x y z u:Value} {f:RF} (h:FracM w (.agg #[x,y,z,u]) f):FrsM (w.alloc (.cells #[x,y,z,u] 48)) (.slice (some ⟨w.heap.size,0,none⟩) 1 1) [f]:=
 ⟨[x,y,z,u],row_lit w 48 4 1 _ rfl (by decide),rfl,fun k g hg=>by
  match k,hg with
  | 0,hg=>injection hg with e;subst e;exact ⟨x,y,z,u,rfl,rfl,rfl,rfl,h.below (below_new w _)⟩
  | k+1,hg=>simp at hg⟩
theorem frs_lit2 {w:World} {x y z u x' y' z' u':Value} {f f':RF} (h:FracM w (.agg #[x,y,z,u]) f) (h':FracM w (.agg #[x',y',z',u']) f'):FrsM (w.alloc (.cells #[x,y,z,u,x',y',z',u'] 48)) (.slice (some ⟨w.heap.size,0,none⟩) 2 2) [f,f']:=
 ⟨[x,y,z,u,x',y',z',u'],row_lit w 48 4 2 _ rfl (by decide),rfl,fun k g hg=>by
  match k,hg with
  | 0,hg=>injection hg with e;subst e;exact ⟨x,y,z,u,rfl,rfl,rfl,rfl,h.below (below_new w _)⟩
  | 1,hg=>injection hg with e;subst e;exact ⟨x',y',z',u',rfl,rfl,rfl,rfl,h'.below (below_new w _)⟩
  | k+2,hg=>simp at hg⟩
theorem vec_lit1 {w:World} {x y z u:Value} {i:Int} {f:RF} (h:FracM w (.agg #[x,y,z,u]) f):VecM (w.alloc (.cells #[.int .i64 i,x,y,z,u] 87)) (.slice (some ⟨w.heap.size,0,none⟩) 1 1) [⟨i,f⟩]:=
 ⟨[.int .i64 i,x,y,z,u],row_lit w 87 5 1 _ rfl (by decide),rfl,fun k g hg=>by
  match k,hg with
  | 0,hg=>injection hg with e;subst e;exact ⟨x,y,z,u,rfl,rfl,rfl,rfl,rfl,h.below (below_new w _)⟩
  | k+1,hg=>simp at hg⟩
theorem vecs_lit2 {w:World} {a b:Value} {c d:List En} (h:VecM w a c) (h':VecM w b d):VecsM (w.alloc (.cells #[a,b] 72)) (.slice (some ⟨w.heap.size,0,none⟩) 2 2) [c,d]:=
 ⟨[a,b],row_lit w 72 1 2 _ rfl (by decide),fun k g hg=>by
  match k,hg with
  | 0,hg=>injection hg with e;subst e;exact ⟨a,rfl,h.below (below_new w _)⟩
  | 1,hg=>injection hg with e;subst e;exact ⟨b,rfl,h'.below (below_new w _)⟩
  | k+2,hg=>simp at hg⟩
def KeG (U:World) (k:Nat) (w:World) (v:Value):Prop:=match k with
 | 0=>FracM w v (canF (-1))
 | 1=>FracM w v (canF 0)
 | 2=>FrsM w v [canF (-1),canF 0]
 | 5=>VecM w v [⟨0,canF 1⟩]
 | 8=>VecM w v [⟨0,canF 1⟩]
 | 9=>VecsM w v [[⟨0,canF 1⟩],[⟨0,canF 1⟩]]
 | 10=>FracM w v (canF 4)
 | 11=>FrsM w v [canF 4]
 | 12=>LpM w v knP
 | 13=>∃g,v= .pointer (some ⟨g,0,none⟩)∧U.heap.size≤g∧Bk w g 26 [.slice none 0 0,.slice none 0 0,.slice none 0 0]
 | _=>True
theorem KeG.later {U:World} (k:Nat) (w w':World) (v:Value) (h:KeG U k w v) (hb:Below w.heap.size w w'):KeG U k w' v:=by
 unfold KeG at *
 split at h
 all_goals first | exact FracM.below h hb | exact FrsM.below h hb | exact VecM.below h hb | exact VecsM.below h hb | exact LpM.below h hb | (obtain ⟨g,e,h1,h2⟩:=h;exact ⟨g,e,h1,h2.later hb⟩) | trivial
end
end Go.Proofs.YtncmobkhenfhpaaGreat
