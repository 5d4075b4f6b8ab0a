/- Contracts and plain facts that the claim is built on, joined out of smaller texts; no condition. -/
import Derived.Test.YtncmobkhenfhpaaGreatB46
set_option linter.unusedVariables false
set_option linter.unusedSimpArgs false
set_option maxRecDepth 100000
set_option maxHeartbeats 40000000
namespace Go.Proofs.YtncmobkhenfhpaaGreat
open Go.RowKit
open Pl
attribute [local go_sem ↓] Go.wp_at_zero Go.wp_at_succ
namespace Pl
def smErr (p:LPd) (s:LSt):Int:=if lpErr p=0 then vsErr p s else lpErr p
theorem smErr_lp {p:LPd} {s:LSt} (h:lpErr p≠0):smErr p s=lpErr p:=if_neg h
def smSt (p:LPd) (s:LSt):Int × Int:=if smErr p s=0 then (statQ p (settleQ p s),statJ p (settleQ p s)) else (0,0)
theorem smSt_no {p:LPd} {s:LSt} (h:smErr p s≠0):smSt p s=(0,0):=if_neg h
theorem smSt_yes {p:LPd} {s:LSt} (h:smErr p s=0):smSt p s=(statQ p (settleQ p s),statJ p (settleQ p s)):=if_pos h
theorem fit_rng {p:LPd} {s:LSt} (S:s.Fit p):rngP p s:=fun i hi=>by
 obtain ⟨z,hz⟩:∃z,s.basis[i]? =some z:=⟨_,List.getElem?_eq_getElem (by have:=S.2;omega)⟩
 rw [LSt.at_eq hz]
 exact S.1 i z hz
theorem smErr_vs {p:LPd} {s:LSt} (h:lpErr p=0):smErr p s=vsErr p s:=if_pos h
end Pl
theorem sstatus_own (v1 v2:Value) (p:LPd) (s:LSt) (K:Nat) (w:World) (h:LpM w v1 p) (h2:StM w v2 s) (ok:p.Ok K) (hF:lpErr p=0→p.Ft K) (hbl:s.basis.length≤1099511627776) (hrg:∀z∈s.basis,-9223372036854775808≤z∧z≤9223372036854775807):
 Calls Tryz.prog 20 #[v1,v2] w fun o w'=>o= .returned (.tuple #[.int .i64 (smSt p s).1,.int .i64 (smSt p s).2,.int .i64 (smErr p s)])∧Below w.heap.size w w':=by
 obtain ⟨A,n,c,A',n',c',A'',n'',c'',rfl,hc,hv,hr⟩:=id h
 obtain ⟨Ab,nb,cb,rfl,hI⟩:=id h2
 obtain ⟨W,hW,hX0,hbe0⟩:=box_lp w (.slice A n c) (.slice A' n' c') (.slice A'' n'' c'')
 obtain ⟨W1,hW1,hS0,hbe1⟩:=box_st W (.int .i64 s.phase) (.slice Ab nb cb) (.int .i64 s.pivots)
 have hX:=hX0.later hbe1
 have hbe:=below_then hbe0 hbe1 hbe0.size
 have hsz:W.heap.size=w.heap.size+1:=by rw [← hW];simp
 rw [hsz] at hS0
 have HLP:=Lib.hid h
 have HST:=Lib.hid h2
 have HOK:=Lib.hid (⟨ok,hF,hbl,hrg⟩:p.Ok K∧(lpErr p=0→p.Ft K)∧s.basis.length≤1099511627776∧∀z∈s.basis,-9223372036854775808≤z∧z≤9223372036854775807)
 obtain ⟨x0,x1,x2⟩:=hX.three
 obtain ⟨y0,y1,y2⟩:=hS0.three
 clear h h2 hc hv hr hI hX0 hbe0 hbe1 hX hS0 ok hF hbl hrg
 go_enter Tryz.func20,Tryz.ntmps20
 go_wp2_with fail
 clear hW hW1
 refine (open_own _ _ p s K _ (HLP.out.below hbe) (HST.out.below hbe) HOK.out.1 HOK.out.2.1 HOK.out.2.2.1 HOK.out.2.2.2).mono ?_
 intro o w2 ho
 obtain ⟨hb2,ho⟩:=ho
 have hbe2:=below_then hbe hb2 hbe.size
 clear hbe x0 x1 x2 y0 y1 y2
 rcases ho with ⟨he,rfl⟩ | ⟨hz,he,rfl⟩ | ⟨hz,he,e,rfl,hE⟩
 ·have hS:smErr p s=lpErr p:=smErr_lp he
  have hne:(lpErr p !=0)=true:=by simpa using he
  have HS:=Lib.hid hS
  have HE:Hid (smErr p s≠0):=Lib.hid (by rw [hS];exact he)
  clear hS he hb2
  generalize lpErr p=L at *
  go_wp2
  refine bodyPost_ret (results_tmp3 rfl _ _ _) rfl ?_
  exact ⟨by rw [smSt_no HE.out,HS.out];rfl,hbe2⟩
 ·have hS:smErr p s=vsErr p s:=smErr_vs hz
  have hne:(vsErr p s !=0)=true:=by simpa using he
  have HS:=Lib.hid hS
  have HE:Hid (smErr p s≠0):=Lib.hid (by rw [hS];exact he)
  clear hS he hz hb2
  generalize vsErr p s=L at *
  go_wp2
  refine bodyPost_ret (results_tmp3 rfl _ _ _) rfl ?_
  exact ⟨by rw [smSt_no HE.out,HS.out];rfl,hbe2⟩
 ·have HS:Hid (smErr p s=0):=Lib.hid (by rw [smErr_vs hz];exact he)
  have HV:=Lib.hid (val_of he)
  have HFT:=Lib.hid (HOK.out.2.1 hz)
  have HER:=Lib.hid hE.r
  have HZ:=Lib.hid hz
  clear hz he hb2 hE
  go_wp2_with fail
  refine (estatus_any e p (settleQ p s) K _ HER.out HV.out.settle.fit HFT.out HZ.out HV.out.settle.ph).mono ?_
  rintro _ w3 ⟨v3,rfl,e3,hb3⟩
  have hbe3:=below_then hbe2 hb3 hbe2.size
  go_wp2
  refine bodyPost_ret (results_tmp3 rfl _ _ _) rfl ?_
  exact ⟨by rw [smSt_yes HS.out,HS.out];rfl,hbe3⟩
namespace Pl
def smVa (p:LPd) (s:LSt):RF:=if smErr p s=0 then canF (objQ p 2 (settleQ p s)) else zeroF
theorem smVa_no {p:LPd} {s:LSt} (h:smErr p s≠0):smVa p s=zeroF:=if_neg h
theorem smVa_yes {p:LPd} {s:LSt} (h:smErr p s=0):smVa p s=canF (objQ p 2 (settleQ p s)):=if_pos h
end Pl
theorem svalue_own (v1 v2:Value) (p:LPd) (s:LSt) (K:Nat) (w:World) (h:LpM w v1 p) (h2:StM w v2 s) (ok:p.Ok K) (hF:lpErr p=0→p.Ft K) (hbl:s.basis.length≤1099511627776) (hrg:∀z∈s.basis,-9223372036854775808≤z∧z≤9223372036854775807):
 Calls Tryz.prog 26 #[v1,v2] w fun o w'=>∃v',o= .returned (.tuple #[v',.int .i64 (smErr p s)])∧FracM w' v' (smVa p s)∧Below w.heap.size w w':=by
 obtain ⟨A,n,c,A',n',c',A'',n'',c'',rfl,hc,hv,hr⟩:=id h
 obtain ⟨Ab,nb,cb,rfl,hI⟩:=id h2
 obtain ⟨W,hW,hX0,hbe0⟩:=box_lp w (.slice A n c) (.slice A' n' c') (.slice A'' n'' c'')
 obtain ⟨W1,hW1,hS0,hbe1⟩:=box_st W (.int .i64 s.phase) (.slice Ab nb cb) (.int .i64 s.pivots)
 obtain ⟨W2,hW2,hR0,hbR⟩:=boxF1 W1 (.bool false) (.slice none 0 0) (.bool false) (.slice none 0 0)
 have hX:=(hX0.later hbe1).later hbR
 have hbe':=below_then hbe0 hbe1 hbe0.size
 have hbe:=below_then hbe' hbR hbe'.size
 have hsz:W.heap.size=w.heap.size+1:=by rw [← hW];simp
 rw [hsz] at hS0
 have HLP:=Lib.hid h
 have HST:=Lib.hid h2
 have HOK:=Lib.hid (⟨ok,hF,hbl,hrg⟩:p.Ok K∧(lpErr p=0→p.Ft K)∧s.basis.length≤1099511627776∧∀z∈s.basis,-9223372036854775808≤z∧z≤9223372036854775807)
 obtain ⟨x0,x1,x2⟩:=hX.three
 obtain ⟨y0,y1,y2⟩:=(hS0.later hbR).three
 have hgr:w.heap.size≤W1.heap.size:=hbe'.size
 clear hbe' hbR h h2 hc hv hr hI hX0 hbe0 hbe1 hX hS0 ok hF hbl hrg
 go_enter Tryz.func26,Tryz.ntmps26
 go_wp2_with fail
 clear hW hW1 hW2
 refine (open_own _ _ p s K _ (HLP.out.below hbe) (HST.out.below hbe) HOK.out.1 HOK.out.2.1 HOK.out.2.2.1 HOK.out.2.2.2).mono ?_
 intro o w2 ho
 obtain ⟨hb2,ho⟩:=ho
 have hbe2:=below_then hbe hb2 hbe.size
 have hR2:=hR0.later hb2
 clear hR0
 generalize W1.heap.size=gr at *
 clear hbe x0 x1 x2 y0 y1 y2
 rcases ho with ⟨he,rfl⟩ | ⟨hz,he,rfl⟩ | ⟨hz,he,e,rfl,hE⟩
 ·have hS:smErr p s=lpErr p:=smErr_lp he
  have hne:(lpErr p !=0)=true:=by simpa using he
  have HS:=Lib.hid hS
  have HE:Hid (smErr p s≠0):=Lib.hid (by rw [hS];exact he)
  clear hS he hb2
  generalize lpErr p=L at *
  obtain ⟨c0,c1,c2,c3⟩:=hR2.four
  obtain ⟨f0,f1,f2,f3⟩:=hR2.fourF
  go_wp2
  refine ret_ct Tryz.results26 Tryz.underlying48 (by kernel_rfl) rfl (hR2.set4 _ _ _ _) rfl ?_
  exact ⟨_,by rw [HS.out];rfl,by rw [smVa_no HE.out];exact FracM.zero _,below_set4 hbe2 hgr _ _ _ _⟩
 ·have hS:smErr p s=vsErr p s:=smErr_vs hz
  have hne:(vsErr p s !=0)=true:=by simpa using he
  have HS:=Lib.hid hS
  have HE:Hid (smErr p s≠0):=Lib.hid (by rw [hS];exact he)
  clear hS he hz hb2
  generalize vsErr p s=L at *
  obtain ⟨c0,c1,c2,c3⟩:=hR2.four
  obtain ⟨f0,f1,f2,f3⟩:=hR2.fourF
  go_wp2
  refine ret_ct Tryz.results26 Tryz.underlying48 (by kernel_rfl) rfl (hR2.set4 _ _ _ _) rfl ?_
  exact ⟨_,by rw [HS.out];rfl,by rw [smVa_no HE.out];exact FracM.zero _,below_set4 hbe2 hgr _ _ _ _⟩
 ·have HS:Hid (smErr p s=0):=Lib.hid (by rw [smErr_vs hz];exact he)
  have HV:=Lib.hid (val_of he)
  have HFT:=Lib.hid (HOK.out.2.1 hz)
  have HER:=Lib.hid hE.r
  clear hz he hb2 hE
  go_wp2_with fail
  refine (value_any e p (settleQ p s) K _ HER.out HFT.out (fit_rng HV.out.settle.fit)).mono ?_
  rintro _ w3 ⟨v3,rfl,e3,hb3⟩
  obtain ⟨C,l,f,C',l',f',rfl,_,_⟩:=id e3
  have hbe3:=below_then hbe2 hb3 hbe2.size
  have hR3:=hR2.later hb3
  obtain ⟨c0,c1,c2,c3⟩:=hR3.four
  obtain ⟨f0,f1,f2,f3⟩:=hR3.fourF
  clear hR2
  go_wp2
  refine ret_ct Tryz.results26 Tryz.underlying48 (by kernel_rfl) rfl (hR3.set4 _ _ _ _) rfl ?_
  exact ⟨_,by rw [HS.out];rfl,by rw [smVa_yes HS.out];exact e3.keep (hR3.keep4 (by decide) _ _ _ _),below_set4 hbe3 hgr _ _ _ _⟩
end Go.Proofs.YtncmobkhenfhpaaGreat
