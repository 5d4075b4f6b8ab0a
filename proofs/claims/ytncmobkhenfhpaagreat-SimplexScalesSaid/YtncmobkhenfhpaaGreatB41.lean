/- Contracts and plain facts that the claim is built on, joined out of smaller texts; no condition. -/
import Derived.Test.YtncmobkhenfhpaaGreatB46
set_option linter.unusedVariables false
set_option linter.unusedSimpArgs false
set_option maxRecDepth 100000
set_option maxHeartbeats 40000000
namespace Go.Proofs.YtncmobkhenfhpaaGreat
open Go.RowKit
open Pl
attribute [local go_sem ↓] Go.wp_at_zero Go.wp_at_succ
section
namespace Pl
section
variable {p:LPd} {s:LSt}
theorem Val.range (h:Val p s):∀l,l < p.right.length→s.at_ l < p.cols.length:=fun l hl=>by
 have hl':l < s.basis.length:=by rw [h.fit.len];exact hl
 rw [LSt.at_eq (List.getElem?_eq_getElem hl')]
 exact (h.fit.in_ l _ (List.getElem?_eq_getElem hl')).2
end
end Pl
end
namespace Pl
def stL (m k:Nat):List Int:=(List.range m).map fun i:Nat=>if i < k then -1 - (i:Int) else 0
theorem stL_length {m k:Nat}:(stL m k).length=m:=by simp [stL]
theorem stL_zero {m:Nat}:stL m 0=List.replicate m 0:=by simp [stL,List.map_const']
theorem stL_next {m k:Nat}:(stL m k).set k (-1 - (k:Int))=stL m (k+1):=by
 refine List.ext_getElem (by simp [stL]) fun i h1 h2=>?_
 simp only [stL,List.getElem_set,List.getElem_map,List.getElem_range]
 by_cases e:k=i
 ·subst e;simp
 ·rw [if_neg e]
  by_cases g:i < k
  ·rw [if_pos g,if_pos (by omega)]
  ·rw [if_neg g,if_neg (by omega)]
theorem stL_all {m:Nat}:stL m m=artL m:=by
 unfold stL artL
 exact List.map_congr_left fun i hi=>by rw [if_pos (List.mem_range.1 hi)]
def smSta (p:LPd):LSt:=if lpErr p=0 then settleQ p (startS p) else ⟨0,[],0⟩
theorem smSta_no {p:LPd} (h:lpErr p≠0):smSta p=⟨0,[],0⟩:=if_neg h
theorem smSta_yes {p:LPd} (h:lpErr p=0):smSta p=settleQ p (startS p):=if_pos h
end Pl
theorem sstart_own (v1:Value) (p:LPd) (K:Nat) (w:World) (h:LpM w v1 p) (ok:p.Ok K) (hF:lpErr p=0→p.Ft K):
 Calls Tryz.prog 16 #[v1] w fun o w'=>∃v',o= .returned (.tuple #[v',.int .i64 (lpErr p)])∧StO w.heap.size w' v' (smSta p)∧Below w.heap.size w w':=by
 obtain ⟨A,n,c,A',n',c',A'',m,c'',rfl,hc,hv,hr⟩:=id h
 obtain ⟨W,hW,hX0,hbe0⟩:=box_lp w (.slice A n c) (.slice A' n' c') (.slice A'' m c'')
 obtain ⟨W1,hW1,hR0,hbe1⟩:=box_st W (.int .i64 0) (.slice none 0 0) (.int .i64 0)
 have hX:=hX0.later hbe1
 have hbe:=below_then hbe0 hbe1 hbe0.size
 obtain ⟨r1,r2,r3⟩:=hr.len
 have HLP:=Lib.hid h
 have HOK:=Lib.hid (⟨ok,hF⟩:p.Ok K∧(lpErr p=0→p.Ft K))
 have HM:=Lib.hid r1
 obtain ⟨x0,x1,x2⟩:=hX.three
 have hgr:w.heap.size≤W.heap.size:=hbe0.size
 clear h hc hv hr r1 hX0 hbe0 hbe1 ok hF
 go_enter Tryz.func16,Tryz.ntmps16
 go_wp2_with fail
 clear hW hW1
 refine (validate_any _ p K _ (HLP.out.below hbe) HOK.out.1).mono ?_
 rintro _ w3 ⟨rfl,hb3⟩
 have hX3:=hX.later hb3
 have hR3:=hR0.later hb3
 have hbe3:=below_then hbe hb3 hbe.size
 have hgl:W.heap.size < w3.heap.size:=hR3.lt_
 generalize W.heap.size=gr at *
 clear x0 x1 x2 hX hR0 hbe hb3
 by_cases hz:lpErr p=0
 ·rw [hz]
  have HZ:=Lib.hid hz
  have HFT:=Lib.hid (HOK.out.2 hz)
  have hm:m≤7:=by rw [HM.out];exact HFT.out.2.1
  have HV0:Hid (vsErr p (startS p)=0):=Lib.hid (start_val p).vs
  have hmk:=make_ints m (by omega)
  have hO0:=IntsO.zeros w3 m (by unfold maxLen;omega)
  have hb4:=below_new w3 (.cells (zic m) 3)
  obtain ⟨W4,hW4⟩:∃W4,w3.alloc (.cells (zic m) 3)=W4:=⟨_,rfl⟩
  rw [hW4] at hO0 hb4
  obtain ⟨W5,hW5,hS5,hb5⟩:=box_st W4 (.int .i64 1) (.slice (some ⟨w3.heap.size,0,none⟩) m m) (.int .i64 0)
  have hbe4:=below_then hbe3 hb4 hbe3.size
  have hbe5:=below_then hbe4 hb5 hbe4.size
  have hX5:=(hX3.later hb4).later hb5
  have hR5:=(hR3.later hb4).later hb5
  have hO5:=(hO0.below hb5).monoB hbe3.size
  rw [← stL_zero] at hO5
  obtain ⟨x0,x1,x2⟩:=hX3.three
  obtain ⟨y0,y1,y2⟩:=hS5.three
  obtain ⟨f0,f1,f2⟩:=hS5.threeF
  have hgz:w.heap.size≤w3.heap.size:=hbe3.size
  have hgs:w.heap.size≤W4.heap.size:=hbe4.size
  have hgzs:w3.heap.size≤W4.heap.size:=hb4.size
  clear hz hO0 hb4 hb5 hbe4 hX3 hR3 hbe3
  go_wp2
  clear hW4 hW5 x0 x1 x2 y0 y1 y2 f0 f1 f2
  generalize W4.heap.size=gs at *
  generalize w3.heap.size=gz at *
  have kk:=KeepBut.setCell hS5 2 (.int .i64 0)
  have hS6:=hS5.set_ 2 (.int .i64 0)
  have hbe6:=hbe5.setCell (p:=⟨gs,2,none⟩) hgs (.int .i64 0)
  have hX6:=hX5.set_other (g:=gs) (by omega) 2 (.int .i64 0)
  have hR6:=hR5.set_other (g:=gs) (by omega) 2 (.int .i64 0)
  have hO6:=hO5.but kk (by decide)
  clear hX5 hR5 hO5 hbe5 kk hS5
  generalize W5.setCell ⟨gs,2,none⟩ (.int .i64 0)=W6 at *
  go_loopw [23] (fun x wr=>∃k:Nat,k≤m∧x= .int .i64 k∧Below w.heap.size w wr∧Bk wr w.heap.size 26 [.slice A n c,.slice A' n' c',.slice A'' m c'']∧Bk wr gr 29 [.int .i64 0,.slice none 0 0,.int .i64 0]∧Bk wr gs 29 [.int .i64 1,.slice (some ⟨gz,0,none⟩) m m,.int .i64 0]∧IntsO w.heap.size wr (.slice (some ⟨gz,0,none⟩) m m) (stL m k)) (fun x _=>m - (intOf x).toNat)
  case atStart=>exact ⟨0,by omega,rfl,hbe6,hX6,hR6,hS6,hO6⟩
  case round=>
   clear hbe6 hX6 hR6 hS6 hO6
   obtain ⟨k,hk,rfl,hbe,hX,hR,hS,hO⟩:=hrel
   obtain ⟨y0,y1,y2⟩:=hS.three
   rcases Nat.lt_or_ge k m with hkl | hkl
   ·have hkI:(k:Int) < m:=by omega
    have hzr: -9223372036854775808≤(-1 - (k:Int))∧(-1 - (k:Int))≤9223372036854775807:=by omega
    obtain ⟨t0,t1,-,-⟩:=hO.at_ (List.getElem?_eq_getElem (show k < (stL m k).length by rw [stL_length];exact hkl))
    obtain ⟨hO7,hk7⟩:=hO.set_ (k:=k) (by rw [stL_length];exact hkl) hzr.1 hzr.2
    rw [stL_next] at hO7
    have hX7:=hk7.bk hX (by decide)
    have hR7:=hk7.bk hR (by decide)
    have hS7:=hk7.bk hS (by decide)
    have hbe7:=hbe.setCell (p:=⟨gz,k,none⟩) hgz (.int .i64 (-1 - (k:Int)))
    clear hX hR hS hO hbe hk7
    go_wp2
    go_roundw
    case rel=>exact ⟨k+1,by omega,by go_num,hbe7,hX7,hR7,hS7,hO7⟩
    case measure=>simp [intOf];omega
   ·obtain rfl:m=k:=by omega
    rw [stL_all] at hO
    have hST:StM wr (.agg #[.int .i64 1,.slice (some ⟨gz,0,none⟩) m m,.int .i64 0]) (startS p):=⟨_,_,_,rfl,by show IntsM _ _ (artL p.right.length);rw [← HM.out];exact hO.ints⟩
    have HST:=Lib.hid hST
    have HRG:Hid (∀z∈(startS p).basis,-9223372036854775808≤z∧z≤9223372036854775807):=Lib.hid (by show ∀z∈artL p.right.length,_;rw [← HM.out];exact hO.2)
    obtain ⟨x0,x1,x2⟩:=hX.three
    clear hST hkl hk
    go_wp2_with fail
    refine (open_own _ _ p (startS p) K _ (HLP.out.below hbe) HST.out HOK.out.1 HOK.out.2 (by show (artL p.right.length).length≤_;rw [artL_length,← HM.out];omega) HRG.out).mono ?_
    rintro o w8 ⟨hb8,ho⟩
    rcases ho with ⟨he,-⟩ | ⟨-,he,-⟩ | ⟨-,-,e,rfl,hE⟩
    ·exact absurd HZ.out he
    ·exact absurd HV0.out he
    ·have hbe8:=below_then hbe hb8 hbe.size
     have hR8:=hR.later hb8
     have HE:=Lib.hid hE
     clear hE hX hR hS hO x0 x1 x2 y0 y1 y2 hb8 hbe
     go_wp2_with fail
     refine (state_any _ e p (settleQ p (startS p)) K _ HE.out HFT.out (start_val p).settle.fit).mono ?_
     rintro _ w9 ⟨v9,rfl,e9,hb9⟩
     obtain ⟨A9,n9,c9,rfl,hI9⟩:=e9
     have hbe9:=below_then hbe8 hb9 hbe8.size
     have hR9:=hR8.later hb9
     obtain ⟨c0,c1,c2⟩:=hR9.three
     obtain ⟨f0,f1,f2⟩:=hR9.threeF
     have HS:=Lib.hid (smSta_yes HZ.out)
     clear hR8
     have k0:=KeepBut.setCell hR9 0 (.int .i64 (settleQ p (startS p)).phase)
     have g0:=hR9.set_ 0 (.int .i64 (settleQ p (startS p)).phase)
     have k1:=KeepBut.setCell g0 1 (.slice A9 n9 c9)
     have g1:=g0.set_ 1 (.slice A9 n9 c9)
     have k2:=KeepBut.setCell g1 2 (.int .i64 (settleQ p (startS p)).pivots)
     have g2:=g1.set_ 2 (.int .i64 (settleQ p (startS p)).pivots)
     have hO9:=hI9.but ((k0.trans k1).trans k2) (by decide)
     have hbz:=((hbe9.setCell (p:=⟨gr,0,none⟩) hgr (.int .i64 (settleQ p (startS p)).phase)).setCell (p:=⟨gr,1,none⟩) hgr (.slice A9 n9 c9)).setCell (p:=⟨gr,2,none⟩) hgr (.int .i64 (settleQ p (startS p)).pivots)
     go_wp2
     refine ret_ct Tryz.results16 Tryz.underlying29 (by kernel_rfl) rfl g2 rfl ?_
     exact ⟨_,by rw [HZ.out];rfl,by rw [HS.out];exact ⟨A9,n9,c9,rfl,hO9.monoB hbe8.size⟩,hbz⟩
 ·have hne:(lpErr p !=0)=true:=by simpa using hz
  have HS:=Lib.hid (smSta_no hz)
  obtain ⟨c0,c1,c2⟩:=hR3.three
  obtain ⟨f0,f1,f2⟩:=hR3.threeF
  clear hz hX3 hgl HM
  obtain ⟨L,hL⟩:∃L,lpErr p=L:=⟨_,rfl⟩
  have HL:=Lib.hid hL
  rw [hL] at hne ⊢
  clear hL
  have k0:=KeepBut.setCell hR3 0 (.int .i64 0)
  have g0:=hR3.set_ 0 (.int .i64 0)
  have g1:=g0.set_ 1 (.slice none 0 0)
  have g2:=g1.set_ 2 (.int .i64 0)
  have hbz:=((hbe3.setCell (p:=⟨gr,0,none⟩) hgr (.int .i64 0)).setCell (p:=⟨gr,1,none⟩) hgr (.slice none 0 0)).setCell (p:=⟨gr,2,none⟩) hgr (.int .i64 0)
  go_wp2
  refine ret_ct Tryz.results16 Tryz.underlying29 (by kernel_rfl) rfl g2 rfl ?_
  exact ⟨_,by rw [HL.out];rfl,by rw [HS.out];exact ⟨none,0,0,rfl,IntsO.nil _ _⟩,hbz⟩
end Go.Proofs.YtncmobkhenfhpaaGreat
