/- Lemmas of the claim; no condition. -/
import Derived.Test.YtgdcbjligbnpgaaGreatH19
set_option linter.all false
set_option maxRecDepth 100000
set_option maxHeartbeats 40000000
namespace Go.Proofs.YtgdcbjligbnpgaaGreat
open Go.RowKit
open Pl
attribute [local go_sem ↓] Go.wp_at_zero Go.wp_at_succ
theorem diveRounds_any (v1 v2:Value) (z1 z2:List Int) (w:World) (h1:IntsM w v1 z1) (h2:IntsM w v2 z2):
 Calls Tryz.prog 7 #[v1,v2] w fun e w'=>e= .returned (.bool true)∧Below w.heap.size w w':=by
 have H2:=Lib.hid h2
 clear h2
 go_enter Tryz.func7,Tryz.ntmps7
 go_wp2_with fail
 refine (master_own v1 z1 w h1).mono ?_
 rintro _ w1 ⟨vm,m,rfl,hm,ok,_,hb1⟩
 obtain ⟨A,nr,c,A',n',c',A'',n'',c'',rfl,hR,hC,hT⟩:=id hm
 obtain ⟨s1,s2,s3⟩:=RdM.len hC
 have hn6':n'≤6:=by have:=ok.ncol;omega
 have HM1:=Lib.hid (And.intro hm hC)
 have HCN:=Lib.hid s1
 have HOK:=Lib.hid ok
 clear hm ok hR hC hT s1
 generalize m.fl=F at *
 generalize hPn:m.pen=P at *
 have HPN:=Lib.hid hPn
 clear hPn
 go_upto_region 2 with (fail)
 have hbm:=below_new w1 (.cells #[.int .i64 F,.slice A nr c,.int .i64 P,.slice A' n' c',.slice A'' n'' c''] 26)
 have hX:=Bk.new w1 26 [.int .i64 F,.slice A nr c,.int .i64 P,.slice A' n' c',.slice A'' n'' c'']
 have e:(#[.int .i64 F,.slice A nr c,.int .i64 P,.slice A' n' c',.slice A'' n'' c'']:Array Value)=[.int .i64 F,.slice A nr c,.int .i64 P,.slice A' n' c',.slice A'' n'' c''].toArray:=rfl
 rw [← e] at hX
 clear e
 have HM:=Lib.hid (And.intro (HM1.out.1.below hbm) (HM1.out.2.below hbm))
 have hbe:=below_then hb1 hbm hb1.size
 clear HM1 hb1 hbm
 generalize w1.alloc (.cells #[.int .i64 F,.slice A nr c,.int .i64 P,.slice A' n' c',.slice A'' n'' c''] 26)=W at *
 generalize w1.heap.size=gm at *
 obtain ⟨x0,x1,x2,x3,x4⟩:=hX.five
 go_wp2_with fail
 refine (values_own v2 z2 _ _ (H2.out.below hbe) (by omega) (by omega)).mono ?_
 rintro _ w2 ⟨v2',fs,rfl,hfs,hfl,hvs,hb2⟩
 rw [Int.toNat_natCast] at hfl
 obtain ⟨B,d,rfl,hd1,hd2⟩:=hfs.frs.shape
 have HFS0:=hfs.frs
 rw [hfl] at HFS0 ⊢
 have HFN:=Lib.hid hfl
 have hX2:=hX.later hb2
 have HM2:=Lib.hid (And.intro (HM.out.1.below hb2) (And.intro (HM.out.2.below hb2) HFS0))
 have HVS:=Lib.hid hvs
 have hbe2:=below_then hbe hb2 hbe.size
 clear x0 x1 x2 x3 x4 hX HM hbe hb2 hfs hvs hfl hd1 hd2 HFS0
 obtain ⟨x0,x1,x2,x3,x4⟩:=hX2.five
 go_wp2_with fail
 refine (greedy_own _ _ m fs _ HM2.out.1 HOK.out HM2.out.2.2 (by rw [HFN.out];exact HCN.out) HVS.out).mono ?_
 rintro _ w3 ⟨v3,rfl,h3,hb3⟩
 have hX3:=hX2.later hb3
 have HM3:=Lib.hid (And.intro (HM2.out.1.below hb3) (And.intro (HM2.out.2.1.below hb3) (HM2.out.2.2.below hb3)))
 have hbe3:=below_then hbe2 hb3 hbe2.size
 obtain ⟨A3,c3,rfl,hc1,hc2⟩:=h3.ints.shape
 obtain ⟨q,hq⟩:∃q,q=(greedyP m fs).length:=⟨_,rfl⟩
 have H30:=h3.ints
 rw [← hq] at H30 hc1 ⊢
 have HQ:=Lib.hid hq
 have H3:=Lib.hid H30
 have HSEL:=Lib.hid (greedy_sel HOK.out fs)
 have HHIT:=Lib.hid (fun x hx hc=>greedy_hit HOK.out fs (x:=x) hx hc)
 have hq6:q≤6:=by have:=asc_len HSEL.out.rg HSEL.out.asc;rw [dcs_len,← HCN.out] at this;omega
 clear x0 x1 x2 x3 x4 hX2 HM2 hbe2 hb3 h3 hq H30 hc1 hc2
 generalize greedyP m fs=xs at *
 have HE:Hid (selErr (dcs m) xs=0):=Lib.hid HSEL.out.err
 obtain ⟨x0,x1,x2,x3,x4⟩:=hX3.five
 go_wp2_with fail
 refine (cost27_any _ _ m xs _ HM3.out.1 HOK.out H3.out).mono ?_
 rw [HE.out]
 rintro _ w4 ⟨rfl,hb4⟩
 have hX4:=hX3.later hb4
 have HM4:=Lib.hid (And.intro (HM3.out.2.1.below hb4) (And.intro (HM3.out.2.2.below hb4) (H3.out.below hb4)))
 have hbe4:=below_then hbe3 hb4 hbe3.size
 clear x0 x1 x2 x3 x4 hX3 HM3 hbe3 hb4 H3 HE
 obtain ⟨x0,x1,x2,x3,x4⟩:=hX4.five
 go_wp2
 clear x0 x1 x2 x3 x4
 generalize w4=wa at *
 go_loopw [11] (fun x wr=>∃j:Nat,j≤n'∧x= .int .i64 j∧Below wa.heap.size wa wr) (fun x _=>n' - (intOf x).toNat)
 case atStart=>exact ⟨0,by omega,rfl,Below.refl _ _⟩
 case round=>
  obtain ⟨j,hj,rfl,hb⟩:=hrel
  have hB:=hX4.later hb
  obtain ⟨x0,x1,x2,x3,x4⟩:=hB.five
  rcases Nat.lt_or_ge j n' with hjl | hjl
  ·have hjz:(j:Int) < n':=by omega
   obtain ⟨cl,hcl⟩:∃cl,m.cols[j]? =some cl:=⟨m.cols[j]'(by rw [← HCN.out];exact hjl),List.getElem?_eq_getElem _⟩
   obtain ⟨fj,hfj⟩:∃f,fs[j]? =some f:=⟨fs[j]'(by rw [HFN.out];exact hjl),List.getElem?_eq_getElem _⟩
   obtain ⟨b1,off1,sb1,A1,n1,c1,hA1,_,e0,e1,e2,hD⟩:=HM4.out.1.elem hb hcl
   subst hA1
   have HOL:=Lib.hid (HOK.out.opl (List.mem_of_getElem? hcl))
   have HCL:=Lib.hid (And.intro hcl hfj)
   clear hcl hfj
   go_wp2_with fail
   refine (operated27_own sb1 A1 n1 c1 cl.dut _ hD (by have:=HOL.out;unfold Cl.ops at this;omega)).mono ?_
   rintro _ w5 ⟨v5,rfl,h5,hb5⟩
   obtain ⟨A5,t,c5,rfl⟩:=h5.sliceN
   have ht:=h5.len
   have HT:=Lib.hid ht
   have ht6:t≤6:=by have:=HOL.out;rw [show cl.ops.length=t from ht.symm] at this;omega
   have hb15:=below_then hb hb5 hb.size
   have HI5:Hid (IntsM w5 (.slice A5 t c5) cl.ops):=Lib.hid h5.ints
   clear x0 x1 x2 x3 x4 e0 e1 e2 hD hb hb5 hB h5 ht
   go_wp2
   generalize w5=wo at *
   go_loopw [13,14] (fun s13 x wq=>∃(i:Nat) (bb:Bool),i≤q∧x= .int .i64 i∧s13= .bool bb∧Below wo.heap.size wo wq∧Hid (bb=false→∀y∈xs.take i,∀f∈cl.ops,f ∉ opI m y)) (fun _ x _=>q - (intOf x).toNat)
   case atStart=>exact ⟨0,false,by omega,rfl,rfl,Below.refl _ _,Lib.hid (fun _ y hy=>by simp at hy)⟩
   case round=>
    obtain ⟨i,bb,hi,rfl,rfl,hbq,HV⟩:=hrel
    have hbt:=below_then hb15 hbq hb15.size
    have hB:=hX4.later hbt
    obtain ⟨x0,x1,x2,x3,x4⟩:=hB.five
    rcases Nat.lt_or_ge i q with hil | hil
    ·have hiz:(i:Int) < q:=by omega
     obtain ⟨b2,o2,y,hA2,hcell,hy,yb0,yb1⟩:=HM4.out.2.2.elem hbt hil
     subst hA2
     obtain ⟨i0,i1⟩:=HSEL.out.rg y (List.mem_of_getElem? hy)
     rw [dcs_len,← HCN.out] at i1
     have hyn:y.toNat < n':=by omega
     obtain ⟨cy,hcy⟩:=col_in HSEL.out.rg (List.mem_of_getElem? hy)
     obtain ⟨b1',off1',sb,A6,n6,c6,hA1',_,e0,e1,e2,hD⟩:=HM4.out.1.elem hbt hcy
     injection hA1' with hA1'
     injection hA1' with t1 t2 _
     subst t1 t2
     have HY:=Lib.hid (And.intro hy (opI_of hcy))
     have HD:=Lib.hid hD
     have HOY:=Lib.hid (HOK.out.opl (List.mem_of_getElem? hcy))
     clear hy hcy hD
     go_upto_region 15 with (fail)
     have C0:=stab hcell
     have C1:=stab x3
     have C2:=stab e0
     have C3:=stab e1
     have C4:=stab e2
     have hS0:=below_drew' wr
     clear hcell x0 x1 x2 x3 x4 e0 e1 e2
     refine region_seq 11 [0,1,2,3,4,5,6,7,8,9,10] (by kernel_rfl) (by kernel_rfl) ?_
     repeat ((first | (refine seq_takeP (v:=?_) rfl rfl rfl ?_ ?_;rotate_left;(· (intro _ hSw;go_simp;(try go_bits);(try with_reducible rfl)))) | (refine seq_take (v:=?_) rfl rfl rfl ?_ ?_;rotate_left;(· (intro _ hSw;go_simp;(try go_bits);(try with_reducible rfl)))) | refine seq_skip rfl rfl rfl ?_);(try simp only [Act.put,pu1,pu2,pu3,pu4,pu5,pu6]))
     refine seq_step rfl rfl (fun KR hKR=>?_)
     go_simp
     with_reducible refine (operated27_own sb A6 n6 c6 cy.dut _ (HD.out.below hS0) (by have:=HOY.out;unfold Cl.ops at this;omega)).mono ?_
     rintro _ w6 ⟨v6,rfl,h6,hb6⟩
     have hS6:=below_then hS0 hb6 hS0.size
     have H6:Hid (IntsM w6 v6 cy.ops):=Lib.hid h6.ints
     clear h6
     refine hKR.out _ _ (Or.inr hS6) ?_
     clear hKR KR
     (try simp only [Act.put,pu1,pu2,pu3,pu4,pu5,pu6])
     repeat ((first | (refine seq_takeP (v:=?_) rfl rfl rfl ?_ ?_;rotate_left;(· (intro _ hSw;go_simp;(try go_bits);(try with_reducible rfl)))) | (refine seq_take (v:=?_) rfl rfl rfl ?_ ?_;rotate_left;(· (intro _ hSw;go_simp;(try go_bits);(try with_reducible rfl)))) | refine seq_skip rfl rfl rfl ?_);(try simp only [Act.put,pu1,pu2,pu3,pu4,pu5,pu6]))
     refine seq_done ?_
     have hbq6:=below_then hbq hS6 hbq.size
     clear C0 C1 C2 C3 C4 hS0 hS6 hb6 hB hbt hbq
     go_wp2
     generalize w6=wp at *
     go_loopw [13,16] (fun s13 x wz=>∃(k:Nat) (cb:Bool),k≤t∧x= .int .i64 k∧s13= .bool cb∧Below wp.heap.size wp wz∧Hid (cb=false→bb=false∧∀f∈cl.ops.take k,f ∉ cy.ops)) (fun _ x _=>t - (intOf x).toNat)
     case atStart=>exact ⟨0,bb,by omega,rfl,rfl,Below.refl _ _,Lib.hid (fun h=>⟨h,fun f hf=>by simp at hf⟩)⟩
     case round=>
      obtain ⟨k,cb,hk,rfl,rfl,hbz,HC⟩:=hrel
      rcases Nat.lt_or_ge k t with hkl | hkl
      ·have hkz:(k:Int) < t:=by omega
       obtain ⟨b4,o4,f,hA4,hcell,hf,fb0,fb1⟩:=HI5.out.elem (below_then hbq6 hbz hbq6.size) hkl
       subst hA4
       have HF:=Lib.hid hf
       clear hf
       cases cb
       ·go_wp2_with fail
        refine (has_any _ cy.ops f _ (H6.out.below hbz)).mono ?_
        rintro _ w7 ⟨rfl,hb7⟩
        have hbz7:=below_then hbz hb7 hbz.size
        clear hbz hb7 hcell
        generalize hd:decide (f∈cy.ops)=dd at *
        have HDD:=Lib.hid hd
        clear hd
        have HN:Hid (dd=false→bb=false∧∀f∈cl.ops.take (k+1),f ∉ cy.ops):=Lib.hid (fun h=>⟨(HC.out trivial).1,fun g hg=>by
         rcases (mem_take_succ HF.out).1 hg with e | e
         ·exact (HC.out trivial).2 g e
         ·subst e;exact of_decide_eq_false (HDD.out.trans h)⟩)
        go_wp2
        go_roundw
        case rel=>exact ⟨k+1,dd,by omega,by go_num,rfl,hbz7,HN⟩
        case measure=>simp [intOf];omega
       ·go_wp2
        go_roundw
        case rel=>exact ⟨k+1,true,by omega,by go_num,rfl,hbz,Lib.hid (fun h=>by cases h)⟩
        case measure=>simp [intOf];omega
      ·obtain rfl:t=k:=by omega
       have hbq7:=below_then hbq6 hbz hbq6.size
       have HN:Hid (cb=false→∀y∈xs.take (i+1),∀f∈cl.ops,f ∉ opI m y):=Lib.hid (fun h y' hy'=>by
        have h1:=HC.out h
        rcases (mem_take_succ HY.out.1).1 hy' with e | e
        ·exact HV.out h1.1 y' e
        ·subst e
         rw [HY.out.2]
         have h2:=h1.2
         rwa [show cl.ops.take t=cl.ops from take_all HT.out] at h2)
       clear hbq6 hbz
       go_wp2
       go_roundw
       case rel=>exact ⟨i+1,cb,by omega,by go_num,rfl,hbq7,HN⟩
       case measure=>simp [intOf];omega
    ·obtain rfl:q=i:=by omega
     obtain ⟨b2,off2,A6,n6,c6,A7,n7,c7,hA',hbl,⟨q0,q1,q2,q3⟩,ey⟩:=HM4.out.2.1.elem hbt HCL.out.2
     subst hA'
     obtain ⟨b1',off1',sb,A8,n8,c8,hA1',_,e0,e1,e2,hD⟩:=HM4.out.1.elem hbt HCL.out.1
     injection hA1' with hA1'
     injection hA1' with t1 t2 _
     subst t1 t2
     clear hD
     have HEJ:=Lib.hid ey
     have HVJ:=Lib.hid (HVS.out fj (List.mem_of_getElem? HCL.out.2)).shs
     have HNO:Hid (bb=false→decide (0 < qs fj.q)=false∧¬cl.cost < P * t):=Lib.hid (fun hbb=>by
      have hx:=dcs_at HCL.out.1
      have hm:(dcol m j cl).mask &&& orI (dcs m) xs=0:=by
       have h1:=(used_iff HOK.out HSEL.out.rg (x:=(j:Int)) (by simpa using HCL.out.1)).2 fun f hf hf'=>by
        unfold usedL at hf'
        obtain ⟨y,hy,hfy⟩:=List.mem_flatMap.1 hf'
        exact HV.out hbb y (by rw [take_all HQ.out];exact hy) f hf hfy
       rw [mkI_of hx] at h1
       exact h1
      have hc:¬(hiB fs (dcol m j cl)=true∨loB (dcol m j cl)=true):=fun hc=>HHIT.out _ (List.mem_of_getElem? hx) hc hm
      have hh:=hiB_at (x:=dcol m j cl) (fs:=fs) (f:=fj) HCL.out.2
      refine ⟨?_,?_⟩
      ·rw [← hh]
       cases hz:hiB fs (dcol m j cl)
       ·rfl
       ·exact absurd (.inl hz) hc
      ·intro hlt
       refine hc (.inr ?_)
       unfold loB
       refine decide_eq_true ?_
       show cl.cost - m.pen * cl.ops.length < 0
       rw [HPN.out,show cl.ops.length=t from HT.out.symm]
       omega)
     have hpm:0≤P * t∧P * t≤1000:=by
      have a:=Int.mul_nonneg (show 0≤P by rw [← HPN.out];exact HOK.out.pen0) (show (0:Int)≤t by omega)
      have b:=Int.mul_le_mul (show P≤30 by rw [← HPN.out];exact HOK.out.pen1) (show (t:Int)≤6 by omega) (by omega) (by omega)
      omega
     clear ey HV
     cases bb with
     | true=>
      go_upto_region 20 with (fail)
      have C2:=stab x2
      have C3:=stab x3
      have hS0:=below_drew' wr
      clear x0 x1 x2 x3 x4 e0 e1 e2 q0 q1 q2 q3
      refine region_seq 24 [0,1,2,3,4,5,6,7,8,9,10,11,12,13,14,15,16,17,18,19,20,21,22,23] (by kernel_rfl) (by kernel_rfl) ?_
      repeat ((first | (refine seq_takeP (v:=?_) rfl rfl rfl ?_ ?_;rotate_left;(· (intro _ hSw;go_simp;(try go_bits);(try with_reducible rfl)))) | (refine seq_take (v:=?_) rfl rfl rfl ?_ ?_;rotate_left;(· (intro _ hSw;go_simp;(try go_bits);(try with_reducible rfl)))) | refine seq_skip rfl rfl rfl ?_ | refine seq_skipc rfl rfl rfl (by assumption) ?_);(try simp only [Act.put,pu1,pu2,pu3,pu4,pu5,pu6]))
      refine seq_done ?_
      have hbt7:=below_then hbt hS0 hbt.size
      clear C2 C3 hS0 hbt hbq hB
      go_wp2
      go_roundw
      case rel=>exact ⟨j+1,by omega,by go_num,hbt7⟩
      case measure=>simp [intOf];omega
     | false=>
      obtain ⟨d0,d1⟩:=HNO.out rfl
      have d2:decide (cl.cost < P * t)=false:=decide_eq_false d1
      clear HNO d1
      go_upto_region 20 with (fail)
      have C2:=stab x2
      have C3:=stab x3
      have E2:=stab e2
      have Q0:=stab q0
      have Q1:=stab q1
      have Q2:=stab q2
      have Q3:=stab q3
      have hS0:=below_drew' wr
      clear x0 x1 x2 x3 x4 e0 e1 e2 q0 q1 q2 q3
      refine region_seq 24 [0,1,2,3,4,5,6,7,8,9,10,11,12,13,14,15,16,17,18,19,20,21,22,23] (by kernel_rfl) (by kernel_rfl) ?_
      repeat ((first | (refine seq_takeP (v:=?_) rfl rfl rfl ?_ ?_;rotate_left;(· (intro _ hSw;go_simp;(try go_bits);(try with_reducible rfl)))) | (refine seq_take (v:=?_) rfl rfl rfl ?_ ?_;rotate_left;(· (intro _ hSw;go_simp;(try go_bits);(try with_reducible rfl)))) | refine seq_skip rfl rfl rfl ?_ | refine seq_skipc rfl rfl rfl (by assumption) ?_);(try simp only [Act.put,pu1,pu2,pu3,pu4,pu5,pu6]))
      refine seq_step rfl rfl (fun KR hKR=>?_)
      go_simp
      with_reducible refine (rsignF_any _ fj _ (HEJ.out.below hS0) HVJ.out.1).mono ?_
      rintro _ w7 ⟨rfl,hb7⟩
      have hS7:=below_then hS0 hb7 hS0.size
      refine hKR.out _ _ (Or.inr hS7) ?_
      clear hKR KR
      (try simp only [Act.put,pu1,pu2,pu3,pu4,pu5,pu6])
      repeat ((first | (refine seq_takeP (v:=?_) rfl rfl rfl ?_ ?_;rotate_left;(· (intro _ hSw;go_simp;(try go_bits);(try with_reducible rfl)))) | (refine seq_take (v:=?_) rfl rfl rfl ?_ ?_;rotate_left;(· (intro _ hSw;go_simp;(try go_bits);(try with_reducible rfl)))) | refine seq_skip rfl rfl rfl ?_ | refine seq_skipc rfl rfl rfl (by assumption) ?_);(try simp only [Act.put,pu1,pu2,pu3,pu4,pu5,pu6]))
      refine seq_done ?_
      have hbt7:=below_then hbt hS7 hbt.size
      clear C2 C3 E2 Q0 Q1 Q2 Q3 hS0 hS7 hb7 hbt hbq hB
      go_wp2
      go_roundw
      case rel=>exact ⟨j+1,by omega,by go_num,hbt7⟩
      case measure=>simp [intOf];omega
  ·obtain rfl:n'=j:=by omega
   have hbr:=below_then hbe4 hb hbe4.size
   go_wp2_with fail
   refine (known_any _).mono ?_
   rintro _ w6 ⟨rfl,hb6⟩
   have hb7:=below_then hbr hb6 hbr.size
   go_wp2
   go_ret
   exact ⟨rfl,hb7⟩
end Go.Proofs.YtgdcbjligbnpgaaGreat
