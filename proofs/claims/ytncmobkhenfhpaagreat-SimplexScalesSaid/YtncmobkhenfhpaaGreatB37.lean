/- Contracts and plain facts that the claim is built on, joined out of smaller texts; no condition. -/
import Derived.Test.YtncmobkhenfhpaaGreatB33
set_option linter.unusedVariables false
set_option linter.unusedSimpArgs false
set_option maxRecDepth 100000
set_option maxHeartbeats 40000000
namespace Go.Proofs.YtncmobkhenfhpaaGreat
open Go.RowKit
open Pl
attribute [local go_sem ↓] Go.wp_at_zero Go.wp_at_succ
section
attribute [local irreducible] wpAlone
theorem factorize_own (v:Value) (n K:Nat) (Cs:Mx) (w:World) (h:VecsM w v (vcL n Cs)) (hn:n≤7) (hK:1≤K) (hE:5^n * K≤4000000) (hs:∀r c,r < n→c < n→Sz K (Cs c r)):
 Calls Tryz.prog 116 #[v] w (FcPost n K Cs w):=by
 obtain ⟨A,c,rfl,hc1,hc2⟩:=h.shape
 rw [vcL_length] at h hc1 ⊢
 have HV:=Lib.hid h
 have HSZ:=Lib.hid hs
 have HK:=Lib.hid hK
 have HE:=Lib.hid hE
 have hmk1:=make_rows n (by omega)
 have hmk2:=make_ints n (by omega)
 obtain ⟨W,hW,hB2,hbW⟩:∃W,w.alloc (.cells #[.slice none 0 0,.slice none 0 0,.slice none 0 0,.slice none 0 0] 137)=W∧Bk W w.heap.size 137 [.slice none 0 0,.slice none 0 0,.slice none 0 0,.slice none 0 0]∧Below w.heap.size w W:=⟨_,rfl,Bk.new w _ _,below_new w _⟩
 have HB2:=Lib.hid hB2
 have HWS:Hid (W.heap.size≤W.heap.size):=Lib.hid (Nat.le_refl _)
 clear h hs hB2 hK hE
 go_enter Tryz.func116,Tryz.ntmps116
 go_upto_region 2 with (fail)
 clear hW
 go_cut [5] (fun s5 wx=>MadeEl W n s5 wx)
 case first=>
  refine region_plan 9 (.go 0 (.go 1 (.go 3 (.go 5 (.bag [2,4,6,7,8] (.go 9 .done)))))) (by kernel_rfl) (by kernel_rfl) ?_
  repeat ((first | (refine plan_takeP (v:=?_) rfl rfl rfl ?_ ?_;rotate_left;(· (intro _ hSw;go_simp;(try go_bits);(try with_reducible rfl)))) | (refine plan_take (v:=?_) rfl rfl rfl ?_ ?_;rotate_left;(· (intro _ hSw;go_simp;(try go_bits);(try with_reducible rfl)))) | refine plan_skip rfl rfl rfl ?_ | refine plan_skipc rfl rfl rfl (by assumption) ?_);(try simp only [Act.put,pu1,pu2,pu3,pu4,pu5,pu6]))
  refine plan_bagS 29 31 33 34 5 _ _ _ _ _ (MkR W n) rfl (by decide) ⟨below_drew' W,fun h=>h.elim,fun h=>h.elim,fun h=>h.elim,fun h=>h.elim,fun h=>h.elim,fun h=>h.elim⟩ (List.forall_mem_cons.2 ⟨?_,List.forall_mem_cons.2 ⟨?_,List.forall_mem_cons.2 ⟨?_,List.forall_mem_cons.2 ⟨?_,List.forall_mem_cons.2 ⟨?_,fun _ h=>absurd h List.not_mem_nil⟩⟩⟩⟩⟩) ?_
  ·refine BagStep.mk rfl fun D s1 s2 s3 s4 s5 wx b hbb hnd hdep hR KR hKR=>?_
   simp only [put5,Act.put,List.setIfInBounds_toArray,List.set_cons_zero,List.set_cons_succ] at hbb
   subst hbb
   go_simp
   have hN:=hR.set2 (by unfold maxLen;omega) hnd
   exact hKR.out _ _ (Or.inr hN.1) ⟨_,s2,s3,s4,s5,rfl,hN⟩
  ·refine BagStep.mk rfl fun D s1 s2 s3 s4 s5 wx b hbb hnd hdep hR KR hKR=>?_
   simp only [put5,Act.put,List.setIfInBounds_toArray,List.set_cons_zero,List.set_cons_succ] at hbb
   subst hbb
   go_simp
   have hN:=hR.set4 (by unfold maxLen;omega) hnd
   exact hKR.out _ _ (Or.inr hN.1) ⟨s1,_,s3,s4,s5,rfl,hN⟩
  ·refine BagStep.mk rfl fun D s1 s2 s3 s4 s5 wx b hbb hnd hdep hR KR hKR=>?_
   simp only [put5,Act.put,List.setIfInBounds_toArray,List.set_cons_zero,List.set_cons_succ] at hbb
   subst hbb
   go_simp
   have hN:=hR.set6 (by unfold maxLen;omega) hnd
   exact hKR.out _ _ (Or.inr hN.1) ⟨s1,s2,_,s4,s5,rfl,hN⟩
  ·refine BagStep.mk rfl fun D s1 s2 s3 s4 s5 wx b hbb hnd hdep hR KR hKR=>?_
   have d2:D 2:=hdep 2 (by decide) (by kernel_rfl)
   have d4:D 4:=hdep 4 (by decide) (by kernel_rfl)
   have d6:D 6:=hdep 6 (by decide) (by kernel_rfl)
   clear hdep
   obtain ⟨ga,rfl,_⟩:=hR.2.1 d2
   obtain ⟨gr,rfl,_⟩:=hR.2.2.1 d4
   obtain ⟨gc,rfl,_⟩:=hR.2.2.2.1 d6
   simp only [put5,Act.put,List.setIfInBounds_toArray,List.set_cons_zero,List.set_cons_succ] at hbb
   subst hbb
   go_simp
   have hN:=hR.set7 d2 d4 d6
   exact hKR.out _ _ (Or.inr hN.1) ⟨_,_,_,_,s5,rfl,hN⟩
  ·refine BagStep.mk rfl fun D s1 s2 s3 s4 s5 wx b hbb hnd hdep hR KR hKR=>?_
   simp only [put5,Act.put,List.setIfInBounds_toArray,List.set_cons_zero,List.set_cons_succ] at hbb
   subst hbb
   go_simp
   have hN:=hR.set8
   exact hKR.out _ _ (Or.inr hN.1) ⟨s1,s2,s3,s4,_,rfl,hN⟩
  ·intro D s1 s2 s3 s4 s5 wx hall hR
   obtain ⟨hb,p1,p2,p3,p4,p5,p6⟩:=hR
   obtain ⟨ga,rfl,hA⟩:=p1 (hall 2 (by decide))
   obtain ⟨gr,rfl,_,hI⟩:=p2 (hall 4 (by decide))
   obtain ⟨gc,rfl,_,hJ⟩:=p3 (hall 6 (by decide))
   obtain rfl:=(p4 (hall 7 (by decide))).2
   obtain ⟨ge,rfl,hge,hB⟩:=p5 (hall 8 (by decide))
   have hne:=p6 (hall 4 (by decide)) (hall 6 (by decide))
   obtain ⟨t0,t1,t2,t3⟩:=hB.four
   obtain ⟨f0,f1,f2,f3⟩:=hB.fourF
   simp only [put5,Act.put,List.setIfInBounds_toArray,List.set_cons_zero,List.set_cons_succ]
   refine plan_step rfl rfl (fun KR hKR=>?_)
   go_simp
   refine hKR.out _ _ (Or.inl (by decide)) ?_
   clear hKR KR
   refine plan_done ?_
   go_wp2_with fail
   go_meet
   have k1:=hB.but4 (.int .i64 (n:Int)) (.slice (some ⟨ga,0,none⟩) n n) (.slice (some ⟨gr,0,none⟩) n n) (.slice (some ⟨gc,0,none⟩) n n)
   exact ⟨ge,ga,gr,gc,rfl,fun e=>hne (by rw [e]),hB.set4 _ _ _ _,k1.own hA (by decide),hI.but k1 (by decide),hJ.but k1 (by decide),below_set4 hb hge _ _ _ _,hge⟩
 case rest=>
  obtain ⟨ge,ga,gr,gc,rfl,hgrc,hB,hA,hI,hJ,hbe,hge⟩:=hcut
  have hP0:PreAt W ge ga gr gc n 0 wc:=⟨fun _=>0,fun _=>0,hB,by rw [preR_zero];exact hA,fun r hr=>absurd hr (by omega),fun r s hr=>absurd hr (by omega),by rw [preI_zero];exact hI,by rw [preI_zero];exact hJ,hbe⟩
  have hmk3:=make_frac n (by omega)
  clear hB hA hI hJ hbe
  go_wp2
  go_loopw [36] (fun x wr=>∃i:Nat,i≤n∧x= .int .i64 i∧PreAt W ge ga gr gc n i wr) (fun x _=>n - (intOf x).toNat)
  case atStart=>exact ⟨0,by omega,rfl,hP0⟩
  case round=>
   clear hP0
   obtain ⟨i,hi,rfl,G,D,hB,hA,hR,hinj,hI,hJ,hbe⟩:=hrel
   rcases Nat.lt_or_ge i n with hil | hil
   ·have hiI:(i:Int) < n:=by omega
    obtain ⟨_,b1,_,_⟩:=hB.four
    obtain ⟨_,_,gab⟩:=row_block hA
    have HA:=Lib.hid hA
    have HB:=Lib.hid hB
    have HRR:=Lib.hid hR
    have HIJ:=Lib.hid hinj
    have HI:=Lib.hid hI
    have HJ:=Lib.hid hJ
    have hbz:=below_new wr.drew (.cells (zfc n) 48)
    have hOz:=FrsO.zeros wr.drew n (by unfold maxLen;omega)
    obtain ⟨W1,hW1⟩:∃W1,wr.drew.alloc (.cells (zfc n) 48)=W1:=⟨_,rfl⟩
    rw [hW1] at hbz hOz
    have hS1:Below wr.heap.size wr W1:=below_then (below_drew' wr) hbz (Nat.le_refl _)
    obtain ⟨m0,m1⟩:=row_cell (own_below hA hS1) (preR_get (G:=G) (D:=D) hil)
    clear hA hB hR hinj hI hJ hbz
    go_upto_region 6 with (fail)
    have C1:=stab b1
    have hS0:=below_drew' wr
    clear b1
    refine region_seq 6 [0,1,2,3,4,5,6] (by kernel_rfl) (by kernel_rfl) ?_
    repeat ((first | (refine seq_takeP (v:=?_) rfl rfl rfl ?_ ?_;rotate_left;(· (intro _ hSw;go_simp;(try go_bits);(try with_reducible rfl)))) | (refine seq_take (v:=?_) rfl rfl rfl ?_ ?_;rotate_left;(· (intro _ hSw;go_simp;(try go_bits);(try with_reducible rfl)))) | refine seq_skip rfl rfl rfl ?_);(try simp only [Act.put,pu1,pu2,pu3,pu4,pu5,pu6]))
    refine seq_step rfl rfl (fun KR hKR=>?_)
    go_simp
    refine hKR.out _ _ (Or.inr hS1) ?_
    clear hKR KR hW1
    (try simp only [Act.put,pu1,pu2,pu3,pu4,pu5,pu6])
    repeat ((first | (refine seq_takeP (v:=?_) rfl rfl rfl ?_ ?_;rotate_left;(· (intro _ hSw;go_simp;(try go_bits);(try with_reducible rfl)))) | (refine seq_take (v:=?_) rfl rfl rfl ?_ ?_;rotate_left;(· (intro _ hSw;go_simp;(try go_bits);(try with_reducible rfl)))) | refine seq_skip rfl rfl rfl ?_);(try simp only [Act.put,pu1,pu2,pu3,pu4,pu5,pu6]))
    refine seq_step rfl rfl (fun KR hKR=>?_)
    go_simp
    refine hKR.out _ _ (Or.inl (by decide)) ?_
    clear hKR KR
    (try simp only [Act.put,pu1,pu2,pu3,pu4,pu5,pu6])
    refine seq_done ?_
    clear C1
    have hA1:=own_below HA.out hS1
    have hA2:=row_set hA1 i (.slice (some ⟨wr.heap.size,0,none⟩) n n) (by rw [preR_length];exact hil)
    rw [preR_set hil] at hA2
    obtain ⟨_,hbk,_⟩:=row_block hA1
    have kb:=KeepBut.setCell hbk i (.slice (some ⟨wr.heap.size,0,none⟩) n n)
    have hB2':=kb.bk (HB.out.later hS1) (by decide)
    have hI2:=(HI.out.below hS1).but kb (by decide)
    have hJ2:=(HJ.out.below hS1).but kb (by decide)
    have hbe2:=(below_then hbe hS1 hbe.size).setCell (p:=⟨ga,i,none⟩) gab (.slice (some ⟨wr.heap.size,0,none⟩) n n)
    have hR2:∀r,r < i+1→FrsO W.heap.size (W1.setCell ⟨ga,i,none⟩ (.slice (some ⟨wr.heap.size,0,none⟩) n n)) (rowV n (putN G i wr.heap.size) (putN D i n) r) (rfL n fun _=>zeroF):=fun r hr=>by
     by_cases e:r=i
     ·subst e
      unfold rowV
      rw [putN_new,putN_new,← zeros_rfL]
      exact (FrsO.monoB hOz hbe.size).but kb (by decide) (by decide)
     ·unfold rowV
      rw [putN_old (by omega),putN_old (by omega)]
      exact ((HRR.out r (by omega)).below hS1).but kb (by decide) (by decide)
    have hij2:∀r s,r < i+1→s < i+1→putN G i wr.heap.size r=putN G i wr.heap.size s→r=s:=fun r s hr hs e=>by
     have hlt:∀q,q < i→G q < wr.heap.size:=fun q hq=>by
      obtain ⟨g,c,hv,_,h2,_⟩:=(HRR.out q hq).shape (by rw [rfL_length];omega)
      unfold rowV at hv
      injection hv with e1
      injection e1 with e1
      injection e1 with e1
      omega
     by_cases e1:r=i
     ·by_cases e2:s=i
      ·omega
      ·rw [e1,putN_new,putN_old (show s < i by omega)] at e
       have:=hlt s (by omega);omega
     ·by_cases e2:s=i
      ·rw [e2,putN_new,putN_old (show r < i by omega)] at e
       have:=hlt r (by omega);omega
      ·rw [putN_old (show r < i by omega),putN_old (show s < i by omega)] at e
       exact HIJ.out r s (by omega) (by omega) e
    have HR2:=Lib.hid hR2
    have HIJ2:=Lib.hid hij2
    clear hA1 hbk kb m0 m1 hS1 hOz hR2 hij2 hbe
    generalize W1.setCell ⟨ga,i,none⟩ (.slice (some ⟨wr.heap.size,0,none⟩) n n)=W3 at *
    obtain ⟨_,_,b2,b3⟩:=hB2'.four
    obtain ⟨x0,x1,_,_⟩:=hI2.at_ (preI_get hil)
    obtain ⟨y0,y1,_,_⟩:=hJ2.at_ (preI_get hil)
    obtain ⟨hI3,k3⟩:=hI2.set_ (k:=i) (z:= -1) (by rw [preI_length];exact hil) (by omega) (by omega)
    have hJ3:=hJ2.others (Others.of_set (g:=gr) (i:=i) (v:= .int .i64 (-1)) (w:=W3)) (fun b hb e=>by simp [Value.ownBlock] at hb;injection e with e;omega)
    obtain ⟨hJ4,k4⟩:=hJ3.set_ (k:=i) (z:= -1) (by rw [preI_length];exact hil) (by omega) (by omega)
    have hI4:=hI3.others (Others.of_set (g:=gc) (i:=i) (v:= .int .i64 (-1)) (w:=W3.setCell ⟨gr,i,none⟩ (.int .i64 (-1)))) (fun b hb e=>by simp [Value.ownBlock] at hb;injection e with e;omega)
    rw [preI_set hil] at hI4 hJ4
    have k5:=k3.trans k4
    have hbe5:=(hbe2.setCell (p:=⟨gr,i,none⟩) hI2.base (.int .i64 (-1))).setCell (p:=⟨gc,i,none⟩) hJ2.base (.int .i64 (-1))
    have hP5:PreAt W ge ga gr gc n (i+1) ((W3.setCell ⟨gr,i,none⟩ (.int .i64 (-1))).setCell ⟨gc,i,none⟩ (.int .i64 (-1))):=
     ⟨_,_,k5.bk hB2' (by decide),k5.own hA2 (by decide),fun r hr=>(HR2.out r hr).but k5 (by decide) (by decide),HIJ2.out,hI4,hJ4,hbe5⟩
    obtain ⟨y0',y1',_,_⟩:=hJ3.at_ (preI_get hil)
    clear hA2 hI2 hJ2 hI3 hJ3 hI4 hJ4 k3 k4 k5 hbe2 hbe5 hB2'
    go_wp2
    go_roundw
    case rel=>exact ⟨i+1,by omega,by go_num,hP5⟩
    case measure=>simp [intOf];omega
   ·obtain rfl:n=i:=by omega
    have hM:MatR W.heap.size wr (.slice (some ⟨ga,0,none⟩) n n) n n (fun _ _=>zeroF) G D:=⟨by rw [← preR_all];exact hA,hR,hinj⟩
    rw [preI_all,← posL_zero (R:=fun _=>0)] at hI hJ
    have hF:FilAt W ge ga gr gc n G D (posL n 0 fun _=>0) (posL n 0 fun _=>0) (fillQ (vcL n Cs) 0 0) wr:=⟨_,⟨hB,hM,hI,hJ,posL_length,posL_length⟩,fun i j _ _=> .inr ⟨rfl,fillQ_start _ _ _⟩,hbe⟩
    clear hA hR hinj hI hJ hM hB hmk3 hbe
    go_wp2
    go_loopw [56] (fun x wr=>∃k:Nat,k≤n∧x= .int .i64 k∧FilAt W ge ga gr gc n G D (posL n 0 fun _=>0) (posL n 0 fun _=>0) (fillQ (vcL n Cs) k 0) wr) (fun x _=>n - (intOf x).toNat)
    case atStart=>exact ⟨0,by omega,rfl,hF⟩
    case round=>
     clear hF
     obtain ⟨k,hk,rfl,hF⟩:=hrel
     rcases Nat.lt_or_ge k n with hkl | hkl
     ·obtain ⟨bc,oc,A1,c1,rfl,x0,hL⟩:=HV.out.vc (Below.refl _ _) hkl
      have hbx:=below_then hbW hF.choose_spec.2.2 hbW.size
      have y0:=cell_keep hbx x0
      have hkI:(k:Int) < n:=by omega
      have hpos:0 < n:=by omega
      obtain ⟨ln,hln⟩:∃ln,ln=(spV (Cs k) n).length:=⟨_,rfl⟩
      have HLN:=Lib.hid hln
      rw [← hln] at x0 y0 hL
      obtain ⟨-,hl1,hl2⟩:=hL.len
      have HL:=Lib.hid hL
      clear hL hln hbx x0
      go_wp2
      clear y0
      go_loopw [63] (fun x wr=>∃t:Nat,t≤ln∧x= .int .i64 t∧FilAt W ge ga gr gc n G D (posL n 0 fun _=>0) (posL n 0 fun _=>0) (fillQ (vcL n Cs) k t) wr) (fun x _=>ln - (intOf x).toNat)
      case atStart=>exact ⟨0,by omega,rfl,hF⟩
      case round=>
       clear hF
       obtain ⟨t,ht,rfl,hF⟩:=hrel
       rcases Nat.lt_or_ge t ln with htl | htl
       ·obtain ⟨e,he⟩:=get_someE (es:=spV (Cs k) n) (i:=t) (by rw [← HLN.out];exact htl)
        obtain ⟨i0,hi0,hei,hef,hne0⟩:=spV_mem he
        obtain ⟨b,off,A2,n2,c2,A3,n3,c3,rfl,_,⟨x0,x1,x2,x3,x4⟩,hmf⟩:=HL.out.elem (below_then hbW hF.choose_spec.2.2 hbW.size) he
        have HNX:Hid (∀i j,i < n→j < n→fillQ (vcL n Cs) k (t+1) i j=if i=i0∧j=k then Cs k i0 else fillQ (vcL n Cs) k t i j):=Lib.hid fun i j _ _=>by
         rw [fillQ_next (vcL_get hkl) (spV_Inc _ _) he hei,hef,canF_q]
        obtain ⟨ei,f⟩:=e
        simp only at *
        subst hei hef
        obtain ⟨W1,hW1,hV,hbn⟩:=box_en wr (.int .i64 (i0:Int)) (.bool (canF (Cs k i0)).num.neg) (.slice A2 n2 c2) (.bool (canF (Cs k i0)).den.neg) (.slice A3 n3 c3)
        obtain ⟨v0,v1,v2,v3,v4⟩:=hV.five
        have hF1:=hF.below hbn
        have hm1:=hmf.below hbn
        obtain ⟨M,⟨hB,hM,_⟩,_⟩:=id hF1
        obtain ⟨_,b1,_,_⟩:=hB.four
        obtain ⟨m1,_⟩:=hM.cellAt hi0
        unfold rowV at m1
        obtain ⟨l1,l2,l3,l4⟩:=hM.lt hi0 hpos
        obtain ⟨_,_,_,_,_,_,⟨c0,c1',c2',c3'⟩,_⟩:=hM.at_ hi0 hkl
        obtain ⟨f0,f1,f2,f3⟩:=hM.frozen hi0 hkl
        have hiI:(i0:Int) < n:=by omega
        clear hF hmf he hne0 hM hB hV hbn
        go_upto_region 15 with (fail)
        clear hW1
        have C0:=stab v0
        have C1:=stab v1
        have C2:=stab v2
        have C3:=stab v3
        have C4:=stab v4
        have D1:=stab b1
        have D2:=stab m1
        have hS0:=below_drew' W1
        clear v0 v1 v2 v3 v4 x0 x1 x2 x3 x4 b1 m1
        refine region_seq 10 [0,1,2,3,4,5,6,7,8,9,10] (by kernel_rfl) (by kernel_rfl) ?_
        repeat ((first | (refine seq_takeP (v:=?_) rfl rfl rfl ?_ ?_;rotate_left;(· (intro _ hSw;go_simp;(try go_bits);(try with_reducible rfl)))) | (refine seq_take (v:=?_) rfl rfl rfl ?_ ?_;rotate_left;(· (intro _ hSw;go_simp;(try go_bits);(try with_reducible rfl)))) | refine seq_skip rfl rfl rfl ?_);(try simp only [Act.put,pu1,pu2,pu3,pu4,pu5,pu6]))
        refine seq_step rfl rfl (fun KR hKR=>?_)
        go_simp
        refine hKR.out _ _ (Or.inl (by decide)) ?_
        clear hKR KR
        (try simp only [Act.put,pu1,pu2,pu3,pu4,pu5,pu6])
        refine seq_done ?_
        clear C0 C1 C2 C3 C4 D1 D2
        have hF2:=(hF1.below hS0).setM hi0 hkl (hm1.below hS0) HNX.out
        clear hF1 hm1 hS0 c0 c1' c2' c3' f0 f1 f2 f3
        go_wp2
        go_roundw
        case rel=>exact ⟨t+1,by omega,by go_num,hF2⟩
        case measure=>simp [intOf];omega
       ·obtain rfl:ln=t:=by omega
        have hF2:=hF.congr (Q':=fillQ (vcL n Cs) (k+1) 0) fun i j _ _=>by rw [HLN.out];exact fillQ_done (vcL_get hkl)
        clear hF
        go_wp2
        go_roundw
        case rel=>exact ⟨k+1,by omega,by go_num,hF2⟩
        case measure=>simp [intOf];omega
     ·obtain rfl:n=k:=by omega
      go_upto_region 18 with (fail)
      go_cut [11] (fun s11 wx=>MadeFc wr n s11 wx)
      case first=>
       refine region_plan 6 (.go 0 (.go 2 (.bag [1,3,4,5] (.go 6 .done)))) (by kernel_rfl) (by kernel_rfl) ?_
       repeat ((first | (refine plan_takeP (v:=?_) rfl rfl rfl ?_ ?_;rotate_left;(· (intro _ hSw;go_simp;(try go_bits);(try with_reducible rfl)))) | (refine plan_take (v:=?_) rfl rfl rfl ?_ ?_;rotate_left;(· (intro _ hSw;go_simp;(try go_bits);(try with_reducible rfl)))) | refine plan_skip rfl rfl rfl ?_ | refine plan_skipc rfl rfl rfl (by assumption) ?_);(try simp only [Act.put,pu1,pu2,pu3,pu4,pu5,pu6]))
       refine plan_bagS 80 82 83 11 4 _ _ _ _ _ (MkF wr n) rfl (by decide) ⟨below_drew' wr,fun h=>h.elim,fun h=>h.elim,fun h=>h.elim,fun h=>h.elim,fun h=>h.elim,rfl⟩ (List.forall_mem_cons.2 ⟨?_,List.forall_mem_cons.2 ⟨?_,List.forall_mem_cons.2 ⟨?_,List.forall_mem_cons.2 ⟨?_,fun _ h=>absurd h List.not_mem_nil⟩⟩⟩⟩) ?_
       ·refine BagStep.mk rfl fun D s1 s2 s3 s4 s5 wx b hbb hnd hdep hR KR hKR=>?_
        obtain rfl:=hR.2.2.2.2.2.2
        simp only [put5,Act.put,List.setIfInBounds_toArray,List.set_cons_zero,List.set_cons_succ] at hbb
        subst hbb
        go_simp
        have hN:=hR.set1 (by unfold maxLen;omega) hnd
        exact hKR.out _ _ (Or.inr hN.1) ⟨_,s2,s3,s4,_,rfl,hN⟩
       ·refine BagStep.mk rfl fun D s1 s2 s3 s4 s5 wx b hbb hnd hdep hR KR hKR=>?_
        obtain rfl:=hR.2.2.2.2.2.2
        simp only [put5,Act.put,List.setIfInBounds_toArray,List.set_cons_zero,List.set_cons_succ] at hbb
        subst hbb
        go_simp
        have hN:=hR.set3 (by unfold maxLen;omega) hnd
        exact hKR.out _ _ (Or.inr hN.1) ⟨s1,_,s3,s4,_,rfl,hN⟩
       ·refine BagStep.mk rfl fun D s1 s2 s3 s4 s5 wx b hbb hnd hdep hR KR hKR=>?_
        obtain rfl:=hR.2.2.2.2.2.2
        have d1:D 1:=hdep 1 (by decide) (by kernel_rfl)
        have d3:D 3:=hdep 3 (by decide) (by kernel_rfl)
        clear hdep
        obtain ⟨ga',rfl,_⟩:=hR.2.1 d1
        obtain ⟨gr',rfl,_⟩:=hR.2.2.1 d3
        simp only [put5,Act.put,List.setIfInBounds_toArray,List.set_cons_zero,List.set_cons_succ] at hbb
        subst hbb
        go_simp
        have hN:=hR.set4 d1 d3
        exact hKR.out _ _ (Or.inr hN.1) ⟨_,_,_,s4,_,rfl,hN⟩
       ·refine BagStep.mk rfl fun D s1 s2 s3 s4 s5 wx b hbb hnd hdep hR KR hKR=>?_
        obtain rfl:=hR.2.2.2.2.2.2
        simp only [put5,Act.put,List.setIfInBounds_toArray,List.set_cons_zero,List.set_cons_succ] at hbb
        subst hbb
        go_simp
        have hN:=hR.set5
        exact hKR.out _ _ (Or.inr hN.1) ⟨s1,s2,s3,_,_,rfl,hN⟩
       ·intro D s1 s2 s3 s4 s5 wx hall hR
        obtain ⟨hb,p1,p2,p3,p4,p5,rfl⟩:=hR
        obtain ⟨g0,rfl,_,hI⟩:=p1 (hall 1 (by decide))
        obtain ⟨g1,rfl,_,hJ⟩:=p2 (hall 3 (by decide))
        obtain rfl:=(p3 (hall 4 (by decide))).2
        obtain ⟨gf,rfl,hgf,hB⟩:=p4 (hall 5 (by decide))
        have hne:=p5 (hall 1 (by decide)) (hall 3 (by decide))
        obtain ⟨t0,t1,t2,t3⟩:=hB.four
        obtain ⟨f0,f1,f2,f3⟩:=hB.fourF
        simp only [put5,Act.put,List.setIfInBounds_toArray,List.set_cons_zero,List.set_cons_succ]
        refine plan_step rfl rfl (fun KR hKR=>?_)
        go_simp
        refine hKR.out _ _ (Or.inl (by decide)) ?_
        clear hKR KR
        refine plan_done ?_
        go_wp2_with fail
        go_meet
        have k1:=hB.but4 (.slice (some ⟨g0,0,none⟩) n n) (.slice (some ⟨g1,0,none⟩) n n) (.slice none 0 0) (.slice none 0 0)
        exact ⟨gf,g0,g1,rfl,fun e=>hne (by rw [e]),hB.set4 _ _ _ _,hI.but k1 (by decide),hJ.but k1 (by decide),below_set4 hb hgf _ _ _ _,hgf⟩
      case rest=>
       obtain ⟨gf,g0,g1,rfl,hg01,hB,hI,hJ,hbe,hgf⟩:=hcut
       have hF1:=hF.below hbe
       obtain ⟨_,⟨hB1,hM1,hI1,hJ1,hl1,hl2⟩,_,hbF⟩:=id hF
       have HG0:Hid (W.heap.size≤g0∧wr.heap.size≤g0∧gr < wr.heap.size∧gc < wr.heap.size):=Lib.hid ⟨Nat.le_trans hbF.size hI.base,hI.base,own_lt' hI1.1 gr rfl,own_lt' hJ1.1 gc rfl⟩
       have HG1:Hid (W.heap.size≤g1∧wr.heap.size≤g1∧gr < wr.heap.size∧gc < wr.heap.size):=Lib.hid ⟨Nat.le_trans hbF.size hJ.base,hJ.base,own_lt' hI1.1 gr rfl,own_lt' hJ1.1 gc rfl⟩
       have hga:=own_lt' hM1.1 ga rfl
       have HGF:Hid (W.heap.size≤gf):=Lib.hid (Nat.le_trans hbF.size hgf)
       have hbs:=hbe.size
       have HGT:Hid (W.heap.size≤wc.heap.size∧ga < wc.heap.size):=Lib.hid ⟨by have:=hbF.size;omega,by omega⟩
       have hz:=own_nils 23 wc n (by unfold maxLen;omega)
       have hbz:=below_new wc (.cells (zvc n) 23)
       have hL0:LupAt W ge ga gr gc gf g0 g1 wc.heap.size n K 0 G D (trM Cs) (wc.alloc (.cells (zvc n) 23)):=by
        refine ⟨trM Cs,fun _ _=>0,fun _=>0,fun _=>0,fun _=>0,fun _=>0,(hF1.below hbz).congr fun i j hi hj=>?_,LuInv.start _ _ _ _ _,fun i j hi hj=>by rw [Nat.pow_zero,Nat.one_mul];exact HSZ.out i j hi hj,fun s i hs=>absurd hs (by omega),hB.later hbz,?_,?_,?_,fun _ _=>zeroF,fun s hs=>absurd hs (by omega)⟩
        ·rw [fillQ_all hj,show (vcL n Cs).getD j []=spV (Cs j) n by simp [List.getD,vcL_get hj],spV_dQ,if_pos hi];rfl
        ·rw [← pstL_zero];exact (hI.below hbz).monoB hbF.size
        ·rw [← pstL_zero];exact (hJ.below hbz).monoB hbF.size
        ·rw [preR_zero];exact row_mono hz (Nat.le_trans hbF.size hbs)
       clear hB hI hJ hbe hF1 hB1 hM1 hI1 hJ1 hl1 hl2 hbF hz hbz hF hga hbs
       go_wp2
       generalize wc.heap.size=gt at *
       generalize wc.alloc (.cells (zvc n) 23)=W5 at *
       go_loopw [87] (fun x wr=>∃t:Nat,t≤n∧x= .int .i64 t∧LupAt W ge ga gr gc gf g0 g1 gt n K t G D (trM Cs) wr) (fun x _=>n - (intOf x).toNat)
       case atStart=>exact ⟨0,by omega,rfl,hL0⟩
       case round=>
        clear hL0
        obtain ⟨t,ht,rfl,hL⟩:=hrel
        rcases Nat.lt_or_ge t n with htl | htl
        ·obtain ⟨a,m,R,C,Ff,E,hF,hLI,hsA,hsM,hR⟩:=hL
         obtain ⟨M,hE,hT,hb⟩:=id hF
         have HF:=Lib.hid hF
         have HR:=Lib.hid hR
         have HLI:=Lib.hid hLI
         have HSA:=Lib.hid hsA
         have HSM:=Lib.hid hsM
         have HT:=Lib.hid hT
         have HGL:Hid (∀i,i < n→G i < wr.heap.size):=Lib.hid fun i hi=>(hE.2.1.lt hi (by omega)).2.1
         have hbw:=below_then hbW hb hbW.size
         have htI:(t:Int) < n:=by omega
         clear hF hLI hsA hsM hR hT hb
         go_wp2_with fail
         refine (choose_own W.heap.size ge n _ _ _ M G D _ _ _ hE (by omega)).mono ?_
         rintro _ w1 ⟨r0,c0,ok,rfl,hok,hno,hb1⟩
         clear hE
         cases ok with
         | false=>
          have hdep:¬Indep n Cs:=HLI.out.dep htl fun i j hi hj h1 h2=>by
           have hz:=hno rfl i j hi hj
           unfold actB at hz
           rw [posL_getD hi,posL_getD hj,decide_eq_true (posI_neg.2 h1),decide_eq_true (posI_neg.2 h2)] at hz
           simp only [Bool.true_and,decide_eq_false_iff_not] at hz
           by_cases e:a i j=0
           ·exact e
           ·exact absurd ((HT.out i j hi hj).len.2 e) hz
          have hB3:=HB2.out.later (below_then (HF.out.choose_spec.2.2.mono HWS.out) hb1 (Nat.le_trans HWS.out HF.out.choose_spec.2.2.size))
          have hbz:=below_then hbw hb1 hbw.size
          obtain ⟨t0,t1,t2,t3⟩:=hB3.four
          obtain ⟨f0,f1,f2,f3⟩:=hB3.fourF
          clear hok hno hbw
          go_wp2
          refine ret_ct Tryz.results116 Tryz.underlying137 (by kernel_rfl) rfl (hB3.set4 _ _ _ _) rfl ?_
          exact ⟨below_set4 hbz (Nat.le_refl _) _ _ _ _,.inr ⟨rfl,hdep⟩⟩
         | true=>
          obtain ⟨r,c,rfl,rfl,hr,hc,hact⟩:=hok rfl
          unfold actB at hact
          rw [posL_getD hr,posL_getD hc,Bool.and_eq_true,Bool.and_eq_true,decide_eq_true_eq,decide_eq_true_eq,decide_eq_true_eq] at hact
          obtain ⟨ha1,ha2,ha3⟩:=hact
          have HRF:=Lib.hid (posI_neg.1 ha1)
          have HCF:=Lib.hid (posI_neg.1 ha2)
          have HP:=Lib.hid ((HT.out r c hr hc).len.1 ha3)
          have hrI:(r:Int) < n:=by omega
          have hcI:(c:Int) < n:=by omega
          clear ha1 ha2 ha3 hok hno
          have hF1:=HF.out.below hb1
          have hR1:=HR.out.below hb1
          obtain ⟨hR2,k2⟩:=hR1.set0 hg01 (k:=t) (z:=(r:Int)) (by rw [pstL_length];exact htl) (by omega) (by omega)
          obtain ⟨hR3,k3⟩:=hR2.set1 hg01 (k:=t) (z:=(c:Int)) (by rw [pstL_length];exact htl) (by omega) (by omega)
          rw [pstL_set htl] at hR2 hR3
          rw [pstL_set htl] at hR3
          have hF2:=hF1.farI k2 HG0.out.1 (by have:=HG0.out;omega) (by have:=HG0.out;omega)
          have hF3:=hF2.farI k3 HG1.out.1 (by have:=HG1.out;omega) (by have:=HG1.out;omega)
          obtain ⟨y0,y1,_,_⟩:=hR1.2.1.at_ (pstL_get htl)
          obtain ⟨z0,z1,_,_⟩:=hR1.2.2.1.at_ (pstL_get htl)
          have hBd:=hR1.1
          have hB1:=hR2.1
          have hB2:=hR3.1
          obtain ⟨s0,s1,_,_⟩:=hR1.1.four
          have hF3:=hF3.below (below_drew' _)
          have hR3:=hR3.below (below_drew' _)
          clear hF1 hR1 hR2 hF2 k2 k3
          go_upto_region 26 with (fail)
          clear s0 s1
          have C0:∀w',Bk w' gf 137 [.slice (some ⟨g0,0,none⟩) n n,.slice (some ⟨g1,0,none⟩) n n,.slice none 0 0,.slice none 0 0]→w'.cell? ⟨gf,0,none⟩=some (.slice (some ⟨g0,0,none⟩) n n):=fun w' h=>h.four.1
          have C1:∀w',Bk w' gf 137 [.slice (some ⟨g0,0,none⟩) n n,.slice (some ⟨g1,0,none⟩) n n,.slice none 0 0,.slice none 0 0]→w'.cell? ⟨gf,1,none⟩=some (.slice (some ⟨g1,0,none⟩) n n):=fun w' h=>h.four.2.1
          refine region_seqS (fun w'=>Bk w' gf 137 [.slice (some ⟨g0,0,none⟩) n n,.slice (some ⟨g1,0,none⟩) n n,.slice none 0 0,.slice none 0 0]) hBd 12 [0,1,2,3,4,5,6,7,8,9,10,11] (by kernel_rfl) (by kernel_rfl) ?_
          repeat ((first | (refine seq_takeP (v:=?_) rfl rfl rfl ?_ ?_;rotate_left;(· (intro _ hSw;go_simp;(try go_bits);(try with_reducible rfl)))) | (refine seq_take (v:=?_) rfl rfl rfl ?_ ?_;rotate_left;(· (intro _ hSw;go_simp;(try go_bits);(try with_reducible rfl)))) | refine seq_skip rfl rfl rfl ?_);(try simp only [Act.put,pu1,pu2,pu3,pu4,pu5,pu6]))
          refine seq_step rfl rfl (fun KR hKR=>?_)
          go_simp
          refine hKR.out _ _ (Or.inr hB1) ?_
          clear hKR KR
          (try simp only [Act.put,pu1,pu2,pu3,pu4,pu5,pu6])
          repeat ((first | (refine seq_takeP (v:=?_) rfl rfl rfl ?_ ?_;rotate_left;(· (intro _ hSw;go_simp;(try go_bits);(try with_reducible rfl)))) | (refine seq_take (v:=?_) rfl rfl rfl ?_ ?_;rotate_left;(· (intro _ hSw;go_simp;(try go_bits);(try with_reducible rfl)))) | refine seq_skip rfl rfl rfl ?_);(try simp only [Act.put,pu1,pu2,pu3,pu4,pu5,pu6]))
          refine seq_step rfl rfl (fun KR hKR=>?_)
          go_simp
          refine hKR.out _ _ (Or.inr hB2) ?_
          clear hKR KR
          (try simp only [Act.put,pu1,pu2,pu3,pu4,pu5,pu6])
          refine seq_done ?_
          clear C0 C1 hBd hB1 hB2 y0 y1 z0 z1
          have hbz:=below_then hbw hb1 hbw.size
          have hbz2:=((hbz.setCell (p:=⟨g0,t,none⟩) (Nat.le_trans hbW.size HG0.out.1) (.int .i64 (r:Int))).setCell (p:=⟨g1,t,none⟩) (Nat.le_trans hbW.size HG1.out.1) (.int .i64 (c:Int))).drew
          have hsz2:wr.heap.size≤((w1.setCell ⟨g0,t,none⟩ (.int .i64 (r:Int))).setCell ⟨g1,t,none⟩ (.int .i64 (c:Int))).drew.heap.size:=by simpa using hb1.size
          clear hb1 hbw hbz
          generalize ((w1.setCell ⟨g0,t,none⟩ (.int .i64 (r:Int))).setCell ⟨g1,t,none⟩ (.int .i64 (c:Int))).drew=W2 at *
          obtain ⟨_,⟨⟨hB,_,hI,hJ,_,_⟩,_,_⟩⟩:=id hF3
          obtain ⟨_,_,b2,b3⟩:=hB.four
          obtain ⟨hF4,k4⟩:=hF3.setR hgrc hr (z:=(t:Int)) (by omega) (by omega)
          obtain ⟨hF5,k5⟩:=hF4.setC hgrc hc (z:=(t:Int)) (by omega) (by omega)
          rw [posL_set HRF.out] at hF4 hF5
          rw [posL_set HCF.out] at hF5
          have hR4:=hR3.farI k4 (by have:=HG0.out;omega) (by have:=HG1.out;omega)
          have hR5:=hR4.farI k5 (by have:=HG0.out;omega) (by have:=HG1.out;omega)
          obtain ⟨y0,y1,_,_⟩:=hI.at_ (posL_get hr)
          obtain ⟨_,⟨⟨_,_,_,hJ4,_,_⟩,_,_⟩⟩:=id hF4
          obtain ⟨z0,z1,_,_⟩:=hJ.at_ (posL_get hc)
          obtain ⟨z0',z1',_,_⟩:=hJ4.at_ (posL_get hc)
          have hsz4:wr.heap.size≤((W2.setCell ⟨gr,r,none⟩ (.int .i64 (t:Int))).setCell ⟨gc,c,none⟩ (.int .i64 (t:Int))).heap.size:=by simpa using hsz2
          clear hF3 hF4 hR3 hR4 k4 k5 hB hI hJ hJ4
          go_wp2_with fail
          clear b2 b3 y0 y1 z0 z1 z0' z1'
          generalize (W2.setCell ⟨gr,r,none⟩ (.int .i64 (t:Int))).setCell ⟨gc,c,none⟩ (.int .i64 (t:Int))=W4 at *
          obtain ⟨M4,hE4,hT4,hb4⟩:=hF5
          have hpow:5^t * K≤5^n * K:=Nat.mul_le_mul_right K (Nat.pow_le_pow_right (by decide) (by omega))
          have hrp:¬(posL n (t+1) (putN R t r)).getD r 0 < 0:=fun g=>((left_next hr).1 g).2 rfl
          refine (eliminate_own W.heap.size ge n _ _ _ M4 G D _ _ a r c (5^t * K) _ hE4 hT4 (by omega) hr hc hrp HP.out HSA.out (by have:=HE.out;omega) hb4.size).mono ?_
          rintro _ w5 ⟨v',rfl,M5,H,hE5,hT5,hFr,hH,hk5,ho5,hbe5⟩
          obtain ⟨hLI6,hsm6,hsA6⟩:=lu_round HLI.out hr hc HRF.out HCF.out HP.out HK.out HSA.out
          obtain ⟨g,cg,hvv,hg1,hg2,hg3,hg4⟩:=hFr.shape (by rw [rfL_length];omega)
          rw [rfL_length] at hvv hg3
          subst hvv
          have hF6:FilAt W ge ga gr gc n G D (posL n (t+1) (putN R t r)) (posL n (t+1) (putN C t c)) (elQ (posL n (t+1) (putN R t r)) (posL n (t+1) (putN C t c)) a r c n 0) w5:=⟨M5,hE5,hT5,hb4.trans hbe5⟩
          have hR6:=hR5.othP ho5 hk5
          obtain ⟨m0,m1⟩:=row_cell hR6.2.2.2.1 (preR_get (G:=Ff) (D:=E) htl)
          obtain ⟨hR7,k7⟩:=hR6.push htl (FrsO.monoB hFr hb4.size) (fun i hi=>⟨(hH i hi).1,(hH i hi).2.mono (by omega)⟩) (fun i hi=>by have:=HGL.out i hi;omega)
          have hF7:=hF6.farT k7 (v:= .slice (some ⟨g,0,none⟩) n cg) HGT.out.1 (by have:=HGT.out;omega)
          have hL7:LupAt W ge ga gr gc gf g0 g1 gt n K (t+1) G D (trM Cs) (w5.setCell ⟨gt,t,none⟩ (.slice (some ⟨g,0,none⟩) n cg)):=⟨_,_,_,_,_,_,hF7,hLI6,hsA6,fun s i hs hi=>by
           by_cases e:s=t
           ·subst e;rw [putN_new];exact (hsm6 i hi).mono (by omega)
           ·rw [putN_old (by omega)];exact HSM.out s i (by omega) hi,hR7⟩
          clear hE4 hT4 hb4 hE5 hT5 hFr hH hk5 ho5 hbe5 hLI6 hsm6 hsA6 hF6 hR6 hR7 k7 hF7 hR5 hrp hpow
          go_wp2
          go_roundw
          case rel=>exact ⟨t+1,by omega,by go_num,hL7⟩
          case measure=>simp [intOf];omega
        ·obtain rfl:n=t:=by omega
         obtain ⟨a,m,R,C,Ff,E,hF,hLI,hsA,hsM,hR⟩:=hL
         rw [pstL_all,pstL_all] at hR
         have HLI:=Lib.hid hLI
         have HSA:=Lib.hid hsA
         have HSM:=Lib.hid hsM
         have HE1:Hid (1≤5^n * K):=Lib.hid (Nat.mul_pos (Nat.pow_pos (by decide)) HK.out)
         have hmk4:=make_vecs n (by omega)
         have hb5:=below_new wr (.cells (zvc n) 72)
         have hV5:=VecsO.zeros wr n (by unfold maxLen;omega)
         have hF5:=hF.below hb5
         have hR5:=hR.below hb5
         obtain ⟨hR6,k6⟩:=hR5.set2 (.slice (some ⟨wr.heap.size,0,none⟩) n n)
         obtain ⟨s0,s1,s2,s3⟩:=hR5.1.four
         obtain ⟨f0,f1,f2,f3⟩:=hR5.1.fourF
         have hbU:=hF.choose_spec.2.2
         have hb6:=(below_then hbU hb5 hbU.size).setCell (p:=⟨gf,2,none⟩) HGF.out (.slice (some ⟨wr.heap.size,0,none⟩) n n)
         have hF6:=hF5.but k6 hb6 (by decide) (by decide) (by decide) (by decide) (by decide)
         have hV6:=hV5.but k6 (by decide) (by decide) (by decide)
         have hle:=hbU.size
         obtain ⟨gl,hgl⟩:∃gl,gl=wr.heap.size:=⟨_,rfl⟩
         have HGL2:Hid (W.heap.size≤gl):=Lib.hid (by omega)
         clear hLI hsA hsM hF hR hF5 hR5 hV5 k6 hbU hb5
         go_upto_region 31 with (fail)
         clear s0 s1 s2 s3 f0 f1 f2 f3
         have hsz6:((wr.alloc (.cells (zvc n) 72)).setCell ⟨gf,2,none⟩ (.slice (some ⟨wr.heap.size,0,none⟩) n n)).heap.size=gl+1:=by rw [hgl];simp
         rw [← hgl] at hR6 hV6 hb6 hF6 hsz6 ⊢
         generalize (wr.alloc (.cells (zvc n) 72)).setCell ⟨gf,2,none⟩ (.slice (some ⟨gl,0,none⟩) n n)=W6 at *
         have HS6:=Lib.hid hsz6
         clear hsz6 hgl hle
         have hb7:=below_new W6 (.cells (zvc n) 72)
         have hV7:=VecsO.zeros W6 n (by unfold maxLen;omega)
         have hF7:=hF6.below hb7
         have hR7:=hR6.below hb7
         have hV6':=hV6.below hb7
         obtain ⟨hR8,k8⟩:=hR7.set3 (.slice (some ⟨W6.heap.size,0,none⟩) n n)
         obtain ⟨s0,s1,s2,s3⟩:=hR7.1.four
         obtain ⟨f0,f1,f2,f3⟩:=hR7.1.fourF
         have hb8:=(below_then hb6 hb7 hb6.size).setCell (p:=⟨gf,3,none⟩) HGF.out (.slice (some ⟨W6.heap.size,0,none⟩) n n)
         have hF8:=hF7.but k8 hb8 (by decide) (by decide) (by decide) (by decide) (by decide)
         have hV8:=(hV6'.but k8 (by decide) (by decide) (by decide)).monoB HGL2.out
         have hU8:=(hV7.but k8 (by decide) (by decide) (by decide)).monoB (show W.heap.size≤W6.heap.size from hb6.size)
         obtain ⟨gu,hgu⟩:∃gu,gu=W6.heap.size:=⟨_,rfl⟩
         have hglu:gl≠gu:=by have:=HS6.out;omega
         have HGU:=Lib.hid hgu
         clear hgu
         clear hF6 hR6 hV6 hF7 hR7 hV7 hV6' k8 hb6 hb7
         go_wp2_with fail
         clear s0 s1 s2 s3 f0 f1 f2 f3
         rw [← HGU.out] at hR8 hU8 hF8 hb8 hV8 ⊢
         generalize (W6.alloc (.cells (zvc n) 72)).setCell ⟨gf,3,none⟩ (.slice (some ⟨gu,0,none⟩) n n)=W8 at *
         refine (fromInts_one _).mono ?_
         rintro _ w9 ⟨v9,rfl,e9,hb9⟩
         obtain ⟨Ao,ko,co,Ao',ko',co',rfl,_,_⟩:=id e9
         have hBo:=Bk.new w9 48 [.bool (canF 1).num.neg,.slice Ao ko co,.bool (canF 1).den.neg,.slice Ao' ko' co']
         have hbo:=below_new w9 (.cells #[.bool (canF 1).num.neg,.slice Ao ko co,.bool (canF 1).den.neg,.slice Ao' ko' co'] 48)
         have hbb:=below_then hb9 hbo hb9.size
         have hL0:LuM W ge ga gr gc gf g0 g1 gt gl gu w9.heap.size n (2 * (5^n * K)) 0 0 G D R C Ff E a m (w9.alloc (.cells #[.bool (canF 1).num.neg,.slice Ao ko co,.bool (canF 1).den.neg,.slice Ao' ko' co'] 48)):=
          ⟨hF8.below hbb,hR8.below hbb,⟨_,_,_,_,_,_,hBo,e9.below hbo⟩,by rw [← pvcL_zero];exact hV8.below hbb,by rw [← pvcL_zero];exact hU8.below hbb⟩
         clear hF8 hR8 hV8 hU8 hBo hbo hbb e9 hb9 hb8
         go_wp2
         generalize w9.heap.size=go at *
         generalize w9.alloc (.cells #[.bool (canF 1).num.neg,.slice Ao ko co,.bool (canF 1).den.neg,.slice Ao' ko' co'] 48)=W9 at *
         clear hmk4
         go_loopw [136] (fun x wr=>∃t:Nat,t≤n∧x= .int .i64 t∧LuM W ge ga gr gc gf g0 g1 gt gl gu go n (2 * (5^n * K)) t t G D R C Ff E a m wr) (fun x _=>n - (intOf x).toNat)
         case atStart=>exact ⟨0,by omega,rfl,hL0⟩
         case round=>
          clear hL0
          obtain ⟨t,ht,rfl,hLM⟩:=hrel
          rcases Nat.lt_or_ge t n with htl | htl
          ·have HLM:=Lib.hid hLM
           obtain ⟨-,hRs0,⟨Ao,ko,co,Ao',ko',co',hBo,hmo⟩,-⟩:=hLM
           have hmk3:=make_frac n (by omega)
           have hzz:=FrsO.zeros wr n (by unfold maxLen;omega)
           have hbzz:=below_new wr (.cells (zfc n) 48)
           have hbo:=hBo.later hbzz
           have hmo1:=hmo.below hbzz
           obtain ⟨o0,o1,o2,o3⟩:=hbo.four
           have htI:(t:Int) < n:=by omega
           obtain ⟨_,_,_,_,⟨c0,c1,c2,c3⟩,⟨f0,f1,f2,f3⟩,-⟩:=hzz.at_ (k:=t) (f:=zeroF) (by simp [htl])
           obtain ⟨hO1,k1⟩:=hzz.set_ (k:=t) (by simpa using htl) hmo1
           rw [zeros_rfL,rfL_set htl] at hO1
           have hbe1:=below_set4' hbzz (Nat.le_refl _) (t * 4) (t * 4+1) (t * 4+2) (t * 4+3) (.bool (canF 1).num.neg) (.slice Ao ko co) (.bool (canF 1).den.neg) (.slice Ao' ko' co')
           obtain ⟨m0,_⟩:=row_cell (own_below hRs0.2.2.2.1 hbe1) (by rw [preR_all];exact rowsL_get htl)
           unfold rowV at m0
           obtain ⟨_,hH0⟩:=hRs0.2.2.2.2
           obtain ⟨gq,cq,hvq,-,-,hq3,hq4⟩:=(hH0 t htl).1.shape (by rw [rfL_length];omega)
           rw [rfL_length] at hvq hq3
           unfold rowV at hvq
           injection hvq with hv1 hv2 hvq
           clear hv1 hv2
           rw [← hvq] at hq3 hq4
           clear hRs0 hBo hmo hbo hmo1 hzz hH0 hvq
           go_upto_region 37 with (fail)
           generalize wr.alloc (.cells (zfc n) 48)=W6 at *
           go_upto_region 38 with (fail)
           clear o0 o1 o2 o3 c0 c1 c2 c3 f0 f1 f2 f3 k1 hbzz
           generalize (((W6.setCell ⟨wr.heap.size,t * 4,none⟩ (.bool (canF 1).num.neg)).setCell ⟨wr.heap.size,t * 4+1,none⟩ (.slice Ao ko co)).setCell ⟨wr.heap.size,t * 4+2,none⟩ (.bool (canF 1).den.neg)).setCell ⟨wr.heap.size,t * 4+3,none⟩ (.slice Ao' ko' co')=W8 at *
           go_wp2
           clear m0
           generalize wr=V at *
           go_loopw [150] (fun x wr=>∃k:Nat,k≤n∧x= .int .i64 k∧Below V.heap.size V wr∧∃L':Nat→RF,FrsO V.heap.size wr (.slice (some ⟨V.heap.size,0,none⟩) n n) (rfL n L')∧∀p,p < n→(L' p).q=lowP R m t k p∧(L' p).Rs (2 * (5^n * K))) (fun x _=>n - (intOf x).toNat)
           case atStart=>exact ⟨0,by omega,rfl,hbe1,_,hO1,fun p hp=>by
            rw [lowP_start]
            by_cases e:p=t
            ·simp only [if_pos e];exact ⟨canF_q _,Sz_one.rs.mono (by have:=HE1.out;omega)⟩
            ·simp only [if_neg e];exact ⟨zeroF_q,(zeroF_rs 1).mono (by have:=HE1.out;omega)⟩⟩
           case round=>
            clear hO1 hbe1
            obtain ⟨k,hk,rfl,hbe,L',hO,hL'⟩:=hrel
            rcases Nat.lt_or_ge k n with hkl | hkl
            ·obtain ⟨-,hR0,-⟩:=HLM.out
             obtain ⟨H0,hH0⟩:=hR0.2.2.2.2
             obtain ⟨hfr,hfq,-⟩:=hH0 t htl
             obtain ⟨hfq1,hfq2⟩:=hfq k hkl
             obtain ⟨bz,oz,A5,n5,c5,A6,n6,c6,hA5,_,⟨x0,x1,x2,x3⟩,hmz⟩:=hfr.frs.elem hbe (rfL_get hkl)
             injection hA5 with hA5
             injection hA5 with hA1 hA2
             subst hA1;subst hA2
             simp only [Nat.zero_add] at x0 x1 x2 x3
             obtain ⟨sx,hsx,hRs⟩:=HLI.out.ri.onto hkl
             obtain ⟨fz,hfz⟩:∃fz,fz=H0 t k:=⟨_,rfl⟩
             rw [← hfz] at x0 x2 hmz hfq1 hfq2
             have HQ1:=Lib.hid hfq1
             have HQ2:=Lib.hid hfq2
             have hkI:(k:Int) < n:=by omega
             have hsI:(sx:Int) < n:=by omega
             have HNZ:Hid (m t k≠0→∀p,p < n→lowP R m t (k+1) p=if p=sx then m t k else lowP R m t k p):=Lib.hid fun h0 p hp=>lowP_next HLI.out.ri htl hp hsx hRs h0 (HLI.out.m0 t t htl (Nat.le_refl _))
             have HSK:Hid (m t k=0→∀p,p < n→lowP R m t k p=lowP R m t (k+1) p):=Lib.hid fun h0 p hp=>lowP_skip (n:=n) h0
             have HPK:Hid ((posL n n R)[k]? =some (sx:Int)):=Lib.hid (by rw [posL_get hkl,← hRs,posI_at HLI.out.ri hsx])
             clear hR0 hH0 hfr hfq hfz hRs hfq1 hfq2
             obtain ⟨W9,hW9,hB9,hb9⟩:=boxF1 wr (.bool fz.num.neg) (.slice A5 n5 c5) (.bool fz.den.neg) (.slice A6 n6 c6)
             obtain ⟨v0,v1,v2,v3⟩:=hB9.four
             have hm9:=hmz.below hb9
             go_wp2_with fail
             clear hW9
             refine (signF_any _ fz _ hm9).mono ?_
             rw [HQ1.out]
             rintro _ w2 ⟨rfl,hb2⟩
             have hbe2:=below_then (below_then hbe hb9 hbe.size) hb2 (Nat.le_trans hbe.size hb9.size)
             have hO2:=(hO.below hb9).below hb2
             have hm2:=hm9.below hb2
             have hB2':=hB9.later hb2
             clear hO hmz hm9 hB9 hbe hb9 hb2 v0 v1 v2 v3 x0 x1 x2 x3
             by_cases hq0:qs (m t k)=0
             ·have HM0:=Lib.hid (qs_zero.1 hq0)
              rw [hq0]
              clear hm2 hB2' hq0
              go_wp2
              go_roundw
              case rel=>exact ⟨k+1,by omega,by go_num,hbe2,L',hO2,fun p hp=>⟨by rw [(hL' p hp).1,HSK.out HM0.out p hp],(hL' p hp).2⟩⟩
              case measure=>simp [intOf];omega
             ·have HM0:Hid (m t k≠0):=Lib.hid fun e=>hq0 (qs_zero.2 e)
              have hqe:(qs (m t k) !=0)=true:=by simpa using hq0
              clear hq0
              obtain ⟨v0,v1,v2,v3⟩:=hB2'.four
              obtain ⟨⟨M0,⟨hB0,-,hI0,-⟩,-⟩,-⟩:=HLM.out.below hbe2
              obtain ⟨_,_,b2,_⟩:=hB0.four
              obtain ⟨p0,_,_,_⟩:=hI0.at_ HPK.out
              obtain ⟨_,_,_,_,⟨c0,c1,c2,c3⟩,⟨f0,f1,f2,f3⟩,_⟩:=hO2.at_ (rfL_get (f:=L') hsx)
              clear hB0 hI0 hB2'
              go_upto_region 42 with (fail)
              clear hqe
              have C0:=stab v0
              have C1:=stab v1
              have C2:=stab v2
              have C3:=stab v3
              have D0:=stab b2
              have D1:=stab p0
              have hS0:=below_drew' w2
              clear v0 v1 v2 v3 b2 p0
              refine region_seq 8 [0,1,2,3,4,5,6,7,8] (by kernel_rfl) (by kernel_rfl) ?_
              repeat ((first | (refine seq_takeP (v:=?_) rfl rfl rfl ?_ ?_;rotate_left;(· (intro _ hSw;go_simp;(try go_bits);(try with_reducible rfl)))) | (refine seq_take (v:=?_) rfl rfl rfl ?_ ?_;rotate_left;(· (intro _ hSw;go_simp;(try go_bits);(try with_reducible rfl)))) | refine seq_skip rfl rfl rfl ?_);(try simp only [Act.put,pu1,pu2,pu3,pu4,pu5,pu6]))
              refine seq_step rfl rfl (fun KR hKR=>?_)
              go_simp
              refine hKR.out _ _ (Or.inl (by decide)) ?_
              clear hKR KR
              (try simp only [Act.put,pu1,pu2,pu3,pu4,pu5,pu6])
              refine seq_done ?_
              clear C0 C1 C2 C3 D0 D1
              obtain ⟨hO3,_⟩:=(hO2.below hS0).set_ (k:=sx) (by rw [rfL_length];exact hsx) (hm2.below hS0)
              rw [rfL_set hsx] at hO3
              have hbe3:=below_set4' (below_then hbe2 hS0 hbe2.size) (Nat.le_refl _) (sx * 4) (sx * 4+1) (sx * 4+2) (sx * 4+3)
              clear hO2 hm2 hbe2 hS0 c0 c1 c2 c3 f0 f1 f2 f3
              go_wp2
              go_roundw
              case rel=>
               refine ⟨k+1,by omega,by go_num,hbe3 _ _ _ _,_,hO3,fun p hp=>?_⟩
               rw [HNZ.out HM0.out p hp]
               by_cases e:p=sx
               ·simp only [if_pos e];exact ⟨HQ1.out,HQ2.out⟩
               ·simp only [if_neg e];exact hL' p hp
              case measure=>simp [intOf];omega
            ·obtain rfl:n=k:=by omega
             have hbx:=HLM.out.below hbe
             obtain ⟨-,⟨hBf,-⟩,-,-,-⟩:=id hbx
             obtain ⟨-,-,s2,-⟩:=hBf.four
             have hrsL:RsL (2 * (5^n * K)) (rfL n L'):=fun i f hf=>by
              have hi:i < n:=by have:=(List.getElem?_eq_some_iff.1 hf).1;rwa [rfL_length] at this
              rw [rfL_get hi] at hf
              injection hf with hf
              subst hf
              exact (hL' i hi).2
             have HSP:Hid (spV (qAt (rfL n L')) (rfL n L').length=spV (luL R m t) n):=Lib.hid (by
              rw [rfL_length]
              exact spV_congr fun i hi=>by rw [rfL_qAt hi,(hL' i hi).1,lowP_all HLI.out.ri hi fun q hq=>HLI.out.m0 t q htl hq])
             clear hL' hBf
             go_upto_region 44 with (fail)
             have D0:=stab s2
             have hS0:=below_drew' wr
             clear s2
             refine region_seq 9 [0,1,2,3,4,5,6,7,8,9] (by kernel_rfl) (by kernel_rfl) ?_
             repeat ((first | (refine seq_takeP (v:=?_) rfl rfl rfl ?_ ?_;rotate_left;(· (intro _ hSw;go_simp;(try go_bits);(try with_reducible rfl)))) | (refine seq_take (v:=?_) rfl rfl rfl ?_ ?_;rotate_left;(· (intro _ hSw;go_simp;(try go_bits);(try with_reducible rfl)))) | refine seq_skip rfl rfl rfl ?_);(try simp only [Act.put,pu1,pu2,pu3,pu4,pu5,pu6]))
             refine seq_step rfl rfl (fun KR hKR=>?_)
             go_simp
             with_reducible refine (fromDense_own _ _ (2 * (5^n * K)) _ (hO.frs.below hS0) (by rw [rfL_length];omega) hrsL (by have:=HE.out;omega)).mono ?_
             rintro _ w6 ⟨v6,rfl,e6,hb6⟩
             have hS6:=below_then hS0 hb6 hS0.size
             rw [HSP.out] at e6
             obtain ⟨A7,n7,c7,rfl⟩:∃A n c,v6= .slice A n c:=by obtain ⟨A,c,e,_⟩:=e6.vec.shape;exact ⟨A,_,c,e⟩
             obtain ⟨_,hc6,hf6,_⟩:=(hbx.below hS6).2.2.2.1.at_ (pvcL_get htl)
             refine hKR.out _ _ (Or.inr hS6) ?_
             clear hKR KR
             (try simp only [Act.put,pu1,pu2,pu3,pu4,pu5,pu6])
             repeat ((first | (refine seq_takeP (v:=?_) rfl rfl rfl ?_ ?_;rotate_left;(· (intro _ hSw;go_simp;(try go_bits);(try with_reducible rfl)))) | (refine seq_take (v:=?_) rfl rfl rfl ?_ ?_;rotate_left;(· (intro _ hSw;go_simp;(try go_bits);(try with_reducible rfl)))) | refine seq_skip rfl rfl rfl ?_);(try simp only [Act.put,pu1,pu2,pu3,pu4,pu5,pu6]))
             refine seq_step rfl rfl (fun KR hKR=>?_)
             go_simp
             refine hKR.out _ _ (Or.inl (by decide)) ?_
             clear hKR KR
             (try simp only [Act.put,pu1,pu2,pu3,pu4,pu5,pu6])
             refine seq_done ?_
             clear D0
             have hbz:=(hbx.below hS6).setL hglu htl e6.vec
             clear hbx hO hbe hS0 hS6 hb6 e6 hc6 hf6 HLM
             generalize w6.setCell ⟨gl,t,none⟩ (.slice A7 n7 c7)=W7 at *
             have hzz:=FrsO.zeros W7 n (by unfold maxLen;omega)
             have hbzz:=below_new W7 (.cells (zfc n) 48)
             have HLM2:=Lib.hid hbz
             clear hbz
             go_wp2
             go_loopw [180] (fun x wr=>∃k:Nat,k≤t+1∧x= .int .i64 k∧Below W7.heap.size W7 wr∧∃L':Nat→RF,FrsO W7.heap.size wr (.slice (some ⟨W7.heap.size,0,none⟩) n n) (rfL n L')∧∀p,p < n→(L' p).q=upP R C a t k p∧(L' p).Rs (2 * (5^n * K))) (fun x _=>t+1 - (intOf x).toNat)
             case atStart=>exact ⟨0,by omega,rfl,hbzz,fun _=>zeroF,by rw [← zeros_rfL];exact hzz,fun p hp=>⟨by unfold upP;rw [if_neg (by omega)];exact zeroF_q,(zeroF_rs 1).mono (by have:=HE1.out;omega)⟩⟩
             case round=>
              clear hzz hbzz
              obtain ⟨k,hk,rfl,hbe,L',hO,hL'⟩:=hrel
              rcases Nat.lt_or_ge k (t+1) with hkl | hkl
              ·have hbx:=HLM2.out.below hbe
               obtain ⟨⟨M0,⟨hB0,hM0,-⟩,hT0,-⟩,⟨hBf,hI0,hI1,-⟩,-⟩:=hbx
               have hkn:k < n:=by omega
               have hrk:R k < n:=HLI.out.ri.1 k hkn
               have hct:C t < n:=HLI.out.ci.1 t htl
               obtain ⟨_,b1,_,_⟩:=hB0.four
               obtain ⟨s0,s1,_,_⟩:=hBf.four
               obtain ⟨y0,_,_,_⟩:=hI0.at_ (natL_get hkn)
               obtain ⟨z0,_,_,_⟩:=hI1.at_ (natL_get htl)
               obtain ⟨m1,_⟩:=hM0.cellAt hrk
               unfold rowV at m1
               obtain ⟨l1,l2,l3,l4⟩:=hM0.lt hrk (by omega)
               obtain ⟨A5,n5,c5,A6,n6,c6,⟨x0,x1,x2,x3⟩,hmz⟩:=hM0.at_ hrk hct
               have HTQ:Hid ((M0 (R k) (C t)).q=a (R k) (C t)∧(M0 (R k) (C t)).Rs (2 * (5^n * K))):=Lib.hid ⟨(hT0 _ _ hrk hct).q,((hT0 _ _ hrk hct).rs (HSA.out _ _ hrk hct)).mono (by omega)⟩
               have HUP:Hid (∀p,upP R C a t (k+1) p=if p=k then a (R k) (C t) else upP R C a t k p):=Lib.hid fun p=>upP_next p
               obtain ⟨_,_,_,_,⟨c0,c1,c2,c3⟩,⟨f0,f1,f2,f3⟩,_⟩:=hO.at_ (rfL_get (f:=L') hkn)
               generalize M0 (R k) (C t)=fz at *
               generalize a (R k) (C t)=qz at *
               generalize R k=rk at *
               generalize C t=ct at *
               have hkI:(k:Int) < n:=by omega
               have hrI:(rk:Int) < n:=by omega
               have hcI:(ct:Int) < n:=by omega
               clear hB0 hM0 hT0 hBf hI0 hI1
               go_upto_region 49 with (fail)
               have C0:=stab x0
               have C1:=stab x1
               have C2:=stab x2
               have C3:=stab x3
               have D0:=stab b1
               have D1:=stab s0
               have D2:=stab s1
               have D3:=stab y0
               have D4:=stab z0
               have D5:=stab m1
               have hS0:=below_drew' wr
               clear x0 x1 x2 x3 b1 s0 s1 y0 z0 m1
               refine region_seq 19 [0,1,2,3,4,5,6,7,8,9,10,11,12,13,14,15,16,17,18,19] (by kernel_rfl) (by kernel_rfl) ?_
               repeat ((first | (refine seq_takeP (v:=?_) rfl rfl rfl ?_ ?_;rotate_left;(· (intro _ hSw;go_simp;(try go_bits);(try with_reducible rfl)))) | (refine seq_take (v:=?_) rfl rfl rfl ?_ ?_;rotate_left;(· (intro _ hSw;go_simp;(try go_bits);(try with_reducible rfl)))) | refine seq_skip rfl rfl rfl ?_);(try simp only [Act.put,pu1,pu2,pu3,pu4,pu5,pu6]))
               refine seq_step rfl rfl (fun KR hKR=>?_)
               go_simp
               refine hKR.out _ _ (Or.inl (by decide)) ?_
               clear hKR KR
               (try simp only [Act.put,pu1,pu2,pu3,pu4,pu5,pu6])
               refine seq_done ?_
               clear C0 C1 C2 C3 D0 D1 D2 D3 D4 D5
               obtain ⟨hO3,_⟩:=(hO.below hS0).set_ (k:=k) (by rw [rfL_length];exact hkn) (hmz.below hS0)
               rw [rfL_set hkn] at hO3
               have hbe3:=below_set4' (below_then hbe hS0 hbe.size) (Nat.le_refl _) (k * 4) (k * 4+1) (k * 4+2) (k * 4+3)
               clear hO hmz hbe hS0 c0 c1 c2 c3 f0 f1 f2 f3
               go_wp2
               go_roundw
               case rel=>
                refine ⟨k+1,by omega,by go_num,hbe3 _ _ _ _,_,hO3,fun p hp=>?_⟩
                rw [HUP.out p]
                by_cases e:p=k
                ·simp only [if_pos e];exact HTQ.out
                ·simp only [if_neg e];exact hL' p hp
               case measure=>simp [intOf];omega
              ·obtain rfl:k=t+1:=by omega
               have hbx:=HLM2.out.below hbe
               obtain ⟨-,⟨hBf,-⟩,-,-,-⟩:=id hbx
               obtain ⟨-,-,-,s3⟩:=hBf.four
               have hrsL:RsL (2 * (5^n * K)) (rfL n L'):=fun i f hf=>by
                have hi:i < n:=by have:=(List.getElem?_eq_some_iff.1 hf).1;rwa [rfL_length] at this
                rw [rfL_get hi] at hf
                injection hf with hf
                subst hf
                exact (hL' i hi).2
               have HSP:Hid (spV (qAt (rfL n L')) (rfL n L').length=spV (luU R C a t) n):=Lib.hid (by
                rw [rfL_length]
                exact spV_congr fun i hi=>by rw [rfL_qAt hi,(hL' i hi).1,upP_all])
               clear hL' hBf
               go_upto_region 51 with (fail)
               have D0:=stab s3
               have hS0:=below_drew' wr
               clear s3
               refine region_seq 9 [0,1,2,3,4,5,6,7,8,9] (by kernel_rfl) (by kernel_rfl) ?_
               repeat ((first | (refine seq_takeP (v:=?_) rfl rfl rfl ?_ ?_;rotate_left;(· (intro _ hSw;go_simp;(try go_bits);(try with_reducible rfl)))) | (refine seq_take (v:=?_) rfl rfl rfl ?_ ?_;rotate_left;(· (intro _ hSw;go_simp;(try go_bits);(try with_reducible rfl)))) | refine seq_skip rfl rfl rfl ?_);(try simp only [Act.put,pu1,pu2,pu3,pu4,pu5,pu6]))
               refine seq_step rfl rfl (fun KR hKR=>?_)
               go_simp
               with_reducible refine (fromDense_own _ _ (2 * (5^n * K)) _ (hO.frs.below hS0) (by rw [rfL_length];omega) hrsL (by have:=HE.out;omega)).mono ?_
               rintro _ w6 ⟨v6,rfl,e6,hb6⟩
               have hS6:=below_then hS0 hb6 hS0.size
               rw [HSP.out] at e6
               obtain ⟨A7,n7,c7,rfl⟩:∃A n c,v6= .slice A n c:=by obtain ⟨A,c,e,_⟩:=e6.vec.shape;exact ⟨A,_,c,e⟩
               obtain ⟨_,hc6,hf6,_⟩:=(hbx.below hS6).2.2.2.2.at_ (pvcL_get htl)
               refine hKR.out _ _ (Or.inr hS6) ?_
               clear hKR KR
               (try simp only [Act.put,pu1,pu2,pu3,pu4,pu5,pu6])
               repeat ((first | (refine seq_takeP (v:=?_) rfl rfl rfl ?_ ?_;rotate_left;(· (intro _ hSw;go_simp;(try go_bits);(try with_reducible rfl)))) | (refine seq_take (v:=?_) rfl rfl rfl ?_ ?_;rotate_left;(· (intro _ hSw;go_simp;(try go_bits);(try with_reducible rfl)))) | refine seq_skip rfl rfl rfl ?_);(try simp only [Act.put,pu1,pu2,pu3,pu4,pu5,pu6]))
               refine seq_step rfl rfl (fun KR hKR=>?_)
               go_simp
               refine hKR.out _ _ (Or.inl (by decide)) ?_
               clear hKR KR
               (try simp only [Act.put,pu1,pu2,pu3,pu4,pu5,pu6])
               refine seq_done ?_
               clear D0
               have hbz:=(hbx.below hS6).setU hglu htl e6.vec
               clear hbx hO hbe hS0 hS6 hb6 e6 hc6 hf6
               go_wp2
               go_roundw
               case rel=>exact ⟨t+1,by omega,by go_num,hbz⟩
               case measure=>simp [intOf];omega
          ·obtain rfl:n=t:=by omega
           obtain ⟨⟨_,-,-,hbF⟩,⟨hBf,hI0,hI1,-,-⟩,-,hVl,hVu⟩:=hLM
           rw [pvcL_all] at hVl hVu
           obtain ⟨s0,s1,s2,s3⟩:=hBf.four
           have hbt:=(hbF.mono HWS.out)
           have hBr:=HB2.out.later (hbF.mono HWS.out)
           have hbw:=below_then hbW hbF hbW.size
           have hbl:=hbW.size
           obtain ⟨t0,t1,t2,t3⟩:=hBr.four
           obtain ⟨f0,f1,f2,f3⟩:=hBr.fourF
           go_wp2
           have kk:=hBr.but4 (.slice (some ⟨g0,0,none⟩) n n) (.slice (some ⟨g1,0,none⟩) n n) (.slice (some ⟨gl,0,none⟩) n n) (.slice (some ⟨gu,0,none⟩) n n)
           refine ret_ct Tryz.results116 Tryz.underlying137 (by kernel_rfl) rfl (hBr.set4 _ _ _ _) rfl ?_
           exact ⟨below_set4 hbw (Nat.le_refl _) _ _ _ _,.inl ⟨R,C,luL R m,luU R C a,_,_,_,_,rfl,HLI.out.facS (by omega) HK.out HE.out HSA.out HSM.out,(hI0.but kk (by decide)).monoB hbl,(hI1.but kk (by decide)).monoB hbl,(hVl.but kk (by decide) (by decide) (by decide)).monoB hbl,(hVu.but kk (by decide) (by decide) (by decide)).monoB hbl⟩⟩
end
end Go.Proofs.YtncmobkhenfhpaaGreat
