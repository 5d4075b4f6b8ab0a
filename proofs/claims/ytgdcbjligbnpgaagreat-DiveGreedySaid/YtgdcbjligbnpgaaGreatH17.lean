/- Lemmas of the claim; no condition. -/
import Derived.Test.YtgdcbjligbnpgaaGreatH18
set_option linter.all false
set_option maxRecDepth 100000
set_option maxHeartbeats 40000000
namespace Go.Proofs.YtgdcbjligbnpgaaGreat
open Go.RowKit
open Pl
attribute [local go_sem ↓] Go.wp_at_zero Go.wp_at_succ
def Pl.awayB (m:Ms) (F:List Int) (i:Int):Bool:= !decide (∃a∈opI m i,a∈F)
theorem kept27_own (v1 v2 v3:Value) (m:Ms) (s F:List Int) (w:World) (h:MsM w v1 m) (ok:MsOK m) (h2:IntsM w v2 s) (hs:Sel (dcs m) s) (h3:IntsM w v3 F):
 Calls Tryz.prog 20 #[v1,v2,v3] w fun e w'=>∃v',e= .returned v'∧IntsO w.heap.size w' v' (s.filter (awayB m F))∧Below w.heap.size w w':=by
 obtain ⟨A,n,c,A',n',c',A'',n'',c'',rfl,hR,hC,hT⟩:=id h
 obtain ⟨s1,s2,s3⟩:=RdM.len hC
 obtain ⟨As,cs,rfl,hs2,hs3⟩:=h2.shape
 obtain ⟨q,hq⟩:∃q,q=s.length:=⟨_,rfl⟩
 rw [← hq] at h2 hs2 ⊢
 obtain ⟨W,hW,hX,hbe⟩:=box_ms w (.int .i64 m.fl) (.slice A n c) (.int .i64 m.pen) (.slice A' n' c') (.slice A'' n'' c'')
 have HC:=Lib.hid hC
 have HOK:=Lib.hid ok
 have HS:=Lib.hid h2
 have HF:=Lib.hid h3
 have HSEL:=Lib.hid hs
 have HCN:=Lib.hid s1
 have HQN:=Lib.hid hq
 have hq6:q≤6:=by have:=asc_len hs.rg hs.asc;have:=ok.ncol;rw [dcs_len] at *;omega
 clear h hR hC hT ok h2 h3 hs s1 hq
 generalize m.fl=Fl at *
 generalize m.pen=P at *
 have hO0:=IntsO.nil w.heap.size W
 go_enter Tryz.func20,Tryz.ntmps20
 go_wp2
 clear hW
 go_loopw [7,8] (fun s7 x wr=>∃(k:Nat) (ys:List Int),k≤q∧x= .int .i64 k∧Below w.heap.size w wr∧Bk wr w.heap.size 26 [.int .i64 Fl,.slice A n c,.int .i64 P,.slice A' n' c',.slice A'' n'' c'']∧ys.length≤k∧Hid (IntsO w.heap.size wr s7 ys∧ys=(s.take k).filter (awayB m F))) (fun _ x _=>q - (intOf x).toNat)
 case atStart=>exact ⟨0,[],by omega,rfl,hbe,hX,by simp,Lib.hid ⟨hO0,by simp⟩⟩
 case round=>
  clear hbe hX hO0
  obtain ⟨k,ys,hk,rfl,hb,hB,hyl,HV⟩:=hrel
  obtain ⟨x0,x1,x2,x3,x4⟩:=hB.five
  rcases Nat.lt_or_ge k q with hkl | hkl
  ·have hkz:(k:Int) < q:=by omega
   obtain ⟨b3,o3,y,hA3,hcell,hy,yb0,yb1⟩:=HS.out.elem hb hkl
   subst hA3
   obtain ⟨cl,hcl⟩:=col_in HSEL.out.rg (List.mem_of_getElem? hy)
   obtain ⟨i0,i1⟩:=HSEL.out.rg y (List.mem_of_getElem? hy)
   rw [dcs_len,← HCN.out] at i1
   have hyn:y.toNat < n':=by omega
   obtain ⟨bc,oc,sb,A1,n1,c1,hA,_,e0,e1,e2,hD⟩:=HC.out.elem hb hcl
   subst hA
   have HOL:=Lib.hid (HOK.out.opl (List.mem_of_getElem? hcl))
   have HFT:=Lib.hid (filter_take (p:=awayB m F) hy)
   have HOI:Hid (opI m y=cl.ops):=Lib.hid (opI_of hcl)
   have HD:=Lib.hid hD
   have hcell2:=hcell
   clear hy hcl hD
   go_upto_region 5 with (fail)
   have C0:=stab hcell
   have C1:=stab x3
   have C2:=stab e0
   have C3:=stab e1
   have C4:=stab e2
   have hS0:=below_drew' wr
   clear hcell x0 x1 x2 x3 x4 e0 e1 e2
   refine region_seq 13 [0,1,2,3,4,5,6,7,8,10,9,11,12] (by kernel_rfl) (by kernel_rfl) ?_
   repeat ((first | (refine seq_takeP (v:=?_) rfl rfl rfl ?_ ?_;rotate_left;(· (intro _ hSw;go_simp;(try go_bits);(try with_reducible rfl)))) | (refine seq_take (v:=?_) rfl rfl rfl ?_ ?_;rotate_left;(· (intro _ hSw;go_simp;(try go_bits);(try with_reducible rfl)))) | refine seq_skip rfl rfl rfl ?_);(try simp only [Act.put,pu1,pu2,pu3,pu4,pu5,pu6]))
   refine seq_step rfl rfl (fun KR hKR=>?_)
   go_simp
   with_reducible refine (operated27_own sb A1 n1 c1 cl.dut _ (HD.out.below hS0) (by have:=HOL.out;unfold Cl.ops at this;omega)).mono ?_
   rintro _ w4 ⟨v4,rfl,h4,hb4⟩
   have hS4:=below_then hS0 hb4 hS0.size
   have H4:Hid (IntsM w4 v4 cl.ops):=Lib.hid h4.ints
   clear h4
   refine hKR.out _ _ (Or.inr hS4) ?_
   clear hKR KR
   (try simp only [Act.put,pu1,pu2,pu3,pu4,pu5,pu6])
   repeat ((first | (refine seq_takeP (v:=?_) rfl rfl rfl ?_ ?_;rotate_left;(· (intro _ hSw;go_simp;(try go_bits);(try with_reducible rfl)))) | (refine seq_take (v:=?_) rfl rfl rfl ?_ ?_;rotate_left;(· (intro _ hSw;go_simp;(try go_bits);(try with_reducible rfl)))) | refine seq_skip rfl rfl rfl ?_);(try simp only [Act.put,pu1,pu2,pu3,pu4,pu5,pu6]))
   refine seq_step rfl rfl (fun KR hKR=>?_)
   go_simp
   with_reducible refine (meets_any _ _ cl.ops F _ H4.out ((HF.out.below hb).below hS4)).mono ?_
   rintro _ w5 ⟨rfl,hb5⟩
   have hS5:=below_then hS4 hb5 hS4.size
   refine hKR.out _ _ (Or.inr hS5) ?_
   clear hKR KR
   (try simp only [Act.put,pu1,pu2,pu3,pu4,pu5,pu6])
   repeat ((first | (refine seq_takeP (v:=?_) rfl rfl rfl ?_ ?_;rotate_left;(· (intro _ hSw;go_simp;(try go_bits);(try with_reducible rfl)))) | (refine seq_take (v:=?_) rfl rfl rfl ?_ ?_;rotate_left;(· (intro _ hSw;go_simp;(try go_bits);(try with_reducible rfl)))) | refine seq_skip rfl rfl rfl ?_);(try simp only [Act.put,pu1,pu2,pu3,pu4,pu5,pu6]))
   refine seq_done ?_
   have hb6:=below_then hb hS5 hb.size
   have hB6:=hB.later hS5
   have hcell6:=cell_keep hS5 hcell2
   have HV6:=Lib.hid (And.intro (HV.out.1.below hS5) HV.out.2)
   have HAW:Hid (awayB m F y= !decide (∃a∈cl.ops,a∈F)):=Lib.hid (by unfold awayB;rw [HOI.out])
   clear C0 C1 C2 C3 C4 hb hB hS0 hS4 hS5 hb4 hb5 HV hcell2
   generalize decide (∃a∈cl.ops,a∈F)=bb at *
   cases bb with
   | true=>
    have HE:Hid ((s.take (k+1)).filter (awayB m F)=(s.take k).filter (awayB m F)):=Lib.hid (by rw [HFT.out,HAW.out];simp)
    go_wp2
    go_roundw
    case rel=>exact ⟨k+1,ys,by omega,by go_num,hb6,hB6,by omega,Lib.hid ⟨HV6.out.1,by rw [HE.out];exact HV6.out.2⟩⟩
    case measure=>simp [intOf];omega
   | false=>
    have HE:Hid ((s.take (k+1)).filter (awayB m F)=(s.take k).filter (awayB m F)++[y]):=Lib.hid (by rw [HFT.out,HAW.out];simp)
    have HO:=Lib.hid HV6.out.1
    have hlen:ys.length+1≤1099511627776:=by omega
    have hbs:=hb6.size
    go_wp2_with (at_builtin;refine wpList_append_int rfl (.tmp 28) (.tmp 33) rfl w5 w.heap.size u7 ys rfl HO.out y rfl yb0 yb1 hlen hbs ?_)
    intro v7 w7 hown7 hk7 hb7 _ _
    have hB7:=hk7.bk hB6 (by decide)
    have hb8:=hb6.trans hb7
    have HN:Hid (IntsO w.heap.size w7 v7 (ys++[y])∧ys++[y]=(s.take (k+1)).filter (awayB m F)):=Lib.hid ⟨hown7,by rw [HE.out,HV6.out.2]⟩
    clear hown7 hk7 hb7 hB6 hb6 HV6 HO
    go_wp2
    go_roundw
    case rel=>exact ⟨k+1,_,by omega,by go_num,hb8,hB7,by simp;omega,HN⟩
    case measure=>simp [intOf];omega
  ·obtain rfl:q=k:=by omega
   have HF2:Hid (IntsO w.heap.size wr u7 (s.filter (awayB m F))):=Lib.hid (by have:=HV.out;rw [take_all HQN.out] at this;rw [← this.2];exact this.1)
   go_wp2
   go_ret
   exact ⟨_,rfl,HF2.out,hb⟩
section
open Pl
namespace Pl
theorem freeP_eq (R F:List Int):freeP R F=maskL (F.map (posR R)):=by
 unfold freeP maskL
 rw [List.foldl_map]
theorem away_free {m:Ms} (ok:MsOK m) {F:List Int} (hF:∀f∈F,f∈m.rows) {i:Int} {c:Cl} (hc:m.cols[i.toNat]? =some c):awayB m F i=freeB (dcs m) (freeP m.rows F) i:=by
 unfold awayB freeB
 rw [mkI_col hc,opI_of hc,freeP_eq]
 show _=decide (maskL (c.ops.map (posR m.rows)) &&& maskL (F.map (posR m.rows))=0)
 have hcm:=List.mem_of_getElem? hc
 rw [Bool.eq_iff_iff]
 simp only [Bool.not_eq_true',decide_eq_false_iff_not,decide_eq_true_eq,mask_and_zero]
 constructor
 ·intro h r hr hr'
  obtain ⟨f,hf,rfl⟩:=List.mem_map.1 hr
  obtain ⟨g,hg,e⟩:=List.mem_map.1 hr'
  have:=posR_inj ok.asc (hF g hg) (ok.sub c hcm f hf) e
  subst this
  exact h ⟨g,hf,hg⟩
 ·rintro h ⟨a,ha,hb⟩
  exact h _ (List.mem_map.2 ⟨a,ha,rfl⟩) (List.mem_map.2 ⟨a,hb,rfl⟩)
theorem kept_away {m:Ms} (ok:MsOK m) {F s:List Int} (hF:∀f∈F,f∈m.rows) (hs:Sel (dcs m) s):s.filter (awayB m F)=keptP (dcs m) (freeP m.rows F) s:=by
 unfold keptP
 refine List.filter_congr fun i hi=>?_
 obtain ⟨c,hc⟩:=col_in hs.rg hi
 exact away_free ok hF hc
theorem Sel.filt {L:List Dc} {s:List Int} (h:Sel L s) (p:Int→Bool):Sel L (s.filter p):=⟨fun j hj=>h.rg j (List.mem_filter.1 hj).1,h.asc.filter _,List.Pairwise.filter _ h.dj⟩
theorem costV_of {m:Ms} {s:List Int} (h:Sel (dcs m) s):costV m s=m.base+sumI (dcs m) s:=by unfold costV;rw [h.err];rfl
theorem base_now {L:List Dc} {base:Int} {kept:List Int} (hk:Sel L kept):Now L base kept [] (orI L kept) (base+sumI L kept):=⟨by simpa using hk.nodup,by simpa using hk.rg,by simpa using hk.dj,by simp,by simp⟩
theorem imp_keep {m:Ms} (ok:MsOK m) {F s:List Int} (hF:∀f∈F,f∈m.rows) (hs:Sel (dcs m) s) (steps:Nat):
 Sel (dcs m) (impP m s F steps).1.best∧(∀i∈s.filter (awayB m F),i∈(impP m s F steps).1.best)∧costV m (impP m s F steps).1.best≤costV m s∧(impP m s F steps).1.used≤steps:=by
 rw [kept_away ok hF hs]
 have hk:Sel (dcs m) (keptP (dcs m) (freeP m.rows F) s):=hs.filt _
 have hsub:∀i∈keptP (dcs m) (freeP m.rows F) s,i∈s:=fun i hi=>(List.mem_filter.1 hi).1
 have key:Kp (dcs m) m.base (keptP (dcs m) (freeP m.rows F) s) (impP m s F steps).1∧(impP m s F steps).1.cost≤costV m s∧(impP m s F steps).1.used≤steps:=by
  unfold impP
  generalize keptP (dcs m) (freeP m.rows F) s=K at hk hsub ⊢
  unfold visP
  split
  ·exact ⟨⟨hs,hsub,costV_of hs⟩,Int.le_refl _,by simp⟩
  ·rename_i hne
   simp only at hne
   exact loop_keep (dcs_ok ok) m.base ⟨m.rows.length,K,steps⟩ (l:=prepP (dcs m) (orI (dcs m) K)) (fun x hx=>(prep_sub _ _).subset hx) (base_now hk) (st:=⟨s,costV m s,false,0+1⟩) (by simp only;omega) ⟨hs,hsub,costV_of hs⟩
 obtain ⟨⟨k1,k2,k3⟩,k4,k5⟩:=key
 exact ⟨k1,k2,by rw [costV_of k1,← k3];exact k4,k5⟩
theorem imp_best {m:Ms} (ok:MsOK m) {F s:List Int} (hF:∀f∈F,f∈m.rows) (hs:Sel (dcs m) s) {steps:Nat} (hst:65≤steps):
 (impP m s F steps).2=true∧Best (dcs m) (s.filter (awayB m F)) (impP m s F steps).1.best∧
 extP (dcs m) m.base m.cols.length (s.filter (awayB m F)) (s.filter (awayB m F)) (costV m (s.filter (awayB m F)))=((impP m s F steps).1.best,costV m (impP m s F steps).1.best):=by
 have hk:Sel (dcs m) (s.filter (awayB m F)):=hs.filt _
 obtain ⟨b1,b2⟩:=best_ext (dcs_ok ok).ne (dcs_ok ok).len (base:=m.base) hk
 have hl:(dcs m).length≤6:=by rw [dcs_len];exact ok.ncol
 have hp:2^(dcs m).length+1≤steps:=by
  have:2^(dcs m).length≤2^6:=Nat.pow_le_pow_right (by decide) hl
  omega
 have hs2:=search_best (n:=m.rows.length) (dcs_ok ok) (base:=m.base) hk hs (fun i hi=>(List.mem_filter.1 hi).1) b1 hp
 rw [← costV_of hs,kept_away ok hF hs] at hs2
 rw [dcs_len,← costV_of hk] at b1 b2
 rw [← costV_of b1.sel] at b2
 rw [kept_away ok hF hs] at b1 b2 ⊢
 rw [dcs_len,← costV_of (kept_away ok hF hs▸hk)] at hs2
 have hk':Sel (dcs m) (keptP (dcs m) (freeP m.rows F) s):=hs.filt _
 have e1:(impP m s F steps).2=true:=by unfold impP;rw [← costV_of hk'];exact hs2.1
 have e2:(impP m s F steps).1.best=(extP (dcs m) m.base m.cols.length (keptP (dcs m) (freeP m.rows F) s) (keptP (dcs m) (freeP m.rows F) s) (costV m (keptP (dcs m) (freeP m.rows F) s))).1:=by unfold impP;rw [← costV_of hk'];exact hs2.2
 refine ⟨e1,by rw [e2];exact b1,?_⟩
 rw [e2]
 exact Prod.ext rfl b2
end Pl
end
theorem diveImproves_any (v1:Value) (z1:List Int) (N1 N2:Int) (w:World) (h1:IntsM w v1 z1):
 Calls Tryz.prog 5 #[v1,.int .i64 N1,.int .i64 N2] w fun e w'=>e= .returned (.bool true)∧Below w.heap.size w w':=by
 go_enter Tryz.func5,Tryz.ntmps5
 go_wp2_with fail
 refine (master_own v1 z1 w h1).mono ?_
 rintro _ w1 ⟨vm,m,rfl,hm,ok,_,hb1⟩
 obtain ⟨A,nr,c,A',n',c',A'',n'',c'',rfl,hR,hC,hT⟩:=id hm
 have HM1:=Lib.hid hm
 have HOK:=Lib.hid ok
 clear hm ok hR hC hT
 generalize m.fl=F at *
 generalize m.pen=P at *
 go_upto_region 2 with (fail)
 have hbm:=below_new w1 (.cells #[.int .i64 F,.slice A nr c,.int .i64 P,.slice A' n' c',.slice A'' n'' c''] 26)
 have hX:=Bk.new w1 26 [.int .i64 F,.slice A nr c,.int .i64 P,.slice A' n' c',.slice A'' n'' c'']
 have e:(#[.int .i64 F,.slice A nr c,.int .i64 P,.slice A' n' c',.slice A'' n'' c'']:Array Value)=[.int .i64 F,.slice A nr c,.int .i64 P,.slice A' n' c',.slice A'' n'' c''].toArray:=rfl
 rw [← e] at hX
 clear e
 have HM:=Lib.hid (HM1.out.below hbm)
 have hbe:=below_then hb1 hbm hb1.size
 clear HM1 hb1 hbm
 generalize w1.alloc (.cells #[.int .i64 F,.slice A nr c,.int .i64 P,.slice A' n' c',.slice A'' n'' c''] 26)=W at *
 generalize w1.heap.size=gm at *
 obtain ⟨x0,x1,x2,x3,x4⟩:=hX.five
 have C0:=stab x0
 have C1:=stab x1
 have C2:=stab x2
 have C3:=stab x3
 have C4:=stab x4
 have hS0:=below_drew' W
 clear x0 x1 x2 x3 x4
 refine region_seq 8 [0,1,3,4,2,5,6,7] (by kernel_rfl) (by kernel_rfl) ?_
 repeat ((first | (refine seq_takeP (v:=?_) rfl rfl rfl ?_ ?_;rotate_left;(· (intro _ hSw;go_simp;(try go_bits);(try with_reducible rfl)))) | (refine seq_take (v:=?_) rfl rfl rfl ?_ ?_;rotate_left;(· (intro _ hSw;go_simp;(try go_bits);(try with_reducible rfl)))) | refine seq_skip rfl rfl rfl ?_);(try simp only [Act.put,pu1,pu2,pu3,pu4,pu5,pu6]))
 refine seq_step rfl rfl (fun KR hKR=>?_)
 go_simp
 refine (lawSel_own _ m N1 _ (HM.out.below hS0) HOK.out).mono ?_
 rintro _ w4 ⟨v4,s,rfl,h4,hsel,hb4⟩
 have hS4:=below_then hS0 hb4 hS0.size
 have H4:=Lib.hid h4.ints
 have HSEL:=Lib.hid hsel
 clear h4 hsel
 refine hKR.out _ _ (Or.inr hS4) ?_
 clear hKR KR
 (try simp only [Act.put,pu1,pu2,pu3,pu4,pu5,pu6])
 repeat ((first | (refine seq_takeP (v:=?_) rfl rfl rfl ?_ ?_;rotate_left;(· (intro _ hSw;go_simp;(try go_bits);(try with_reducible rfl)))) | (refine seq_take (v:=?_) rfl rfl rfl ?_ ?_;rotate_left;(· (intro _ hSw;go_simp;(try go_bits);(try with_reducible rfl)))) | refine seq_skip rfl rfl rfl ?_);(try simp only [Act.put,pu1,pu2,pu3,pu4,pu5,pu6]))
 refine seq_step rfl rfl (fun KR hKR=>?_)
 go_simp
 refine (lawRows_own _ m N2 _ (HM.out.below hS4) HOK.out).mono ?_
 rintro _ w5 ⟨v5,fr,rfl,h5,hfr,hb5⟩
 have hS5:=below_then hS4 hb5 hS4.size
 have H5:=Lib.hid h5.ints
 have HFR:=Lib.hid hfr
 clear h5 hfr
 refine hKR.out _ _ (Or.inr hS5) ?_
 clear hKR KR
 (try simp only [Act.put,pu1,pu2,pu3,pu4,pu5,pu6])
 repeat ((first | (refine seq_takeP (v:=?_) rfl rfl rfl ?_ ?_;rotate_left;(· (intro _ hSw;go_simp;(try go_bits);(try with_reducible rfl)))) | (refine seq_take (v:=?_) rfl rfl rfl ?_ ?_;rotate_left;(· (intro _ hSw;go_simp;(try go_bits);(try with_reducible rfl)))) | refine seq_skip rfl rfl rfl ?_);(try simp only [Act.put,pu1,pu2,pu3,pu4,pu5,pu6]))
 refine seq_done ?_
 have hX5:=hX.later hS5
 have HM5:=Lib.hid (HM.out.below hS5)
 have hbe5:=below_then hbe hS5 hbe.size
 have HI5:=Lib.hid (And.intro (H4.out.below hb5) H5.out)
 clear C0 C1 C2 C3 C4 hS0 hS4 hS5 hb4 hb5 hX HM hbe H4 H5
 have HIMP:=Lib.hid (improve_own _ _ _ m s fr 1048576 _ HM5.out HOK.out HI5.out.1 HSEL.out HI5.out.2 HFR.out (by decide))
 have HB:=Lib.hid (imp_best HOK.out (fun f hf=>HFR.out.subset hf) HSEL.out (steps:=1048576) (by decide))
 have HKP:=Lib.hid (imp_keep HOK.out (fun f hf=>HFR.out.subset hf) HSEL.out 1048576)
 unfold ImpPost at HIMP
 generalize impP m s fr 1048576=r at *
 obtain ⟨x0,x1,x2,x3,x4⟩:=hX5.five
 go_wp2_with fail
 refine HIMP.out.mono ?_
 clear HIMP
 rintro _ w6 ⟨v6,rfl,h6,hb6⟩
 rw [HB.out.1]
 have hX6:=hX5.later hb6
 have HM6:=Lib.hid (HM5.out.below hb6)
 have hbe6:=below_then hbe5 hb6 hbe5.size
 have HI6:=Lib.hid (And.intro (HI5.out.1.below hb6) (And.intro (HI5.out.2.below hb6) h6))
 have hu:(r.1.used:Int)≤1048576:=by have:=HKP.out.2.2.2;omega
 have hu0:0≤(r.1.used:Int):=by omega
 clear x0 x1 x2 x3 x4 hX5 HM5 hbe5 HI5 hb6 h6
 generalize (r.1.used:Int)=us at *
 obtain ⟨x0,x1,x2,x3,x4⟩:=hX6.five
 go_upto_region 4 with (fail)
 have C0:=stab x0
 have C1:=stab x1
 have C2:=stab x2
 have C3:=stab x3
 have C4:=stab x4
 have hS0:=below_drew' w6
 clear x0 x1 x2 x3 x4
 refine region_seq 11 [0,1,2,3,4,5,6,7,8,9,10] (by kernel_rfl) (by kernel_rfl) ?_
 repeat ((first | (refine seq_takeP (v:=?_) rfl rfl rfl ?_ ?_;rotate_left;(· (intro _ hSw;go_simp;(try go_bits);(try with_reducible rfl)))) | (refine seq_take (v:=?_) rfl rfl rfl ?_ ?_;rotate_left;(· (intro _ hSw;go_simp;(try go_bits);(try with_reducible rfl)))) | refine seq_skip rfl rfl rfl ?_);(try simp only [Act.put,pu1,pu2,pu3,pu4,pu5,pu6]))
 refine seq_step rfl rfl (fun KR hKR=>?_)
 go_simp
 refine (kept27_own _ _ _ m s fr _ (HM6.out.below hS0) HOK.out (HI6.out.1.below hS0) HSEL.out (HI6.out.2.1.below hS0)).mono ?_
 rintro _ w7 ⟨v7,rfl,h7,hb7⟩
 have hS7:=below_then hS0 hb7 hS0.size
 have H7:=Lib.hid h7.ints
 have HK7:=Lib.hid (HSEL.out.filt (awayB m fr))
 clear h7
 refine hKR.out _ _ (Or.inr hS7) ?_
 clear hKR KR
 (try simp only [Act.put,pu1,pu2,pu3,pu4,pu5,pu6])
 repeat ((first | (refine seq_takeP (v:=?_) rfl rfl rfl ?_ ?_;rotate_left;(· (intro _ hSw;go_simp;(try go_bits);(try with_reducible rfl)))) | (refine seq_take (v:=?_) rfl rfl rfl ?_ ?_;rotate_left;(· (intro _ hSw;go_simp;(try go_bits);(try with_reducible rfl)))) | refine seq_skip rfl rfl rfl ?_);(try simp only [Act.put,pu1,pu2,pu3,pu4,pu5,pu6]))
 refine seq_step rfl rfl (fun KR hKR=>?_)
 go_simp
 have HBS:=Lib.hid (bestSel_any _ _ m _ _ (HM6.out.below hS7) HOK.out H7.out HK7.out)
 unfold ExtPost at HBS
 rw [HB.out.2.2] at HBS
 refine HBS.out.mono ?_
 clear HBS
 rintro _ w8 ⟨v8,rfl,h8,hb8⟩
 have hS8:=below_then hS7 hb8 hS7.size
 have H8:=Lib.hid h8
 clear h8
 refine hKR.out _ _ (Or.inr hS8) ?_
 clear hKR KR
 (try simp only [Act.put,pu1,pu2,pu3,pu4,pu5,pu6])
 repeat ((first | (refine seq_takeP (v:=?_) rfl rfl rfl ?_ ?_;rotate_left;(· (intro _ hSw;go_simp;(try go_bits);(try with_reducible rfl)))) | (refine seq_take (v:=?_) rfl rfl rfl ?_ ?_;rotate_left;(· (intro _ hSw;go_simp;(try go_bits);(try with_reducible rfl)))) | refine seq_skip rfl rfl rfl ?_);(try simp only [Act.put,pu1,pu2,pu3,pu4,pu5,pu6]))
 refine seq_done ?_
 have hX8:=hX6.later hS8
 have HM8:=Lib.hid (HM6.out.below hS8)
 have hbe8:=below_then hbe6 hS8 hbe6.size
 have HI8:=Lib.hid (And.intro (HI6.out.2.2.below hS8) H8.out)
 have HE8:Hid (selErr (dcs m) r.1.best=0):=Lib.hid HKP.out.1.err
 clear C0 C1 C2 C3 C4 hS0 hS7 hS8 hb7 hb8 hX6 HM6 hbe6 HI6 H7 H8 HK7
 obtain ⟨x0,x1,x2,x3,x4⟩:=hX8.five
 go_wp2_with fail
 refine (cost27_any _ _ m r.1.best _ HM8.out HOK.out HI8.out.1).mono ?_
 rw [HE8.out]
 rintro _ w9 ⟨rfl,hb9⟩
 have hbe9:=below_then hbe8 hb9 hbe8.size
 have HI9:=Lib.hid (And.intro (HI8.out.1.below hb9) (HI8.out.2.below hb9))
 clear x0 x1 x2 x3 x4 hX8 HM8 hbe8 HI8 hb9 HB HKP
 generalize r.1.best=best at *
 generalize costV m best=cc at *
 have b2:(cc==cc)=true:=by simp
 go_wp2_with fail
 refine (sameInts_any _ _ best best _ HI9.out.1 HI9.out.2).mono ?_
 rw [show decide (best=best)=true by simp]
 rintro _ w10 ⟨rfl,hb10⟩
 have hbe10:=below_then hbe9 hb10 hbe9.size
 go_wp2_with fail
 refine (known_any _).mono ?_
 rintro _ w11 ⟨rfl,hb11⟩
 have hbe11:=below_then hbe10 hb11 hbe10.size
 go_wp2
 go_ret
 exact ⟨rfl,hbe11⟩
theorem diveBudgets_any (v1:Value) (z1:List Int) (N1 N2 N:Int) (w:World) (h1:IntsM w v1 z1):
 Calls Tryz.prog 6 #[v1,.int .i64 N1,.int .i64 N2,.int .i64 N] w fun e w'=>e= .returned (.bool true)∧Below w.heap.size w w':=by
 obtain ⟨q,hq⟩:=Int.eq_ofNat_of_zero_le (show 0≤N % 32 by omega)
 have hq31:q≤31:=by omega
 have e31:bits .and .i64 N 31=(q:Int):=by rw [i64_and31,hq]
 clear hq
 go_enter Tryz.func6,Tryz.ntmps6
 go_wp2_with fail
 refine (master_own v1 z1 w h1).mono ?_
 rintro _ w1 ⟨vm,m,rfl,hm,ok,_,hb1⟩
 obtain ⟨A,nr,c,A',n',c',A'',n'',c'',rfl,hR,hC,hT⟩:=id hm
 have HM1:=Lib.hid hm
 have HOK:=Lib.hid ok
 clear hm ok hR hC hT
 generalize m.fl=F at *
 generalize m.pen=P at *
 go_upto_region 2 with (fail)
 have hbm:=below_new w1 (.cells #[.int .i64 F,.slice A nr c,.int .i64 P,.slice A' n' c',.slice A'' n'' c''] 26)
 have hX:=Bk.new w1 26 [.int .i64 F,.slice A nr c,.int .i64 P,.slice A' n' c',.slice A'' n'' c'']
 have e:(#[.int .i64 F,.slice A nr c,.int .i64 P,.slice A' n' c',.slice A'' n'' c'']:Array Value)=[.int .i64 F,.slice A nr c,.int .i64 P,.slice A' n' c',.slice A'' n'' c''].toArray:=rfl
 rw [← e] at hX
 clear e
 have HM:=Lib.hid (HM1.out.below hbm)
 have hbe:=below_then hb1 hbm hb1.size
 clear HM1 hb1 hbm
 generalize w1.alloc (.cells #[.int .i64 F,.slice A nr c,.int .i64 P,.slice A' n' c',.slice A'' n'' c''] 26)=W at *
 generalize w1.heap.size=gm at *
 obtain ⟨x0,x1,x2,x3,x4⟩:=hX.five
 have C0:=stab x0
 have C1:=stab x1
 have C2:=stab x2
 have C3:=stab x3
 have C4:=stab x4
 have hS0:=below_drew' W
 clear x0 x1 x2 x3 x4
 refine region_seq 8 [0,1,3,4,2,5,6,7] (by kernel_rfl) (by kernel_rfl) ?_
 repeat ((first | (refine seq_takeP (v:=?_) rfl rfl rfl ?_ ?_;rotate_left;(· (intro _ hSw;go_simp;(try go_bits);(try with_reducible rfl)))) | (refine seq_take (v:=?_) rfl rfl rfl ?_ ?_;rotate_left;(· (intro _ hSw;go_simp;(try go_bits);(try with_reducible rfl)))) | refine seq_skip rfl rfl rfl ?_);(try simp only [Act.put,pu1,pu2,pu3,pu4,pu5,pu6]))
 refine seq_step rfl rfl (fun KR hKR=>?_)
 go_simp
 refine (lawSel_own _ m N1 _ (HM.out.below hS0) HOK.out).mono ?_
 rintro _ w4 ⟨v4,s,rfl,h4,hsel,hb4⟩
 have hS4:=below_then hS0 hb4 hS0.size
 have H4:=Lib.hid h4.ints
 have HSEL:=Lib.hid hsel
 clear h4 hsel
 refine hKR.out _ _ (Or.inr hS4) ?_
 clear hKR KR
 (try simp only [Act.put,pu1,pu2,pu3,pu4,pu5,pu6])
 repeat ((first | (refine seq_takeP (v:=?_) rfl rfl rfl ?_ ?_;rotate_left;(· (intro _ hSw;go_simp;(try go_bits);(try with_reducible rfl)))) | (refine seq_take (v:=?_) rfl rfl rfl ?_ ?_;rotate_left;(· (intro _ hSw;go_simp;(try go_bits);(try with_reducible rfl)))) | refine seq_skip rfl rfl rfl ?_);(try simp only [Act.put,pu1,pu2,pu3,pu4,pu5,pu6]))
 refine seq_step rfl rfl (fun KR hKR=>?_)
 go_simp
 refine (lawRows_own _ m N2 _ (HM.out.below hS4) HOK.out).mono ?_
 rintro _ w5 ⟨v5,fr,rfl,h5,hfr,hb5⟩
 have hS5:=below_then hS4 hb5 hS4.size
 have H5:=Lib.hid h5.ints
 have HFR:=Lib.hid hfr
 clear h5 hfr
 refine hKR.out _ _ (Or.inr hS5) ?_
 clear hKR KR
 (try simp only [Act.put,pu1,pu2,pu3,pu4,pu5,pu6])
 repeat ((first | (refine seq_takeP (v:=?_) rfl rfl rfl ?_ ?_;rotate_left;(· (intro _ hSw;go_simp;(try go_bits);(try with_reducible rfl)))) | (refine seq_take (v:=?_) rfl rfl rfl ?_ ?_;rotate_left;(· (intro _ hSw;go_simp;(try go_bits);(try with_reducible rfl)))) | refine seq_skip rfl rfl rfl ?_);(try simp only [Act.put,pu1,pu2,pu3,pu4,pu5,pu6]))
 refine seq_done ?_
 have hX5:=hX.later hS5
 have HM5:=Lib.hid (HM.out.below hS5)
 have hbe5:=below_then hbe hS5 hbe.size
 have HI5:=Lib.hid (And.intro (H4.out.below hb5) H5.out)
 clear C0 C1 C2 C3 C4 hS0 hS4 hS5 hb4 hb5 hX HM hbe H4 H5
 have HIMP:=Lib.hid (improve_own _ _ _ m s fr q _ HM5.out HOK.out HI5.out.1 HSEL.out HI5.out.2 HFR.out (by omega))
 have HKP:=Lib.hid (imp_keep HOK.out (fun f hf=>HFR.out.subset hf) HSEL.out q)
 unfold ImpPost at HIMP
 generalize impP m s fr q=r at *
 obtain ⟨x0,x1,x2,x3,x4⟩:=hX5.five
 go_wp2_with fail
 refine HIMP.out.mono ?_
 clear HIMP
 rintro _ w6 ⟨v6,rfl,h6,hb6⟩
 have hX6:=hX5.later hb6
 have HM6:=Lib.hid (HM5.out.below hb6)
 have hbe6:=below_then hbe5 hb6 hbe5.size
 have HI6:=Lib.hid (And.intro (HI5.out.1.below hb6) (And.intro (HI5.out.2.below hb6) h6))
 have hu:(r.1.used:Int)≤(q:Int):=by have:=HKP.out.2.2.2;omega
 have hu1:¬(q:Int) < (r.1.used:Int):=by omega
 have hu0:¬(r.1.used:Int) < 0:=by omega
 have HE8:Hid (selErr (dcs m) r.1.best=0∧selErr (dcs m) s=0):=Lib.hid ⟨HKP.out.1.err,HSEL.out.err⟩
 have hle:¬costV m s < costV m r.1.best:=by have:=HKP.out.2.2.1;omega
 have HSUB:=Lib.hid HKP.out.2.1
 clear x0 x1 x2 x3 x4 hX5 HM5 hbe5 HI5 hb6 h6 HKP
 generalize (r.1.used:Int)=us at *
 generalize r.2=dn at *
 generalize r.1.best=best at *
 generalize hcb:costV m best=cb at *
 generalize hcs:costV m s=cs at *
 have HCC:=Lib.hid (And.intro hcb hcs)
 clear hcb hcs
 obtain ⟨x0,x1,x2,x3,x4⟩:=hX6.five
 go_wp2_with fail
 refine (cost27_any _ _ m best _ HM6.out HOK.out HI6.out.2.2).mono ?_
 rw [HE8.out.1,HCC.out.1]
 rintro _ w7 ⟨rfl,hb7⟩
 have hX7:=hX6.later hb7
 have HM7:=Lib.hid (HM6.out.below hb7)
 have hbe7:=below_then hbe6 hb7 hbe6.size
 have HI7:=Lib.hid (And.intro (HI6.out.1.below hb7) (And.intro (HI6.out.2.1.below hb7) (HI6.out.2.2.below hb7)))
 clear x0 x1 x2 x3 x4 hX6 HM6 hbe6 HI6 hb7
 obtain ⟨x0,x1,x2,x3,x4⟩:=hX7.five
 go_wp2_with fail
 refine (cost27_any _ _ m s _ HM7.out HOK.out HI7.out.1).mono ?_
 rw [HE8.out.2,HCC.out.2]
 rintro _ w8 ⟨rfl,hb8⟩
 have hX8:=hX7.later hb8
 have HM8:=Lib.hid (HM7.out.below hb8)
 have hbe8:=below_then hbe7 hb8 hbe7.size
 have HI8:=Lib.hid (And.intro (HI7.out.1.below hb8) (And.intro (HI7.out.2.1.below hb8) (HI7.out.2.2.below hb8)))
 clear x0 x1 x2 x3 x4 hX7 HM7 hbe7 HI7 hb8
 obtain ⟨x0,x1,x2,x3,x4⟩:=hX8.five
 go_wp2_with fail
 refine (kept27_own _ _ _ m s fr _ HM8.out HOK.out HI8.out.1 HSEL.out HI8.out.2.1).mono ?_
 rintro _ w9 ⟨v9,rfl,h9,hb9⟩
 obtain ⟨A9,c9,rfl,hc1,hc2⟩:=h9.ints.shape
 have hbe9:=below_then hbe8 hb9 hbe8.size
 have HI9:=Lib.hid (And.intro h9.ints (HI8.out.2.2.below hb9))
 clear x0 x1 x2 x3 x4 hX8 HM8 hbe8 HI8 hb9 h9 hu hu0 hu1 hle HSEL HFR HE8 HCC
 generalize s.filter (awayB m fr)=kept at *
 obtain ⟨n,hn⟩:∃n,n=kept.length:=⟨_,rfl⟩
 rw [← hn] at HI9 hc1 ⊢
 clear hn
 go_wp2
 generalize w9=wo at *
 go_loopw [21] (fun x wr=>∃k:Nat,k≤n∧x= .int .i64 k∧Below wo.heap.size wo wr) (fun x _=>n - (intOf x).toNat)
 case atStart=>exact ⟨0,by omega,rfl,Below.refl _ _⟩
 case round=>
  obtain ⟨k,hk,rfl,hb⟩:=hrel
  have hbr:=below_then hbe9 hb hbe9.size
  rcases Nat.lt_or_ge k n with hkl | hkl
  ·have hkz:(k:Int) < n:=by omega
   obtain ⟨b4,o4,y,hA4,hcell,hy,_,_⟩:=HI9.out.1.elem hb hkl
   subst hA4
   have HIN:Hid (decide (y∈best)=true):=Lib.hid (decide_eq_true (HSUB.out y (List.mem_of_getElem? hy)))
   clear hy
   go_wp2_with fail
   refine (has_any _ best y _ (HI9.out.2.below hb)).mono ?_
   rw [HIN.out]
   rintro _ w10 ⟨rfl,hb10⟩
   have hb11:=below_then hb hb10 hb.size
   go_wp2
   go_roundw
   case rel=>exact ⟨k+1,by omega,by go_num,hb11⟩
   case measure=>simp [intOf];omega
  ·obtain rfl:n=k:=by omega
   go_wp2_with fail
   refine (known_any _).mono ?_
   rintro _ w10 ⟨rfl,hb10⟩
   have hb11:=below_then hbr hb10 hbr.size
   go_wp2
   go_ret
   exact ⟨rfl,hb11⟩
end Go.Proofs.YtgdcbjligbnpgaaGreat
