/- Lemmas of the claim; no condition. -/
import Derived.Test.YtgdcbjligbnpgaaGreatH16
set_option linter.all false
set_option maxRecDepth 100000
set_option maxHeartbeats 40000000
namespace Go.Proofs.YtgdcbjligbnpgaaGreat
open Go.RowKit
open Pl
attribute [local go_sem ↓] Go.wp_at_zero Go.wp_at_succ
theorem earlier_any (v1 v2:Value) (xs ys:List Int) (w:World) (h1:IntsM w v1 xs) (h2:IntsM w v2 ys):
 Calls Tryz.prog 74 #[v1,v2] w fun e w'=>e= .returned (.bool (earB xs ys 1000 0))∧Below w.heap.size w w':=by
 have H1:=Lib.hid h1
 have H2:=Lib.hid h2
 clear h1 h2
 go_enter Tryz.func74,Tryz.ntmps74
 go_wp2
 go_loopw [5] (fun x wr=>∃k:Nat,k≤1000∧x= .int .i64 k∧Below w.heap.size w wr∧Hid (earB xs ys 1000 0=earB xs ys (1000 - k) k)) (fun x _=>1000 - (intOf x).toNat)
 case atStart=>exact ⟨0,by omega,rfl,Below.refl _ _,Lib.hid rfl⟩
 case round=>
  obtain ⟨k,hk,rfl,hb,HE⟩:=hrel
  rcases Nat.lt_or_ge k 1000 with hkl | hkl
  ·have hkz:(k:Int) < 1000:=by omega
   have HST:Hid (earB xs ys (1000 - k) k=if decide ((k:Int)∈xs)=decide ((k:Int)∈ys) then earB xs ys (1000 - (k+1)) (k+1) else decide ((k:Int)∈xs)):=Lib.hid (by
    rw [show 1000 - k=(1000 - (k+1))+1 by omega,earB])
   go_wp2_with fail
   refine (has_any _ xs (k:Int) _ (H1.out.below hb)).mono ?_
   rintro _ w2 ⟨rfl,hb2⟩
   have hb3:=below_then hb hb2 hb.size
   go_wp2_with fail
   refine (has_any _ ys (k:Int) _ (H2.out.below hb3)).mono ?_
   rintro _ w4 ⟨rfl,hb4⟩
   have hb5:=below_then hb3 hb4 hb3.size
   clear hb hb2 hb3 hb4
   generalize decide ((k:Int)∈xs)=p at *
   generalize decide ((k:Int)∈ys)=q at *
   by_cases e:p=q
   ·subst e
    have HN:Hid (earB xs ys 1000 0=earB xs ys (1000 - (k+1)) (k+1)):=Lib.hid (by rw [HE.out,HST.out,if_pos rfl])
    have e1:(p !=p)=false:=by cases p <;> rfl
    go_wp2
    go_roundw
    case rel=>exact ⟨k+1,by omega,by go_num,hb5,HN⟩
    case measure=>simp [intOf];omega
   ·have HN:Hid (earB xs ys 1000 0=p):=Lib.hid (by rw [HE.out,HST.out,if_neg e])
    obtain rfl:q= !p:=by cases p <;> cases q <;> simp_all
    clear e HST
    cases p
    ·go_wp2
     go_ret
     exact ⟨by rw [HN.out];rfl,hb5⟩
    ·go_wp2
     go_ret
     exact ⟨by rw [HN.out];rfl,hb5⟩
  ·have hk0:1000 - k=0:=by omega
   have hkz:¬(k:Int) < 1000:=by omega
   have HN:Hid (earB xs ys 1000 0=false):=Lib.hid (by rw [HE.out,hk0];rfl)
   clear hk0
   go_wp2
   go_ret
   exact ⟨by rw [HN.out];rfl,hb⟩
def Pl.djB (m:Ms) (j:Nat) (i:Int):Bool:=decide (mkI (dcs m) i &&& mkI (dcs m) (j:Int)=0)
theorem Pl.frB_dj {m:Ms} (ok:MsOK m) {j:Nat} {cl:Cl} (hc:m.cols[j]? =some cl) {now:List Int}:frB (dcs m) now j=(!decide ((j:Int)∈now) && now.all (djB m j)):=by
 have e:frB (dcs m) now j=now.all (djB m j):=rfl
 rw [e]
 by_cases hd:(j:Int)∈now
 ·have:now.all (djB m j)=false:=by
   rw [List.all_eq_false]
   refine ⟨(j:Int),hd,?_⟩
   unfold djB
   have hm:=(dcol_ok ok (i:=j) (List.mem_of_getElem? hc)).mask_ne
   rw [mkI_of (dcs_at hc),Nat.and_self]
   simpa using hm
  rw [this];simp
 ·simp [hd]
def ExtPost (m:Ms) (k:Nat) (now best:List Int) (low:Int) (w:World) (e:Ending) (w':World):Prop:=
 ∃v',e= .returned (.tuple #[v',.int .i64 (extP (dcs m) m.base k now best low).2])∧IntsM w' v' (extP (dcs m) m.base k now best low).1∧Below w.heap.size w w'
theorem extend_any (m:Ms) (ok:MsOK m):∀(k:Nat),k≤m.cols.length→∀(v0 v1 v3:Value) (now best:List Int) (low:Int) (w:World),MsM w v0 m→IntsM w v1 now→IntsM w v3 best→Sel (dcs m) now→
 Calls Tryz.prog 49 #[v0,v1,.int .i64 ((m.cols.length - k:Nat):Int),v3,.int .i64 low] w (ExtPost m k now best low w):=by
 have HOK:=Lib.hid ok
 clear ok
 intro k
 induction k with
 | zero=>
  intro _ v0 v1 v3 now best low w h h1 h3 hs
  obtain ⟨A,n,c,A',n',c',A'',n'',c'',rfl,hR,hC,hT⟩:=id h
  obtain ⟨s1,s2,s3⟩:=RdM.len hC
  obtain ⟨W,hW,hX,hbe⟩:=box_ms w (.int .i64 m.fl) (.slice A n c) (.int .i64 m.pen) (.slice A' n' c') (.slice A'' n'' c'')
  have HM:=Lib.hid (h.below hbe)
  have HI:=Lib.hid (And.intro (h1.below hbe) (h3.below hbe))
  have HE:Hid (extP (dcs m) m.base 0 now best low=if m.base+sumI (dcs m) now < low∨(m.base+sumI (dcs m) now=low∧earB now best 1000 0=true) then (now,m.base+sumI (dcs m) now) else (best,low)):=Lib.hid rfl
  have HCV:Hid (costV m now=m.base+sumI (dcs m) now∧selErr (dcs m) now=0):=Lib.hid ⟨by unfold costV;rw [hs.err];rfl,hs.err⟩
  rw [Nat.sub_zero,← s1]
  clear h hR hC hT h1 h3 hs s1
  generalize m.fl=F at *
  generalize m.pen=P at *
  obtain ⟨x0,x1,x2,x3,x4⟩:=hX.five
  have n1:((n':Int)==(n':Int))=true:=by simp
  go_enter Tryz.func49,Tryz.ntmps49
  go_wp2_with fail
  clear hW x0 x1 x2 x3 x4
  refine (cost27_any _ _ m now _ HM.out HOK.out HI.out.1).mono ?_
  rw [HCV.out.1,HCV.out.2]
  rintro _ w2 ⟨rfl,hb2⟩
  have hbe2:=below_then hbe hb2 hbe.size
  have HI2:=Lib.hid (And.intro (HI.out.1.below hb2) (HI.out.2.below hb2))
  clear hbe hb2 hX HM HI HCV
  generalize m.base+sumI (dcs m) now=z at *
  rcases Int.lt_trichotomy z low with hl | hl | hl
  ·have HF:Hid (extP (dcs m) m.base 0 now best low=(now,z)):=Lib.hid (by rw [HE.out,if_pos (.inl hl)])
   go_wp2
   go_ret2
   exact ⟨_,by rw [HF.out];rfl,by rw [HF.out];exact HI2.out.1,hbe2⟩
  ·have h1:¬z < low:=by omega
   have h2:(z==low)=true:=by simpa using hl
   have HH:=Lib.hid hl
   clear hl
   go_wp2_with fail
   refine (earlier_any _ _ now best _ HI2.out.1 HI2.out.2).mono ?_
   rintro _ w4 ⟨rfl,hb4⟩
   have hbe4:=below_then hbe2 hb4 hbe2.size
   have HI4:=Lib.hid (And.intro (HI2.out.1.below hb4) (HI2.out.2.below hb4))
   cases he:earB now best 1000 0 with
   | true=>
    have HF:Hid (extP (dcs m) m.base 0 now best low=(now,z)):=Lib.hid (by rw [HE.out,if_pos (.inr ⟨HH.out,he⟩)])
    clear he
    go_wp2
    go_ret2
    exact ⟨_,by rw [HF.out];rfl,by rw [HF.out];exact HI4.out.1,hbe4⟩
   | false=>
    have HF:Hid (extP (dcs m) m.base 0 now best low=(best,low)):=Lib.hid (by rw [HE.out,if_neg (by rw [he];simp;omega)])
    clear he
    go_wp2
    go_ret2
    exact ⟨_,by rw [HF.out];rfl,by rw [HF.out];exact HI4.out.2,hbe4⟩
  ·have h1:¬z < low:=by omega
   have h2:(z==low)=false:=by simp;omega
   have HF:Hid (extP (dcs m) m.base 0 now best low=(best,low)):=Lib.hid (by rw [HE.out,if_neg (by omega)])
   go_wp2
   go_ret2
   exact ⟨_,by rw [HF.out];rfl,by rw [HF.out];exact HI2.out.2,hbe2⟩
 | succ k ih=>
  intro hk v0 v1 v3 now best low w h h1 h3 hs
  obtain ⟨j,hj⟩:∃j,j=m.cols.length - (k+1):=⟨_,rfl⟩
  have hj1:m.cols.length - k=j+1:=by omega
  have hjl:j < m.cols.length:=by omega
  have HIH:=Lib.hid (ih (by omega))
  clear ih
  rw [hj1] at HIH
  rw [← hj]
  have HE:Hid (extP (dcs m) m.base (k+1) now best low=if frB (dcs m) now j=true then extP (dcs m) m.base k now (extP (dcs m) m.base k (insB ltI (j:Int) now) best low).1 (extP (dcs m) m.base k (insB ltI (j:Int) now) best low).2 else extP (dcs m) m.base k now best low):=Lib.hid (by rw [extP,dcs_len,← hj])
  obtain ⟨A,n,c,A',n',c',A'',n'',c'',rfl,hR,hC,hT⟩:=id h
  obtain ⟨s1,s2,s3⟩:=RdM.len hC
  obtain ⟨As,cs,rfl,hs2,hs3⟩:=h1.shape
  obtain ⟨q,hq⟩:∃q,q=now.length:=⟨_,rfl⟩
  rw [← hq] at h1 hs2 ⊢
  obtain ⟨W,hW,hX,hbe⟩:=box_ms w (.int .i64 m.fl) (.slice A n c) (.int .i64 m.pen) (.slice A' n' c') (.slice A'' n'' c'')
  have HM:=Lib.hid (h.below hbe)
  have HC:=Lib.hid hC
  have HI:=Lib.hid (And.intro (h1.below hbe) (h3.below hbe))
  have HN0:=Lib.hid h1
  have HSEL:=Lib.hid hs
  have HCN:=Lib.hid s1
  have HQN:=Lib.hid hq
  have hq6:q≤6:=by have:=asc_len hs.rg hs.asc;have:=HOK.out.ncol;rw [dcs_len] at *;omega
  have hjn:j < n':=by omega
  have hjz:(j:Int) < n':=by omega
  have hne:((j:Int)==(n':Int))=false:=by simp;omega
  have hj6:j < 1000:=by have:=HOK.out.ncol;omega
  obtain ⟨cl,hcl⟩:∃cl,m.cols[j]? =some cl:=⟨_,List.getElem?_eq_getElem hjl⟩
  have HCL:=Lib.hid hcl
  clear h hR hC hT h1 h3 hs s1 hq hj hj1 hcl
  generalize m.fl=F at *
  generalize m.pen=P at *
  obtain ⟨x0,x1,x2,x3,x4⟩:=hX.five
  go_enter Tryz.func49,Tryz.ntmps49
  go_wp2_with fail
  clear hW x0 x1 x2 x3 x4
  refine (has_any _ now (j:Int) _ HI.out.1).mono ?_
  rintro _ w2 ⟨rfl,hb2⟩
  have hX2:=hX.later hb2
  have hbe2:=below_then hbe hb2 hbe.size
  have HM2:=Lib.hid (HM.out.below hb2)
  have HI2:=Lib.hid (And.intro (HI.out.1.below hb2) (HI.out.2.below hb2))
  clear hX hbe hb2 HM HI
  go_wp2
  go_loopw [14,15] (fun s14 x wr=>∃(i:Nat) (bb:Bool),i≤q∧x= .int .i64 i∧s14= .bool bb∧Below w2.heap.size w2 wr∧Hid (bb=(!decide ((j:Int)∈now) && (now.take i).all (djB m j)))) (fun _ x _=>q - (intOf x).toNat)
  case atStart=>exact ⟨0,_,by omega,rfl,rfl,Below.refl _ _,Lib.hid (by simp)⟩
  case round=>
   obtain ⟨i,bb,hi,rfl,rfl,hb,HV⟩:=hrel
   have hb3:=below_then hbe2 hb hbe2.size
   have hX3:=hX2.later hb
   obtain ⟨x0,x1,x2,x3,x4⟩:=hX3.five
   have hfr:(bb=false∨i=q)→Hid (bb=frB (dcs m) now j):=fun hh=>Lib.hid (by
    rw [frB_dj HOK.out HCL.out]
    have h1:=HV.out
    rcases hh with hh | hh
    ·subst hh
     cases hd:decide ((j:Int)∈now) with
     | true=>simp
     | false=>
      rw [hd] at h1
      simp only [Bool.not_false,Bool.true_and] at h1 ⊢
      cases ha:now.all (djB m j) with
      | false=>rfl
      | true=>
       exfalso
       have:(now.take i).all (djB m j)=true:=by
        rw [List.all_eq_true] at ha ⊢
        exact fun y hy=>ha y (List.mem_of_mem_take hy)
       rw [this] at h1;cases h1
    ·rw [hh,take_all HQN.out] at h1;exact h1)
   by_cases hgo:bb=true∧i < q
   ·obtain ⟨rfl,hil⟩:=hgo
    have hiz:(i:Int) < q:=by omega
    obtain ⟨b3,o3,y,hA3,hcell,hy,yb0,yb1⟩:=HN0.out.elem hb3 hil
    subst hA3
    obtain ⟨cy,hcy⟩:=col_in HSEL.out.rg (List.mem_of_getElem? hy)
    obtain ⟨i0,i1⟩:=HSEL.out.rg y (List.mem_of_getElem? hy)
    rw [dcs_len,← HCN.out] at i1
    have hyn:y.toNat < n':=by omega
    obtain ⟨bc,oc,sb,A1,n1,c1,hA,_,e0,e1,e2,hD⟩:=HC.out.elem hb3 hcy
    obtain ⟨bc',oc',sb',A1',n1',c1',hA',_,g0,g1,g2,hD'⟩:=HC.out.elem hb3 HCL.out
    subst hA
    injection hA' with hA'
    injection hA' with q1 q2 _
    subst q1 q2
    have HOLY:=Lib.hid (HOK.out.opl (List.mem_of_getElem? hcy))
    have HOLJ:=Lib.hid (HOK.out.opl (List.mem_of_getElem? HCL.out))
    have HDY:=Lib.hid hD
    have HDJ:=Lib.hid hD'
    have HDJB:Hid (djB m j y= !decide (∃a∈cy.ops,a∈cl.ops)):=Lib.hid (by
     obtain ⟨yn,rfl⟩:=Int.eq_ofNat_of_zero_le i0
     simp only [Int.toNat_natCast] at hcy
     unfold djB
     rw [mkI_of (dcs_at hcy),mkI_of (dcs_at HCL.out),Bool.eq_iff_iff]
     simp only [decide_eq_true_eq,Bool.not_eq_true',decide_eq_false_iff_not]
     rw [mask_disj HOK.out (List.mem_of_getElem? hcy) (List.mem_of_getElem? HCL.out)]
     constructor
     ·rintro h ⟨a,ha,hb⟩;exact h a ha hb
     ·intro h f hf hf';exact h ⟨f,hf,hf'⟩)
    have HTK:Hid ((now.take (i+1)).all (djB m j)=((now.take i).all (djB m j) && djB m j y)):=Lib.hid (by rw [List.take_add_one,hy,List.all_append];simp)
    clear hy hcy hD hD' hfr
    go_upto_region 10 with (fail)
    have C0:=stab hcell
    have C1:=stab x3
    have C2:=stab e0
    have C3:=stab e1
    have C4:=stab e2
    have D2:=stab g0
    have D3:=stab g1
    have D4:=stab g2
    have hS0:=below_drew' wr
    clear hcell x0 x1 x2 x3 x4 e0 e1 e2 g0 g1 g2
    refine region_seq 20 [0,1,2,3,4,5,6,7,8,10,11,12,13,14,15,9,16,17,18,19] (by kernel_rfl) (by kernel_rfl) ?_
    repeat ((first | (refine seq_takeP (v:=?_) rfl rfl rfl ?_ ?_;rotate_left;(· (intro _ hSw;go_simp;(try go_bits);(try with_reducible rfl)))) | (refine seq_take (v:=?_) rfl rfl rfl ?_ ?_;rotate_left;(· (intro _ hSw;go_simp;(try go_bits);(try with_reducible rfl)))) | refine seq_skip rfl rfl rfl ?_);(try simp only [Act.put,pu1,pu2,pu3,pu4,pu5,pu6]))
    refine seq_step rfl rfl (fun KR hKR=>?_)
    go_simp
    with_reducible refine (operated27_own sb A1 n1 c1 cy.dut _ (HDY.out.below hS0) (by have:=HOLY.out;unfold Cl.ops at this;omega)).mono ?_
    rintro _ w4 ⟨v4,rfl,h4,hb4⟩
    have hS4:=below_then hS0 hb4 hS0.size
    have H4:Hid (IntsM w4 v4 cy.ops):=Lib.hid h4.ints
    clear h4
    refine hKR.out _ _ (Or.inr hS4) ?_
    clear hKR KR
    (try simp only [Act.put,pu1,pu2,pu3,pu4,pu5,pu6])
    repeat ((first | (refine seq_takeP (v:=?_) rfl rfl rfl ?_ ?_;rotate_left;(· (intro _ hSw;go_simp;(try go_bits);(try with_reducible rfl)))) | (refine seq_take (v:=?_) rfl rfl rfl ?_ ?_;rotate_left;(· (intro _ hSw;go_simp;(try go_bits);(try with_reducible rfl)))) | refine seq_skip rfl rfl rfl ?_);(try simp only [Act.put,pu1,pu2,pu3,pu4,pu5,pu6]))
    refine seq_step rfl rfl (fun KR hKR=>?_)
    go_simp
    with_reducible refine (operated27_own sb' A1' n1' c1' cl.dut _ (HDJ.out.below hS4) (by have:=HOLJ.out;unfold Cl.ops at this;omega)).mono ?_
    rintro _ w5 ⟨v5,rfl,h5,hb5⟩
    have hS5:=below_then hS4 hb5 hS4.size
    have H5:Hid (IntsM w5 v5 cl.ops):=Lib.hid h5.ints
    clear h5
    refine hKR.out _ _ (Or.inr hS5) ?_
    clear hKR KR
    (try simp only [Act.put,pu1,pu2,pu3,pu4,pu5,pu6])
    repeat ((first | (refine seq_takeP (v:=?_) rfl rfl rfl ?_ ?_;rotate_left;(· (intro _ hSw;go_simp;(try go_bits);(try with_reducible rfl)))) | (refine seq_take (v:=?_) rfl rfl rfl ?_ ?_;rotate_left;(· (intro _ hSw;go_simp;(try go_bits);(try with_reducible rfl)))) | refine seq_skip rfl rfl rfl ?_);(try simp only [Act.put,pu1,pu2,pu3,pu4,pu5,pu6]))
    refine seq_step rfl rfl (fun KR hKR=>?_)
    go_simp
    with_reducible refine (meets_any _ _ cy.ops cl.ops _ (H4.out.below hb5) H5.out).mono ?_
    rintro _ w6 ⟨rfl,hb6⟩
    have hS6:=below_then hS5 hb6 hS5.size
    refine hKR.out _ _ (Or.inr hS6) ?_
    clear hKR KR
    (try simp only [Act.put,pu1,pu2,pu3,pu4,pu5,pu6])
    repeat ((first | (refine seq_takeP (v:=?_) rfl rfl rfl ?_ ?_;rotate_left;(· (intro _ hSw;go_simp;(try go_bits);(try with_reducible rfl)))) | (refine seq_take (v:=?_) rfl rfl rfl ?_ ?_;rotate_left;(· (intro _ hSw;go_simp;(try go_bits);(try with_reducible rfl)))) | refine seq_skip rfl rfl rfl ?_);(try simp only [Act.put,pu1,pu2,pu3,pu4,pu5,pu6]))
    refine seq_done ?_
    have hb7:=below_then hb hS6 hb.size
    have HN:Hid ((!decide (∃a∈cy.ops,a∈cl.ops))=(!decide ((j:Int)∈now) && (now.take (i+1)).all (djB m j))):=Lib.hid (by rw [HTK.out,← Bool.and_assoc,← HV.out,Bool.true_and,HDJB.out])
    clear C0 C1 C2 C3 C4 D2 D3 D4 hS0 hS4 hS5 hS6 hb4 hb5 hb6 hb hb3 hX3
    go_wp2
    go_roundw
    case rel=>exact ⟨i+1,_,by omega,by go_num,rfl,hb7,HN⟩
    case measure=>simp [intOf];omega
   ·have HFR:=hfr (by
     cases bb with
     | false=>exact .inl rfl
     | true=>exact .inr (by
      rcases Nat.lt_or_ge i q with h | h
      ·exact absurd ⟨rfl,h⟩ hgo
      ·omega))
    have hout:(decide ((i:Int) < q) && bb)=false:=by
     cases bb with
     | false=>simp
     | true=>
      have:¬i < q:=fun h=>hgo ⟨rfl,h⟩
      simp;omega
    have HM3:=Lib.hid (HM2.out.below hb)
    have HI3:=Lib.hid (And.intro (HI2.out.1.below hb) (HI2.out.2.below hb))
    clear hgo hfr HV hb hX3
    cases bb with
    | true=>
     have hiq:¬(i:Int) < q:=by simpa using hout
     have hfx:frB (dcs m) now j=true:=HFR.out.symm
     have HE2:Hid (extP (dcs m) m.base (k+1) now best low=extP (dcs m) m.base k now (extP (dcs m) m.base k (insB ltI (j:Int) now) best low).1 (extP (dcs m) m.base k (insB ltI (j:Int) now) best low).2):=Lib.hid (by rw [HE.out,if_pos hfx])
     have HSI:Hid (Sel (dcs m) (insB ltI (j:Int) now)):=Lib.hid ((HSEL.out.ins (dcs_ok HOK.out).ne (by rw [dcs_len];exact hjl) hfx).2)
     clear hout hfx
     have y0:=x0
     have y1:=x1
     have y2:=x2
     have y3:=x3
     have y4:=x4
     go_upto_region 12 with (fail)
     have C0:=stab x0
     have C1:=stab x1
     have C2:=stab x2
     have C3:=stab x3
     have C4:=stab x4
     have hS0:=below_drew' wr
     clear x0 x1 x2 x3 x4
     refine region_seq 14 [0,1,2,4,5,6,7,3,8,9,10,11,12,13] (by kernel_rfl) (by kernel_rfl) ?_
     repeat ((first | (refine seq_takeP (v:=?_) rfl rfl rfl ?_ ?_;rotate_left;(· (intro _ hSw;go_simp;(try go_bits);(try with_reducible rfl)))) | (refine seq_take (v:=?_) rfl rfl rfl ?_ ?_;rotate_left;(· (intro _ hSw;go_simp;(try go_bits);(try with_reducible rfl)))) | refine seq_skip rfl rfl rfl ?_);(try simp only [Act.put,pu1,pu2,pu3,pu4,pu5,pu6]))
     refine seq_step rfl rfl (fun KR hKR=>?_)
     go_simp
     with_reducible refine (place_own _ now (j:Int) _ (HI3.out.1.below hS0) (by omega) (by omega) (by have:=HQN.out;omega)).mono ?_
     rintro _ w4 ⟨v4,rfl,h4,hb4⟩
     have hS4:=below_then hS0 hb4 hS0.size
     have H4:=Lib.hid h4.ints
     clear h4
     refine hKR.out _ _ (Or.inr hS4) ?_
     clear hKR KR
     (try simp only [Act.put,pu1,pu2,pu3,pu4,pu5,pu6])
     repeat ((first | (refine seq_takeP (v:=?_) rfl rfl rfl ?_ ?_;rotate_left;(· (intro _ hSw;go_simp;(try go_bits);(try with_reducible rfl)))) | (refine seq_take (v:=?_) rfl rfl rfl ?_ ?_;rotate_left;(· (intro _ hSw;go_simp;(try go_bits);(try with_reducible rfl)))) | refine seq_skip rfl rfl rfl ?_);(try simp only [Act.put,pu1,pu2,pu3,pu4,pu5,pu6]))
     refine seq_step rfl rfl (fun KR hKR=>?_)
     go_simp
     refine (HIH.out _ _ _ (insB ltI (j:Int) now) best low _ (HM3.out.below hS4) H4.out (HI3.out.2.below hS4) HSI.out).mono ?_
     rintro _ w5 ⟨v5,rfl,h5,hb5⟩
     have hS5:=below_then hS4 hb5 hS4.size
     have H5:=Lib.hid h5
     clear h5
     refine hKR.out _ _ (Or.inr hS5) ?_
     clear hKR KR
     (try simp only [Act.put,pu1,pu2,pu3,pu4,pu5,pu6])
     repeat ((first | (refine seq_takeP (v:=?_) rfl rfl rfl ?_ ?_;rotate_left;(· (intro _ hSw;go_simp;(try go_bits);(try with_reducible rfl)))) | (refine seq_take (v:=?_) rfl rfl rfl ?_ ?_;rotate_left;(· (intro _ hSw;go_simp;(try go_bits);(try with_reducible rfl)))) | refine seq_skip rfl rfl rfl ?_);(try simp only [Act.put,pu1,pu2,pu3,pu4,pu5,pu6]))
     refine seq_done ?_
     have hb6:=below_then hb3 hS5 hb3.size
     have HM6:=Lib.hid (HM3.out.below hS5)
     have HI6:=Lib.hid (HI3.out.1.below hS5)
     have x0:=cell_keep hS5 y0
     have x1:=cell_keep hS5 y1
     have x2:=cell_keep hS5 y2
     have x3:=cell_keep hS5 y3
     have x4:=cell_keep hS5 y4
     clear C0 C1 C2 C3 C4 y0 y1 y2 y3 y4 hS0 hS4 hS5 hb4 hb5
     go_wp2_with fail
     refine (HIH.out _ _ _ now _ _ _ HM6.out HI6.out H5.out HSEL.out).mono ?_
     rintro _ w7 ⟨v7,rfl,h7,hb7⟩
     have hb8:=below_then hb6 hb7 hb6.size
     go_wp2
     go_ret2
     exact ⟨_,by rw [HE2.out];rfl,by rw [HE2.out];exact h7,hb8⟩
    | false=>
     have HE2:Hid (extP (dcs m) m.base (k+1) now best low=extP (dcs m) m.base k now best low):=Lib.hid (by rw [HE.out,if_neg (by rw [← HFR.out];simp)])
     clear hout
     rcases Nat.lt_or_ge i q with hh | hh
     ·have hiz:(i:Int) < q:=by omega
      go_wp2_with fail
      refine (HIH.out _ _ _ now best low _ HM3.out HI3.out.1 HI3.out.2 HSEL.out).mono ?_
      rintro _ w4 ⟨v4,rfl,h4,hb4⟩
      have hb5:=below_then hb3 hb4 hb3.size
      go_wp2
      go_ret2
      exact ⟨_,by rw [HE2.out];rfl,by rw [HE2.out];exact h4,hb5⟩
     ·have hiz:¬(i:Int) < q:=by omega
      go_wp2_with fail
      refine (HIH.out _ _ _ now best low _ HM3.out HI3.out.1 HI3.out.2 HSEL.out).mono ?_
      rintro _ w4 ⟨v4,rfl,h4,hb4⟩
      have hb5:=below_then hb3 hb4 hb3.size
      go_wp2
      go_ret2
      exact ⟨_,by rw [HE2.out];rfl,by rw [HE2.out];exact h4,hb5⟩
theorem bestSel_any (v0 v1:Value) (m:Ms) (s:List Int) (w:World) (h:MsM w v0 m) (ok:MsOK m) (h1:IntsM w v1 s) (hs:Sel (dcs m) s):
 Calls Tryz.prog 19 #[v0,v1] w (ExtPost m m.cols.length s s (costV m s) w):=by
 obtain ⟨A,n,c,A',n',c',A'',n'',c'',rfl,hR,hC,hT⟩:=id h
 obtain ⟨W,hW,hX,hbe⟩:=box_ms w (.int .i64 m.fl) (.slice A n c) (.int .i64 m.pen) (.slice A' n' c') (.slice A'' n'' c'')
 have HM:=Lib.hid (h.below hbe)
 have HI:=Lib.hid (h1.below hbe)
 have HOK:=Lib.hid ok
 have HSEL:=Lib.hid hs
 clear h hR hC hT h1 hs ok
 generalize m.fl=F at *
 generalize m.pen=P at *
 obtain ⟨x0,x1,x2,x3,x4⟩:=hX.five
 go_enter Tryz.func19,Tryz.ntmps19
 go_wp2_with fail
 clear hW x0 x1 x2 x3 x4
 refine (cost27_any _ _ m s _ HM.out HOK.out HI.out).mono ?_
 rintro _ w2 ⟨rfl,hb2⟩
 have hX2:=hX.later hb2
 have hbe2:=below_then hbe hb2 hbe.size
 have HM2:=Lib.hid (HM.out.below hb2)
 have HI2:=Lib.hid (HI.out.below hb2)
 clear hX hbe hb2 HM HI
 obtain ⟨x0,x1,x2,x3,x4⟩:=hX2.five
 have HEX:=Lib.hid (extend_any m HOK.out m.cols.length (Nat.le_refl _) _ _ _ s s (costV m s) w2 HM2.out HI2.out HI2.out HSEL.out)
 rw [Nat.sub_self] at HEX
 generalize costV m s=cv at *
 go_wp2_with fail
 refine HEX.out.mono ?_
 rintro _ w4 ⟨v4,rfl,h4,hb4⟩
 have hb5:=below_then hbe2 hb4 hbe2.size
 have H4:=Lib.hid h4
 clear h4 HEX
 go_wp2
 go_ret2
 exact ⟨_,rfl,H4.out,hb5⟩
end Go.Proofs.YtgdcbjligbnpgaaGreat
