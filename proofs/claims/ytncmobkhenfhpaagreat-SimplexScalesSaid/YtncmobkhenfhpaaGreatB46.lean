/- Contracts and plain facts that the claim is built on, joined out of smaller texts; no condition. -/
import Derived.Maps.Own
import Derived.Test.YtncmobkhenfhpaaGreatB45
set_option linter.unusedVariables false
set_option linter.unusedSimpArgs false
set_option maxRecDepth 100000
set_option maxHeartbeats 40000000
namespace Go.Proofs.YtncmobkhenfhpaaGreat
open Go.RowKit
open Pl
attribute [local go_sem ↓] Go.wp_at_zero Go.wp_at_succ
section
open Go.Maps (int_keyed keyOf_int_mk)
theorem plainElem_boolInv {e:TypeId} (he:Tryz.prog.underlying e=some .bool) {v:Value} {b:Bool} {ps:List MemPlace} (h:plainElem (H:=Unit) Tryz.prog e v=some (.lit (.bool b),ps)):v= .bool b:=by
 unfold plainElem at h
 rw [he] at h
 cases v <;> simp at h
 rw [h.1]
def SeenAt (w:World) (b n:Nat) (zs:List Int):Prop:=
 ∃D:DataW Unit,w.ownsMap Tryz.prog 3 (plainElem Tryz.prog 4) b n D∧Go.Maps.IsMap D∧∀z:Int,D.atKey (.int .i64 z) (.lit (.bool false))= .lit (.bool (decide (z∈zs)))
theorem SeenAt.made (w:World):SeenAt (w.alloc (.map #[] 0)) w.heap.size 0 []:=
 ⟨.map [],World.ownsMap_made w _ _ _,Go.Maps.isMap_empty,fun z=>by simp [DataW.atKey]⟩
theorem key_ok (z:Int) (h0: -9223372036854775808≤z) (h1:z≤9223372036854775807):keyOf Tryz.prog 3 (.int .i64 z)=some (.int .i64 z):=keyOf_int_mk Tryz.underlying3 (by
 have e1:IntKind.i64.min= -9223372036854775808:=by decide
 have e2:IntKind.i64.max=9223372036854775807:=by decide
 simp [Lit.wf,e1,e2];omega)
theorem SeenAt.look {w:World} {b n:Nat} {zs:List Int} (h:SeenAt w b n zs) (z:Int) (h0: -9223372036854775808≤z) (h1:z≤9223372036854775807):
 (Instr.lookup 103 (.map (some b)) (.int .i64 z) false).run Tryz.prog w= .ok (.bool (decide (z∈zs))) w:=by
 obtain ⟨D,ho,hm,hd⟩:=h
 obtain ⟨v,ps,hr,hv⟩:=ho.lookup (int_keyed Tryz.underlying3) Tryz.underlying103 (z:= .bool false) (by kernel_rfl) (plainElem_bool Tryz.underlying4 false) (key_ok z h0 h1)
 rw [hd z] at hv
 rw [hr,plainElem_boolInv Tryz.underlying4 hv]
theorem SeenAt.put {w:World} {b n:Nat} {zs:List Int} (h:SeenAt w b n zs) (hn:n < 1000) (z:Int) (h0: -9223372036854775808≤z) (h1:z≤9223372036854775807):
 ∃w',(Instr.mapUpdate 103 (.map (some b)) (.int .i64 z) (.bool true)).run Tryz.prog w= .ok () w'∧SeenAt w' b (n+1) (z::zs)∧w.grownBy w' (some b):=by
 obtain ⟨D,ho,hm,hd⟩:=h
 obtain ⟨w',hr,ho',hg⟩:=ho.update (int_keyed Tryz.underlying3) Tryz.underlying103 (by unfold maxLen;omega) (key_ok z h0 h1) (plainElem_bool Tryz.underlying4 true)
 refine ⟨w',hr,⟨_,ho',hm.put _ _,fun y=>?_⟩,hg⟩
 by_cases e:y=z
 ·subst e
  rw [Go.Maps.atKey_put_same hm (by trivial)]
  simp
 ·rw [Go.Maps.atKey_put_other (by intro g;injection g with _ g;exact e g),hd y]
  simp [e]
def OpenP (w:World) (p:LPd) (s:LSt) (K:Nat) (o:Ending) (w':World):Prop:=
 Below w.heap.size w w'∧((lpErr p≠0∧o= .returned (.tuple #[.pointer none,.int .i64 (lpErr p)]))∨(lpErr p=0∧vsErr p s≠0∧o= .returned (.tuple #[.pointer none,.int .i64 (vsErr p s)]))∨
  (lpErr p=0∧vsErr p s=0∧∃e,o= .returned (.tuple #[.pointer (some ⟨e,0,none⟩),.int .i64 0])∧EngO w w' e p (settleQ p s) K))
theorem open_own (v1 v2:Value) (p:LPd) (s:LSt) (K:Nat) (w:World) (h:LpM w v1 p) (h2:StM w v2 s) (ok:p.Ok K) (hF:lpErr p=0→p.Ft K) (hbl:s.basis.length≤1099511627776) (hrg:∀z∈s.basis,-9223372036854775808≤z∧z≤9223372036854775807):
 Calls Tryz.prog 54 #[v1,v2] w (OpenP w p s K):=by
 obtain ⟨A,n,c,A',n',c',A'',n'',c'',rfl,hc,hv,hr⟩:=id h
 obtain ⟨Ab0,nb0,cb0,rfl,hI⟩:=id h2
 obtain ⟨l1,l2,l3⟩:=hv.len
 obtain ⟨r1,r2,r3⟩:=hr.len
 subst l1 r1
 obtain ⟨W0,hW0,hX0,hb0⟩:=box_lp w (.slice A n c) (.slice A' p.cols.length c') (.slice A'' p.right.length c'')
 obtain ⟨W,hW,hT,hb1⟩:=box_st W0 (.int .i64 s.phase) (.slice Ab0 nb0 cb0) (.int .i64 s.pivots)
 have hbe:=below_then hb0 hb1 hb0.size
 have hX:=hX0.later hb1
 have HLP:Hid (FrsM w (.slice A n c) p.cost∧VecsM w (.slice A' p.cols.length c') p.cols∧FrsM w (.slice A'' p.right.length c'') p.right):=Lib.hid ⟨hc,hv,hr⟩
 have HLQ:=Lib.hid h
 have HST:Hid (True∧IntsM w (.slice Ab0 nb0 cb0) s.basis):=Lib.hid ⟨trivial,hI⟩
 have HOK:=Lib.hid ok
 have HFT:=Lib.hid hF
 have HRG:=Lib.hid hrg
 obtain ⟨nb1,nb2,nb3⟩:=hI.len
 have HNB:=Lib.hid nb1
 obtain ⟨x0,x1,x2⟩:=hX.three
 obtain ⟨t0,t1,t2⟩:=hT.three
 have HXX:=Lib.hid hX
 have HTT:=Lib.hid hT
 have HK:Hid (p.Ok K):=Lib.hid ok
 clear h h2 hc hv hr hI ok hF hrg hX0 hb0 hb1 nb1 hX hT
 go_enter Tryz.func54,Tryz.ntmps54
 go_wp2_with fail
 clear hW hW0 x0 x1 x2 t0 t1 t2
 refine (validate_any _ p K _ (HLQ.out.below hbe) HK.out).mono ?_
 rintro _ w1 ⟨rfl,hb1⟩
 have hbe1:=below_then hbe hb1 hbe.size
 have HX1:=Lib.hid (HXX.out.later hb1)
 have HT1:=Lib.hid (HTT.out.later hb1)
 clear hbe hb1
 by_cases hz:lpErr p=0
 ·rw [hz]
  have HLZ:=Lib.hid hz
  have HF:=Lib.hid (HFT.out hz)
  have hm7:=HF.out.2.1
  have hcl:=HF.out.1.cols
  obtain ⟨-,x1,x2⟩:=HX1.out.three
  obtain ⟨t0,t1,t2⟩:=HT1.out.three
  clear hz
  go_upto_region 4 with (fail)
  have C1:=stab x1
  have C2:=stab x2
  have hS0:=below_drew' w1
  clear x1 x2 t0 t1 t2
  refine region_seq 8 [0,1,2,3,4,5,6,7] (by kernel_rfl) (by kernel_rfl) ?_
  repeat ((first | (refine seq_takeP (v:=?_) rfl rfl rfl ?_ ?_;rotate_left;(· (intro _ hSw;go_simp;(try go_bits);(try with_reducible rfl)))) | (refine seq_take (v:=?_) rfl rfl rfl ?_ ?_;rotate_left;(· (intro _ hSw;go_simp;(try go_bits);(try with_reducible rfl)))) | refine seq_skip rfl rfl rfl ?_);(try simp only [Act.put,pu1,pu2,pu3,pu4,pu5,pu6]))
  refine seq_done ?_
  clear C1 C2
  have hbe2:=below_then hbe1 hS0 hbe1.size
  have HX2:=Lib.hid (HX1.out.later hS0)
  have HT2:=Lib.hid (HT1.out.later hS0)
  clear hbe1 hS0 HX1 HT1
  generalize w1.drew=w2 at *
  obtain ⟨-,x1,x2⟩:=HX2.out.three
  obtain ⟨t0,t1,t2⟩:=HT2.out.three
  by_cases hlb:s.basis.length=p.right.length
  ·have HLB:=Lib.hid hlb
   have hnb:nb0=p.right.length:=by rw [HNB.out];exact hlb
   subst hnb
   clear hlb
   by_cases hnum:s.phase < 1∨2 < s.phase∨s.pivots < 0
   ·have HV:=Lib.hid (vs_num HLB.out hnum)
    by_cases h1:s.phase=1
    ·have hA:(s.phase !=1)=false:=by simpa using h1
     have hP:s.pivots < 0:=by omega
     clear x1 x2
     go_wp2
     go_ret2
     exact ⟨hbe2,.inr (.inl ⟨HLZ.out,by rw [HV.out];decide,by rw [HV.out];rfl⟩)⟩
    ·by_cases h2:s.phase=2
     ·have hA:(s.phase !=1)=true:=by simpa using h1
      have hB:(s.phase !=2)=false:=by simpa using h2
      have hP:s.pivots < 0:=by omega
      clear x1 x2
      go_wp2
      go_ret2
      exact ⟨hbe2,.inr (.inl ⟨HLZ.out,by rw [HV.out];decide,by rw [HV.out];rfl⟩)⟩
     ·have hA:(s.phase !=1)=true:=by simpa using h1
      have hB:(s.phase !=2)=true:=by simpa using h2
      clear x1 x2
      go_wp2
      go_ret2
      exact ⟨hbe2,.inr (.inl ⟨HLZ.out,by rw [HV.out];decide,by rw [HV.out];rfl⟩)⟩
   ·have HNUM:=Lib.hid hnum
    have hph:s.phase=1∨s.phase=2:=by omega
    have HPH:=Lib.hid hph
    have hpv:0≤s.pivots:=by omega
    rcases hph with h1 | h2
    case' inl=>
     have hA:(s.phase !=1)=false:=by simpa using h1
     clear h1 hnum
     go_upto_region 9 with (fail)
    case' inr=>
     have hB:(s.phase !=2)=false:=by simpa using h2
     have hA:(s.phase !=1)=true:=by simp;omega
     clear h2 hnum
     go_upto_region 9 with (fail)
     clear hB
    all_goals
     have y1:=HT2.out.cellAt 1 rfl
     clear x1 x2 t0 t1 t2 hA
     go_wp2
     clear y1
     go_loopw [57] (fun x wr=>∃k:Nat,k≤p.right.length∧x= .int .i64 k∧Below w2.heap.size w2 wr∧∀i,i < k→ -(p.right.length:Int)≤s.at_ i∧s.at_ i < p.cols.length) (fun x _=>p.right.length - (intOf x).toNat)
     case atStart=>exact ⟨0,by omega,rfl,Below.refl _ _,fun i hi=>absurd hi (by omega)⟩
     case round=>
      obtain ⟨k,hk,rfl,hb,hno⟩:=hrel
      have HNO:=Lib.hid hno
      have hbe3:=below_then hbe2 hb hbe2.size
      clear hno
      rcases Nat.lt_or_ge k p.right.length with hkl | hkl
      ·have hkI:(k:Int) < p.right.length:=by omega
       obtain ⟨bb,ob,z,hA,z0,hzz,z1,z2⟩:=HST.out.2.at_ hkl
       subst hA
       have z3:=cell_keep hbe3 z0
       have HAT:Hid (s.at_ k=z):=Lib.hid (LSt.at_eq hzz)
       clear hzz z0
       by_cases hlo:z < -(p.right.length:Int)
       ·have HV:=Lib.hid (vs_rng HLB.out HNUM.out (fun g=>by have:=(g k hkl).1;rw [HAT.out] at this;omega))
        go_wp2
        go_ret2
        exact ⟨hbe3,.inr (.inl ⟨HLZ.out,by rw [HV.out];decide,by rw [HV.out];rfl⟩)⟩
       ·have hlo': -(p.right.length:Int)≤z:=by omega
        by_cases hhi:z < p.cols.length
        ·clear hlo
         go_wp2
         go_roundw
         case rel=>exact ⟨k+1,by omega,by go_num,hb,fun i hi=>by
          by_cases g:i=k
          ·rw [g,HAT.out];exact ⟨hlo',hhi⟩
          ·exact HNO.out i (by omega)⟩
         case measure=>simp [intOf];omega
        ·have HV:=Lib.hid (vs_rng HLB.out HNUM.out (fun g=>by have:=(g k hkl).2;rw [HAT.out] at this;omega))
         have hhi':(p.cols.length:Int)≤z:=by omega
         clear hlo hhi
         go_wp2
         go_ret2
         exact ⟨hbe3,.inr (.inl ⟨HLZ.out,by rw [HV.out];decide,by rw [HV.out];rfl⟩)⟩
      ·obtain rfl:k=p.right.length:=by omega
       have HRNG:Hid (rngP p s):=Lib.hid HNO.out
       have HT3:=Lib.hid (HT2.out.later hb)
       have HX3:=Lib.hid (HX2.out.later hb)
       have y1:=HT3.out.cellAt 1 rfl
       have hmm:=@run_makeMap Tryz.prog
       have hsn:=SeenAt.made wr
       have hbm:=below_new wr (.map #[] 0)
       have y1':=cell_keep hbm y1
       have hgm:=hbe3.size
       have hgW:=hbm.size
       have hlt0:=HT3.out.lt
       have hlt1:=HX3.out.lt
       go_wp2
       clear y1 y1' hmm
       have hbe4:=below_then hbe3 hbm hbe3.size
       have HT4:=Lib.hid (HT3.out.later hbm)
       have HX4:=Lib.hid (HX3.out.later hbm)
       clear hbm hb hbe3
       generalize wr.alloc (.map #[] 0)=W4 at *
       generalize wr.heap.size=gm at *
       go_loopw [75] (fun x wr=>∃k:Nat,k≤p.right.length∧x= .int .i64 k∧Below w.heap.size w wr∧Below gm W4 wr∧SeenAt wr gm k (s.basis.take k).reverse∧∀i,i < k→∀i',i' < i→s.at_ i≠s.at_ i') (fun x _=>p.right.length - (intOf x).toNat)
       case atStart=>exact ⟨0,by omega,rfl,hbe4,Below.refl _ _,by simpa using hsn,fun i hi=>absurd hi (by omega)⟩
       case round=>
        clear hsn hbe4
        obtain ⟨k,hk,rfl,hbe5,hbg,hse,hdu⟩:=hrel
        have HDU:=Lib.hid hdu
        clear hdu
        rcases Nat.lt_or_ge k p.right.length with hkl | hkl
        ·have hkI:(k:Int) < p.right.length:=by omega
         obtain ⟨bb,ob,z,hA,z0,hzz,z1,z2⟩:=HST.out.2.at_ hkl
         subst hA
         have z3:=cell_keep hbe5 z0
         have HAT:Hid (s.at_ k=z):=Lib.hid (LSt.at_eq hzz)
         have hlk:=hse.look z z1 z2
         by_cases hin:z∈(s.basis.take k).reverse
         ·have HV:=Lib.hid (vs_dup HLB.out HNUM.out HRNG.out (fun g=>by
           rw [List.mem_reverse] at hin
           obtain ⟨i,hi1,hi2⟩:=List.getElem_of_mem hin
           rw [List.length_take] at hi1
           have hi3:s.basis[i]? =some z:=by
            rw [List.getElem?_eq_getElem (by omega)];rw [List.getElem_take] at hi2;rw [hi2]
           exact g k hkl i (by omega) (by rw [HAT.out,LSt.at_eq hi3])))
          have hbe3:=hbe5
          rw [decide_eq_true hin] at hlk
          clear hzz z0 hse hin
          go_wp2
          go_ret2
          exact ⟨hbe3,.inr (.inl ⟨HLZ.out,by rw [HV.out];decide,by rw [HV.out];rfl⟩)⟩
         ·obtain ⟨w6,hup,hse6,hg6⟩:=hse.put (by omega) z z1 z2
          rw [decide_eq_false hin] at hlk
          have hbe6:=hbe5.grown hg6 hbe5.size (fun x hx=>by injection hx with hx;omega)
          have hbg6:=hbg.grown hg6 (by have:=hbg.size;omega) (fun x hx=>by injection hx with hx;omega)
          have HSE:Hid (SeenAt w6 gm (k+1) (s.basis.take (k+1)).reverse):=Lib.hid (by rw [List.take_add_one,hzz];simpa using hse6)
          have HNI:Hid (∀i',i' < k→z≠s.at_ i'):=Lib.hid fun i' hi' e=>hin (by
           rw [List.mem_reverse]
           obtain ⟨y,hy⟩:=get_someI (l:=s.basis) (i:=i') (by rw [HLB.out];omega)
           rw [LSt.at_eq hy] at e
           subst e
           exact List.mem_iff_getElem?.2 ⟨i',by rw [List.getElem?_take,if_pos hi'];exact hy⟩)
          clear hzz z0 hse hse6 hin hg6
          go_wp2
          go_roundw
          case rel=>exact ⟨k+1,by omega,by go_num,hbe6,hbg6,HSE.out,fun i hi i' hi'=>by
           by_cases g:i=k
           ·rw [g,HAT.out];exact HNI.out i' (by omega)
           ·exact HDU.out i (by omega) i' hi'⟩
          case measure=>simp [intOf];omega
        ·obtain rfl:k=p.right.length:=by omega
         have HDUP:Hid (dupP p s):=Lib.hid HDU.out
         have HT5:=Lib.hid (HT4.out.below hbg hlt0)
         have HX5:=Lib.hid (HX4.out.below hbg hlt1)
         have x012:=HX5.out.three
         obtain ⟨x0,x1,x2⟩:=x012
         obtain ⟨t0,t1,t2⟩:=HT5.out.three
         have hbe:=hbe5
         clear hse hbg
         go_upto_region 23 with (fail)
         have C0:=stab x0
         have C1:=stab x1
         have C2:=stab x2
         have D0:=stab t0
         have D1:=stab t1
         have D2:=stab t2
         have hS0:=below_drew' wr
         clear x0 x1 x2 t0 t1 t2
         refine region_seq 11 [0,1,2,3,4,6,7,5,8,9,10] (by kernel_rfl) (by kernel_rfl) ?_
         repeat ((first | (refine seq_takeP (v:=?_) rfl rfl rfl ?_ ?_;rotate_left;(· (intro _ hSw;go_simp;(try go_bits);(try with_reducible rfl)))) | (refine seq_take (v:=?_) rfl rfl rfl ?_ ?_;rotate_left;(· (intro _ hSw;go_simp;(try go_bits);(try with_reducible rfl)))) | refine seq_skip rfl rfl rfl ?_);(try simp only [Act.put,pu1,pu2,pu3,pu4,pu5,pu6]))
         refine seq_step rfl rfl (fun KR hKR=>?_)
         go_simp
         with_reducible refine (cloneI_any _ s.basis _ (HST.out.2.below (below_then hbe hS0 hbe.size)) hbl).mono ?_
         rintro _ w6 ⟨v6,rfl,e6,hb6⟩
         have hS6:=below_then hS0 hb6 hS0.size
         obtain ⟨Ab,nb',cb,rfl⟩:=e6.sliceN
         obtain rfl:nb'=p.right.length:=by rw [← HLB.out];exact e6.len
         refine hKR.out _ _ (Or.inr hS6) ?_
         clear hKR KR
         (try simp only [Act.put,pu1,pu2,pu3,pu4,pu5,pu6])
         repeat ((first | (refine seq_takeP (v:=?_) rfl rfl rfl ?_ ?_;rotate_left;(· (intro _ hSw;go_simp;(try go_bits);(try with_reducible rfl)))) | (refine seq_take (v:=?_) rfl rfl rfl ?_ ?_;rotate_left;(· (intro _ hSw;go_simp;(try go_bits);(try with_reducible rfl)))) | refine seq_skip rfl rfl rfl ?_);(try simp only [Act.put,pu1,pu2,pu3,pu4,pu5,pu6]))
         obtain ⟨W7,hW7,hE7,hb7⟩:∃W,w6.alloc (.cells #[.slice A n c,.slice A' p.cols.length c',.slice A'' p.right.length c'',.int .i64 s.phase,.slice Ab p.right.length cb,.int .i64 s.pivots,.pointer none,.slice none 0 0] 107)=W∧Bk W w6.heap.size 107 [.slice A n c,.slice A' p.cols.length c',.slice A'' p.right.length c'',.int .i64 s.phase,.slice Ab p.right.length cb,.int .i64 s.pivots,.pointer none,.slice none 0 0]∧Below w6.heap.size w6 W:=⟨_,rfl,Bk.new w6 _ _,below_new w6 _⟩
         have hS7:=below_then hS6 hb7 hS6.size
         refine seq_step rfl rfl (fun KR hKR=>?_)
         go_simp
         refine hKR.out _ _ (Or.inr hS7) ?_
         clear hKR KR hW7
         (try simp only [Act.put,pu1,pu2,pu3,pu4,pu5,pu6])
         repeat ((first | (refine seq_takeP (v:=?_) rfl rfl rfl ?_ ?_;rotate_left;(· (intro _ hSw;go_simp;(try go_bits);(try with_reducible rfl)))) | (refine seq_take (v:=?_) rfl rfl rfl ?_ ?_;rotate_left;(· (intro _ hSw;go_simp;(try go_bits);(try with_reducible rfl)))) | refine seq_skip rfl rfl rfl ?_);(try simp only [Act.put,pu1,pu2,pu3,pu4,pu5,pu6]))
         refine seq_done ?_
         clear C0 C1 C2 D0 D1 D2
         have hbe7:=below_then hbe hS7 hbe.size
         have hX7:=HX5.out.later hS7
         have HIB:=Lib.hid (e6.below hb7)
         have hge:w.heap.size≤w6.heap.size:=Nat.le_trans hbe.size (Nat.le_trans hS0.size hb6.size)
         have hwl:wr.heap.size≤w6.heap.size:=Nat.le_trans hS0.size hb6.size
         clear e6 hb6 hb7 hS6 hS7 hS0 hbe5
         generalize w6.heap.size=e at *
         have HMN:EngM W7 e p s.phase s.pivots (.slice Ab p.right.length cb) (.pointer none) (.slice none 0 0):=⟨A,n,c,A',_,c',A'',_,c'',hE7,HLP.out.1.below hbe7,HLP.out.2.1.below hbe7,HLP.out.2.2.below hbe7⟩
         have HM7:=Lib.hid HMN
         have HE7:=Lib.hid hE7
         have HXB:=Lib.hid hX7
         have hmk:=make_vecs p.right.length (by omega)
         have hO0:=VecsO.zeros W7 p.right.length (by unfold maxLen;omega)
         have hb8:=below_new W7 (.cells (zvc p.right.length) 72)
         have y4:=hE7.cellAt 4 rfl
         have y4':=cell_keep hb8 y4
         obtain ⟨-,hcb1,hcb2⟩:=HIB.out.ints.len
         clear hX7 hE7 HMN
         go_wp2
         clear y4 y4'
         generalize W7.alloc (.cells (zvc p.right.length) 72)=W8 at *
         go_loopw [102] (fun x wr=>∃k:Nat,k≤p.right.length∧x= .int .i64 k∧Below W7.heap.size W7 wr∧∃cols:List (List En),cols.length=p.right.length∧VecsO W7.heap.size wr (.slice (some ⟨W7.heap.size,0,none⟩) p.right.length p.right.length) cols∧∀i,i < k→∃es,cols[i]? =some es∧p.col (s.at_ i)=colQ es∧Pl.Good p.right.length es∧∀(k:Nat) (e:En),es[k]? =some e→e.f.Rs K) (fun x _=>p.right.length - (intOf x).toNat)
         case atStart=>exact ⟨0,by omega,rfl,hb8,_,by simp,hO0,fun i hi=>absurd hi (by omega)⟩
         case round=>
          clear hO0 hb8
          obtain ⟨k,hk,rfl,hb,cols,hcl2,hO,hcs⟩:=hrel
          have HCS:=Lib.hid hcs
          clear hcs
          rcases Nat.lt_or_ge k p.right.length with hkl | hkl
          ·have hkI:(k:Int) < p.right.length:=by omega
           obtain ⟨bb,ob,z,hA,z0,hzz,z1,z2⟩:=HIB.out.ints.at_ hkl
           subst hA
           have z3:=cell_keep hb z0
           have hrz:=HRNG.out k hkl
           rw [LSt.at_eq hzz] at hrz
           have HAT:Hid (s.at_ k=z):=Lib.hid (LSt.at_eq hzz)
           clear hzz z0
           go_wp2_with fail
           refine (ecolumn_any e p K s.phase s.pivots _ _ _ z _ (HM7.out.below hb) HF.out HLZ.out hrz.1 hrz.2).mono ?_
           rintro _ w8 ⟨v8,es,rfl,he8,hec,heg,her,hb8⟩
           have hb9:=below_then hb hb8 hb.size
           have hO8:=hO.below hb8
           obtain ⟨u0,hu0⟩:=get_someC (cs:=cols) (i:=k) (by omega)
           obtain ⟨_,m0,m1,-⟩:=hO8.at_ hu0
           obtain ⟨hO9,_⟩:=hO8.set_ (k:=k) (by omega) he8
           have hb10:=hb9.setCell (p:=⟨W7.heap.size,k,none⟩) (Nat.le_refl _) v8
           obtain ⟨A8,n8,c8,rfl⟩:∃A n c,v8= .slice A n c:=by obtain ⟨A,c,e,_⟩:=he8.shape;exact ⟨A,_,c,e⟩
           have HES:Hid (p.col z=colQ es∧Pl.Good p.right.length es∧∀(k:Nat) (e:En),es[k]? =some e→e.f.Rs K):=Lib.hid ⟨hec,heg,her⟩
           clear hb hb8 hb9 hO hO8 he8 hec heg her hu0 z3
           go_wp2
           go_roundw
           case rel=>exact ⟨k+1,by omega,by go_num,hb10,_,by rw [List.length_set];exact hcl2,hO9,fun i hi=>by
            by_cases g:i=k
            ·subst g
             exact ⟨es,List.getElem?_set_self (by omega),by rw [HAT.out];exact HES.out.1,HES.out.2⟩
            ·rw [List.getElem?_set_ne (Ne.symm g)];exact HCS.out i (by omega)⟩
           case measure=>simp [intOf];omega
          ·obtain rfl:k=p.right.length:=by omega
           have hbw:=below_then hbe7 hb hbe7.size
           have hgg:∀(k:Nat) (c:List En),cols[k]? =some c→Pl.Good p.right.length c∧∀(j:Nat) (e:En),c[j]? =some e→e.f.Rs K:=fun k c hc=>by
            obtain ⟨es,h1,h2,h3⟩:=HCS.out k (by have:=(List.getElem?_eq_some_iff.1 hc).1;omega)
            rw [hc] at h1
            injection h1 with h1
            subst h1
            exact h3
           have hgc:∀(k:Nat) (c:List En),cols[k]? =some c→s.mat p k=colQ c:=fun k c hc=>by
            obtain ⟨es,h1,h2,h3⟩:=HCS.out k (by have:=(List.getElem?_eq_some_iff.1 hc).1;omega)
            rw [hc] at h1
            injection h1 with h1
            subst h1
            exact h2
           go_wp2_with fail
           refine (newB_own _ p.right.length K cols (s.mat p) _ hO.vecs hcl2 hm7 HF.out.1.k1 HF.out.2.2 hgg hgc).mono ?_
           clear hgg hgc
           rintro _ w8 ⟨hb8,⟨gB,rfl,hind,hBas⟩ | ⟨rfl,hni⟩⟩
           ·have HR:=Lib.hid (show Reg p s from hind)
            have HOKZ:=Lib.hid (reg_zOk HR.out)
            have hb9:=below_then hb hb8 hb.size
            have hbw9:=below_then hbw hb8 hbw.size
            have hE8:=HE7.out.later hb9
            have hX8:=HXB.out.later hb9
            have hIB8:=HIB.out.below hb9
            have q6:=hE8.cellAt 6 rfl
            have f6:=hE8.frozen 6
            have k6:=KeepBut.setCell hE8 6 (.pointer (some ⟨gB,0,none⟩))
            have hE9:=hE8.set_ 6 (.pointer (some ⟨gB,0,none⟩))
            have hB9:=fun bi=>(hBas bi).but k6 (by decide) (by decide) (by decide) (by decide) (by decide) (by decide) (by decide)
            have hX9:=k6.bk hX8 (by decide)
            have hIB9:=hIB8.but k6 (by decide)
            have hbw10:=hbw9.setCell (p:=⟨e,6,none⟩) hge (.pointer (some ⟨gB,0,none⟩))
            have hszc:wr.heap.size≤(w8.setCell ⟨e,6,none⟩ (.pointer (some ⟨gB,0,none⟩))).heap.size:=by simpa using hb8.size
            have hlt7:W7.heap.size≤wr.heap.size:=hb.size
            clear hO hind hBas hE8 hX8 hIB8 k6 hb hb8 hb9 hbw9 hbw
            go_upto_region 34 with (fail)
            clear q6 f6
            generalize w8.setCell ⟨e,6,none⟩ (.pointer (some ⟨gB,0,none⟩))=W8 at *
            obtain ⟨-,-,x2⟩:=hX9.three
            go_wp2_with fail
            clear x2
            refine (fromDense_own _ p.right K _ (HLP.out.2.2.below hbw10) (by omega) HF.out.1.rs (by have:=HF.out.k;omega)).mono ?_
            rintro _ w9 ⟨v9,rfl,e9,hb9⟩
            obtain ⟨A9,n9,c9,rfl⟩:∃A n c,v9= .slice A n c:=by obtain ⟨A,c,e,_⟩:=e9.vec.shape;exact ⟨A,_,c,e⟩
            have hE10:=hE9.later hb9
            have hbw11:=below_then hbw10 hb9 hbw10.size
            have hB10:=fun bi=>(hB9 bi).below hb9
            have hIB10:=hIB9.below hb9
            have hM10:EngM w9 e p s.phase s.pivots (.slice Ab p.right.length cb) (.pointer (some ⟨gB,0,none⟩)) (.slice none 0 0):=⟨A,n,c,A',_,c',A'',_,c'',hE10,HLP.out.1.below hbw11,HLP.out.2.1.below hbw11,HLP.out.2.2.below hbw11⟩
            have HB10:=Lib.hid hB10
            clear hE9 hX9 hB9 hIB9 hB10
            go_wp2_with fail
            refine (esolve_any e p K p.right.length cb wr.heap.size 0 gB (s.mat p) s.phase s.pivots Ab _ _ (spV (qAt p.right) p.right.length) _ hM10 (HB10.out 0) e9.vec (spV_good _ _) (spV_rs fun i _=>HF.out.1.rs.qAt HF.out.1.k1 i) hm7 HF.out.2.2).mono ?_
            rintro _ w10 ⟨v10,x,rfl,hx,-,e10,hb10⟩
            have hzx:canL p.right.length x=zL p s:=by
             unfold zL
             exact (solF_of HR.out fun r hr=>by have:=hx r hr;rw [spV_dQ,if_pos hr] at this;exact this).symm
            rw [hzx] at e10
            have HZLen:Hid ((zL p s).length=p.right.length):=Lib.hid (z_len HR.out)
            obtain ⟨Az,cz,hvz⟩:=e10.slice
            rw [HZLen.out] at hvz
            subst hvz
            obtain ⟨-,hcz1,hcz2⟩:=e10.frs.len
            have hE11:=hE10.later hb10
            have hB11:=fun bi=>(HB10.out bi).below hb10
            have hIB11:=hIB10.below hb10
            have hbw12:=below_then hbw11 hb10 hbw11.size
            have q7:=hE11.cellAt 7 rfl
            have f7:=hE11.frozen 7
            have k7:=KeepBut.setCell hE11 7 (.slice Az p.right.length cz)
            have hE12:=hE11.set_ 7 (.slice Az p.right.length cz)
            have hzown:=FrsO.own_lt e10
            have hI12:EngI w (w10.setCell ⟨e,7,none⟩ (.slice Az p.right.length cz)) e p s K A n c A' p.cols.length c' A'' p.right.length c'' Ab cb gB (.slice Az p.right.length cz):=by
             refine ⟨wr.heap.size,w10.heap.size,HLP.out,⟨hge,?_,?_,by simp⟩,(hIB11.but k7 (by decide)).monoB ?_,fun b hb=>?_,(hB11 _).but k7 (by decide) (by decide) (by decide) (by decide) (by decide) (by decide) (by decide),(e10.but k7 (by decide) (by decide)).monoB hbw11.size,fun b hb=>hzown b hb,hbw12.setCell (p:=⟨e,7,none⟩) hge _⟩
             ·exact Nat.le_trans hbe7.size hlt7
             ·have:=hb9.size;have:=hb10.size;simp;omega
             ·exact hbe.size
             ·have:=own_lt' HIB.out.1 b hb;omega
            have HEO:Hid (EngO w (w10.setCell ⟨e,7,none⟩ (.slice Az p.right.length cz)) e p s K):=Lib.hid ⟨_,_,_,_,_,_,_,_,_,_,_,_,_,hE12,hI12⟩
            have HZ9:=Lib.hid (e10.but k7 (by decide) (by decide))
            have HIB9:=Lib.hid (hIB11.but k7 (by decide))
            have HBK:=Lib.hid hE12
            have hbw9:=hbw12.setCell (p:=⟨e,7,none⟩) hge (.slice Az p.right.length cz)
            have y7:=hE12.cellAt 7 rfl
            clear hM10 e9 hx hzx e10 hE10 hE11 hB11 hIB10 hIB11 hbw10 hbw11 hbw12 hb9 hb10 k7 hE12 hzown hI12
            go_upto_region 36 with (fail)
            clear q7 f7
            generalize w10.setCell ⟨e,7,none⟩ (.slice Az p.right.length cz)=W9 at *
            go_wp2
            clear y7
            go_loopw [144] (fun x wr=>∃k:Nat,k≤p.right.length∧x= .int .i64 k∧Below W9.heap.size W9 wr∧∀i,i < k→¬qAt (zL p s) i < 0∧(s.phase=2→s.at_ i < 0→qAt (zL p s) i=0)) (fun x _=>p.right.length - (intOf x).toNat)
            case atStart=>exact ⟨0,by omega,rfl,Below.refl _ _,fun i hi=>absurd hi (by omega)⟩
            case round=>
             obtain ⟨k,hk,rfl,hb,hno⟩:=hrel
             have HNO:=Lib.hid hno
             clear hno
             have HE9:=HEO.out.below hb
             obtain ⟨Ab9,cb9,base9,bi9,gB9,vz9,e1,e2,-,e4⟩:=HE9.r
             rcases Nat.lt_or_ge k p.right.length with hkl | hkl
             ·have hkI:(k:Int) < p.right.length:=by omega
              obtain ⟨f,hf⟩:=get_some (fs:=zL p s) (i:=k) (by rw [HZLen.out];exact hkl)
              have HQ:Hid (qAt (zL p s) k=f.q):=Lib.hid (qAt_some hf)
              obtain ⟨b5,o5,A5,n5,c5,A6,n6,c6,hA5,-,⟨x0,x1,x2,x3⟩,hmf⟩:=HZ9.out.frs.elem hb hf
              subst hA5
              obtain ⟨W6,hW6,hV6,hbn⟩:=boxF1 wr (.bool f.num.neg) (.slice A5 n5 c5) (.bool f.den.neg) (.slice A6 n6 c6)
              obtain ⟨u0,u1,u2,u3⟩:=hV6.four
              have hm6:=hmf.below hbn
              have hbe6:=below_then hb hbn hb.size
              have hq3:qs f.q=0∨qs f.q=1∨qs f.q= -1:=by have:=qs_bd f.q;omega
              obtain ⟨bb,ob,z,hA5,z0,hzz,-,-⟩:=HIB9.out.ints.at_ hkl
              subst hA5
              have HAT:Hid (s.at_ k=z):=Lib.hid (LSt.at_eq hzz)
              clear hf hmf hb hV6 hbn hzz HE9 e1 e2 e4
              go_wp2_with fail
              clear hW6
              refine (signF_any _ f _ hm6).mono ?_
              rintro _ w7 ⟨rfl,hb7⟩
              have hbe7:=below_then hbe6 hb7 hbe6.size
              have z1:=cell_keep hbe7 z0
              have HEB:=HBK.out.later hbe7
              have y3:=HEB.cellAt 3 rfl
              have y4:=HEB.cellAt 4 rfl
              clear hm6 hbe6 hb7 x0 x1 x2 x3 u0 u1 u2 u3 z0
              rcases hq3 with hq | hq | hq
              ·rw [hq]
               have HGO:Hid (¬qAt (zL p s) k < 0∧(s.phase=2→s.at_ k < 0→qAt (zL p s) k=0)):=Lib.hid (by rw [HQ.out,qs_zero.1 hq];exact ⟨by decide,fun _ _=>rfl⟩)
               clear hq
               rcases HPH.out with hp | hp
               ·have hp2:(s.phase==2)=false:=by simp;omega
                clear hp
                go_wp2
                go_roundw
                case rel=>exact ⟨k+1,by omega,by go_num,hbe7,fun i hi=>by
                 by_cases g:i=k
                 ·rw [g];exact HGO.out
                 ·exact HNO.out i (by omega)⟩
                case measure=>simp [intOf];omega
               ·have hp2:(s.phase==2)=true:=by simpa using hp
                by_cases hz0:z < 0
                ·clear hp
                 go_wp2
                 go_roundw
                 case rel=>exact ⟨k+1,by omega,by go_num,hbe7,fun i hi=>by
                  by_cases g:i=k
                  ·rw [g];exact HGO.out
                  ·exact HNO.out i (by omega)⟩
                 case measure=>simp [intOf];omega
                ·have hz1:0≤z:=by omega
                 clear hz0 hp
                 go_wp2
                 go_roundw
                 case rel=>exact ⟨k+1,by omega,by go_num,hbe7,fun i hi=>by
                  by_cases g:i=k
                  ·rw [g];exact HGO.out
                  ·exact HNO.out i (by omega)⟩
                 case measure=>simp [intOf];omega
              ·rw [hq]
               have hq0:0 < f.q:=qs_pos.1 (by omega)
               clear hq
               rcases HPH.out with hp | hp
               ·have HGO:Hid (¬qAt (zL p s) k < 0∧(s.phase=2→s.at_ k < 0→qAt (zL p s) k=0)):=Lib.hid (by rw [HQ.out];exact ⟨by grind,fun g=>by omega⟩)
                have hp2:(s.phase==2)=false:=by simp;omega
                clear hp
                clear hq0
                go_wp2
                go_roundw
                case rel=>exact ⟨k+1,by omega,by go_num,hbe7,fun i hi=>by
                 by_cases g:i=k
                 ·rw [g];exact HGO.out
                 ·exact HNO.out i (by omega)⟩
                case measure=>simp [intOf];omega
               ·have hp2:(s.phase==2)=true:=by simpa using hp
                by_cases hz0:z < 0
                ·have HV:Hid (vsErr p s=16):=Lib.hid (by
                  by_cases hps:posP p s
                  ·exact vs_art HLB.out HNUM.out HRNG.out HDUP.out HOKZ.out hps ⟨hp,artN_true (k:=k) (by rw [HAT.out];exact hz0) (by rw [HQ.out];grind) (by rw [HZLen.out];exact hkl)⟩
                  ·exact vs_pos HLB.out HNUM.out HRNG.out HDUP.out HOKZ.out hps)
                 clear hp hq0
                 go_wp2
                 go_ret2
                 exact ⟨below_then hbw9 hbe7 hbw9.size,.inr (.inl ⟨HLZ.out,by rw [HV.out];decide,by rw [HV.out];rfl⟩)⟩
                ·have HGO:Hid (¬qAt (zL p s) k < 0∧(s.phase=2→s.at_ k < 0→qAt (zL p s) k=0)):=Lib.hid (by rw [HQ.out,HAT.out];exact ⟨by grind,fun _ g=>absurd g hz0⟩)
                 have hz1:0≤z:=by omega
                 clear hz0 hp hq0
                 go_wp2
                 go_roundw
                 case rel=>exact ⟨k+1,by omega,by go_num,hbe7,fun i hi=>by
                  by_cases g:i=k
                  ·rw [g];exact HGO.out
                  ·exact HNO.out i (by omega)⟩
                 case measure=>simp [intOf];omega
              ·rw [hq]
               have hq0:f.q < 0:=qs_neg.1 (by omega)
               have HV:Hid (vsErr p s=16):=Lib.hid (vs_pos HLB.out HNUM.out HRNG.out HDUP.out HOKZ.out fun g=>g k hkl (by rw [HQ.out];exact hq0))
               clear hq hq0
               go_wp2
               go_ret2
               exact ⟨below_then hbw9 hbe7 hbw9.size,.inr (.inl ⟨HLZ.out,by rw [HV.out];decide,by rw [HV.out];rfl⟩)⟩
             ·obtain rfl:k=p.right.length:=by omega
              have HV:Hid (vsErr p s=0):=Lib.hid (vs_ok HLB.out HNUM.out HRNG.out HDUP.out HOKZ.out (fun i hi=>(HNO.out i hi).1) fun g=>by
               have:=artN_of (s:=s) (zs:=zL p s) (n:=(zL p s).length) fun i hi h=>(HNO.out i (by rw [← HZLen.out];exact hi)).2 g.1 h
               rw [this] at g
               exact absurd g.2 (by decide))
              clear e1 e2 e4 hkl hk hb
              go_wp2_with fail
              refine (settle_own w e p s K _ HE9 HF.out).mono ?_
              rintro _ w8 ⟨rfl,hE8⟩
              clear HE9
              go_wp2
              go_ret2
              exact ⟨hE8.bel,.inr (.inr ⟨HLZ.out,HV.out,e,rfl,hE8⟩)⟩
           ·have hv:vsErr p s=13:=vs_sing HLB.out HNUM.out HRNG.out HDUP.out (by
             cases hzo:zOk p s with
             | false=>rfl
             | true=>exact absurd (zOk_reg hzo) hni)
            have HV:=Lib.hid hv
            have hbe3:=below_then hbw hb8 hbw.size
            clear hO hni hb hb8 hbw hv
            go_wp2
            go_ret2
            exact ⟨hbe3,.inr (.inl ⟨HLZ.out,by rw [HV.out];decide,by rw [HV.out];rfl⟩)⟩
  ·have HV:=Lib.hid (vs_len hlb)
   have hnb:¬nb0=p.right.length:=by have:=HNB.out;omega
   clear hlb
   go_wp2
   go_ret2
   exact ⟨hbe2,.inr (.inl ⟨HLZ.out,by rw [HV.out];decide,by rw [HV.out];rfl⟩)⟩
 ·have HLN:=Lib.hid hz
  have hne:(lpErr p==0)=false:=by simpa using hz
  clear hz
  go_wp2
  go_ret2
  exact ⟨hbe1,.inl ⟨HLN.out,rfl⟩⟩
end
namespace Pl
def valN (p:LPd) (s:LSt) (k:Nat):Rat:=sumN (fun i=>costQ p 2 (s.at_ i) * qAt (zL p s) i) k
theorem valN_succ {p:LPd} {s:LSt} {k:Nat}:valN p s (k+1)=valN p s k+costQ p 2 (s.at_ k) * qAt (zL p s) k:=rfl
theorem valN_all {p:LPd} {s:LSt}:valN p s p.right.length=objQ p 2 s:=rfl
theorem valN_B {p:LPd} {s:LSt} {K k:Nat} (F:p.Ft K) (hk:k≤7):Sz (14 * (5^p.right.length * K)+8) (valN p s k):=by
 have h1:K≤5^p.right.length * K:=F.1.le
 have h2:Sz (1+k * (2 * (5^p.right.length * K)+1)) (valN p s k):=Sz_sum fun i _=>(Sz_mul (Sz_cost F.1.ok F.1.k1 _ _) ((zL_B F.1 s).qAt (Nat.le_trans F.1.k1 h1) i)).mono (by omega)
 have h3:k * (2 * (5^p.right.length * K)+1)≤7 * (2 * (5^p.right.length * K)+1):=Nat.mul_le_mul_right _ hk
 exact h2.mono (by omega)
end Pl
theorem value_any (e:Nat) (p:LPd) (s:LSt) (K:Nat) (w:World) (h:EngR w e p s K) (F:p.Ft K) (hrg:rngP p s):
 Calls Tryz.prog 63 #[.pointer (some ⟨e,0,none⟩)] w fun o w'=>∃v',o= .returned v'∧FracM w' v' (canF (objQ p 2 s))∧Below w.heap.size w w':=by
 obtain ⟨Ab,cb,base,bi,gB,vz,hM,hI,-,hZ⟩:=id h
 obtain ⟨A,n,c,A',n',c',A'',n'',c'',hE,g1,g2,g3⟩:=id hM
 obtain ⟨m1,m2,m3⟩:=g1.len
 obtain ⟨b1,b2,b3⟩:=hI.len
 have HNN:Hid (n=p.cols.length):=Lib.hid (by rw [m1];exact F.1.cl)
 have HN1:=Lib.hid m1
 have HRG:=Lib.hid hrg
 have hzl:=z_len h.reg
 have HZL:=Lib.hid hzl
 obtain ⟨Az,cz,hvz,hz1,hz2⟩:=hZ.shape
 rw [hzl] at hvz hz1
 subst hvz
 have hm7:p.right.length≤7:=F.2.1
 have HF:=Lib.hid F
 have HJ:Hid (K≤5^p.right.length * K∧1≤K∧5^p.right.length * K≤4000000):=Lib.hid ⟨F.1.le,F.1.k1,F.2.2⟩
 have HZB:=Lib.hid (zL_B F.1 s)
 have HCB:=Lib.hid F.1.ok.1
 have HE:=Lib.hid hE
 have HI:=Lib.hid hI
 have HZM:=Lib.hid hZ
 have HCM:=Lib.hid g1
 obtain ⟨W0,hW0,hR0,hb0⟩:=boxF1 w (.bool false) (.slice none 0 0) (.bool false) (.slice none 0 0)
 clear h hM g1 g2 g3 m1 b1 hzl hrg hZ hI hE F
 go_enter Tryz.func63,Tryz.ntmps63
 go_wp2_with fail
 clear hW0
 refine (whole_own 0 _ (by omega) (by omega)).mono ?_
 rintro _ w1 ⟨v1,f1,rfl,e2,rfl,hb2⟩
 rw [show canF ((0:Int):Rat)=canF (valN p s 0) from rfl] at e2
 obtain ⟨B1,m1,d1,B2,m2,d2,rfl,_,_⟩:=id e2
 obtain ⟨W3,hW3,hT3,hb3⟩:=boxF1 w1 (.bool (canF (valN p s 0)).num.neg) (.slice B1 m1 d1) (.bool (canF (valN p s 0)).den.neg) (.slice B2 m2 d2)
 have hR3:=(hR0.later hb2).later hb3
 have hbe2:=below_then hb0 hb2 hb0.size
 have hbe3:=below_then hbe2 hb3 hbe2.size
 have e3:=e2.below hb3
 have q4:=(HE.out.later hbe3).cellAt 4 rfl
 have hgt:w.heap.size < w1.heap.size:=by have:=hR0.lt;have:=hb2.size;omega
 clear hR0 e2 hb0 hb2 hb3 hbe2
 go_wp2
 clear hW3 q4
 have hT0:RstQ W3 w1.heap.size (valN p s 0):=⟨_,_,_,_,_,_,hT3,e3⟩
 clear hT3 e3
 generalize w1.heap.size=gt at *
 go_loopw [12] (fun x wr=>∃k:Nat,k≤p.right.length∧x= .int .i64 k∧Below w.heap.size w wr∧RstQ wr gt (valN p s k)∧Bk wr w.heap.size 48 [.bool false,.slice none 0 0,.bool false,.slice none 0 0]) (fun x _=>p.right.length - (intOf x).toNat)
 case atStart=>exact ⟨0,by omega,rfl,hbe3,hT0,hR3⟩
 case round=>
  clear hbe3 hT0 hR3
  obtain ⟨k,hk,rfl,hbe,hT,hR⟩:=hrel
  rcases Nat.lt_or_ge k p.right.length with hkl | hkl
  ·have hkI:(k:Int) < p.right.length:=by omega
   obtain ⟨bb,ob,z,hA,z0,hzz,z1,z2⟩:=HI.out.at_ hkl
   subst hA
   have z3:=cell_keep hbe z0
   have hrz:=HRG.out k hkl
   rw [LSt.at_eq hzz] at hrz
   have HAT:Hid (s.at_ k=z):=Lib.hid (LSt.at_eq hzz)
   obtain ⟨r0,r1⟩:=hrz
   have r2:z < n:=by rw [HNN.out];exact r1
   clear r1 z0 hzz
   rcases Int.lt_or_le z 0 with hz0 | hz0
   ·have hN:valN p s k=valN p s (k+1):=by rw [valN_succ,HAT.out,costQ_none (by omega) (by omega)];grind
    rw [hN] at hT
    clear hN
    go_wp2
    go_roundw
    case rel=>exact ⟨k+1,by omega,by go_num,hbe,hT,hR⟩
    case measure=>simp [intOf];omega
   ·obtain ⟨jn,rfl⟩:=Int.eq_ofNat_of_zero_le hz0
    obtain ⟨fz,hfz⟩:=get_some (fs:=zL p s) (i:=k) (by rw [HZL.out];exact hkl)
    obtain ⟨f,hf⟩:=get_some (fs:=p.cost) (i:=jn) (by rw [← HN1.out];omega)
    have HNX:Hid (valN p s (k+1)=valN p s k+f.q * fz.q):=Lib.hid (by
     rw [valN_succ,HAT.out,costQ_real hz0,show (jn:Int).toNat=jn from Int.toNat_natCast jn,qAt_some hf,qAt_some hfz])
    have hrf:=HCB.out jn f hf
    have hrz:=HZB.out k fz hfz
    have hsf:f.Sm:=hrf.sm (by have:=HJ.out;omega)
    have hsz:fz.Sm:=hrz.sm (by have:=HJ.out;omega)
    have hsP:(canF (f.q * fz.q)).Sm:=(Sz_mul (hrf.sz HJ.out.2.1) (hrz.sz (by have:=HJ.out;omega))).rs.sm (by have:=HJ.out;omega)
    obtain ⟨b5,o5,A5,n5,c5,A6,n6,c6,hA5,_,⟨x0,x1,x2,x3⟩,hmz⟩:=HZM.out.elem hbe hfz
    subst hA5
    obtain ⟨b7,o7,A7,n7,c7,A8,n8,c8,hA7,_,⟨u0,u1,u2,u3⟩,hmc⟩:=HCM.out.elem hbe hf
    subst hA7
    have q0:=(HE.out.later hbe).cellAt 0 rfl
    have q7:=(HE.out.later hbe).cellAt 7 rfl
    obtain ⟨A3,n3,c3,A4,n4,c4,hRB,hmr⟩:=hT
    obtain ⟨t0,t1,t2,t3⟩:=hRB.four
    obtain ⟨rr,hrr⟩:∃rr,rr=valN p s k:=⟨_,rfl⟩
    have hsr:(canF rr).Sm:=by rw [hrr];exact (valN_B HF.out (by omega)).rs.sm (by have:=HJ.out;omega)
    have HRR:=Lib.hid hrr
    rw [← hrr] at t0 t2 hmr hRB
    clear hrr hf hfz hrf hrz
    go_upto_region 6 with (fail)
    have C0:=stab t0
    have C1:=stab t1
    have C2:=stab t2
    have C3:=stab t3
    have D0:=stab q0
    have D1:=stab q7
    have E0:=stab x0
    have E1:=stab x1
    have E2:=stab x2
    have E3:=stab x3
    have G0:=stab u0
    have G1:=stab u1
    have G2:=stab u2
    have G3:=stab u3
    have hS0:=below_drew' wr
    clear t0 t1 t2 t3 q0 q7 x0 x1 x2 x3 u0 u1 u2 u3 z3
    refine region_seq 18 [0,1,2,3,4,5,6,7,8,9,10,11,12,13,14,15,16,17,18] (by kernel_rfl) (by kernel_rfl) ?_
    repeat ((first | (refine seq_takeP (v:=?_) rfl rfl rfl ?_ ?_;rotate_left;(· (intro _ hSw;go_simp;(try go_bits);(try with_reducible rfl)))) | (refine seq_take (v:=?_) rfl rfl rfl ?_ ?_;rotate_left;(· (intro _ hSw;go_simp;(try go_bits);(try with_reducible rfl)))) | refine seq_skip rfl rfl rfl ?_);(try simp only [Act.put,pu1,pu2,pu3,pu4,pu5,pu6]))
    refine seq_step rfl rfl (fun KR hKR=>?_)
    go_simp
    with_reducible refine (mulF_any _ _ f fz _ (hmc.below hS0) (hmz.below hS0) hsf hsz).mono ?_
    rintro _ w6 ⟨v6,rfl,e6,hb6⟩
    have hS6:=below_then hS0 hb6 hS0.size
    refine hKR.out _ _ (Or.inr hS6) ?_
    clear hKR KR
    (try simp only [Act.put,pu1,pu2,pu3,pu4,pu5,pu6])
    repeat ((first | (refine seq_takeP (v:=?_) rfl rfl rfl ?_ ?_;rotate_left;(· (intro _ hSw;go_simp;(try go_bits);(try with_reducible rfl)))) | (refine seq_take (v:=?_) rfl rfl rfl ?_ ?_;rotate_left;(· (intro _ hSw;go_simp;(try go_bits);(try with_reducible rfl)))) | refine seq_skip rfl rfl rfl ?_);(try simp only [Act.put,pu1,pu2,pu3,pu4,pu5,pu6]))
    refine seq_step rfl rfl (fun KR hKR=>?_)
    go_simp
    with_reducible refine (addF_any _ _ (canF rr) (canF (f.q * fz.q)) _ (hmr.below hS6) e6 hsr hsP).mono ?_
    rw [canF_q,canF_q]
    rintro _ w7 ⟨v7,rfl,e7,hb7⟩
    have hS7:=below_then hS6 hb7 hS6.size
    obtain ⟨B9,l9,k9,B9',l9',k9',rfl,_,_⟩:=id e7
    have hR7:=hRB.later hS7
    obtain ⟨c0,c1,c2,c3⟩:=hR7.four
    obtain ⟨f0,f1,f2,f3⟩:=hR7.fourF
    refine hKR.out _ _ (Or.inr hS7) ?_
    clear hKR KR
    (try simp only [Act.put,pu1,pu2,pu3,pu4,pu5,pu6])
    repeat ((first | (refine seq_takeP (v:=?_) rfl rfl rfl ?_ ?_;rotate_left;(· (intro _ hSw;go_simp;(try go_bits);(try with_reducible rfl)))) | (refine seq_take (v:=?_) rfl rfl rfl ?_ ?_;rotate_left;(· (intro _ hSw;go_simp;(try go_bits);(try with_reducible rfl)))) | refine seq_skip rfl rfl rfl ?_);(try simp only [Act.put,pu1,pu2,pu3,pu4,pu5,pu6]))
    refine seq_step rfl rfl (fun KR hKR=>?_)
    go_simp
    refine hKR.out _ _ (Or.inl (by decide)) ?_
    clear hKR KR
    (try simp only [Act.put,pu1,pu2,pu3,pu4,pu5,pu6])
    refine seq_done ?_
    clear C0 C1 C2 C3 D0 D1 E0 E1 E2 E3 G0 G1 G2 G3
    have hk8:=hR7.but4 (.bool (canF (rr+f.q * fz.q)).num.neg) (.slice B9 l9 k9) (.bool (canF (rr+f.q * fz.q)).den.neg) (.slice B9' l9' k9')
    have hR8:=(hR.later hS7).far4 (g':=gt) (by omega) (.bool (canF (rr+f.q * fz.q)).num.neg) (.slice B9 l9 k9) (.bool (canF (rr+f.q * fz.q)).den.neg) (.slice B9' l9' k9')
    have hbe8:=below_set4 (below_then hbe hS7 hbe.size) (Nat.le_of_lt hgt) (.bool (canF (rr+f.q * fz.q)).num.neg) (.slice B9 l9 k9) (.bool (canF (rr+f.q * fz.q)).den.neg) (.slice B9' l9' k9')
    have hT8:RstQ _ gt (valN p s (k+1)):=⟨B9,l9,k9,B9',l9',k9',by rw [HNX.out,← HRR.out];exact hR7.set4 _ _ _ _,by rw [HNX.out,← HRR.out];exact e7.keep (hk8.keep (by decide))⟩
    clear hR7 hR hbe hS0 hS6 hS7 e6 e7 hb6 hb7 c0 c1 c2 c3 f0 f1 f2 f3 hmz hmc hmr hk8 hsr hsz hsf hsP hRB
    go_wp2
    go_roundw
    case rel=>exact ⟨k+1,by omega,by go_num,hbe8,hT8,hR8⟩
    case measure=>simp [intOf];omega
  ·obtain rfl:k=p.right.length:=by omega
   rw [valN_all] at hT
   obtain ⟨A6,n6,c6,A7,n7,c7,hRB,hmr⟩:=hT
   obtain ⟨t0,t1,t2,t3⟩:=hRB.four
   obtain ⟨c0,c1,c2,c3⟩:=hR.four
   obtain ⟨f0,f1,f2,f3⟩:=hR.fourF
   go_wp2
   refine ret_cell Tryz.results63 Tryz.underlying48 (by kernel_rfl) rfl (hR.set4 _ _ _ _) rfl ?_
   exact fin_frac hR hmr hbe (Nat.le_refl _)
theorem samestate_any (v1 v2:Value) (s:LSt) (w:World) (h:StM w v1 s) (h2:StM w v2 s) (hl:s.basis.length≤1099511627776):
 Calls Tryz.prog 22 #[v1,v2] w fun o w'=>o= .returned (.bool true)∧Below w.heap.size w w':=by
 obtain ⟨A,n,c,rfl,hI⟩:=id h
 obtain ⟨B,n',d,rfl,hJ⟩:=id h2
 obtain ⟨b1,b2,b3⟩:=hI.len
 obtain ⟨d1,d2,d3⟩:=hJ.len
 have hnn:n'=n:=by omega
 subst hnn
 obtain ⟨W,hW,hX0,hbe0⟩:=box_st w (.int .i64 s.phase) (.slice A n' c) (.int .i64 s.pivots)
 obtain ⟨W1,hW1,hY0,hbe1⟩:=box_st W (.int .i64 s.phase) (.slice B n' d) (.int .i64 s.pivots)
 have hX:=hX0.later hbe1
 have hbe:=below_then hbe0 hbe1 hbe0.size
 have HX:=Lib.hid hX
 have HY:=Lib.hid hY0
 have HI:=Lib.hid (hI.below hbe)
 have HJ:=Lib.hid (hJ.below hbe)
 have HN:=Lib.hid b1
 obtain ⟨x0,x1,x2⟩:=hX.three
 obtain ⟨y0,y1,y2⟩:=hY0.three
 have hn:n'≤1099511627776:=by omega
 clear h h2 hI hJ hX0 hbe0 hbe1 hX hY0 b1 d1 hl
 go_enter Tryz.func22,Tryz.ntmps22
 go_wp2
 clear hW hW1
 go_loopw [5] (fun x wr=>∃k:Nat,k≤n'∧x= .int .i64 k∧Below W1.heap.size W1 wr) (fun x _=>n' - (intOf x).toNat)
 case atStart=>exact ⟨0,by omega,rfl,Below.refl _ _⟩
 case round=>
  obtain ⟨k,hk,rfl,hb⟩:=hrel
  clear x0 x1 x2 y0 y1 y2
  obtain ⟨x0,x1,x2⟩:=(HX.out.later hb).three
  obtain ⟨y0,y1,y2⟩:=(HY.out.later hb).three
  rcases Nat.lt_or_ge k n' with hkl | hkl
  ·have hkI:(k:Int) < n':=by omega
   obtain ⟨bb,ob,z,hA,z0,hzz,z1,z2⟩:=HI.out.at_ hkl
   obtain ⟨bc,oc,z',hB,z0',hzz',-,-⟩:=HJ.out.at_ hkl
   obtain rfl:z'=z:=by rw [hzz] at hzz';injection hzz' with e;exact e.symm
   subst hA hB
   have q0:=cell_keep hb z0
   have q1:=cell_keep hb z0'
   clear hzz hzz' z0 z0'
   go_upto_region 6 with (fail)
   have C0:=stab x1
   have C1:=stab y1
   have C2:=stab q0
   have C3:=stab q1
   clear x0 x1 x2 y0 y1 y2 q0 q1
   refine region_seq 11 [0,1,2,3,4,5,6,7,8,9,10] (by kernel_rfl) (by kernel_rfl) ?_
   repeat ((first | (refine seq_takeP (v:=?_) rfl rfl rfl ?_ ?_;rotate_left;(· (intro _ hSw;go_simp;(try go_bits);(try with_reducible rfl)))) | (refine seq_take (v:=?_) rfl rfl rfl ?_ ?_;rotate_left;(· (intro _ hSw;go_simp;(try go_bits);(try with_reducible rfl)))) | refine seq_skip rfl rfl rfl ?_);(try simp only [Act.put,pu1,pu2,pu3,pu4,pu5,pu6]))
   refine seq_done ?_
   have hb2:=hb.drew
   clear C0 C1 C2 C3 hb
   go_wp2
   go_roundw
   case rel=>exact ⟨k+1,by omega,by go_num,hb2⟩
   case measure=>simp [intOf];omega
  ·obtain rfl:n'=k:=by omega
   go_wp2
   go_ret
   exact ⟨rfl,below_then hbe hb hbe.size⟩
end Go.Proofs.YtncmobkhenfhpaaGreat
