/- Contracts and plain facts that the claim is built on, joined out of smaller texts; no condition. -/
import Derived.Test.YtncmobkhenfhpaaGreatB42
set_option linter.unusedVariables false
set_option linter.unusedSimpArgs false
set_option maxRecDepth 100000
set_option maxHeartbeats 40000000
namespace Go.Proofs.YtncmobkhenfhpaaGreat
open Go.RowKit
open Pl
attribute [local go_sem ↓] Go.wp_at_zero Go.wp_at_succ
namespace Pl
def hitQ (s:LSt) (D:List RF) (i:Nat):Prop:=0 < qAt D i∨(s.at_ i < 0∧qAt D i≠0)
theorem stuck_no {s:LSt} {D:List RF} (h:¬s.phase=2):∀n,stuckN s D n=false
 | 0=>by rw [stuckN];exact decide_eq_false h
 | n+1=>by rw [stuckN];split;rfl;exact stuck_no h n
theorem stuck_yes {s:LSt} {D:List RF} (h:s.phase=2):∀n,(∀i,i < n→¬hitQ s D i)→stuckN s D n=true
 | 0,_=>by rw [stuckN];exact decide_eq_true h
 | n+1,hh=>by rw [stuckN,if_neg (by have:=hh n (by omega);unfold hitQ at this;exact this)];exact stuck_yes h n fun i hi=>hh i (by omega)
theorem stuck_hit {s:LSt} {D:List RF} {i:Nat} (h:hitQ s D i):∀n,i < n→stuckN s D n=false
 | 0,hi=>absurd hi (by omega)
 | n+1,hi=>by
  rw [stuckN]
  by_cases e:i=n
  ·subst e;rw [if_pos (by unfold hitQ at h;exact h)]
  ·split
   ·rfl
   ·exact stuck_hit h n (by omega)
theorem entS_some {p:LPd} {s:LSt} {j:Nat} (hj:j < p.cols.length) (h:redQ p s (j:Int) < 0) (hb:∀i,i < j→¬redQ p s (i:Int) < 0):entQ p s=some j:=firstNeg_some (by omega) (by omega) h fun i _ hi=>hb i hi
theorem entN_none {p:LPd} {s:LSt} (hb:∀i,i < p.cols.length→¬redQ p s (i:Int) < 0):entQ p s=none:=firstNeg_none fun i _ hi=>hb i (by omega)
end Pl
theorem estatus_any (e:Nat) (p:LPd) (s:LSt) (K:Nat) (w:World) (h:EngR w e p s K) (S:s.Fit p) (F:p.Ft K) (hz:lpErr p=0) (hph:s.phase=1∨s.phase=2):
 Calls Tryz.prog 57 #[.pointer (some ⟨e,0,none⟩)] w fun o w'=>∃v',o= .returned (.tuple #[.int .i64 (statQ p s),.int .i64 (statJ p s),v'])∧FrsO w.heap.size w' v' (statD p s)∧Below w.heap.size w w':=by
 have HR:=Lib.hid h.reg
 have HH:=Lib.hid h
 obtain ⟨Ab,cb,base,bi,gB,vz,h1,h2,h3,h4⟩:=h
 obtain ⟨y3,y4,-,-,-⟩:=h1.cells
 have HI:=Lib.hid h2
 obtain ⟨A,n,c,A',N,c',A'',n'',c'',hB,-,hv,-⟩:=h1
 obtain ⟨l1,l2,l3⟩:=hv.len
 have HN:=Lib.hid l1
 have HY1:=Lib.hid (hB.cellAt 1 rfl)
 obtain ⟨ph,hp⟩:∃ph,ph=s.phase:=⟨_,rfl⟩
 have HPH:=Lib.hid hp
 rw [← hp] at hph y3
 have HY3:=Lib.hid y3
 have HF:=Lib.hid F
 have HS:=Lib.hid S
 have HZ:=Lib.hid hz
 have hcl:=F.1.cols
 have hN2:N≤1200:=by omega
 obtain ⟨m,hm⟩:∃m,m=p.right.length:=⟨_,rfl⟩
 have HMM:=Lib.hid hm
 rw [← hm] at y4
 have HY4:=Lib.hid y4
 have hm7:m≤7:=by rw [hm];exact F.2.1
 obtain ⟨-,hcb1,hcb2⟩:=h2.len
 rw [← hm] at hcb1
 clear h2 h3 h4 F S hz hB hv l1 hcl hm y3 y4 hp
 go_enter Tryz.func57,Tryz.ntmps57
 go_wp2_with fail
 refine (duals_any e p s K _ HH.out HS.out HF.out).mono ?_
 rintro _ w1 ⟨v1,rfl,e1,hb1⟩
 have y1:=cell_keep hb1 HY1.out
 have HD:=Lib.hid e1
 obtain ⟨A1,n1,c1,rfl⟩:=e1.sliceN
 clear e1
 go_wp2
 clear y1
 go_loopw [6,20] (fun en x wr=>∃j:Nat,j≤N∧x= .int .i64 j∧en= .int .i64 (-1)∧Below w1.heap.size w1 wr∧∀i,i < j→¬redQ p s (i:Int) < 0) (fun _ x _=>N - (intOf x).toNat)
 case atStart=>exact ⟨0,by omega,rfl,rfl,Below.refl _ _,fun i hi=>absurd hi (by omega)⟩
 case round=>
  obtain ⟨j,hj,rfl,rfl,hbe,hno⟩:=hrel
  have HNO:=Lib.hid hno
  clear hno
  have hbw:=below_then hb1 hbe hb1.size
  rcases Nat.lt_or_ge j N with hjl | hjl
  ·have hjc:j < p.cols.length:=by have:=HN.out;omega
   have hjI:(j:Int) < N:=by omega
   go_wp2_with fail
   refine (reduced_any e p s K j _ _ (HH.out.below hbw) (HD.out.frs.below hbe) HF.out HZ.out hjc).mono ?_
   rintro _ w2 ⟨v2,rfl,e2,hb2⟩
   have hbe2:=below_then hbe hb2 hbe.size
   have hbw2:=below_then hbw hb2 hbw.size
   have hq3:qs (redQ p s (j:Int))=0∨qs (redQ p s (j:Int))=1∨qs (redQ p s (j:Int))= -1:=by have:=qs_bd (redQ p s (j:Int));omega
   obtain ⟨B1,m1,d1,B2,m2,d2,rfl,_,_⟩:=id e2
   clear hbe hbw hb2
   by_cases hn:qs (redQ p s (j:Int)) < 0
   ·have HE:=Lib.hid (entS_some hjc (qs_neg.1 hn) HNO.out)
    have hq:qs (redQ p s (j:Int))= -1:=by omega
    clear hq3 hn
    go_wp2_with fail
    refine (signF_any _ (canF (redQ p s (j:Int))) _ e2).mono ?_
    rw [canF_q,hq]
    rintro _ w3 ⟨rfl,hb3⟩
    have hbw3:=below_then hbw2 hb3 hbw2.size
    have y3:=cell_keep hbw3 HY3.out
    clear hbe2 hbw2 hb3 e2 hq
    go_wp2_with fail
    refine (direction_any e p s K j _ (HH.out.below hbw3) HF.out HZ.out hjc).mono ?_
    rintro _ w4 ⟨v4,rfl,e4,hb4⟩
    have hbw4:=below_then hbw3 hb4 hbw3.size
    have HJQ:Hid (statJ p s=(j:Int)):=Lib.hid (stat_some HE.out).2.1
    have HDL:Hid (dirL p s (j:Int)=statD p s):=Lib.hid (stat_some HE.out).2.2.symm
    have HSQ:Hid (statQ p s=if stuckN s (dirL p s (j:Int)) (dirL p s (j:Int)).length then 3 else 0):=Lib.hid (stat_some HE.out).1
    have HDLen:Hid ((dirL p s (j:Int)).length=m):=Lib.hid (by rw [HMM.out];exact dir_len HR.out _)
    have hD4:=e4.monoB hbw3.size
    obtain ⟨A4,c4,hv4⟩:=e4.slice
    rw [HDLen.out] at hv4
    subst hv4
    obtain ⟨-,hc41,hc42⟩:=e4.frs.len
    have y3':=cell_keep hb4 y3
    clear hbw3 hb4 e4
    rcases hph with hp1 | hp2
    ·have HS0:Hid (statQ p s=0):=Lib.hid (by rw [HSQ.out,stuck_no (by rw [← HPH.out];omega)];rfl)
     have hD9:=hD4
     rw [HDL.out] at hD9
     have hbe9:=hbw4
     clear y3
     subst hp1
     go_wp2
     refine bodyPost_ret (results_tmp3 rfl _ _ _) rfl ?_
     exact ⟨_,by rw [HS0.out,HJQ.out];rfl,hD9,hbe9⟩
    ·subst hp2
     clear y3
     go_wp2
     clear y3'
     have HD4:=Lib.hid hD4
     go_loopw [50] (fun x wr=>∃k:Nat,k≤m∧x= .int .i64 k∧Below w4.heap.size w4 wr∧∀i,i < k→¬hitQ s (dirL p s (j:Int)) i) (fun x _=>m - (intOf x).toNat)
     case atStart=>exact ⟨0,by omega,rfl,Below.refl _ _,fun i hi=>absurd hi (by omega)⟩
     case round=>
      obtain ⟨k,hk,rfl,hbe,hno⟩:=hrel
      have HNH:=Lib.hid hno
      clear hno
      have hbw5:=below_then hbw4 hbe hbw4.size
      rcases Nat.lt_or_ge k m with hkl | hkl
      ·have hkI:(k:Int) < m:=by omega
       obtain ⟨f,hf⟩:=get_some (fs:=dirL p s (j:Int)) (i:=k) (by rw [HDLen.out];exact hkl)
       have HQ:Hid (qAt (dirL p s (j:Int)) k=f.q):=Lib.hid (qAt_some hf)
       obtain ⟨b5,o5,A5,n5,c5,A6,n6,c6,rfl,_,⟨x0,x1,x2,x3⟩,hmf⟩:=HD4.out.frs.elem hbe hf
       obtain ⟨W6,hW6,hV,hbn⟩:=boxF1 wr (.bool f.num.neg) (.slice A5 n5 c5) (.bool f.den.neg) (.slice A6 n6 c6)
       obtain ⟨u0,u1,u2,u3⟩:=hV.four
       have hm6:=hmf.below hbn
       have hbe6:=below_then hbe hbn hbe.size
       have hbw6:=below_then hbw5 hbn hbw5.size
       have hq3:qs f.q=0∨qs f.q=1∨qs f.q= -1:=by have:=qs_bd f.q;omega
       obtain ⟨bb,ob,z,rfl,z0,hzz,-,-⟩:=HI.out.at_ (show k < p.right.length by rw [← HMM.out];exact hkl)
       have HAT:Hid (s.at_ k=z):=Lib.hid (LSt.at_eq hzz)
       clear hf hmf hbe hbw5 hV hbn hzz
       go_wp2_with fail
       clear hW6
       refine (signF_any _ f _ hm6).mono ?_
       rintro _ w7 ⟨rfl,hb7⟩
       have hbe7:=below_then hbe6 hb7 hbe6.size
       have hbw7:=below_then hbw6 hb7 hbw6.size
       have z1:=cell_keep hbw7 z0
       have y4:=cell_keep hbw7 HY4.out
       clear hm6 hbe6 hbw6 hb7 x0 x1 x2 x3 u0 u1 u2 u3 z0
       rcases hq3 with hq | hq | hq
       ·rw [hq]
        have hnh:¬hitQ s (dirL p s (j:Int)) k:=by
         unfold hitQ
         rw [HQ.out,qs_zero.1 hq]
         rintro (g | g)
         ·exact absurd g (by decide)
         ·exact g.2 rfl
        have HNK:=Lib.hid hnh
        clear hq hnh
        go_wp2
        go_roundw
        case rel=>exact ⟨k+1,by omega,by go_num,hbe7,fun i hi=>by
         by_cases g:i=k
         ·rw [g];exact HNK.out
         ·exact HNH.out i (by omega)⟩
        case measure=>simp [intOf];omega
       ·rw [hq]
        have hh:hitQ s (dirL p s (j:Int)) k:= .inl (by rw [HQ.out];exact qs_pos.1 (by omega))
        have HS0:Hid (statQ p s=0):=Lib.hid (by rw [HSQ.out,stuck_hit hh _ (by rw [HDLen.out];exact hkl)];rfl)
        have hD9:=HD4.out.below hbe7
        rw [HDL.out] at hD9
        have hbe9:=hbw7
        clear hq hh
        go_wp2
        refine bodyPost_ret (results_tmp3 rfl _ _ _) rfl ?_
        exact ⟨_,by rw [HS0.out,HJQ.out];rfl,hD9,hbe9⟩
       ·rw [hq]
        have hq0:f.q≠0:=fun g=>by have:=qs_zero.2 g;omega
        have hqn:¬0 < f.q:=fun g=>by have:=qs_pos.2 g;omega
        by_cases hz0:z < 0
        ·have hh:hitQ s (dirL p s (j:Int)) k:= .inr ⟨by rw [HAT.out];exact hz0,by rw [HQ.out];exact hq0⟩
         have HS0:Hid (statQ p s=0):=Lib.hid (by rw [HSQ.out,stuck_hit hh _ (by rw [HDLen.out];exact hkl)];rfl)
         have hD9:=HD4.out.below hbe7
         rw [HDL.out] at hD9
         have hbe9:=hbw7
         clear hq hh hq0 hqn
         go_wp2
         refine bodyPost_ret (results_tmp3 rfl _ _ _) rfl ?_
         exact ⟨_,by rw [HS0.out,HJQ.out];rfl,hD9,hbe9⟩
        ·have hnh:¬hitQ s (dirL p s (j:Int)) k:=by
          unfold hitQ
          rw [HQ.out,HAT.out]
          rintro (g | g)
          ·exact hqn g
          ·exact hz0 g.1
         have HNK:=Lib.hid hnh
         have hz1:0≤z:=by omega
         clear hq hnh hq0 hqn hz0
         go_wp2
         go_roundw
         case rel=>exact ⟨k+1,by omega,by go_num,hbe7,fun i hi=>by
          by_cases g:i=k
          ·rw [g];exact HNK.out
          ·exact HNH.out i (by omega)⟩
         case measure=>simp [intOf];omega
      ·obtain rfl:m=k:=by omega
       have HS0:Hid (statQ p s=3):=Lib.hid (by rw [HSQ.out,stuck_yes HPH.out.symm _ (by rw [HDLen.out];exact HNH.out)];rfl)
       have hD9:=HD4.out.below hbe
       rw [HDL.out] at hD9
       have hbe9:=hbw5
       go_wp2
       refine bodyPost_ret (results_tmp3 rfl _ _ _) rfl ?_
       exact ⟨_,by rw [HS0.out,HJQ.out];rfl,hD9,hbe9⟩
   ·have HNK:Hid (¬redQ p s (j:Int) < 0):=Lib.hid fun g=>hn (by have:=qs_neg.2 g;omega)
    have hn':0≤qs (redQ p s (j:Int)):=by omega
    clear hq3 hn
    go_wp2_with fail
    refine (signF_any _ (canF (redQ p s (j:Int))) _ e2).mono ?_
    rw [canF_q]
    rintro _ w3 ⟨rfl,hb3⟩
    have hbe3:=below_then hbe2 hb3 hbe2.size
    clear hbe2 hbw2 hb3 e2
    go_wp2
    go_roundw
    case rel=>exact ⟨j+1,by omega,by go_num,rfl,hbe3,fun i hi=>by
     by_cases g:i=j
     ·rw [g];exact HNK.out
     ·exact HNO.out i (by omega)⟩
    case measure=>simp [intOf];omega
  ·obtain rfl:N=j:=by omega
   have HE:=Lib.hid (entN_none (p:=p) (s:=s) (by rw [← HN.out];exact HNO.out))
   have HJQ:Hid (statJ p s= -1):=Lib.hid (stat_none HE.out).2.1
   have hD9:FrsO w.heap.size wr (.slice none 0 0) (statD p s):=by rw [(stat_none HE.out).2.2];exact FrsO.nil _ _
   have hbe9:=hbw
   have y3:=cell_keep hbw HY3.out
   have HSQ:Hid (statQ p s=if s.phase=1 then 2 else 1):=Lib.hid (stat_none HE.out).1
   rcases hph with hp1 | hp2
   ·have HS0:Hid (statQ p s=2):=Lib.hid (by rw [HSQ.out,if_pos (by rw [← HPH.out];exact hp1)])
    subst hp1
    go_wp2
    refine bodyPost_ret (results_tmp3 rfl _ _ _) rfl ?_
    exact ⟨_,by rw [HS0.out,HJQ.out];rfl,hD9,hbe9⟩
   ·have HS0:Hid (statQ p s=1):=Lib.hid (by rw [HSQ.out,if_neg (by rw [← HPH.out];omega)])
    subst hp2
    go_wp2
    refine bodyPost_ret (results_tmp3 rfl _ _ _) rfl ?_
    exact ⟨_,by rw [HS0.out,HJQ.out];rfl,hD9,hbe9⟩
theorem erank_any (e:Nat) (p:LPd) (s:LSt) (K i:Nat) (w:World) (h:EngR w e p s K) (S:s.Fit p) (F:p.Ft K) (hi:i < p.right.length):
 Calls Tryz.prog 121 #[.pointer (some ⟨e,0,none⟩),.int .i64 (i:Int)] w fun o w'=>o= .returned (.int .i64 (ordQ p (s.at_ i)))∧Below w.heap.size w w':=by
 obtain ⟨Ab,cb,base,bi,gB,vz,h1,h2,h3,h4⟩:=h
 obtain ⟨-,y4,-,-,-⟩:=h1.cells
 obtain ⟨A,n,c,A',N,c',A'',n'',c'',hB,-,hv,-⟩:=h1
 obtain ⟨l1,l2,l3⟩:=hv.len
 have y1:=hB.cellAt 1 rfl
 obtain ⟨-,hcb1,hcb2⟩:=h2.len
 obtain ⟨bb,ob,z,rfl,z0,hzz,hz1,hz2⟩:=h2.at_ hi
 have HAT:Hid (s.at_ i=z):=Lib.hid (LSt.at_eq hzz)
 have hzr:=S.1 i z hzz
 have hcl:=F.1.cols
 have hiI:(i:Int) < p.right.length:=by omega
 have HN:=Lib.hid l1
 have hN2:N≤1200:=by omega
 have hm7:=F.2.1
 rw [HAT.out]
 rcases Int.lt_or_le z 0 with hz0 | hz0
 ·have HQ:Hid (ordQ p z=N - 1 - z):=Lib.hid (by unfold ordQ;rw [if_neg (by omega),HN.out])
  rw [HQ.out]
  clear h2 h3 h4 hB hv hzz S F l1 HQ
  go_enter Tryz.func121,Tryz.ntmps121
  go_wp2
  go_ret
  exact ⟨by go_num,Below.refl _ _⟩
 ·have HQ:Hid (ordQ p z=z):=Lib.hid (by unfold ordQ;rw [if_pos hz0])
  rw [HQ.out]
  clear h2 h3 h4 hB hv hzz S F l1 HQ
  go_enter Tryz.func121,Tryz.ntmps121
  go_wp2
  go_ret
  exact ⟨rfl,Below.refl _ _⟩
end Go.Proofs.YtncmobkhenfhpaaGreat
