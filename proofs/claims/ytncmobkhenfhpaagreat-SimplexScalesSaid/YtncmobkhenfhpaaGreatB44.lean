/- Contracts and plain facts that the claim is built on, joined out of smaller texts; no condition. -/
import Derived.Test.YtncmobkhenfhpaaGreatB43
set_option linter.unusedVariables false
set_option linter.unusedSimpArgs false
set_option maxRecDepth 100000
set_option maxHeartbeats 40000000
namespace Go.Proofs.YtncmobkhenfhpaaGreat
open Go.RowKit
open Pl
attribute [local go_sem ↓] Go.wp_at_zero Go.wp_at_succ
section
def EngI (U w:World) (e:Nat) (p:LPd) (s:LSt) (K:Nat) (A:Option Addr) (n c:Nat) (A':Option Addr) (n' c':Nat) (A'':Option Addr) (n'' c'':Nat) (Ab:Option Addr) (cb gB:Nat) (vz:Value):Prop:=
 ∃bB bi,(FrsM U (.slice A n c) p.cost∧VecsM U (.slice A' n' c') p.cols∧FrsM U (.slice A'' n'' c'') p.right)∧(U.heap.size≤e∧U.heap.size≤bB∧bB≤w.heap.size∧bi≤w.heap.size)∧IntsO U.heap.size w (.slice Ab p.right.length cb) s.basis∧(∀b,(Value.slice Ab p.right.length cb).ownBlock=some b→b < bB)∧
  BasO bB bi w gB p.right.length K (s.mat p)∧FrsO U.heap.size w vz (zL p s)∧(∀b,vz.ownBlock=some b→b < bi)∧Below U.heap.size U w
def EngO (U w:World) (e:Nat) (p:LPd) (s:LSt) (K:Nat):Prop:=
 ∃A n c A' n' c' A'' n'' c'' Ab cb gB vz,Bk w e 107 [.slice A n c,.slice A' n' c',.slice A'' n'' c'',.int .i64 s.phase,.slice Ab p.right.length cb,.int .i64 s.pivots,.pointer (some ⟨gB,0,none⟩),vz]∧EngI U w e p s K A n c A' n' c' A'' n'' c'' Ab cb gB vz
section
variable {U w w':World} {e:Nat} {p:LPd} {s:LSt} {K:Nat} {A:Option Addr} {n c:Nat} {A':Option Addr} {n' c':Nat} {A'':Option Addr} {n'' c'':Nat} {Ab:Option Addr} {cb gB:Nat} {vz:Value}
theorem EngI.below (h:EngI U w e p s K A n c A' n' c' A'' n'' c'' Ab cb gB vz) (hb:Below w.heap.size w w'):EngI U w' e p s K A n c A' n' c' A'' n'' c'' Ab cb gB vz:=by
 obtain ⟨bB,bi,h1,⟨h2,h3,h4,h5⟩,h6,h7,h8,h9,h10,h11⟩:=h
 have:=hb.size
 exact ⟨bB,bi,h1,⟨h2,h3,by omega,by omega⟩,h6.below hb,h7,h8.below hb,h9.below hb,h10,below_then h11 hb h11.size⟩
theorem EngI.cell {cs:List Value} (h:EngI U w e p s K A n c A' n' c' A'' n'' c'' Ab cb gB vz) (hB:Bk w e 107 cs) (i:Nat) (v:Value):EngI U (w.setCell ⟨e,i,none⟩ v) e p s K A n c A' n' c' A'' n'' c'' Ab cb gB vz:=by
 obtain ⟨bB,bi,h1,⟨h2,h3,h4,h5⟩,h6,h7,h8,h9,h10,h11⟩:=h
 have hk:=KeepBut.setCell hB i v
 exact ⟨bB,bi,h1,⟨h2,h3,by simpa using h4,by simpa using h5⟩,h6.but hk (by decide),h7,h8.but hk (by decide) (by decide) (by decide) (by decide) (by decide) (by decide) (by decide),h9.but hk (by decide) (by decide),h10,h11.setCell (p:=⟨e,i,none⟩) h2 v⟩
theorem EngO.below (h:EngO U w e p s K) (hb:Below w.heap.size w w'):EngO U w' e p s K:=by
 obtain ⟨A,n,c,A',n',c',A'',n'',c'',Ab,cb,gB,vz,h1,h2⟩:=h
 exact ⟨A,n,c,A',n',c',A'',n'',c'',Ab,cb,gB,vz,h1.later hb,h2.below hb⟩
theorem EngO.bel (h:EngO U w e p s K):Below U.heap.size U w:=by
 obtain ⟨A,n,c,A',n',c',A'',n'',c'',Ab,cb,gB,vz,h1,bB,bi,_,_,_,_,_,_,_,h2⟩:=h
 exact h2
theorem EngO.r (h:EngO U w e p s K):EngR w e p s K:=by
 obtain ⟨A,n,c,A',n',c',A'',n'',c'',Ab,cb,gB,vz,h1,bB,bi,⟨g1,g2,g3⟩,_,h6,_,h8,h9,_,h11⟩:=h
 have hb:Below U.heap.size U w:=h11
 exact ⟨Ab,cb,bB,bi,gB,vz,⟨A,n,c,A',n',c',A'',n'',c'',h1,g1.below hb,g2.below hb,g3.below hb⟩,h6.ints,h8,h9.frs⟩
end
namespace Pl
theorem settle_2 {p:LPd} {s:LSt} (h:s.phase=2):settleQ p s=s:=by
 obtain ⟨a,b,c⟩:=s
 simp only at h
 subst h
 unfold settleQ
 simp
theorem settle_hit {p:LPd} {s:LSt} {k:Nat} (hk:k < (zL p s).length) (h1:s.at_ k < 0) (h2:qAt (zL p s) k≠0):settleQ p s=s:=by
 unfold settleQ
 rw [artN_true h1 h2 hk]
 rfl
theorem settle_no {p:LPd} {s:LSt} (h:∀k,k < (zL p s).length→s.at_ k < 0→qAt (zL p s) k=0):settleQ p s=⟨2,s.basis,s.pivots⟩:=by
 unfold settleQ
 rw [artN_of h]
 rfl
end Pl
theorem settle_own (U:World) (e:Nat) (p:LPd) (s:LSt) (K:Nat) (w:World) (h:EngO U w e p s K) (F:p.Ft K):
 Calls Tryz.prog 89 #[.pointer (some ⟨e,0,none⟩)] w fun o w'=>o= .returned (.tuple #[])∧EngO U w' e p (settleQ p s) K:=by
 have HO:=Lib.hid h
 have HR:=Lib.hid h.r.reg
 obtain ⟨Ab,cb,base,bi,gB,vz,h1,h2,h3,h4⟩:=h.r
 obtain ⟨y3,y4,-,-,y7⟩:=h1.cells
 obtain ⟨ph,hp⟩:∃ph,ph=s.phase:=⟨_,rfl⟩
 have HPH:=Lib.hid hp
 rw [← hp] at y3
 obtain ⟨m,hm⟩:∃m,m=p.right.length:=⟨_,rfl⟩
 have HMM:=Lib.hid hm
 rw [← hm] at y4
 have hm7:m≤7:=by rw [hm];exact F.2.1
 obtain ⟨-,hcb1,hcb2⟩:=h2.len
 rw [← hm] at hcb1
 have HZL:Hid ((zL p s).length=m):=Lib.hid (by rw [hm];exact z_len HR.out)
 obtain ⟨Az,cz,rfl,hcz1,hcz2⟩:=h4.shape
 rw [HZL.out] at h4 hcz1 y7
 have HI:=Lib.hid h2
 have HZM:=Lib.hid h4
 have HY3:=Lib.hid y3
 have HY4:=Lib.hid y4
 have HY7:=Lib.hid y7
 clear h h1 h2 h3 h4 F hp hm
 by_cases hp2:ph=2
 ·subst hp2
  clear y4 y7
  go_enter Tryz.func89,Tryz.ntmps89
  go_wp2
  refine bodyPost_ret (results_none rfl _ _ _) rfl ?_
  exact ⟨rfl,by rw [settle_2 HPH.out.symm];exact HO.out⟩
 ·have hpe:(ph==2)=false:=by simpa using hp2
  clear y7
  go_enter Tryz.func89,Tryz.ntmps89
  go_wp2
  clear y3 y4 hpe hp2
  go_loopw [14] (fun x wr=>∃k:Nat,k≤m∧x= .int .i64 k∧Below w.heap.size w wr∧∀i,i < k→s.at_ i < 0→qAt (zL p s) i=0) (fun x _=>m - (intOf x).toNat)
  case atStart=>exact ⟨0,by omega,rfl,Below.refl _ _,fun i hi=>absurd hi (by omega)⟩
  case round=>
   obtain ⟨k,hk,rfl,hbe,hno⟩:=hrel
   have HNO:=Lib.hid hno
   clear hno
   rcases Nat.lt_or_ge k m with hkl | hkl
   ·have hkI:(k:Int) < m:=by omega
    obtain ⟨bb,ob,z,rfl,z0,hzz,-,-⟩:=HI.out.at_ (show k < p.right.length by rw [← HMM.out];exact hkl)
    have HAT:Hid (s.at_ k=z):=Lib.hid (LSt.at_eq hzz)
    obtain ⟨f,hf⟩:=get_some (fs:=zL p s) (i:=k) (by rw [HZL.out];exact hkl)
    have HQ:Hid (qAt (zL p s) k=f.q):=Lib.hid (qAt_some hf)
    have z1:=cell_keep hbe z0
    clear hzz z0
    by_cases hz0:z < 0
    ·obtain ⟨b5,o5,A5,n5,c5,A6,n6,c6,rfl,_,⟨x0,x1,x2,x3⟩,hmf⟩:=HZM.out.elem hbe hf
     have y7:=cell_keep hbe HY7.out
     have hq3:qs f.q=0∨qs f.q=1∨qs f.q= -1:=by have:=qs_bd f.q;omega
     clear hf
     by_cases hq0:qs f.q=0
     ·have HF0:=Lib.hid (qs_zero.1 hq0)
      clear hq3
      go_wp2_with fail
      refine (signF_any _ f _ hmf).mono ?_
      rw [hq0]
      rintro _ w3 ⟨rfl,hb3⟩
      have hbe3:=below_then hbe hb3 hbe.size
      clear hbe hb3 hmf x0 x1 x2 x3 y7 hq0 z1
      go_wp2
      go_roundw
      case rel=>exact ⟨k+1,by omega,by go_num,hbe3,fun i hi=>by
       by_cases g:i=k
       ·rw [g];exact fun _=>by rw [HQ.out];exact HF0.out
       ·exact HNO.out i (by omega)⟩
      case measure=>simp [intOf];omega
     ·have HF0:Hid (f.q≠0):=Lib.hid fun g=>hq0 (qs_zero.2 g)
      have hqe:(qs f.q !=0)=true:=by simpa using hq0
      clear hq3 hq0
      go_wp2_with fail
      refine (signF_any _ f _ hmf).mono ?_
      rintro _ w3 ⟨rfl,hb3⟩
      have hbe3:=below_then hbe hb3 hbe.size
      have hset:settleQ p s=s:=settle_hit (k:=k) (by rw [HZL.out];exact hkl) (by rw [HAT.out];exact hz0) (by rw [HQ.out];exact HF0.out)
      clear hbe hb3 hmf x0 x1 x2 x3 y7 z1
      go_wp2
      refine bodyPost_ret (results_none rfl _ _ _) rfl ?_
      exact ⟨rfl,by rw [hset];exact HO.out.below hbe3⟩
    ·have hz1:0≤z:=by omega
     clear hf
     go_wp2
     go_roundw
     case rel=>exact ⟨k+1,by omega,by go_num,hbe,fun i hi=>by
      by_cases g:i=k
      ·rw [g,HAT.out];intro h;omega
      ·exact HNO.out i (by omega)⟩
     case measure=>simp [intOf];omega
   ·obtain rfl:m=k:=by omega
    obtain ⟨A,n,c,A',n',c',A'',n'',c'',Ab',cb',gB',vz',hB,hI⟩:=HO.out.below hbe
    have t3:=hB.cellAt 3 rfl
    have f3:=hB.frozen 3
    have hI2:=hI.cell hB 3 (.int .i64 2)
    have hB2:=hB.set_ 3 (.int .i64 2)
    have HSN:Hid (settleQ p s=⟨2,s.basis,s.pivots⟩):=Lib.hid (settle_no (by rw [HZL.out];exact HNO.out))
    clear hB hI
    go_wp2
    go_end0
    exact ⟨rfl,by rw [HSN.out];exact ⟨A,n,c,A',n',c',A'',n'',c'',Ab',cb',gB',vz',hB2,hI2⟩⟩
theorem leaving_any (e:Nat) (p:LPd) (s:LSt) (K:Nat) (vd:Value) (D:List RF) (w:World) (h:EngR w e p s K) (hd:FrsM w vd D) (hdl:D.length=p.right.length) (hdb:RsL (5^p.right.length * K) D) (S:s.Fit p) (F:p.Ft K):
 Calls Tryz.prog 91 #[.pointer (some ⟨e,0,none⟩),vd] w fun o w'=>o= .returned (.int .i64 (oi (leavQ p s (zL p s) D)))∧Below w.heap.size w w':=by
 have HH:=Lib.hid h
 have HR:=Lib.hid h.reg
 obtain ⟨Ab,cb,base,bi,gB,vz,h1,h2,h3,h4⟩:=h
 obtain ⟨y3,y4,-,-,y7⟩:=h1.cells
 obtain ⟨ph,hp⟩:∃ph,ph=s.phase:=⟨_,rfl⟩
 have HPH:=Lib.hid hp
 rw [← hp] at y3
 obtain ⟨m,hm⟩:∃m,m=p.right.length:=⟨_,rfl⟩
 have HMM:=Lib.hid hm
 rw [← hm] at y4
 have hm7:m≤7:=by rw [hm];exact F.2.1
 obtain ⟨-,hcb1,hcb2⟩:=h2.len
 rw [← hm] at hcb1
 have HZL:Hid ((zL p s).length=m):=Lib.hid (by rw [hm];exact z_len HR.out)
 have HDL:Hid (D.length=m):=Lib.hid (by rw [hm];exact hdl)
 obtain ⟨Az,cz,rfl,hcz1,hcz2⟩:=h4.shape
 obtain ⟨Ad,cd,rfl,hcd1,hcd2⟩:=hd.shape
 rw [HZL.out] at h4 hcz1 y7
 rw [HDL.out] at hd hcd1 ⊢
 have HI:=Lib.hid h2
 have HZM:=Lib.hid h4
 have HDM:=Lib.hid hd
 have HDB:=Lib.hid hdb
 have HZB:=Lib.hid (zL_B F.1 s)
 have HJ:Hid (1≤5^p.right.length * K∧5^p.right.length * K≤4000000):=Lib.hid ⟨Nat.le_trans F.1.k1 F.1.le,F.2.2⟩
 have HS:=Lib.hid S
 have HF:=Lib.hid F
 have HY4:=Lib.hid y4
 have HY7:=Lib.hid y7
 clear h1 h2 h3 h4 S F hd hdl hdb hp hm y7
 by_cases hp2:ph=2
 ·subst hp2
  go_enter Tryz.func91,Tryz.ntmps91
  go_wp2
  clear y3 y4
  go_loopw [24] (fun x wr=>∃k:Nat,k≤m∧x= .int .i64 k∧Below w.heap.size w wr∧∀i,0≤i→i < 0+k→¬artF s D i < 0) (fun x _=>m - (intOf x).toNat)
  case atStart=>exact ⟨0,by omega,rfl,Below.refl _ _,fun i _ hi=>absurd hi (by omega)⟩
  case round=>
   obtain ⟨k,hk,rfl,hbe,hno⟩:=hrel
   have HNO:=Lib.hid hno
   clear hno
   rcases Nat.lt_or_ge k m with hkl | hkl
   ·have hkI:(k:Int) < m:=by omega
    obtain ⟨bb,ob,z,rfl,z0,hzz,-,-⟩:=HI.out.at_ (show k < p.right.length by rw [← HMM.out];exact hkl)
    have HAT:Hid (s.at_ k=z):=Lib.hid (LSt.at_eq hzz)
    obtain ⟨f,hf⟩:=get_some (fs:=D) (i:=k) (by rw [HDL.out];exact hkl)
    have HQ:Hid (qAt D k=f.q):=Lib.hid (qAt_some hf)
    have z1:=cell_keep hbe z0
    clear hzz z0
    by_cases hz0:z < 0
    ·obtain ⟨b5,o5,A5,n5,c5,A6,n6,c6,rfl,_,⟨x0,x1,x2,x3⟩,hmf⟩:=HDM.out.elem hbe hf
     have hq3:qs f.q=0∨qs f.q=1∨qs f.q= -1:=by have:=qs_bd f.q;omega
     clear hf
     by_cases hq0:qs f.q=0
     ·have HF0:=Lib.hid (qs_zero.1 hq0)
      clear hq3
      go_wp2_with fail
      refine (signF_any _ f _ hmf).mono ?_
      rw [hq0]
      rintro _ w3 ⟨rfl,hb3⟩
      have hbe3:=below_then hbe hb3 hbe.size
      clear hbe hb3 hmf x0 x1 x2 x3 hq0 z1
      go_wp2
      go_roundw
      case rel=>exact ⟨k+1,by omega,by go_num,hbe3,fun i h0 hi=>by
       by_cases g:i=k
       ·rw [g];exact artF_no fun h=>h.2 (by rw [HQ.out];exact HF0.out)
       ·exact HNO.out i h0 (by omega)⟩
      case measure=>simp [intOf];omega
     ·have HF0:Hid (f.q≠0):=Lib.hid fun g=>hq0 (qs_zero.2 g)
      have hqe:(qs f.q !=0)=true:=by simpa using hq0
      clear hq3 hq0
      go_wp2_with fail
      refine (signF_any _ f _ hmf).mono ?_
      rintro _ w3 ⟨rfl,hb3⟩
      have hbe3:=below_then hbe hb3 hbe.size
      have hlv:leavQ p s (zL p s) D=some k:=leavQ_2 HPH.out.symm (firstNeg_some (by omega) (by rw [HDL.out];omega) (artF_yes (by rw [HAT.out];exact hz0) (by rw [HQ.out];exact HF0.out)) fun i h0 hi=>HNO.out i h0 (by omega))
      clear hbe hb3 hmf x0 x1 x2 x3 z1
      go_wp2
      go_ret
      exact ⟨by rw [hlv];rfl,hbe3⟩
    ·have hz1:0≤z:=by omega
     clear hf
     go_wp2
     go_roundw
     case rel=>exact ⟨k+1,by omega,by go_num,hbe,fun i h0 hi=>by
      by_cases g:i=k
      ·rw [g];exact artF_no fun h=>by rw [HAT.out] at h;omega
      ·exact HNO.out i h0 (by omega)⟩
     case measure=>simp [intOf];omega
   ·obtain rfl:m=k:=by omega
    have HLV:Hid (leavQ p s (zL p s) D=bestN p s (zL p s) D D.length):=Lib.hid (leavQ_3 HPH.out.symm (firstNeg_none (by rw [HDL.out];exact HNO.out)))
    obtain ⟨W8,hW8,hL8,hb8⟩:=boxF1 wr (.bool false) (.slice none 0 0) (.bool false) (.slice none 0 0)
    have hbe8:=below_then hbe hb8 hbe.size
    have hgl:=hbe.size
    clear hbe hb8
    go_wp2
    clear hW8
    generalize wr.heap.size=gl at *
    go_loopw [7,43] (fun bst x wr=>∃k:Nat,k≤m∧x= .int .i64 k∧bst= .int .i64 (oi (bestN p s (zL p s) D k))∧Below w.heap.size w wr∧(∃x y z u,Bk wr gl 48 [x,y,z,u])∧∀t,bestN p s (zL p s) D k=some t→t < k∧RstQ wr gl (ratQ (zL p s) D t)) (fun _ x _=>m - (intOf x).toNat)
    case atStart=>exact ⟨0,by omega,rfl,rfl,hbe8,⟨_,_,_,_,hL8⟩,fun t ht=>by cases ht⟩
    case round=>
     clear hbe8 hL8
     obtain ⟨k,hk,rfl,rfl,hbe,⟨lx,ly,lz,lu,hL⟩,hbst⟩:=hrel
     rcases Nat.lt_or_ge k m with hkl | hkl
     ·have hkI:(k:Int) < m:=by omega
      obtain ⟨f,hf⟩:=get_some (fs:=D) (i:=k) (by rw [HDL.out];exact hkl)
      have HQ:Hid (qAt D k=f.q):=Lib.hid (qAt_some hf)
      have hrf:=HDB.out k f hf
      obtain ⟨b5,o5,A5,n5,c5,A6,n6,c6,rfl,_,⟨x0,x1,x2,x3⟩,hmf⟩:=HDM.out.elem hbe hf
      obtain ⟨W6,hW6,hV,hbn⟩:=boxF1 wr (.bool f.num.neg) (.slice A5 n5 c5) (.bool f.den.neg) (.slice A6 n6 c6)
      obtain ⟨u0,u1,u2,u3⟩:=hV.four
      have hm6:=hmf.below hbn
      have hbe6:=below_then hbe hbn hbe.size
      have hL6:=hL.later hbn
      have HBS:=Lib.hid fun t ht=>(⟨(hbst t ht).1,(hbst t ht).2.below hbn⟩:t < k∧RstQ W6 gl (ratQ (zL p s) D t))
      have hq3:qs f.q=0∨qs f.q=1∨qs f.q= -1:=by have:=qs_bd f.q;omega
      clear hf hmf hbe hL hbst
      go_wp2_with fail
      clear hW6
      refine (signF_any _ f _ hm6).mono ?_
      rintro _ w7 ⟨rfl,hb7⟩
      have hbe7:=below_then hbe6 hb7 hbe6.size
      have hL7:=hL6.later hb7
      have HBT:=Lib.hid fun t ht=>(⟨(HBS.out t ht).1,(HBS.out t ht).2.below hb7⟩:t < k∧RstQ w7 gl (ratQ (zL p s) D t))
      have hm7:=hm6.below hb7
      have hV7:=hV.later hb7
      clear hm6 hbe6 hL6 HBS hV hbn hb7 x0 x1 x2 x3 u0 u1 u2 u3
      by_cases hpos:0 < f.q
      ·have hq:qs f.q=1:=by have:=qs_pos.2 hpos;omega
       rw [hq]
       have hf0:f.q≠0:=fun g=>by rw [g] at hpos;exact absurd hpos (by decide)
       have hsf:f.Sm:=hrf.sm (by have:=HJ.out;omega)
       obtain ⟨fz,hfz⟩:=get_some (fs:=zL p s) (i:=k) (by rw [HZL.out];exact hkl)
       have HQZ:Hid (qAt (zL p s) k=fz.q):=Lib.hid (qAt_some hfz)
       have hsz:fz.Sm:=(HZB.out k fz hfz).sm (by have:=HJ.out;omega)
       obtain ⟨bz,oz,A7,n7,c7,A8,n8,c8,rfl,_,⟨z0,z1,z2,z3⟩,hmz⟩:=HZM.out.elem hbe7 hfz
       obtain ⟨u0,u1,u2,u3⟩:=hV7.four
       have y7:=cell_keep hbe7 HY7.out
       obtain ⟨q,hqq⟩:∃q,q=fz.q / f.q:=⟨_,rfl⟩
       have HQI:Hid (fz.q / f.q=q):=Lib.hid hqq.symm
       have HQR:Hid (q=ratQ (zL p s) D k):=Lib.hid (by unfold ratQ;rw [HQZ.out,HQ.out];exact hqq)
       have HPOS:Hid (0 < qAt D k):=Lib.hid (by rw [HQ.out];exact hpos)
       have HQB:Hid (Sz (2 * (5^p.right.length * K)) q):=Lib.hid (by
        rw [hqq,← HQZ.out,← HQ.out]
        exact (Sz_div (HZB.out.qAt HJ.out.1 k) (HDB.out.qAt HJ.out.1 k)).mono (by omega))
       clear hfz hqq hq3 hq hpos hrf
       go_upto_region 14 with (fail)
       go_cut [11] (fun s11 wx=>BoxAt w7 (canF q) s11 wx)
       case first=>
        have C0:=stab u0
        have C1:=stab u1
        have C2:=stab u2
        have C3:=stab u3
        have E0:=stab z0
        have E1:=stab z1
        have E2:=stab z2
        have E3:=stab z3
        have D0:=stab y7
        have hS0:=below_drew' w7
        clear u0 u1 u2 u3 z0 z1 z2 z3 y7
        refine region_plan 13 (.go 0 (.go 1 (.go 2 (.go 3 (.go 4 (.go 5 (.go 6 (.go 7 (.fork 8 (.go 9 (.go 10 (.go 11 (.go 12 (.go 13 (.go 14 .done)))))) 12 (.go 8 (.go 9 (.go 10 (.go 11 (.go 13 (.go 14 .done))))))))))))))) (by kernel_rfl) (by kernel_rfl) ?_
        repeat ((first | (refine plan_takeP (v:=?_) rfl rfl rfl ?_ ?_;rotate_left;(· (intro _ hSw;go_simp;(try go_bits);(try with_reducible rfl)))) | (refine plan_take (v:=?_) rfl rfl rfl ?_ ?_;rotate_left;(· (intro _ hSw;go_simp;(try go_bits);(try with_reducible rfl)))) | refine plan_skip rfl rfl rfl ?_ | refine plan_skipc rfl rfl rfl (by assumption) ?_);(try simp only [Act.put,pu1,pu2,pu3,pu4,pu5,pu6]))
        refine plan_fork rfl rfl (fun KR hKR=>?_) (fun KR hKR=>?_)
        ·go_simp
         with_reducible refine (divF_any _ _ fz f _ (hmz.below hS0) (hm7.below hS0) hsz hsf hf0).mono ?_
         rw [HQI.out]
         rintro _ wA ⟨vA,rfl,eA,hbA⟩
         have hSA:=below_then hS0 hbA hS0.size
         obtain ⟨A6,n6,c6,B6,m6,d6,rfl,_,_⟩:=id eA
         refine hKR.out _ _ (Or.inr hSA) ?_
         clear hKR KR
         (try simp only [Act.put,pu1,pu2,pu3,pu4,pu5,pu6])
         repeat ((first | (refine plan_takeP (v:=?_) rfl rfl rfl ?_ ?_;rotate_left;(· (intro _ hSw;go_simp;(try go_bits);(try with_reducible rfl)))) | (refine plan_take (v:=?_) rfl rfl rfl ?_ ?_;rotate_left;(· (intro _ hSw;go_simp;(try go_bits);(try with_reducible rfl)))) | refine plan_skip rfl rfl rfl ?_ | refine plan_skipc rfl rfl rfl (by assumption) ?_);(try simp only [Act.put,pu1,pu2,pu3,pu4,pu5,pu6]))
         obtain ⟨WG,hWG,hGG,hbG⟩:=boxF1 wA (.bool false) (.slice none 0 0) (.bool false) (.slice none 0 0)
         refine plan_step rfl rfl (fun KR hKR=>?_)
         go_simp
         have hge:=hSA.size
         have hSG:=below_then hSA hbG hSA.size
         refine hKR.out _ _ (Or.inr hSG) ?_
         clear hKR KR hWG
         (try simp only [Act.put,pu1,pu2,pu3,pu4,pu5,pu6])
         have eAG:=eA.below hbG
         obtain ⟨t0,t1,t2,t3⟩:=hGG.four
         obtain ⟨f0,f1,f2,f3⟩:=hGG.fourF
         refine plan_step rfl rfl (fun KR hKR=>?_)
         go_simp
         refine hKR.out _ _ (Or.inl (by decide)) ?_
         clear hKR KR
         (try simp only [Act.put,pu1,pu2,pu3,pu4,pu5,pu6])
         refine plan_step rfl rfl (fun KR hKR=>?_)
         go_simp
         refine hKR.out _ _ (Or.inl (by decide)) ?_
         clear hKR KR
         (try simp only [Act.put,pu1,pu2,pu3,pu4,pu5,pu6])
         refine plan_done ?_
         go_wp2_with fail
         go_meet
         exact BoxAt.mk hGG eAG hSG hge
        ·obtain ⟨WG,hWG,hGG,hbG⟩:=boxF1 w7.drew (.bool false) (.slice none 0 0) (.bool false) (.slice none 0 0)
         go_simp
         have hge:=hS0.size
         have hSG:=below_then hS0 hbG hS0.size
         refine hKR.out _ _ (Or.inr hSG) ?_
         clear hKR KR hWG
         (try simp only [Act.put,pu1,pu2,pu3,pu4,pu5,pu6])
         change Bk WG w7.heap.size 48 _ at hGG
         refine plan_step rfl rfl (fun KR hKR=>?_)
         go_simp
         with_reducible refine (divF_any _ _ fz f _ (hmz.below hSG) (hm7.below hSG) hsz hsf hf0).mono ?_
         rw [HQI.out]
         rintro _ wA ⟨vA,rfl,eA,hbA⟩
         have hSA:=below_then hSG hbA hSG.size
         obtain ⟨A6,n6,c6,B6,m6,d6,rfl,_,_⟩:=id eA
         refine hKR.out _ _ (Or.inr hSA) ?_
         clear hKR KR
         (try simp only [Act.put,pu1,pu2,pu3,pu4,pu5,pu6])
         have hG:=hGG.later hbA
         repeat ((first | (refine plan_takeP (v:=?_) rfl rfl rfl ?_ ?_;rotate_left;(· (intro _ hSw;go_simp;(try go_bits);(try with_reducible rfl)))) | (refine plan_take (v:=?_) rfl rfl rfl ?_ ?_;rotate_left;(· (intro _ hSw;go_simp;(try go_bits);(try with_reducible rfl)))) | refine plan_skip rfl rfl rfl ?_ | refine plan_skipc rfl rfl rfl (by assumption) ?_);(try simp only [Act.put,pu1,pu2,pu3,pu4,pu5,pu6]))
         obtain ⟨t0,t1,t2,t3⟩:=hG.four
         obtain ⟨f0,f1,f2,f3⟩:=hG.fourF
         refine plan_step rfl rfl (fun KR hKR=>?_)
         go_simp
         refine hKR.out _ _ (Or.inl (by decide)) ?_
         clear hKR KR
         (try simp only [Act.put,pu1,pu2,pu3,pu4,pu5,pu6])
         refine plan_step rfl rfl (fun KR hKR=>?_)
         go_simp
         refine hKR.out _ _ (Or.inl (by decide)) ?_
         clear hKR KR
         (try simp only [Act.put,pu1,pu2,pu3,pu4,pu5,pu6])
         refine plan_done ?_
         go_wp2_with fail
         go_meet
         exact BoxAt.mk hG eA hSA hge
       case rest=>
        obtain ⟨gm,Am,nm,cm,Am',nm',cm',rfl,hgm,hG8,hm8,hb8⟩:=hcut
        have hbe8:=below_then hbe7 hb8 hbe7.size
        have hL8:=hL7.later hb8
        have HBU:=Lib.hid fun t ht=>(⟨(HBT.out t ht).1,(HBT.out t ht).2.below hb8⟩:t < k∧RstQ wc gl (ratQ (zL p s) D t))
        have hglm:gl≠gm:=by have:=hL7.lt;omega
        clear hbe7 hL7 HBT hm7 hV7 hmz hb8 u0 u1 u2 u3 z0 z1 z2 z3 y7
        cases hbo:bestN p s (zL p s) D k with
        | none=>
         have HTK:Hid (bestN p s (zL p s) D (k+1)=some k):=Lib.hid (bestN_first hbo HPOS.out)
         have hG9:=hG8
         have hL9:=hL8
         have hm9:=hm8
         have hbe9:=hbe8
         obtain ⟨w9,hw9⟩:∃w9,w9=wc:=⟨_,rfl⟩
         subst hw9
         clear hG8 hL8 hm8 hbe8 HBU hbo
         simp only [oi]
         -- region 19:position k is the best
         obtain ⟨t0,t1,t2,t3⟩:=hG9.four
         obtain ⟨c0,c1,c2,c3⟩:=hL9.four
         obtain ⟨f0,f1,f2,f3⟩:=hL9.fourF
         go_upto_region 19 with (fail)
         have C0:=stab t0
         have C1:=stab t1
         have C2:=stab t2
         have C3:=stab t3
         have hS0:=below_drew' w9
         clear t0 t1 t2 t3
         refine region_seq 3 [0,1,2,3] (by kernel_rfl) (by kernel_rfl) ?_
         repeat ((first | (refine seq_takeP (v:=?_) rfl rfl rfl ?_ ?_;rotate_left;(· (intro _ hSw;go_simp;(try go_bits);(try with_reducible rfl)))) | (refine seq_take (v:=?_) rfl rfl rfl ?_ ?_;rotate_left;(· (intro _ hSw;go_simp;(try go_bits);(try with_reducible rfl)))) | refine seq_skip rfl rfl rfl ?_);(try simp only [Act.put,pu1,pu2,pu3,pu4,pu5,pu6]))
         refine seq_step rfl rfl (fun KR hKR=>?_)
         go_simp
         refine hKR.out _ _ (Or.inl (by decide)) ?_
         clear hKR KR
         (try simp only [Act.put,pu1,pu2,pu3,pu4,pu5,pu6])
         refine seq_done ?_
         clear C0 C1 C2 C3
         have hL10:=(hL9.later hS0).set4 (.bool (canF q).num.neg) (.slice Am nm cm) (.bool (canF q).den.neg) (.slice Am' nm' cm')
         have hk10:=(hL9.later hS0).but4 (.bool (canF q).num.neg) (.slice Am nm cm) (.bool (canF q).den.neg) (.slice Am' nm' cm')
         have hm10:=(hm9.below hS0).keep (hk10.keep (by decide))
         have hbe10:=below_set4 (below_then hbe9 hS0 hbe9.size) hgl (.bool (canF q).num.neg) (.slice Am nm cm) (.bool (canF q).den.neg) (.slice Am' nm' cm')
         clear hL9 hG9 hm9 hk10 hS0 c0 c1 c2 c3 f0 f1 f2 f3 hbe9
         go_wp2
         go_roundw
         case rel=>exact ⟨k+1,by omega,by go_num,by rw [HTK.out];rfl,hbe10,⟨_,_,_,_,hL10⟩,fun t ht=>by
          rw [HTK.out] at ht
          injection ht with ht
          subst ht
          exact ⟨by omega,Am,nm,cm,Am',nm',cm',by rw [← HQR.out];exact hL10,by rw [← HQR.out];exact hm10⟩⟩
         case measure=>simp [intOf];omega
        | some tb=>
         obtain ⟨htb,A4,n4,c4,A5,n5,c5,hL',hmL⟩:=HBU.out tb hbo
         have hbI:(tb:Int) < m:=by omega
         have hcs:qs (q - ratQ (zL p s) D tb)=0∨qs (q - ratQ (zL p s) D tb)=1∨qs (q - ratQ (zL p s) D tb)= -1:=by have:=qs_bd (q - ratQ (zL p s) D tb);omega
         obtain ⟨rb,hrb⟩:∃rb,rb=ratQ (zL p s) D tb:=⟨_,rfl⟩
         have HRB:=Lib.hid hrb
         rw [← hrb] at hL' hmL hcs
         have hs1:(canF q).Sm:=HQB.out.rs.sm (by have:=HJ.out;omega)
         have hs2:(canF rb).Sm:=by
          rw [hrb];unfold ratQ
          exact (Sz_div (HZB.out.qAt HJ.out.1 tb) (HDB.out.qAt HJ.out.1 tb)).rs.sm (by have:=HJ.out;omega)
         have HBO:=Lib.hid hbo
         obtain ⟨u0,u1,u2,u3⟩:=hG8.four
         obtain ⟨z0,z1,z2,z3⟩:=hL'.four
         simp only [oi]
         clear HBU hbo hrb hL8
         go_wp2_with fail
         refine (compareF_any _ _ (canF q) (canF rb) _ hm8 hmL hs1 hs2).mono ?_
         rw [canF_q,canF_q]
         rintro _ w9 ⟨rfl,hb9⟩
         have hG9:=hG8.later hb9
         have hL9:=hL'.later hb9
         have hm9:=hm8.below hb9
         have hmL9:=hmL.below hb9
         have hbe9:=below_then hbe8 hb9 hbe8.size
         clear hG8 hL' hm8 hmL hbe8 hb9 u0 u1 u2 u3 z0 z1 z2 z3 hs1 hs2
         rcases hcs with hc | hc | hc
         ·rw [hc]
          have HEQ:Hid (q=rb):=Lib.hid (by have:=qs_zero.1 hc;grind)
          clear hc
          go_wp2_with fail
          refine (erank_any e p s K k _ (HH.out.below hbe9) HS.out HF.out (by rw [← HMM.out];exact hkl)).mono ?_
          rintro _ w10 ⟨rfl,hb10⟩
          have hG9:=hG9.later hb10
          have hL9:=hL9.later hb10
          have hm9:=hm9.below hb10
          have hmL9:=hmL9.below hb10
          have hbe9:=below_then hbe9 hb10 hbe9.size
          clear hb10
          go_wp2_with fail
          refine (erank_any e p s K tb _ (HH.out.below hbe9) HS.out HF.out (by rw [← HMM.out];omega)).mono ?_
          rintro _ w11 ⟨rfl,hb11⟩
          have hG9:=hG9.later hb11
          have hL9:=hL9.later hb11
          have hm9:=hm9.below hb11
          have hmL9:=hmL9.below hb11
          have hbe9:=below_then hbe9 hb11 hbe9.size
          clear hb11
          by_cases ho:ordQ p (s.at_ k) < ordQ p (s.at_ tb)
          ·have HTK:Hid (bestN p s (zL p s) D (k+1)=some k):=Lib.hid (bestN_better HBO.out HPOS.out (.inr ⟨by rw [← HQR.out,← HRB.out];exact HEQ.out,ho⟩))
           obtain ⟨w9,hw9⟩:∃w9,w9=w11:=⟨_,rfl⟩
           subst hw9
           -- region 19:position k is the best
           obtain ⟨t0,t1,t2,t3⟩:=hG9.four
           obtain ⟨c0,c1,c2,c3⟩:=hL9.four
           obtain ⟨f0,f1,f2,f3⟩:=hL9.fourF
           go_upto_region 19 with (fail)
           have C0:=stab t0
           have C1:=stab t1
           have C2:=stab t2
           have C3:=stab t3
           have hS0:=below_drew' w9
           clear t0 t1 t2 t3
           refine region_seq 3 [0,1,2,3] (by kernel_rfl) (by kernel_rfl) ?_
           repeat ((first | (refine seq_takeP (v:=?_) rfl rfl rfl ?_ ?_;rotate_left;(· (intro _ hSw;go_simp;(try go_bits);(try with_reducible rfl)))) | (refine seq_take (v:=?_) rfl rfl rfl ?_ ?_;rotate_left;(· (intro _ hSw;go_simp;(try go_bits);(try with_reducible rfl)))) | refine seq_skip rfl rfl rfl ?_);(try simp only [Act.put,pu1,pu2,pu3,pu4,pu5,pu6]))
           refine seq_step rfl rfl (fun KR hKR=>?_)
           go_simp
           refine hKR.out _ _ (Or.inl (by decide)) ?_
           clear hKR KR
           (try simp only [Act.put,pu1,pu2,pu3,pu4,pu5,pu6])
           refine seq_done ?_
           clear C0 C1 C2 C3
           have hL10:=(hL9.later hS0).set4 (.bool (canF q).num.neg) (.slice Am nm cm) (.bool (canF q).den.neg) (.slice Am' nm' cm')
           have hk10:=(hL9.later hS0).but4 (.bool (canF q).num.neg) (.slice Am nm cm) (.bool (canF q).den.neg) (.slice Am' nm' cm')
           have hm10:=(hm9.below hS0).keep (hk10.keep (by decide))
           have hbe10:=below_set4 (below_then hbe9 hS0 hbe9.size) hgl (.bool (canF q).num.neg) (.slice Am nm cm) (.bool (canF q).den.neg) (.slice Am' nm' cm')
           clear hL9 hG9 hm9 hk10 hS0 c0 c1 c2 c3 f0 f1 f2 f3 hbe9
           go_wp2
           go_roundw
           case rel=>exact ⟨k+1,by omega,by go_num,by rw [HTK.out];rfl,hbe10,⟨_,_,_,_,hL10⟩,fun t ht=>by
            rw [HTK.out] at ht
            injection ht with ht
            subst ht
            exact ⟨by omega,Am,nm,cm,Am',nm',cm',by rw [← HQR.out];exact hL10,by rw [← HQR.out];exact hm10⟩⟩
           case measure=>simp [intOf];omega
          ·have HTK:Hid (bestN p s (zL p s) D (k+1)=some tb):=Lib.hid (bestN_worse HBO.out HPOS.out (fun g=>by
            rcases g with g | g
            ·rw [← HQR.out,← HRB.out,HEQ.out] at g;exact absurd g (by grind)
            ·exact ho g.2))
           have ho':ordQ p (s.at_ tb)≤ordQ p (s.at_ k):=by omega
           clear ho
           generalize ordQ p (s.at_ k)=o1 at *
           generalize ordQ p (s.at_ tb)=o2 at *
           rw [HRB.out] at hL9 hmL9
           -- region 20:the best stays
           go_wp2
           go_roundw
           case rel=>exact ⟨k+1,by omega,by go_num,by rw [HTK.out];rfl,hbe9,⟨_,_,_,_,hL9⟩,fun t' ht'=>by
            rw [HTK.out] at ht'
            injection ht' with ht'
            subst ht'
            exact ⟨by omega,A4,n4,c4,A5,n5,c5,hL9,hmL9⟩⟩
           case measure=>simp [intOf];omega
         ·rw [hc]
          have HTK:Hid (bestN p s (zL p s) D (k+1)=some tb):=Lib.hid (bestN_worse HBO.out HPOS.out (fun g=>by
           have:=qs_pos.1 (show 0 < qs (q - rb) by omega)
           rcases g with g | g
           ·rw [← HQR.out,← HRB.out] at g;grind
           ·have g1:=g.1
            rw [← HQR.out,← HRB.out] at g1;grind))
          clear hc
          rw [HRB.out] at hL9 hmL9
          -- region 20:the best stays
          go_wp2
          go_roundw
          case rel=>exact ⟨k+1,by omega,by go_num,by rw [HTK.out];rfl,hbe9,⟨_,_,_,_,hL9⟩,fun t' ht'=>by
           rw [HTK.out] at ht'
           injection ht' with ht'
           subst ht'
           exact ⟨by omega,A4,n4,c4,A5,n5,c5,hL9,hmL9⟩⟩
          case measure=>simp [intOf];omega
         ·rw [hc]
          have HTK:Hid (bestN p s (zL p s) D (k+1)=some k):=Lib.hid (bestN_better HBO.out HPOS.out (.inl (by
           have:=qs_neg.1 (show qs (q - rb) < 0 by omega)
           rw [← HQR.out,← HRB.out];grind)))
          clear hc
          -- region 19:position k is the best
          obtain ⟨t0,t1,t2,t3⟩:=hG9.four
          obtain ⟨c0,c1,c2,c3⟩:=hL9.four
          obtain ⟨f0,f1,f2,f3⟩:=hL9.fourF
          go_upto_region 19 with (fail)
          have C0:=stab t0
          have C1:=stab t1
          have C2:=stab t2
          have C3:=stab t3
          have hS0:=below_drew' w9
          clear t0 t1 t2 t3
          refine region_seq 3 [0,1,2,3] (by kernel_rfl) (by kernel_rfl) ?_
          repeat ((first | (refine seq_takeP (v:=?_) rfl rfl rfl ?_ ?_;rotate_left;(· (intro _ hSw;go_simp;(try go_bits);(try with_reducible rfl)))) | (refine seq_take (v:=?_) rfl rfl rfl ?_ ?_;rotate_left;(· (intro _ hSw;go_simp;(try go_bits);(try with_reducible rfl)))) | refine seq_skip rfl rfl rfl ?_);(try simp only [Act.put,pu1,pu2,pu3,pu4,pu5,pu6]))
          refine seq_step rfl rfl (fun KR hKR=>?_)
          go_simp
          refine hKR.out _ _ (Or.inl (by decide)) ?_
          clear hKR KR
          (try simp only [Act.put,pu1,pu2,pu3,pu4,pu5,pu6])
          refine seq_done ?_
          clear C0 C1 C2 C3
          have hL10:=(hL9.later hS0).set4 (.bool (canF q).num.neg) (.slice Am nm cm) (.bool (canF q).den.neg) (.slice Am' nm' cm')
          have hk10:=(hL9.later hS0).but4 (.bool (canF q).num.neg) (.slice Am nm cm) (.bool (canF q).den.neg) (.slice Am' nm' cm')
          have hm10:=(hm9.below hS0).keep (hk10.keep (by decide))
          have hbe10:=below_set4 (below_then hbe9 hS0 hbe9.size) hgl (.bool (canF q).num.neg) (.slice Am nm cm) (.bool (canF q).den.neg) (.slice Am' nm' cm')
          clear hL9 hG9 hm9 hk10 hS0 c0 c1 c2 c3 f0 f1 f2 f3 hbe9
          go_wp2
          go_roundw
          case rel=>exact ⟨k+1,by omega,by go_num,by rw [HTK.out];rfl,hbe10,⟨_,_,_,_,hL10⟩,fun t ht=>by
           rw [HTK.out] at ht
           injection ht with ht
           subst ht
           exact ⟨by omega,Am,nm,cm,Am',nm',cm',by rw [← HQR.out];exact hL10,by rw [← HQR.out];exact hm10⟩⟩
          case measure=>simp [intOf];omega
      ·have hqn:qs f.q≤0:=by
        rcases hq3 with g | g | g
        ·omega
        ·exact absurd (qs_pos.1 (show 0 < qs f.q by omega)) hpos
        ·omega
       have HTK:Hid (bestN p s (zL p s) D (k+1)=bestN p s (zL p s) D k):=Lib.hid (bestN_skip (by rw [HQ.out];exact hpos))
       clear hq3 hpos hV7 hm7
       go_wp2
       go_roundw
       case rel=>exact ⟨k+1,by omega,by go_num,by rw [HTK.out],hbe7,⟨_,_,_,_,hL7⟩,fun t ht=>by
        rw [HTK.out] at ht
        exact ⟨by have:=(HBT.out t ht).1;omega,(HBT.out t ht).2⟩⟩
       case measure=>simp [intOf];omega
     ·obtain rfl:m=k:=by omega
      go_wp2
      go_ret
      exact ⟨by rw [HLV.out,HDL.out];rfl,hbe⟩
 ·have hpe:(ph==2)=false:=by simpa using hp2
  have HLV:Hid (leavQ p s (zL p s) D=bestN p s (zL p s) D D.length):=Lib.hid (leavQ_1 (by rw [← HPH.out];exact hp2))
  go_enter Tryz.func91,Tryz.ntmps91
  obtain ⟨W8,hW8,hL8,hb8⟩:=boxF1 w (.bool false) (.slice none 0 0) (.bool false) (.slice none 0 0)
  have hbe8:=hb8
  have hgl:=Nat.le_refl w.heap.size
  go_wp2
  clear hW8 y3 y4 hpe hp2 hb8
  go_loopw [7,43] (fun bst x wr=>∃k:Nat,k≤m∧x= .int .i64 k∧bst= .int .i64 (oi (bestN p s (zL p s) D k))∧Below w.heap.size w wr∧(∃x y z u,Bk wr w.heap.size 48 [x,y,z,u])∧∀t,bestN p s (zL p s) D k=some t→t < k∧RstQ wr w.heap.size (ratQ (zL p s) D t)) (fun _ x _=>m - (intOf x).toNat)
  case atStart=>exact ⟨0,by omega,rfl,rfl,hbe8,⟨_,_,_,_,hL8⟩,fun t ht=>by cases ht⟩
  case round=>
   clear hbe8 hL8
   obtain ⟨k,hk,rfl,rfl,hbe,⟨lx,ly,lz,lu,hL⟩,hbst⟩:=hrel
   rcases Nat.lt_or_ge k m with hkl | hkl
   ·have hkI:(k:Int) < m:=by omega
    obtain ⟨f,hf⟩:=get_some (fs:=D) (i:=k) (by rw [HDL.out];exact hkl)
    have HQ:Hid (qAt D k=f.q):=Lib.hid (qAt_some hf)
    have hrf:=HDB.out k f hf
    obtain ⟨b5,o5,A5,n5,c5,A6,n6,c6,rfl,_,⟨x0,x1,x2,x3⟩,hmf⟩:=HDM.out.elem hbe hf
    obtain ⟨W6,hW6,hV,hbn⟩:=boxF1 wr (.bool f.num.neg) (.slice A5 n5 c5) (.bool f.den.neg) (.slice A6 n6 c6)
    obtain ⟨u0,u1,u2,u3⟩:=hV.four
    have hm6:=hmf.below hbn
    have hbe6:=below_then hbe hbn hbe.size
    have hL6:=hL.later hbn
    have HBS:=Lib.hid fun t ht=>(⟨(hbst t ht).1,(hbst t ht).2.below hbn⟩:t < k∧RstQ W6 w.heap.size (ratQ (zL p s) D t))
    have hq3:qs f.q=0∨qs f.q=1∨qs f.q= -1:=by have:=qs_bd f.q;omega
    clear hf hmf hbe hL hbst
    go_wp2_with fail
    clear hW6
    refine (signF_any _ f _ hm6).mono ?_
    rintro _ w7 ⟨rfl,hb7⟩
    have hbe7:=below_then hbe6 hb7 hbe6.size
    have hL7:=hL6.later hb7
    have HBT:=Lib.hid fun t ht=>(⟨(HBS.out t ht).1,(HBS.out t ht).2.below hb7⟩:t < k∧RstQ w7 w.heap.size (ratQ (zL p s) D t))
    have hm7:=hm6.below hb7
    have hV7:=hV.later hb7
    clear hm6 hbe6 hL6 HBS hV hbn hb7 x0 x1 x2 x3 u0 u1 u2 u3
    by_cases hpos:0 < f.q
    ·have hq:qs f.q=1:=by have:=qs_pos.2 hpos;omega
     rw [hq]
     have hf0:f.q≠0:=fun g=>by rw [g] at hpos;exact absurd hpos (by decide)
     have hsf:f.Sm:=hrf.sm (by have:=HJ.out;omega)
     obtain ⟨fz,hfz⟩:=get_some (fs:=zL p s) (i:=k) (by rw [HZL.out];exact hkl)
     have HQZ:Hid (qAt (zL p s) k=fz.q):=Lib.hid (qAt_some hfz)
     have hsz:fz.Sm:=(HZB.out k fz hfz).sm (by have:=HJ.out;omega)
     obtain ⟨bz,oz,A7,n7,c7,A8,n8,c8,rfl,_,⟨z0,z1,z2,z3⟩,hmz⟩:=HZM.out.elem hbe7 hfz
     obtain ⟨u0,u1,u2,u3⟩:=hV7.four
     have y7:=cell_keep hbe7 HY7.out
     obtain ⟨q,hqq⟩:∃q,q=fz.q / f.q:=⟨_,rfl⟩
     have HQI:Hid (fz.q / f.q=q):=Lib.hid hqq.symm
     have HQR:Hid (q=ratQ (zL p s) D k):=Lib.hid (by unfold ratQ;rw [HQZ.out,HQ.out];exact hqq)
     have HPOS:Hid (0 < qAt D k):=Lib.hid (by rw [HQ.out];exact hpos)
     have HQB:Hid (Sz (2 * (5^p.right.length * K)) q):=Lib.hid (by
      rw [hqq,← HQZ.out,← HQ.out]
      exact (Sz_div (HZB.out.qAt HJ.out.1 k) (HDB.out.qAt HJ.out.1 k)).mono (by omega))
     clear hfz hqq hq3 hq hpos hrf
     go_upto_region 14 with (fail)
     go_cut [11] (fun s11 wx=>BoxAt w7 (canF q) s11 wx)
     case first=>
      have C0:=stab u0
      have C1:=stab u1
      have C2:=stab u2
      have C3:=stab u3
      have E0:=stab z0
      have E1:=stab z1
      have E2:=stab z2
      have E3:=stab z3
      have D0:=stab y7
      have hS0:=below_drew' w7
      clear u0 u1 u2 u3 z0 z1 z2 z3 y7
      refine region_plan 13 (.go 0 (.go 1 (.go 2 (.go 3 (.go 4 (.go 5 (.go 6 (.go 7 (.fork 8 (.go 9 (.go 10 (.go 11 (.go 12 (.go 13 (.go 14 .done)))))) 12 (.go 8 (.go 9 (.go 10 (.go 11 (.go 13 (.go 14 .done))))))))))))))) (by kernel_rfl) (by kernel_rfl) ?_
      repeat ((first | (refine plan_takeP (v:=?_) rfl rfl rfl ?_ ?_;rotate_left;(· (intro _ hSw;go_simp;(try go_bits);(try with_reducible rfl)))) | (refine plan_take (v:=?_) rfl rfl rfl ?_ ?_;rotate_left;(· (intro _ hSw;go_simp;(try go_bits);(try with_reducible rfl)))) | refine plan_skip rfl rfl rfl ?_ | refine plan_skipc rfl rfl rfl (by assumption) ?_);(try simp only [Act.put,pu1,pu2,pu3,pu4,pu5,pu6]))
      refine plan_fork rfl rfl (fun KR hKR=>?_) (fun KR hKR=>?_)
      ·go_simp
       with_reducible refine (divF_any _ _ fz f _ (hmz.below hS0) (hm7.below hS0) hsz hsf hf0).mono ?_
       rw [HQI.out]
       rintro _ wA ⟨vA,rfl,eA,hbA⟩
       have hSA:=below_then hS0 hbA hS0.size
       obtain ⟨A6,n6,c6,B6,m6,d6,rfl,_,_⟩:=id eA
       refine hKR.out _ _ (Or.inr hSA) ?_
       clear hKR KR
       (try simp only [Act.put,pu1,pu2,pu3,pu4,pu5,pu6])
       repeat ((first | (refine plan_takeP (v:=?_) rfl rfl rfl ?_ ?_;rotate_left;(· (intro _ hSw;go_simp;(try go_bits);(try with_reducible rfl)))) | (refine plan_take (v:=?_) rfl rfl rfl ?_ ?_;rotate_left;(· (intro _ hSw;go_simp;(try go_bits);(try with_reducible rfl)))) | refine plan_skip rfl rfl rfl ?_ | refine plan_skipc rfl rfl rfl (by assumption) ?_);(try simp only [Act.put,pu1,pu2,pu3,pu4,pu5,pu6]))
       obtain ⟨WG,hWG,hGG,hbG⟩:=boxF1 wA (.bool false) (.slice none 0 0) (.bool false) (.slice none 0 0)
       refine plan_step rfl rfl (fun KR hKR=>?_)
       go_simp
       have hge:=hSA.size
       have hSG:=below_then hSA hbG hSA.size
       refine hKR.out _ _ (Or.inr hSG) ?_
       clear hKR KR hWG
       (try simp only [Act.put,pu1,pu2,pu3,pu4,pu5,pu6])
       have eAG:=eA.below hbG
       obtain ⟨t0,t1,t2,t3⟩:=hGG.four
       obtain ⟨f0,f1,f2,f3⟩:=hGG.fourF
       refine plan_step rfl rfl (fun KR hKR=>?_)
       go_simp
       refine hKR.out _ _ (Or.inl (by decide)) ?_
       clear hKR KR
       (try simp only [Act.put,pu1,pu2,pu3,pu4,pu5,pu6])
       refine plan_step rfl rfl (fun KR hKR=>?_)
       go_simp
       refine hKR.out _ _ (Or.inl (by decide)) ?_
       clear hKR KR
       (try simp only [Act.put,pu1,pu2,pu3,pu4,pu5,pu6])
       refine plan_done ?_
       go_wp2_with fail
       go_meet
       exact BoxAt.mk hGG eAG hSG hge
      ·obtain ⟨WG,hWG,hGG,hbG⟩:=boxF1 w7.drew (.bool false) (.slice none 0 0) (.bool false) (.slice none 0 0)
       go_simp
       have hge:=hS0.size
       have hSG:=below_then hS0 hbG hS0.size
       refine hKR.out _ _ (Or.inr hSG) ?_
       clear hKR KR hWG
       (try simp only [Act.put,pu1,pu2,pu3,pu4,pu5,pu6])
       change Bk WG w7.heap.size 48 _ at hGG
       refine plan_step rfl rfl (fun KR hKR=>?_)
       go_simp
       with_reducible refine (divF_any _ _ fz f _ (hmz.below hSG) (hm7.below hSG) hsz hsf hf0).mono ?_
       rw [HQI.out]
       rintro _ wA ⟨vA,rfl,eA,hbA⟩
       have hSA:=below_then hSG hbA hSG.size
       obtain ⟨A6,n6,c6,B6,m6,d6,rfl,_,_⟩:=id eA
       refine hKR.out _ _ (Or.inr hSA) ?_
       clear hKR KR
       (try simp only [Act.put,pu1,pu2,pu3,pu4,pu5,pu6])
       have hG:=hGG.later hbA
       repeat ((first | (refine plan_takeP (v:=?_) rfl rfl rfl ?_ ?_;rotate_left;(· (intro _ hSw;go_simp;(try go_bits);(try with_reducible rfl)))) | (refine plan_take (v:=?_) rfl rfl rfl ?_ ?_;rotate_left;(· (intro _ hSw;go_simp;(try go_bits);(try with_reducible rfl)))) | refine plan_skip rfl rfl rfl ?_ | refine plan_skipc rfl rfl rfl (by assumption) ?_);(try simp only [Act.put,pu1,pu2,pu3,pu4,pu5,pu6]))
       obtain ⟨t0,t1,t2,t3⟩:=hG.four
       obtain ⟨f0,f1,f2,f3⟩:=hG.fourF
       refine plan_step rfl rfl (fun KR hKR=>?_)
       go_simp
       refine hKR.out _ _ (Or.inl (by decide)) ?_
       clear hKR KR
       (try simp only [Act.put,pu1,pu2,pu3,pu4,pu5,pu6])
       refine plan_step rfl rfl (fun KR hKR=>?_)
       go_simp
       refine hKR.out _ _ (Or.inl (by decide)) ?_
       clear hKR KR
       (try simp only [Act.put,pu1,pu2,pu3,pu4,pu5,pu6])
       refine plan_done ?_
       go_wp2_with fail
       go_meet
       exact BoxAt.mk hG eA hSA hge
     case rest=>
      obtain ⟨gm,Am,nm,cm,Am',nm',cm',rfl,hgm,hG8,hm8,hb8⟩:=hcut
      have hbe8:=below_then hbe7 hb8 hbe7.size
      have hL8:=hL7.later hb8
      have HBU:=Lib.hid fun t ht=>(⟨(HBT.out t ht).1,(HBT.out t ht).2.below hb8⟩:t < k∧RstQ wc w.heap.size (ratQ (zL p s) D t))
      have hglm:w.heap.size≠gm:=by have:=hL7.lt;omega
      clear hbe7 hL7 HBT hm7 hV7 hmz hb8 u0 u1 u2 u3 z0 z1 z2 z3 y7
      cases hbo:bestN p s (zL p s) D k with
      | none=>
       have HTK:Hid (bestN p s (zL p s) D (k+1)=some k):=Lib.hid (bestN_first hbo HPOS.out)
       have hG9:=hG8
       have hL9:=hL8
       have hm9:=hm8
       have hbe9:=hbe8
       obtain ⟨w9,hw9⟩:∃w9,w9=wc:=⟨_,rfl⟩
       subst hw9
       clear hG8 hL8 hm8 hbe8 HBU hbo
       simp only [oi]
       -- region 19:position k is the best
       obtain ⟨t0,t1,t2,t3⟩:=hG9.four
       obtain ⟨c0,c1,c2,c3⟩:=hL9.four
       obtain ⟨f0,f1,f2,f3⟩:=hL9.fourF
       go_upto_region 19 with (fail)
       have C0:=stab t0
       have C1:=stab t1
       have C2:=stab t2
       have C3:=stab t3
       have hS0:=below_drew' w9
       clear t0 t1 t2 t3
       refine region_seq 3 [0,1,2,3] (by kernel_rfl) (by kernel_rfl) ?_
       repeat ((first | (refine seq_takeP (v:=?_) rfl rfl rfl ?_ ?_;rotate_left;(· (intro _ hSw;go_simp;(try go_bits);(try with_reducible rfl)))) | (refine seq_take (v:=?_) rfl rfl rfl ?_ ?_;rotate_left;(· (intro _ hSw;go_simp;(try go_bits);(try with_reducible rfl)))) | refine seq_skip rfl rfl rfl ?_);(try simp only [Act.put,pu1,pu2,pu3,pu4,pu5,pu6]))
       refine seq_step rfl rfl (fun KR hKR=>?_)
       go_simp
       refine hKR.out _ _ (Or.inl (by decide)) ?_
       clear hKR KR
       (try simp only [Act.put,pu1,pu2,pu3,pu4,pu5,pu6])
       refine seq_done ?_
       clear C0 C1 C2 C3
       have hL10:=(hL9.later hS0).set4 (.bool (canF q).num.neg) (.slice Am nm cm) (.bool (canF q).den.neg) (.slice Am' nm' cm')
       have hk10:=(hL9.later hS0).but4 (.bool (canF q).num.neg) (.slice Am nm cm) (.bool (canF q).den.neg) (.slice Am' nm' cm')
       have hm10:=(hm9.below hS0).keep (hk10.keep (by decide))
       have hbe10:=below_set4 (below_then hbe9 hS0 hbe9.size) hgl (.bool (canF q).num.neg) (.slice Am nm cm) (.bool (canF q).den.neg) (.slice Am' nm' cm')
       clear hL9 hG9 hm9 hk10 hS0 c0 c1 c2 c3 f0 f1 f2 f3 hbe9
       go_wp2
       go_roundw
       case rel=>exact ⟨k+1,by omega,by go_num,by rw [HTK.out];rfl,hbe10,⟨_,_,_,_,hL10⟩,fun t ht=>by
        rw [HTK.out] at ht
        injection ht with ht
        subst ht
        exact ⟨by omega,Am,nm,cm,Am',nm',cm',by rw [← HQR.out];exact hL10,by rw [← HQR.out];exact hm10⟩⟩
       case measure=>simp [intOf];omega
      | some tb=>
       obtain ⟨htb,A4,n4,c4,A5,n5,c5,hL',hmL⟩:=HBU.out tb hbo
       have hbI:(tb:Int) < m:=by omega
       have hcs:qs (q - ratQ (zL p s) D tb)=0∨qs (q - ratQ (zL p s) D tb)=1∨qs (q - ratQ (zL p s) D tb)= -1:=by have:=qs_bd (q - ratQ (zL p s) D tb);omega
       obtain ⟨rb,hrb⟩:∃rb,rb=ratQ (zL p s) D tb:=⟨_,rfl⟩
       have HRB:=Lib.hid hrb
       rw [← hrb] at hL' hmL hcs
       have hs1:(canF q).Sm:=HQB.out.rs.sm (by have:=HJ.out;omega)
       have hs2:(canF rb).Sm:=by
        rw [hrb];unfold ratQ
        exact (Sz_div (HZB.out.qAt HJ.out.1 tb) (HDB.out.qAt HJ.out.1 tb)).rs.sm (by have:=HJ.out;omega)
       have HBO:=Lib.hid hbo
       obtain ⟨u0,u1,u2,u3⟩:=hG8.four
       obtain ⟨z0,z1,z2,z3⟩:=hL'.four
       simp only [oi]
       clear HBU hbo hrb hL8
       go_wp2_with fail
       refine (compareF_any _ _ (canF q) (canF rb) _ hm8 hmL hs1 hs2).mono ?_
       rw [canF_q,canF_q]
       rintro _ w9 ⟨rfl,hb9⟩
       have hG9:=hG8.later hb9
       have hL9:=hL'.later hb9
       have hm9:=hm8.below hb9
       have hmL9:=hmL.below hb9
       have hbe9:=below_then hbe8 hb9 hbe8.size
       clear hG8 hL' hm8 hmL hbe8 hb9 u0 u1 u2 u3 z0 z1 z2 z3 hs1 hs2
       rcases hcs with hc | hc | hc
       ·rw [hc]
        have HEQ:Hid (q=rb):=Lib.hid (by have:=qs_zero.1 hc;grind)
        clear hc
        go_wp2_with fail
        refine (erank_any e p s K k _ (HH.out.below hbe9) HS.out HF.out (by rw [← HMM.out];exact hkl)).mono ?_
        rintro _ w10 ⟨rfl,hb10⟩
        have hG9:=hG9.later hb10
        have hL9:=hL9.later hb10
        have hm9:=hm9.below hb10
        have hmL9:=hmL9.below hb10
        have hbe9:=below_then hbe9 hb10 hbe9.size
        clear hb10
        go_wp2_with fail
        refine (erank_any e p s K tb _ (HH.out.below hbe9) HS.out HF.out (by rw [← HMM.out];omega)).mono ?_
        rintro _ w11 ⟨rfl,hb11⟩
        have hG9:=hG9.later hb11
        have hL9:=hL9.later hb11
        have hm9:=hm9.below hb11
        have hmL9:=hmL9.below hb11
        have hbe9:=below_then hbe9 hb11 hbe9.size
        clear hb11
        by_cases ho:ordQ p (s.at_ k) < ordQ p (s.at_ tb)
        ·have HTK:Hid (bestN p s (zL p s) D (k+1)=some k):=Lib.hid (bestN_better HBO.out HPOS.out (.inr ⟨by rw [← HQR.out,← HRB.out];exact HEQ.out,ho⟩))
         obtain ⟨w9,hw9⟩:∃w9,w9=w11:=⟨_,rfl⟩
         subst hw9
         -- region 19:position k is the best
         obtain ⟨t0,t1,t2,t3⟩:=hG9.four
         obtain ⟨c0,c1,c2,c3⟩:=hL9.four
         obtain ⟨f0,f1,f2,f3⟩:=hL9.fourF
         go_upto_region 19 with (fail)
         have C0:=stab t0
         have C1:=stab t1
         have C2:=stab t2
         have C3:=stab t3
         have hS0:=below_drew' w9
         clear t0 t1 t2 t3
         refine region_seq 3 [0,1,2,3] (by kernel_rfl) (by kernel_rfl) ?_
         repeat ((first | (refine seq_takeP (v:=?_) rfl rfl rfl ?_ ?_;rotate_left;(· (intro _ hSw;go_simp;(try go_bits);(try with_reducible rfl)))) | (refine seq_take (v:=?_) rfl rfl rfl ?_ ?_;rotate_left;(· (intro _ hSw;go_simp;(try go_bits);(try with_reducible rfl)))) | refine seq_skip rfl rfl rfl ?_);(try simp only [Act.put,pu1,pu2,pu3,pu4,pu5,pu6]))
         refine seq_step rfl rfl (fun KR hKR=>?_)
         go_simp
         refine hKR.out _ _ (Or.inl (by decide)) ?_
         clear hKR KR
         (try simp only [Act.put,pu1,pu2,pu3,pu4,pu5,pu6])
         refine seq_done ?_
         clear C0 C1 C2 C3
         have hL10:=(hL9.later hS0).set4 (.bool (canF q).num.neg) (.slice Am nm cm) (.bool (canF q).den.neg) (.slice Am' nm' cm')
         have hk10:=(hL9.later hS0).but4 (.bool (canF q).num.neg) (.slice Am nm cm) (.bool (canF q).den.neg) (.slice Am' nm' cm')
         have hm10:=(hm9.below hS0).keep (hk10.keep (by decide))
         have hbe10:=below_set4 (below_then hbe9 hS0 hbe9.size) hgl (.bool (canF q).num.neg) (.slice Am nm cm) (.bool (canF q).den.neg) (.slice Am' nm' cm')
         clear hL9 hG9 hm9 hk10 hS0 c0 c1 c2 c3 f0 f1 f2 f3 hbe9
         go_wp2
         go_roundw
         case rel=>exact ⟨k+1,by omega,by go_num,by rw [HTK.out];rfl,hbe10,⟨_,_,_,_,hL10⟩,fun t ht=>by
          rw [HTK.out] at ht
          injection ht with ht
          subst ht
          exact ⟨by omega,Am,nm,cm,Am',nm',cm',by rw [← HQR.out];exact hL10,by rw [← HQR.out];exact hm10⟩⟩
         case measure=>simp [intOf];omega
        ·have HTK:Hid (bestN p s (zL p s) D (k+1)=some tb):=Lib.hid (bestN_worse HBO.out HPOS.out (fun g=>by
          rcases g with g | g
          ·rw [← HQR.out,← HRB.out,HEQ.out] at g;exact absurd g (by grind)
          ·exact ho g.2))
         have ho':ordQ p (s.at_ tb)≤ordQ p (s.at_ k):=by omega
         clear ho
         generalize ordQ p (s.at_ k)=o1 at *
         generalize ordQ p (s.at_ tb)=o2 at *
         rw [HRB.out] at hL9 hmL9
         -- region 20:the best stays
         go_wp2
         go_roundw
         case rel=>exact ⟨k+1,by omega,by go_num,by rw [HTK.out];rfl,hbe9,⟨_,_,_,_,hL9⟩,fun t' ht'=>by
          rw [HTK.out] at ht'
          injection ht' with ht'
          subst ht'
          exact ⟨by omega,A4,n4,c4,A5,n5,c5,hL9,hmL9⟩⟩
         case measure=>simp [intOf];omega
       ·rw [hc]
        have HTK:Hid (bestN p s (zL p s) D (k+1)=some tb):=Lib.hid (bestN_worse HBO.out HPOS.out (fun g=>by
         have:=qs_pos.1 (show 0 < qs (q - rb) by omega)
         rcases g with g | g
         ·rw [← HQR.out,← HRB.out] at g;grind
         ·have g1:=g.1
          rw [← HQR.out,← HRB.out] at g1;grind))
        clear hc
        rw [HRB.out] at hL9 hmL9
        -- region 20:the best stays
        go_wp2
        go_roundw
        case rel=>exact ⟨k+1,by omega,by go_num,by rw [HTK.out];rfl,hbe9,⟨_,_,_,_,hL9⟩,fun t' ht'=>by
         rw [HTK.out] at ht'
         injection ht' with ht'
         subst ht'
         exact ⟨by omega,A4,n4,c4,A5,n5,c5,hL9,hmL9⟩⟩
        case measure=>simp [intOf];omega
       ·rw [hc]
        have HTK:Hid (bestN p s (zL p s) D (k+1)=some k):=Lib.hid (bestN_better HBO.out HPOS.out (.inl (by
         have:=qs_neg.1 (show qs (q - rb) < 0 by omega)
         rw [← HQR.out,← HRB.out];grind)))
        clear hc
        -- region 19:position k is the best
        obtain ⟨t0,t1,t2,t3⟩:=hG9.four
        obtain ⟨c0,c1,c2,c3⟩:=hL9.four
        obtain ⟨f0,f1,f2,f3⟩:=hL9.fourF
        go_upto_region 19 with (fail)
        have C0:=stab t0
        have C1:=stab t1
        have C2:=stab t2
        have C3:=stab t3
        have hS0:=below_drew' w9
        clear t0 t1 t2 t3
        refine region_seq 3 [0,1,2,3] (by kernel_rfl) (by kernel_rfl) ?_
        repeat ((first | (refine seq_takeP (v:=?_) rfl rfl rfl ?_ ?_;rotate_left;(· (intro _ hSw;go_simp;(try go_bits);(try with_reducible rfl)))) | (refine seq_take (v:=?_) rfl rfl rfl ?_ ?_;rotate_left;(· (intro _ hSw;go_simp;(try go_bits);(try with_reducible rfl)))) | refine seq_skip rfl rfl rfl ?_);(try simp only [Act.put,pu1,pu2,pu3,pu4,pu5,pu6]))
        refine seq_step rfl rfl (fun KR hKR=>?_)
        go_simp
        refine hKR.out _ _ (Or.inl (by decide)) ?_
        clear hKR KR
        (try simp only [Act.put,pu1,pu2,pu3,pu4,pu5,pu6])
        refine seq_done ?_
        clear C0 C1 C2 C3
        have hL10:=(hL9.later hS0).set4 (.bool (canF q).num.neg) (.slice Am nm cm) (.bool (canF q).den.neg) (.slice Am' nm' cm')
        have hk10:=(hL9.later hS0).but4 (.bool (canF q).num.neg) (.slice Am nm cm) (.bool (canF q).den.neg) (.slice Am' nm' cm')
        have hm10:=(hm9.below hS0).keep (hk10.keep (by decide))
        have hbe10:=below_set4 (below_then hbe9 hS0 hbe9.size) hgl (.bool (canF q).num.neg) (.slice Am nm cm) (.bool (canF q).den.neg) (.slice Am' nm' cm')
        clear hL9 hG9 hm9 hk10 hS0 c0 c1 c2 c3 f0 f1 f2 f3 hbe9
        go_wp2
        go_roundw
        case rel=>exact ⟨k+1,by omega,by go_num,by rw [HTK.out];rfl,hbe10,⟨_,_,_,_,hL10⟩,fun t ht=>by
         rw [HTK.out] at ht
         injection ht with ht
         subst ht
         exact ⟨by omega,Am,nm,cm,Am',nm',cm',by rw [← HQR.out];exact hL10,by rw [← HQR.out];exact hm10⟩⟩
        case measure=>simp [intOf];omega
    ·have hqn:qs f.q≤0:=by
      rcases hq3 with g | g | g
      ·omega
      ·exact absurd (qs_pos.1 (show 0 < qs f.q by omega)) hpos
      ·omega
     have HTK:Hid (bestN p s (zL p s) D (k+1)=bestN p s (zL p s) D k):=Lib.hid (bestN_skip (by rw [HQ.out];exact hpos))
     clear hq3 hpos hV7 hm7
     go_wp2
     go_roundw
     case rel=>exact ⟨k+1,by omega,by go_num,by rw [HTK.out],hbe7,⟨_,_,_,_,hL7⟩,fun t ht=>by
      rw [HTK.out] at ht
      exact ⟨by have:=(HBT.out t ht).1;omega,(HBT.out t ht).2⟩⟩
     case measure=>simp [intOf];omega
   ·obtain rfl:m=k:=by omega
    go_wp2
    go_ret
    exact ⟨by rw [HLV.out,HDL.out];rfl,hbe⟩
end
end Go.Proofs.YtncmobkhenfhpaaGreat
