/- Contracts and plain facts that the claim is built on, joined out of smaller texts; no condition. -/
import Derived.Test.YtncmobkhenfhpaaGreatB44
set_option linter.unusedVariables false
set_option linter.unusedSimpArgs false
set_option maxRecDepth 100000
set_option maxHeartbeats 40000000
namespace Go.Proofs.YtncmobkhenfhpaaGreat
open Go.RowKit
open Pl
attribute [local go_sem ↓] Go.wp_at_zero Go.wp_at_succ
section
namespace Pl
theorem leav_ne {p:LPd} {s:LSt} {Z D:List RF} {i:Nat} (h:leavQ p s Z D=some i):i < D.length∧qAt D i≠0:=by
 refine ⟨leavQ_lt h,fun e=>?_⟩
 have hb:bestN p s Z D D.length=some i→False:=fun hb=>by
  have:=(bestN_lt hb).2
  rw [e] at this;exact absurd this (by decide)
 by_cases hp:s.phase=2
 ·cases hf:firstNeg (artF s D) 0 D.length with
  | none=>rw [leavQ_3 hp hf] at h;exact hb h
  | some t=>
   rw [leavQ_2 hp hf] at h
   injection h with h
   subst h
   have:=(firstNeg_is hf).2.2.1
   unfold artF at this
   rw [if_neg fun g=>g.2 e] at this
   exact absurd this (by decide)
 ·rw [leavQ_1 hp] at h;exact hb h
def zP (i:Nat) (q:Rat) (d z:Nat→Rat) (k:Nat):Nat→Rat:=fun r=>if r < k∧r≠i then z r - q * d r else z r
theorem zP_zero {i:Nat} {q:Rat} {d z:Nat→Rat}:zP i q d z 0=z:=by funext r;unfold zP;rw [if_neg (by omega)]
theorem zP_skip {i k:Nat} {q:Rat} {d z:Nat→Rat} (h:k=i∨d k=0) (r:Nat):zP i q d z k r=zP i q d z (k+1) r:=by
 unfold zP
 by_cases e:r=k
 ·subst e
  rw [if_neg (by omega)]
  rcases h with h | h
  ·rw [if_neg (by omega)]
  ·rw [h];split <;> grind
 ·by_cases e2:r < k∧r≠i
  ·rw [if_pos e2,if_pos ⟨by omega,e2.2⟩]
  ·rw [if_neg e2,if_neg (by omega)]
theorem zP_next {i k:Nat} {q:Rat} {d z:Nat→Rat} (h:k≠i) (r:Nat):zP i q d z (k+1) r=if r=k then z k - q * d k else zP i q d z k r:=by
 unfold zP
 by_cases e:r=k
 ·subst e;rw [if_pos rfl,if_pos ⟨by omega,h⟩]
 ·rw [if_neg e]
  by_cases e2:r < k∧r≠i
  ·rw [if_pos e2,if_pos ⟨by omega,e2.2⟩]
  ·rw [if_neg e2,if_neg (by omega)]
theorem zP_at {i k:Nat} {q:Rat} {d z:Nat→Rat}:zP i q d z k k=z k:=by unfold zP;rw [if_neg (by omega)]
theorem zL_pre {p:LPd} {s:LSt} {i j:Nat} (hr:Reg p s) (hi:i < p.right.length) (hb:i < s.basis.length) (h0:qAt (dirL p s (j:Int)) i≠0):
 zL p (preS s i (j:Int))=canL p.right.length fun r=>if r=i then qAt (zL p s) i / qAt (dirL p s (j:Int)) i else zP i (qAt (zL p s) i / qAt (dirL p s (j:Int)) i) (qAt (dirL p s (j:Int))) (qAt (zL p s)) p.right.length r:=by
 unfold zL
 rw [preS_mat hb]
 refine solF_of (indep_rep hi hr (dir_spec hr (j:Int)) h0) ?_
 refine mulC_rep hi (dir_spec hr (j:Int)) h0 (z_spec hr) ?_ fun r hr' hne=>?_
 ·simp only [if_pos];rfl
 ·simp only [if_pos,if_neg hne]
  unfold zP
  rw [if_pos ⟨hr',hne⟩]
  show qAt (zL p s) r - _ * _=qAt (zL p s) r - _ * _
  grind
end Pl
def PivAt (U w0:World) (e:Nat) (p:LPd) (s:LSt) (K i:Nat) (vd:Value) (D:List RF) (gm:Nat) (q:Rat) (gB gb cb gz cz bB bi:Nat) (A:Option Addr) (n c:Nat) (A':Option Addr) (n' c':Nat) (A'':Option Addr) (n'' c'':Nat) (Am:Option Addr) (nm cm:Nat) (Am':Option Addr) (nm' cm':Nat) (j:Nat) (z:Nat→Rat) (w:World):Prop:=
 Bk w e 107 [.slice A n c,.slice A' n' c',.slice A'' n'' c'',.int .i64 s.phase,.slice (some ⟨gb,0,none⟩) p.right.length cb,.int .i64 s.pivots,.pointer (some ⟨gB,0,none⟩),.slice (some ⟨gz,0,none⟩) p.right.length cz]∧
  IntsO U.heap.size w (.slice (some ⟨gb,0,none⟩) p.right.length cb) s.basis∧BasO bB bi w gB p.right.length K ((preS s i (j:Int)).mat p)∧FrsO U.heap.size w (.slice (some ⟨gz,0,none⟩) p.right.length cz) (canL p.right.length z)∧FrsO w0.heap.size w vd D∧
  (Bk w gm 48 [.bool (canF q).num.neg,.slice Am nm cm,.bool (canF q).den.neg,.slice Am' nm' cm']∧FracM w (.agg #[.bool (canF q).num.neg,.slice Am nm cm,.bool (canF q).den.neg,.slice Am' nm' cm']) (canF q))∧Below U.heap.size U w∧w0.heap.size≤w.heap.size
section
variable {U w0:World} {e:Nat} {p:LPd} {s:LSt} {K i:Nat} {vd:Value} {D:List RF} {gm:Nat} {q:Rat} {gB gb cb gz cz bB bi:Nat} {A:Option Addr} {n c:Nat} {A':Option Addr} {n' c':Nat} {A'':Option Addr} {n'' c'':Nat} {Am:Option Addr} {nm cm:Nat} {Am':Option Addr} {nm' cm':Nat} {j:Nat} {z z':Nat→Rat} {w w':World}
theorem PivAt.below (h:PivAt U w0 e p s K i vd D gm q gB gb cb gz cz bB bi A n c A' n' c' A'' n'' c'' Am nm cm Am' nm' cm' j z w) (hb:Below w.heap.size w w'):PivAt U w0 e p s K i vd D gm q gB gb cb gz cz bB bi A n c A' n' c' A'' n'' c'' Am nm cm Am' nm' cm' j z w':=by
 obtain ⟨h1,h2,h3,h4,h5,⟨h6,h7⟩,h8,h9⟩:=h
 have:=hb.size
 exact ⟨h1.later hb,h2.below hb,h3.below hb,h4.below hb,h5.below hb,⟨h6.later hb,h7.below hb⟩,below_then h8 hb h8.size,by omega⟩
theorem PivAt.setZ (h:PivAt U w0 e p s K i vd D gm q gB gb cb gz cz bB bi A n c A' n' c' A'' n'' c'' Am nm cm Am' nm' cm' j z w) (hgz:gz < bi) (hgw:gz < w0.heap.size) (hgm:gz≠gm) {k:Nat} (hk:k < p.right.length) {x1 x2 x3 x4:Value} {y:Rat} (hy:FracM w (.agg #[x1,x2,x3,x4]) (canF y)) (hz:∀r,r < p.right.length→z' r=if r=k then y else z r):
 PivAt U w0 e p s K i vd D gm q gB gb cb gz cz bB bi A n c A' n' c' A'' n'' c'' Am nm cm Am' nm' cm' j z' ((((w.setCell ⟨gz,k * 4,none⟩ x1).setCell ⟨gz,k * 4+1,none⟩ x2).setCell ⟨gz,k * 4+2,none⟩ x3).setCell ⟨gz,k * 4+3,none⟩ x4):=by
 obtain ⟨h1,h2,h3,h4,h5,⟨h6,h7⟩,h8,h9⟩:=h
 obtain ⟨g4,hk4⟩:=h4.set_ (k:=k) (by rw [canL_length];exact hk) hy
 have ho:=others_set4 (w:=w) (g:=gz) (i:=k * 4) (j:=k * 4+1) (k:=k * 4+2) (l:=k * 4+3) (x:=x1) (y:=x2) (z:=x3) (u:=x4)
 have hu:U.heap.size≤gz:=by
  obtain ⟨cs,hh,_⟩:=h4
  have hn:p.right.length=(canL p.right.length z).length:=(canL_length _ _).symm
  rw [← hn] at hh
  obtain ⟨_,_,e3⟩:=row_block hh
  exact e3
 rw [canL_set hk,canL_congr (g:=z') fun r hr=>(hz r hr).symm] at g4
 exact ⟨hk4.bk h1 (by decide),h2.but hk4 (by decide),h3.farF ho hk4 hgz,g4,h5.others ho (hk4.keep (by decide)) (fun b hb e=>by have:=h5.own_ge b hb;injection e with e;omega),⟨ho.bk h6 (by intro e;injection e with e;omega),h7.keep (hk4.keep (by decide))⟩,below_set4' h8 hu _ _ _ _ _ _ _ _,by simpa using h9⟩
theorem PivAt.congr (h:PivAt U w0 e p s K i vd D gm q gB gb cb gz cz bB bi A n c A' n' c' A'' n'' c'' Am nm cm Am' nm' cm' j z w) (hz:∀r,r < p.right.length→z r=z' r):PivAt U w0 e p s K i vd D gm q gB gb cb gz cz bB bi A n c A' n' c' A'' n'' c'' Am nm cm Am' nm' cm' j z' w:=by
 obtain ⟨h1,h2,h3,h4,h5⟩:=h
 exact ⟨h1,h2,h3,by rw [← canL_congr hz];exact h4,h5⟩
end
theorem pivot_own (U w0:World) (e:Nat) (p:LPd) (s:LSt) (K j:Nat) (vd:Value) (w:World) (h:EngO U w0 e p s K) (hb0:Below w0.heap.size w0 w) (hd:FrsO w0.heap.size w vd (dirL p s (j:Int))) (hj:j < p.cols.length) (S:s.Fit p) (F:p.Ft K) (hz:lpErr p=0) (hpv0:0≤s.pivots) (hpv:s.pivots+1≤9223372036854775807):
 Calls Tryz.prog 58 #[.pointer (some ⟨e,0,none⟩),.int .i64 (j:Int),vd] w fun o w'=>(∃i,leavQ p s (zL p s) (dirL p s (j:Int))=some i∧o= .returned (.bool true)∧EngO U w' e p (settleQ p (preS s i (j:Int))) K)∨(leavQ p s (zL p s) (dirL p s (j:Int))=none∧o= .returned (.bool false)∧EngO U w' e p s K):=by
 have HH:=Lib.hid (h.below hb0)
 have HR:=Lib.hid h.r.reg
 have hdl:(dirL p s (j:Int)).length=p.right.length:=dir_len HR.out _
 obtain ⟨Ad,nd,cd,rfl⟩:=hd.sliceN
 have HD:=Lib.hid hd
 obtain ⟨A,n,c,A',n',c',A'',n'',c'',Ab,cb,gB,vz,hB0,hI0⟩:=h
 obtain ⟨es,hes⟩:=get_someC (cs:=p.cols) (i:=j) hj
 obtain ⟨z1,z2,z3,z4,z5⟩:=lpErr_zero hz
 have HC:=Lib.hid (LPd.col_pos hes)
 have HGO:Hid (Pl.Good p.right.length es):=Lib.hid ⟨z4 j es hes,(z5 j es hes).2,(z5 j es hes).1⟩
 have HRS:=Lib.hid (F.1.ok.2.2 j es hes).2
 have HES:=Lib.hid hes
 have HS:=Lib.hid S
 have HF:=Lib.hid F
 have HB0:=Lib.hid (hB0.later hb0)
 have HI0:=Lib.hid hI0
 have HBW:=Lib.hid hb0
 have hm7:=F.2.1
 clear hb0 hd hB0 hI0 hes z1 z2 z3 z4 z5 hz S F
 go_enter Tryz.func58,Tryz.ntmps58
 go_wp2_with fail
 refine (leaving_any e p s K _ (dirL p s (j:Int)) _ HH.out.r HD.out.frs hdl (dirL_B HF.out.1 s _) HS.out HF.out).mono ?_
 rintro _ w1 ⟨rfl,hb1⟩
 cases hlv:leavQ p s (zL p s) (dirL p s (j:Int)) with
 | none=>
  have hE1:=HH.out.below hb1
  clear hb1
  simp only [oi]
  go_upto_region 2 with (fail)
  have hS0:=below_drew' w1
  refine region_seq 19 [0,1,2,3,4,5,6,7,8,9,10,11,12,13,14,15,16,17,18] (by kernel_rfl) (by kernel_rfl) ?_
  repeat ((first | (refine seq_takeP (v:=?_) rfl rfl rfl ?_ ?_;rotate_left;(· (intro _ hSw;go_simp;(try go_bits);(try with_reducible rfl)))) | (refine seq_take (v:=?_) rfl rfl rfl ?_ ?_;rotate_left;(· (intro _ hSw;go_simp;(try go_bits);(try with_reducible rfl)))) | refine seq_skip rfl rfl rfl ?_ | refine seq_skipc rfl rfl rfl (by assumption) ?_);(try simp only [Act.put,pu1,pu2,pu3,pu4,pu5,pu6]))
  refine seq_done ?_
  have hE2:=hE1.below hS0
  go_wp2
  go_ret
  exact .inr ⟨hlv,rfl,hE2⟩
 | some i=>
  simp only [oi]
  have hln:=leav_ne hlv
  rw [hdl] at hln
  obtain ⟨hi,hx0⟩:=hln
  have HX0:=Lib.hid hx0
  have hib:i < s.basis.length:=by rw [HS.out.2];exact hi
  have HIB:=Lib.hid hib
  obtain ⟨bB,bi,⟨g1,g2,g3⟩,⟨q1,q2,q3,q4⟩,hIb,hIb2,hBas0,hZ0,hZ2,hU0⟩:=HI0.out
  have hbz1:=below_then HBW.out hb1 HBW.out.size
  have hU1:=below_then hU0 hbz1 hU0.size
  have hws:=hbz1.size
  obtain ⟨gb,cb',hvb,hgb1,hgb2,-,-⟩:=hIb.shape (by omega)
  rw [HS.out.2] at hvb
  injection hvb with a1 a2 a3
  subst a1
  clear a2 a3 cb'
  have hzc:zL p s=canL p.right.length (qAt (zL p s)):=solF_of HR.out (z_spec HR.out)
  have hdc:dirL p s (j:Int)=canL p.right.length (qAt (dirL p s (j:Int))):=solF_of HR.out fun r hr=>by rw [canL_qAt hr];exact dir_spec HR.out (j:Int) r hr
  obtain ⟨zf,hzf⟩:∃zf,zf=qAt (zL p s):=⟨_,rfl⟩
  obtain ⟨df,hdf⟩:∃df,df=qAt (dirL p s (j:Int)):=⟨_,rfl⟩
  rw [hzc,← hzf] at hZ0
  obtain ⟨gz,cz,rfl,hgz1,hgz2,hgz3,hgz4⟩:=hZ0.shape (by rw [canL_length];omega)
  have hd1:=HD.out.below hb1
  rw [hdc,← hdf] at hd1
  obtain ⟨gd,cd',hvd,hgd1,hgd2,hgd3,hgd4⟩:=hd1.shape (by rw [canL_length];omega)
  rw [canL_length] at hvd hgd3
  injection hvd with a1 a2 a3
  subst a1 a2 a3
  rw [canL_length] at hZ0 hgz3 hZ2
  have HZF:=Lib.hid hzf
  have HDF:=Lib.hid hdf
  have hgzi:=hZ2 gz rfl
  have hgbB:=hIb2 gb rfl
  obtain ⟨bc,oc,Ac,cc,rfl,-,x0,hve⟩:=g2.elem hU1 HES.out
  obtain ⟨l1,l2,l3⟩:=g2.len
  have hjI:(j:Int) < n':=by omega
  have hiI:(i:Int) < p.right.length:=by omega
  have hBas:=hBas0.below hbz1
  have hE1:=HB0.out.later hb1
  rw [canL_length] at hE1
  have y6:=hE1.cellAt 6 rfl
  have y1:=hE1.cellAt 1 rfl
  have hxs:∀r,r < p.right.length→mulC p.right.length (s.mat p) (qAt (dirL p s (j:Int))) r=colQ es r:=fun r hr=>by rw [← HC.out];exact dir_spec HR.out (j:Int) r hr
  have HG:=Lib.hid (⟨g1,g2,g3⟩:_∧_∧_)
  have hzd0:=hZ0.below hbz1
  have hib1:=hIb.below hbz1
  have hbase:bB≤w1.heap.size:=by omega
  have hbi2:bi≤w1.heap.size:=by omega
  clear g1 g2 g3 l1 hIb hIb2 hBas0 hZ0 hZ2 hU0 hzc hdc hzf hdf
  go_upto_region 2 with (fail)
  have C0:=stab y6
  have C1:=stab y1
  have C2:=stab x0
  have hS0:=below_drew' w1
  clear y6 y1 x0
  refine region_seq 16 [0,1,2,3,4,5,6,7,8,9,10,11,12,13,14,15,16,17,18] (by kernel_rfl) (by kernel_rfl) ?_
  repeat ((first | (refine seq_takeP (v:=?_) rfl rfl rfl ?_ ?_;rotate_left;(· (intro _ hSw;go_simp;(try go_bits);(try with_reducible rfl)))) | (refine seq_take (v:=?_) rfl rfl rfl ?_ ?_;rotate_left;(· (intro _ hSw;go_simp;(try go_bits);(try with_reducible rfl)))) | refine seq_skip rfl rfl rfl ?_ | refine seq_skipc rfl rfl rfl (by assumption) ?_);(try simp only [Act.put,pu1,pu2,pu3,pu4,pu5,pu6]))
  refine seq_step rfl rfl (fun KR hKR=>?_)
  go_simp
  with_reducible refine (replace_own bB bi gB p.right.length K (s.mat p) _ es i (qAt (dirL p s (j:Int))) _ (hBas.below hS0) (hve.below hS0) HGO.out HRS.out hi hxs hx0 (by have:=hS0.size;omega) (by have:=hS0.size;omega)).mono ?_
  rintro _ w2 ⟨rfl,hB2,hbe2,hk2⟩
  refine hKR.out _ _ (Or.inl (by decide)) ?_
  clear hKR KR
  (try simp only [Act.put,pu1,pu2,pu3,pu4,pu5,pu6])
  refine seq_step rfl rfl (fun KR hKR=>?_)
  go_simp
  refine hKR.out _ _ (Or.inl (by decide)) ?_
  clear hKR KR
  (try simp only [Act.put,pu1,pu2,pu3,pu4,pu5,pu6])
  refine seq_step rfl rfl (fun KR hKR=>?_)
  go_simp
  refine hKR.out _ _ (Or.inl (by decide)) ?_
  clear hKR KR
  (try simp only [Act.put,pu1,pu2,pu3,pu4,pu5,pu6])
  refine seq_done ?_
  clear C0 C1 C2
  have hE2:=hk2.bk (hE1.later hS0) (by decide) (by decide) (by decide)
  have hib2:=hk2.ints (hib1.below hS0)
  have hzd2:=hk2.frs (hzd0.below hS0)
  have hd2:=hk2.frs (hd1.below hS0)
  have hU2:=(below_then hU1 hS0 hU1.size).trans (hbe2.mono q2)
  have hws2:w0.heap.size≤w2.heap.size:=Nat.le_trans hws (Nat.le_trans hS0.size hbe2.size)
  have hB2':BasO bB bi w2 gB p.right.length K ((preS s i (j:Int)).mat p):=by rw [preS_mat HIB.out,HC.out];exact hB2
  clear hE1 hib1 hzd0 hd1 hBas hve hS0 hbe2 hk2 hB2 hxs hb1 hU1 hbz1
  obtain ⟨b5,o5,A5,n5,c5,A6,n6,c6,hA,-,⟨z0,z1,z2,z3⟩,hmz⟩:=hzd2.frs.elem (Below.refl _ _) (canL_get hi)
  injection hA with hA
  injection hA with hA1 hA2
  subst hA1;subst hA2
  obtain ⟨b5,o5,A7,n7,c7,A8,n8,c8,hA,-,⟨d0,d1,d2,d3⟩,hmd⟩:=hd2.frs.elem (Below.refl _ _) (canL_get hi)
  injection hA with hA
  injection hA with hA1 hA2
  subst hA1;subst hA2
  simp only [Nat.zero_add] at z0 z1 z2 z3 d0 d1 d2 d3
  have y7:=hE2.cellAt 7 rfl
  obtain ⟨zi,hzi⟩:∃zi,zi=zf i:=⟨_,rfl⟩
  obtain ⟨di,hdi⟩:∃di,di=df i:=⟨_,rfl⟩
  obtain ⟨q,hqq⟩:∃q,q=zi / di:=⟨_,rfl⟩
  have HQI:Hid (zi / di=q):=Lib.hid hqq.symm
  have HQ:Hid (q=qAt (zL p s) i / qAt (dirL p s (j:Int)) i):=Lib.hid (by rw [hqq,hzi,hdi,HZF.out,HDF.out])
  have HJ:Hid (1≤5^p.right.length * K∧5^p.right.length * K≤4000000):=Lib.hid ⟨Nat.le_trans HF.out.1.k1 HF.out.1.le,HF.out.2.2⟩
  have HZS:Hid (∀r,Sz (5^p.right.length * K) (zf r)):=Lib.hid fun r=>by rw [HZF.out];exact (zL_B HF.out.1 s).qAt HJ.out.1 r
  have HDS:Hid (∀r,Sz (5^p.right.length * K) (df r)):=Lib.hid fun r=>by rw [HDF.out];exact (dirL_B HF.out.1 s _).qAt HJ.out.1 r
  have HQS:Hid (Sz (2 * (5^p.right.length * K)) q):=Lib.hid (by rw [hqq,hzi,hdi];exact (Sz_div (HZS.out i) (HDS.out i)).mono (by omega))
  have hsz:(canF zi).Sm:=by rw [hzi];exact (HZS.out i).rs.sm (by have:=HJ.out;omega)
  have hsd:(canF di).Sm:=by rw [hdi];exact (HDS.out i).rs.sm (by have:=HJ.out;omega)
  have hd0:(canF di).q≠0:=by rw [canF_q,hdi,HDF.out];exact HX0.out
  rw [← hzi] at z0 z2 hmz
  rw [← hdi] at d0 d2 hmd
  clear hzi hdi hqq hx0
  go_upto_region 4 with (fail)
  go_cut [8] (fun s8 wx=>BoxAt w2 (canF q) s8 wx)
  case first=>
   have C0:=stab z0
   have C1:=stab z1
   have C2:=stab z2
   have C3:=stab z3
   have D0:=stab d0
   have D1:=stab d1
   have D2:=stab d2
   have D3:=stab d3
   have E0:=stab y7
   have hS0:=below_drew' w2
   clear z0 z1 z2 z3 d0 d1 d2 d3 y7
   refine region_plan 16 (.go 0 (.go 1 (.go 2 (.go 3 (.go 4 (.go 5 (.go 6 (.go 7 (.go 8 (.go 9 (.go 10 (.fork 11 (.go 12 (.go 13 (.go 14 (.go 15 (.go 16 (.go 17 .done)))))) 15 (.go 11 (.go 12 (.go 13 (.go 14 (.go 16 (.go 17 .done)))))))))))))))))) (by kernel_rfl) (by kernel_rfl) ?_
   repeat ((first | (refine plan_takeP (v:=?_) rfl rfl rfl ?_ ?_;rotate_left;(· (intro _ hSw;go_simp;(try go_bits);(try with_reducible rfl)))) | (refine plan_take (v:=?_) rfl rfl rfl ?_ ?_;rotate_left;(· (intro _ hSw;go_simp;(try go_bits);(try with_reducible rfl)))) | refine plan_skip rfl rfl rfl ?_ | refine plan_skipc rfl rfl rfl (by assumption) ?_);(try simp only [Act.put,pu1,pu2,pu3,pu4,pu5,pu6]))
   refine plan_fork rfl rfl (fun KR hKR=>?_) (fun KR hKR=>?_)
   ·go_simp
    with_reducible refine (divF_any _ _ (canF zi) (canF di) _ (hmz.below hS0) (hmd.below hS0) hsz hsd hd0).mono ?_
    rw [canF_q,canF_q,HQI.out]
    rintro _ wA ⟨vA,rfl,eA,hbA⟩
    have hSA:=below_then hS0 hbA hS0.size
    obtain ⟨A6,n6,c6,B6,m6,d6,rfl,_,_⟩:=id eA
    refine hKR.out _ _ (Or.inr hSA) ?_
    clear hKR KR
    (try simp only [Act.put,pu1,pu2,pu3,pu4,pu5,pu6])
    repeat ((first | (refine plan_takeP (v:=?_) rfl rfl rfl ?_ ?_;rotate_left;(· (intro _ hSw;go_simp;(try go_bits);(try with_reducible rfl)))) | (refine plan_take (v:=?_) rfl rfl rfl ?_ ?_;rotate_left;(· (intro _ hSw;go_simp;(try go_bits);(try with_reducible rfl)))) | refine plan_skip rfl rfl rfl ?_ | refine plan_skipc rfl rfl rfl (by assumption) ?_);(try simp only [Act.put,pu1,pu2,pu3,pu4,pu5,pu6]))
    obtain ⟨WG,hWG,hGG,hbG⟩:=boxF1 wA (.bool false) (.slice none 0 0) (.bool false) (.slice none 0 0)
    refine plan_step rfl rfl (fun KR hKR=>?_)
    go_simp
    have hge:=hSA.size
    have hSG:=below_then hSA hbG hSA.size
    refine hKR.out _ _ (Or.inr hSG) ?_
    clear hKR KR hWG
    (try simp only [Act.put,pu1,pu2,pu3,pu4,pu5,pu6])
    have eAG:=eA.below hbG
    obtain ⟨t0,t1,t2,t3⟩:=hGG.four
    obtain ⟨f0,f1,f2,f3⟩:=hGG.fourF
    refine plan_step rfl rfl (fun KR hKR=>?_)
    go_simp
    refine hKR.out _ _ (Or.inl (by decide)) ?_
    clear hKR KR
    (try simp only [Act.put,pu1,pu2,pu3,pu4,pu5,pu6])
    refine plan_step rfl rfl (fun KR hKR=>?_)
    go_simp
    refine hKR.out _ _ (Or.inl (by decide)) ?_
    clear hKR KR
    (try simp only [Act.put,pu1,pu2,pu3,pu4,pu5,pu6])
    refine plan_done ?_
    go_wp2_with fail
    go_meet
    exact BoxAt.mk hGG eAG hSG hge
   ·obtain ⟨WG,hWG,hGG,hbG⟩:=boxF1 w2.drew (.bool false) (.slice none 0 0) (.bool false) (.slice none 0 0)
    go_simp
    have hge:=hS0.size
    have hSG:=below_then hS0 hbG hS0.size
    refine hKR.out _ _ (Or.inr hSG) ?_
    clear hKR KR hWG
    (try simp only [Act.put,pu1,pu2,pu3,pu4,pu5,pu6])
    change Bk WG w2.heap.size 48 _ at hGG
    refine plan_step rfl rfl (fun KR hKR=>?_)
    go_simp
    with_reducible refine (divF_any _ _ (canF zi) (canF di) _ (hmz.below hSG) (hmd.below hSG) hsz hsd hd0).mono ?_
    rw [canF_q,canF_q,HQI.out]
    rintro _ wA ⟨vA,rfl,eA,hbA⟩
    have hSA:=below_then hSG hbA hSG.size
    obtain ⟨A6,n6,c6,B6,m6,d6,rfl,_,_⟩:=id eA
    refine hKR.out _ _ (Or.inr hSA) ?_
    clear hKR KR
    (try simp only [Act.put,pu1,pu2,pu3,pu4,pu5,pu6])
    have hG:=hGG.later hbA
    repeat ((first | (refine plan_takeP (v:=?_) rfl rfl rfl ?_ ?_;rotate_left;(· (intro _ hSw;go_simp;(try go_bits);(try with_reducible rfl)))) | (refine plan_take (v:=?_) rfl rfl rfl ?_ ?_;rotate_left;(· (intro _ hSw;go_simp;(try go_bits);(try with_reducible rfl)))) | refine plan_skip rfl rfl rfl ?_ | refine plan_skipc rfl rfl rfl (by assumption) ?_);(try simp only [Act.put,pu1,pu2,pu3,pu4,pu5,pu6]))
    obtain ⟨t0,t1,t2,t3⟩:=hG.four
    obtain ⟨f0,f1,f2,f3⟩:=hG.fourF
    refine plan_step rfl rfl (fun KR hKR=>?_)
    go_simp
    refine hKR.out _ _ (Or.inl (by decide)) ?_
    clear hKR KR
    (try simp only [Act.put,pu1,pu2,pu3,pu4,pu5,pu6])
    refine plan_step rfl rfl (fun KR hKR=>?_)
    go_simp
    refine hKR.out _ _ (Or.inl (by decide)) ?_
    clear hKR KR
    (try simp only [Act.put,pu1,pu2,pu3,pu4,pu5,pu6])
    refine plan_done ?_
    go_wp2_with fail
    go_meet
    exact BoxAt.mk hG eA hSA hge
  case rest=>
   obtain ⟨gm,Am,nm,cm,Am',nm',cm',rfl,hgm,hGm,hmm,hb3⟩:=hcut
   have hP0:PivAt U w0 e p s K i (.slice (some ⟨gd,0,none⟩) p.right.length cd) (canL p.right.length df) gm q gB gb cb gz cz bB bi A n c (some ⟨bc,oc,none⟩) n' c' A'' n'' c'' Am nm cm Am' nm' cm' j (zP i q df zf 0) wc:=⟨hE2.later hb3,hib2.below hb3,hB2'.below hb3,by rw [zP_zero];exact hzd2.below hb3,hd2.below hb3,⟨hGm,hmm⟩,below_then hU2 hb3 hU2.size,Nat.le_trans hws2 hb3.size⟩
   have hgzm:gz≠gm:=by omega
   have HP0:=Lib.hid hP0
   have y7:=hP0.1.cellAt 7 rfl
   clear z0 z1 z2 z3 d0 d1 d2 d3 hE2 hib2 hB2' hzd2 hd2 hGm hmm hb3 hU2 hmz hmd hsz hsd hd0 hP0
   go_wp2
   clear y7
   go_loopw [53] (fun x wr=>∃k:Nat,k≤p.right.length∧x= .int .i64 k∧PivAt U w0 e p s K i (.slice (some ⟨gd,0,none⟩) p.right.length cd) (canL p.right.length df) gm q gB gb cb gz cz bB bi A n c (some ⟨bc,oc,none⟩) n' c' A'' n'' c'' Am nm cm Am' nm' cm' j (zP i q df zf k) wr) (fun x _=>p.right.length - (intOf x).toNat)
   case atStart=>exact ⟨0,by omega,rfl,HP0.out⟩
   case round=>
    clear HP0
    obtain ⟨k,hk,rfl,hP⟩:=hrel
    have HP:=Lib.hid hP
    rcases Nat.lt_or_ge k p.right.length with hkl | hkl
    ·have hkI:(k:Int) < p.right.length:=by omega
     obtain ⟨hE,-,-,-,hdd,-,-,hww⟩:=hP
     by_cases hki:k=i
     ·have HSK:Hid (∀r,r < p.right.length→zP i q df zf k r=zP i q df zf (k+1) r):=Lib.hid fun r _=>zP_skip (.inl hki) r
      clear hE hdd
      subst hki
      go_wp2
      go_roundw
      case rel=>exact ⟨k+1,by omega,by go_num,HP.out.congr HSK.out⟩
      case measure=>simp [intOf];omega
     ·have HKI:=Lib.hid hki
      have hne:(k:Int)≠i:=by omega
      obtain ⟨b5,o5,A7,n7,c7,A8,n8,c8,hA,-,⟨d0,d1,d2,d3⟩,hmd⟩:=hdd.frs.elem (Below.refl _ _) (canL_get hkl)
      injection hA with hA
      injection hA with hA1 hA2
      subst hA1;subst hA2
      simp only [Nat.zero_add] at d0 d1 d2 d3
      have hq3:qs (df k)=0∨qs (df k)=1∨qs (df k)= -1:=by have:=qs_bd (df k);omega
      clear hE hdd
      by_cases hq0:qs (df k)=0
      ·have HSK:Hid (∀r,r < p.right.length→zP i q df zf k r=zP i q df zf (k+1) r):=Lib.hid fun r _=>zP_skip (.inr (qs_zero.1 hq0)) r
       clear hq3
       go_wp2_with fail
       refine (signF_any _ (canF (df k)) _ hmd).mono ?_
       rw [canF_q,hq0]
       rintro _ w3 ⟨rfl,hb3⟩
       have hP3:=(HP.out.below hb3).congr HSK.out
       clear hb3 hmd d0 d1 d2 d3 hq0 HP
       go_wp2
       go_roundw
       case rel=>exact ⟨k+1,by omega,by go_num,hP3⟩
       case measure=>simp [intOf];omega
      ·have hqe:(qs (df k) !=0)=true:=by simpa using hq0
       clear hq3 hq0
       go_wp2_with fail
       refine (signF_any _ (canF (df k)) _ hmd).mono ?_
       rw [canF_q]
       rintro _ w3 ⟨rfl,hb3⟩
       have HP3:=Lib.hid (HP.out.below hb3)
       clear hb3 hmd d0 d1 d2 d3 HP
       obtain ⟨hE,-,-,hZ,hdd,⟨hGm,hmq⟩,-,hww3⟩:=HP3.out
       obtain ⟨b5,o5,A7,n7,c7,A8,n8,c8,hA,-,⟨d0,d1,d2,d3⟩,hmk⟩:=hdd.frs.elem (Below.refl _ _) (canL_get hkl)
       injection hA with hA
       injection hA with hA1 hA2
       subst hA1;subst hA2
       obtain ⟨b5,o5,A5,n5,c5,A6,n6,c6,hA,-,⟨z0,z1,z2,z3⟩,hmz⟩:=hZ.frs.elem (Below.refl _ _) (canL_get hkl)
       injection hA with hA
       injection hA with hA1 hA2
       subst hA1;subst hA2
       simp only [Nat.zero_add] at d0 d1 d2 d3 z0 z1 z2 z3
       obtain ⟨t0,t1,t2,t3⟩:=hGm.four
       have y7:=hE.cellAt 7 rfl
       obtain ⟨zk,hzk⟩:∃zk,zk=zP i q df zf k k:=⟨_,rfl⟩
       obtain ⟨dk,hdk⟩:∃dk,dk=df k:=⟨_,rfl⟩
       have HNX:Hid (∀r,r < p.right.length→zP i q df zf (k+1) r=if r=k then zk - q * dk else zP i q df zf k r):=Lib.hid fun r _=>by rw [zP_next HKI.out,hzk,zP_at,hdk]
       have hsq:(canF q).Sm:=HQS.out.rs.sm (by have:=HJ.out;omega)
       have hsk:(canF dk).Sm:=by rw [hdk];exact (HDS.out k).rs.sm (by have:=HJ.out;omega)
       have hsz:(canF zk).Sm:=by rw [hzk,zP_at];exact (HZS.out k).rs.sm (by have:=HJ.out;omega)
       have hsP:(canF (q * dk)).Sm:=(Sz_mul HQS.out (by rw [hdk];exact HDS.out k)).rs.sm (by have:=HJ.out;omega)
       have hgk:(canL p.right.length (zP i q df zf k))[k]? =some (canF zk):=by rw [hzk];exact canL_get hkl
       rw [← hzk] at z0 z2 hmz
       rw [← hdk] at d0 d2 hmk
       clear hE hdd hGm hzk hdk
       go_upto_region 9 with (fail)
       clear hqe hne hki
       have C0:=stab z0
       have C1:=stab z1
       have C2:=stab z2
       have C3:=stab z3
       have D0:=stab d0
       have D1:=stab d1
       have D2:=stab d2
       have D3:=stab d3
       have T0:=stab t0
       have T1:=stab t1
       have T2:=stab t2
       have T3:=stab t3
       have E0:=stab y7
       have hS0:=below_drew' w3
       clear z0 z1 z2 z3 d0 d1 d2 d3 t0 t1 t2 t3 y7
       refine region_seq 20 [0,1,2,3,4,5,6,7,8,9,10,11,12,13,14,15,16,17,18,19,20] (by kernel_rfl) (by kernel_rfl) ?_
       repeat ((first | (refine seq_takeP (v:=?_) rfl rfl rfl ?_ ?_;rotate_left;(· (intro _ hSw;go_simp;(try go_bits);(try with_reducible rfl)))) | (refine seq_take (v:=?_) rfl rfl rfl ?_ ?_;rotate_left;(· (intro _ hSw;go_simp;(try go_bits);(try with_reducible rfl)))) | refine seq_skip rfl rfl rfl ?_);(try simp only [Act.put,pu1,pu2,pu3,pu4,pu5,pu6]))
       refine seq_step rfl rfl (fun KR hKR=>?_)
       go_simp
       with_reducible refine (mulF_any _ _ (canF q) (canF dk) _ (hmq.below hS0) (hmk.below hS0) hsq hsk).mono ?_
       rw [canF_q,canF_q]
       rintro _ w6 ⟨v6,rfl,e6,hb6⟩
       have hS6:=below_then hS0 hb6 hS0.size
       refine hKR.out _ _ (Or.inr hS6) ?_
       clear hKR KR
       (try simp only [Act.put,pu1,pu2,pu3,pu4,pu5,pu6])
       repeat ((first | (refine seq_takeP (v:=?_) rfl rfl rfl ?_ ?_;rotate_left;(· (intro _ hSw;go_simp;(try go_bits);(try with_reducible rfl)))) | (refine seq_take (v:=?_) rfl rfl rfl ?_ ?_;rotate_left;(· (intro _ hSw;go_simp;(try go_bits);(try with_reducible rfl)))) | refine seq_skip rfl rfl rfl ?_);(try simp only [Act.put,pu1,pu2,pu3,pu4,pu5,pu6]))
       refine seq_step rfl rfl (fun KR hKR=>?_)
       go_simp
       with_reducible refine (subF_any _ _ (canF zk) (canF (q * dk)) _ (hmz.below hS6) e6 hsz hsP).mono ?_
       rw [canF_q,canF_q]
       rintro _ w7 ⟨v7,rfl,e7,hb7⟩
       have hS7:=below_then hS6 hb7 hS6.size
       obtain ⟨B9,l9,k9,B9',l9',k9',rfl,_,_⟩:=id e7
       have hZ7:=hZ.below hS7
       obtain ⟨_,_,_,_,⟨c0,c1,c2,c3⟩,⟨f0,f1,f2,f3⟩,-⟩:=hZ7.at_ hgk
       refine hKR.out _ _ (Or.inr hS7) ?_
       clear hKR KR
       (try simp only [Act.put,pu1,pu2,pu3,pu4,pu5,pu6])
       repeat ((first | (refine seq_takeP (v:=?_) rfl rfl rfl ?_ ?_;rotate_left;(· (intro _ hSw;go_simp;(try go_bits);(try with_reducible rfl)))) | (refine seq_take (v:=?_) rfl rfl rfl ?_ ?_;rotate_left;(· (intro _ hSw;go_simp;(try go_bits);(try with_reducible rfl)))) | refine seq_skip rfl rfl rfl ?_);(try simp only [Act.put,pu1,pu2,pu3,pu4,pu5,pu6]))
       refine seq_step rfl rfl (fun KR hKR=>?_)
       go_simp
       refine hKR.out _ _ (Or.inl (by decide)) ?_
       clear hKR KR
       (try simp only [Act.put,pu1,pu2,pu3,pu4,pu5,pu6])
       refine seq_done ?_
       clear C0 C1 C2 C3 D0 D1 D2 D3 T0 T1 T2 T3 E0
       have hP8:=(HP3.out.below hS7).setZ hgzi hgz2 hgzm hkl e7 HNX.out
       clear hZ hZ7 hmq hmk hmz hS0 hS6 hS7 e6 e7 hb6 hb7 c0 c1 c2 c3 f0 f1 f2 f3 hsq hsk hsz hsP hgk HP3
       go_wp2
       go_roundw
       case rel=>exact ⟨k+1,by omega,by go_num,hP8⟩
       case measure=>simp [intOf];omega
    ·obtain rfl:k=p.right.length:=by omega
     obtain ⟨hE,-,-,hZ,-,⟨hGm,hmq⟩,-,hww3⟩:=hP
     obtain ⟨t0,t1,t2,t3⟩:=hGm.four
     have y7:=hE.cellAt 7 rfl
     obtain ⟨_,_,_,_,⟨c0,c1,c2,c3⟩,⟨f0,f1,f2,f3⟩,-⟩:=hZ.at_ (canL_get hi)
     clear hE hZ hGm
     go_upto_region 11 with (fail)
     have T0:=stab t0
     have T1:=stab t1
     have T2:=stab t2
     have T3:=stab t3
     have E0:=stab y7
     have hS0:=below_drew' wr
     clear t0 t1 t2 t3 y7
     refine region_seq 7 [0,1,2,3,4,5,6,7] (by kernel_rfl) (by kernel_rfl) ?_
     repeat ((first | (refine seq_takeP (v:=?_) rfl rfl rfl ?_ ?_;rotate_left;(· (intro _ hSw;go_simp;(try go_bits);(try with_reducible rfl)))) | (refine seq_take (v:=?_) rfl rfl rfl ?_ ?_;rotate_left;(· (intro _ hSw;go_simp;(try go_bits);(try with_reducible rfl)))) | refine seq_skip rfl rfl rfl ?_);(try simp only [Act.put,pu1,pu2,pu3,pu4,pu5,pu6]))
     refine seq_step rfl rfl (fun KR hKR=>?_)
     go_simp
     refine hKR.out _ _ (Or.inl (by decide)) ?_
     clear hKR KR
     (try simp only [Act.put,pu1,pu2,pu3,pu4,pu5,pu6])
     refine seq_done ?_
     clear T0 T1 T2 T3 E0
     have hP8:=(HP.out.setZ (z':=fun r=>if r=i then q else zP i q df zf p.right.length r) hgzi hgz2 hgzm hi hmq (fun r _=>rfl)).below (below_drew' _)
     clear HP hmq hS0 c0 c1 c2 c3 f0 f1 f2 f3
     generalize ((((wr.setCell ⟨gz,i * 4,none⟩ (.bool (canF q).num.neg)).setCell ⟨gz,i * 4+1,none⟩ (.slice Am nm cm)).setCell ⟨gz,i * 4+2,none⟩ (.bool (canF q).den.neg)).setCell ⟨gz,i * 4+3,none⟩ (.slice Am' nm' cm')).drew=W8 at *
     obtain ⟨hE,hI,hB,hZ,-,-,hU,hww⟩:=hP8
     obtain ⟨zz,hzz⟩:=get_someI (l:=s.basis) (i:=i) HIB.out
     obtain ⟨u0,u1,-,-⟩:=hI.at_ hzz
     have hcl:=HF.out.1.cols
     obtain ⟨hI9,k9⟩:=hI.set_ (k:=i) (z:=(j:Int)) HIB.out (by omega) (by omega)
     have hB9:=hB.farI (Others.of_set (g:=gb) (i:=i) (v:= .int .i64 (j:Int)) (w:=W8)) k9 hgbB
     have hZ9:=hZ.but k9 (by decide) (by decide)
     have hE9:=k9.bk hE (by decide)
     have hU9:=hU.setCell (p:=⟨gb,i,none⟩) hgb1 (.int .i64 (j:Int))
     have y4:=hE.cellAt 4 rfl
     clear hI hB hZ hU k9 hE hzz
     go_upto_region 13 with (fail)
     clear y4 u0 u1
     have hww9:w0.heap.size≤(W8.setCell ⟨gb,i,none⟩ (.int .i64 (j:Int))).heap.size:=by simpa using hww
     generalize W8.setCell ⟨gb,i,none⟩ (.int .i64 (j:Int))=W9 at *
     have y5:=hE9.cellAt 5 rfl
     have f5:=hE9.frozen 5
     have k10:=KeepBut.setCell hE9 5 (.int .i64 (s.pivots+1))
     have hE10:=hE9.set_ 5 (.int .i64 (s.pivots+1))
     have hEO:EngO U (W9.setCell ⟨e,5,none⟩ (.int .i64 (s.pivots+1))) e p (preS s i (j:Int)) K:=by
      refine ⟨A,n,c,_,n',c',A'',n'',c'',_,cb,gB,_,hE10,bB,bi,HG.out,⟨q1,q2,by have:=hww9;simp;omega,by have:=hww9;simp;omega⟩,hI9.but k10 (by decide),fun b hb=>?_,hB9.but k10 (by decide) (by decide) (by decide) (by decide) (by decide) (by decide) (by decide),?_,fun b hb=>?_,hU9.setCell (p:=⟨e,5,none⟩) q1 _⟩
      ·simp [Value.ownBlock] at hb;omega
      ·rw [zL_pre HR.out hi HIB.out HX0.out,← HQ.out,← HZF.out,← HDF.out]
       exact hZ9.but k10 (by decide) (by decide)
      ·simp [Value.ownBlock] at hb;omega
     clear hE9 hE10 hI9 hB9 hZ9 hU9 k10
     go_wp2_with fail
     clear y5 f5
     refine (settle_own U e p (preS s i (j:Int)) K _ hEO HF.out).mono ?_
     rintro _ w10 ⟨rfl,hEO2⟩
     clear hEO
     go_wp2
     go_ret
     exact .inl ⟨i,hlv,rfl,hEO2⟩
end
theorem IntsM.news {w:World} {ad:Addr} {n c:Nat} {zs:List Int} (h:IntsM w (.slice (some ad) n c) zs):∀j u,(zs.map fun z=>Value.int .i64 z)[j]? =some u→w.cell? (ad.add j)=some u:=by
 obtain ⟨A,c',hv,hc,hm,hrow,hrg⟩:=h
 injection hv with e1 e2 e3
 subst e1
 intro j u hj
 have hjl:j < zs.length:=by have h9:=(List.getElem?_eq_some_iff.1 hj).1;simpa using h9
 obtain ⟨b,off,e,hx⟩:=hrow (by omega)
 have e:=Option.some.inj e
 rw [e,addr_add0,hx j hjl]
 simp [List.getElem?_eq_getElem hjl] at hj
 rw [← hj]
 simp [List.getD,List.getElem?_eq_getElem hjl]
theorem cloneI_any (v:Value) (zs:List Int) (w:World) (h:IntsM w v zs) (hs:zs.length≤1099511627776):
 Calls Tryz.prog 83 #[v] w fun o w'=>∃v',o= .returned v'∧IntsO w.heap.size w' v' zs∧Below w.heap.size w w':=by
 have HI:=Lib.hid h
 obtain ⟨A,c,rfl,hc,hm⟩:=h.shape
 obtain ⟨n,hn⟩:∃n,n=zs.length:=⟨_,rfl⟩
 rw [← hn] at hc hs ⊢
 have HN:=Lib.hid hn
 have HRG:Hid (∀z∈zs,-9223372036854775808≤z∧z≤9223372036854775807):=Lib.hid (by obtain ⟨_,_,_,_,_,_,h⟩:=h;exact h)
 have heql:=fun (W:World) (a:Option Addr)=>Go.Lib.run_eql_slice_nil (P:=Tryz.prog) W 22 3 a n c 0 0 Tryz.underlying22
 obtain ⟨i0,hi,hz0,hz1,hz2⟩:=info_parts info_intT
 cases A with
 | none=>
  have hn0:n=0:=by
   rcases Nat.eq_zero_or_pos n with e | e
   ·exact e
   ·obtain ⟨b,off,_,e1,_⟩:=h.at_ (show 0 < zs.length by omega);cases e1
  subst hn0
  obtain rfl:zs=[]:=List.length_eq_zero_iff.1 HN.out.symm
  have:=heql w none
  clear heql h hn
  go_enter Tryz.func83,Tryz.ntmps83
  go_wp2
  go_ret
  exact ⟨_,rfl,IntsO.nil _ _,Below.refl _ _⟩
 | some ad=>
  have:=heql w (some ad)
  clear heql h hn
  go_enter Tryz.func83,Tryz.ntmps83
  go_wp2_with (at_builtin;refine wpList_append_own_at _ rfl (.tmp 5) (.tmp 6) _ rfl w.heap.size 3 i0 _ 1 8 Tryz.underlying22 hi hz0 hz1 hz2 rfl (by decide) (.slice (some ⟨w.heap.size,0,none⟩) 0 0) 0 [] rfl ?c0 ad n c (zs.map fun z=>Value.int .i64 z) rfl ?c1 ?c2 ?c6 ?c3 ?c4 ?c5 ?_)
  case c0=>exact World.ownsRow_made w #[] 0 (Nat.le_refl _) (by simp) (by simp)
  case c1=>simp;have:=HN.out;omega
  case c2=>
   have:=(HI.out.below ((Below.refl _ _).alloc (Nat.le_refl _) (.cells #[] 3))).news
   exact this
  case c3=>unfold maxLen;omega
  case c4=>omega
  case c5=>simp
  case c6=>intro u hu;simp at hu;obtain ⟨z,_,rfl⟩:=hu;rfl
  ·intro v' w1 hown hgrow _ _
   go_wp2
   go_ret
   refine ⟨_,rfl,⟨by have e:=HN.out;rw [e] at hown;simpa using hown,HRG.out⟩,((Below.refl _ _).alloc (Nat.le_refl _) _).grown hgrow (by simp) (fun k hk=>?_)⟩
   simp [Value.ownBlock] at hk
   omega
theorem state_any (U:World) (e:Nat) (p:LPd) (s:LSt) (K:Nat) (w:World) (h:EngO U w e p s K) (F:p.Ft K) (S:s.Fit p):
 Calls Tryz.prog 55 #[.pointer (some ⟨e,0,none⟩)] w fun o w'=>∃v',o= .returned v'∧StO w.heap.size w' v' s∧Below w.heap.size w w':=by
 obtain ⟨Ab,cb,base,bi,gB,vz,h1,h2,h3,h4⟩:=h.r
 obtain ⟨y3,y4,y5,-,-⟩:=h1.cells
 have hbl:s.basis.length≤1099511627776:=by rw [S.2];have:=F.2.1;omega
 obtain ⟨W,hW,hT,hb⟩:∃W,w.alloc (.cells #[.int .i64 0,.slice none 0 0,.int .i64 0] 29)=W∧Bk W w.heap.size 29 [.int .i64 0,.slice none 0 0,.int .i64 0]∧Below w.heap.size w W:=⟨_,rfl,Bk.new w _ _,below_new w _⟩
 have y3':=cell_keep hb y3
 have y4':=cell_keep hb y4
 have y5':=cell_keep hb y5
 have hib:=h2.below hb
 have hT0:=hT
 clear h h1 h2 h3 h4 y3 y4 y5 F S
 go_enter Tryz.func55,Tryz.ntmps55
 go_upto_region 1 with (fail)
 clear hW
 have C0:=stab y3'
 have C1:=stab y4'
 have C2:=stab y5'
 have hS0:=below_drew' W
 clear y3' y4' y5'
 refine region_seq 14 [0,1,2,3,4,5,6,7,9,10,11,12,8,13,14] (by kernel_rfl) (by kernel_rfl) ?_
 repeat ((first | (refine seq_takeP (v:=?_) rfl rfl rfl ?_ ?_;rotate_left;(· (intro _ hSw;go_simp;(try go_bits);(try with_reducible rfl)))) | (refine seq_take (v:=?_) rfl rfl rfl ?_ ?_;rotate_left;(· (intro _ hSw;go_simp;(try go_bits);(try with_reducible rfl)))) | refine seq_skip rfl rfl rfl ?_);(try simp only [Act.put,pu1,pu2,pu3,pu4,pu5,pu6]))
 refine seq_step rfl rfl (fun KR hKR=>?_)
 go_simp
 with_reducible refine (cloneI_any _ s.basis _ (hib.below hS0) hbl).mono ?_
 rintro _ w6 ⟨v6,rfl,e6,hb6⟩
 have hS6:=below_then hS0 hb6 hS0.size
 obtain ⟨A6,n6,c6,rfl⟩:=e6.sliceN
 have hT6:=hT0.later hS6
 obtain ⟨t0,t1,t2⟩:=hT6.three
 obtain ⟨f0,f1,f2⟩:=hT6.threeF
 refine hKR.out _ _ (Or.inr hS6) ?_
 clear hKR KR
 (try simp only [Act.put,pu1,pu2,pu3,pu4,pu5,pu6])
 repeat ((first | (refine seq_takeP (v:=?_) rfl rfl rfl ?_ ?_;rotate_left;(· (intro _ hSw;go_simp;(try go_bits);(try with_reducible rfl)))) | (refine seq_take (v:=?_) rfl rfl rfl ?_ ?_;rotate_left;(· (intro _ hSw;go_simp;(try go_bits);(try with_reducible rfl)))) | refine seq_skip rfl rfl rfl ?_);(try simp only [Act.put,pu1,pu2,pu3,pu4,pu5,pu6]))
 refine seq_step rfl rfl (fun KR hKR=>?_)
 go_simp
 refine hKR.out _ _ (Or.inl (by decide)) ?_
 clear hKR KR
 (try simp only [Act.put,pu1,pu2,pu3,pu4,pu5,pu6])
 refine seq_done ?_
 clear C0 C1 C2
 have k0:=KeepBut.setCell hT6 0 (.int .i64 s.phase)
 have g0:=hT6.set_ 0 (.int .i64 s.phase)
 have k1:=KeepBut.setCell g0 1 (.slice A6 n6 c6)
 have g1:=g0.set_ 1 (.slice A6 n6 c6)
 have k2:=KeepBut.setCell g1 2 (.int .i64 s.pivots)
 have g2:=g1.set_ 2 (.int .i64 s.pivots)
 have hO:=e6.but ((k0.trans k1).trans k2) (by decide)
 have hbz:=(((below_then hb hS6 hb.size).setCell (p:=⟨w.heap.size,0,none⟩) (Nat.le_refl _) (.int .i64 s.phase)).setCell (p:=⟨w.heap.size,1,none⟩) (Nat.le_refl _) (.slice A6 n6 c6)).setCell (p:=⟨w.heap.size,2,none⟩) (Nat.le_refl _) (.int .i64 s.pivots)
 go_wp2
 refine ret_cell Tryz.results55 Tryz.underlying29 (by kernel_rfl) rfl g2 rfl ?_
 exact ⟨_,rfl,⟨A6,n6,c6,rfl,hO.monoB (Nat.le_trans hb.size hS0.size)⟩,hbz⟩
end Go.Proofs.YtncmobkhenfhpaaGreat
