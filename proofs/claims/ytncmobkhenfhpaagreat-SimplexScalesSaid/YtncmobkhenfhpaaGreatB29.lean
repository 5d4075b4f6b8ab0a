/- Contracts and plain facts that the claim is built on, joined out of smaller texts; no condition. -/
import Derived.Test.YtncmobkhenfhpaaGreatB27
set_option linter.unusedVariables false
set_option linter.unusedSimpArgs false
set_option maxRecDepth 100000
set_option maxHeartbeats 40000000
namespace Go.Proofs.YtncmobkhenfhpaaGreat
open Go.RowKit
open Pl
attribute [local go_sem ↓] Go.wp_at_zero Go.wp_at_succ
namespace Pl
def subQ (es:List En) (k:Int) (z:Rat) (g:Nat→Rat):Nat→Nat→Rat
 | 0,i=>g i
 | t+1,i=>match es[t]? with
  | some e=>if e.idx≠k∧e.idx=(i:Int) then subQ es k z g t i - e.f.q * z else subQ es k z g t i
  | none=>subQ es k z g t i
theorem subQ_zero (es:List En) (k:Int) (g:Nat→Rat) (i:Nat):∀t,subQ es k 0 g t i=g i
 | 0=>rfl
 | t+1=>by
  have ih:=subQ_zero es k g i t
  unfold subQ
  split
  ·split
   ·rw [ih];grind
   ·exact ih
  ·exact ih
theorem subQ_eq {es:List En} {k:Int} {z:Rat} {g:Nat→Rat} {t i:Nat} {e:En} (h:es[t]? =some e) (hk:e.idx=k):subQ es k z g (t+1) i=subQ es k z g t i:=by
 conv=>lhs;unfold subQ
 simp only [h,hk,ne_eq,not_true_eq_false,false_and,if_false]
theorem subQ_ne {es:List En} {k:Int} {z:Rat} {g:Nat→Rat} {t i j:Nat} {e:En} (h:es[t]? =some e) (hk:e.idx≠k) (hj:e.idx=(j:Int)):subQ es k z g (t+1) i=if i=j then subQ es k z g t j - e.f.q * z else subQ es k z g t i:=by
 conv=>lhs;unfold subQ
 simp only [h]
 by_cases c:i=j
 ·subst c;rw [if_pos ⟨hk,hj⟩,if_pos rfl]
 ·rw [if_neg (fun q=>c (by omega)),if_neg c]
theorem subQ_own (es:List En) (k:Nat) (z:Rat) (g:Nat→Rat):∀t,subQ es k z g t k=g k
 | 0=>rfl
 | t+1=>by
  have ih:=subQ_own es k z g t
  conv=>lhs;unfold subQ
  split
  ·rw [if_neg (fun q=>q.1 q.2)];exact ih
  ·exact ih
end Pl
theorem Others.of_below {g:Option Nat} {w w':World} (h:Below w.heap.size w w'):Others g w w':=⟨h.size,fun b hb _=>h.block b hb⟩
def SubAt (base:Nat) (vz:Value) (N:Nat) (G:Nat→Rat) (w wr:World):Prop:=FrsO base wr vz (canL N G)∧KeepBut 48 w wr∧Others vz.ownBlock w wr∧Below base w wr
theorem subtract_own (vz vb:Value) (m:Nat) (q:Nat→Rat) (es:List En) (kn K J base:Nat) (w:World) (h1:FrsO base w vz (canL m q)) (h2:VecM w vb es) (hkn:kn < m) (hin:inR m es) (ha:∀(k:Nat) (e:En),es[k]? =some e→e.f.Rs K) (hz:∀t i,t≤es.length→i < m→Sz J (subQ es kn (q kn) q t i)) (hK:1≤K) (hs1:J≤34359738368) (hs2:K+J≤34359738368):
 Calls Tryz.prog 161 #[vz,vb,.int .i64 (kn:Int)] w fun o w'=>o= .returned (.tuple #[])∧SubAt base vz m (subQ es kn (q kn) q es.length) w w':=by
 obtain ⟨g,c0,rfl,hg1,hg2,hc1,hc2⟩:=h1.shape (by rw [canL_length];omega)
 obtain ⟨A,c,rfl,hc3,hc4⟩:=h2.shape
 rw [canL_length] at h1 hc1 ⊢
 have hbase:base≤w.heap.size:=by omega
 have szk:Sz J (q kn):=hz 0 kn (Nat.zero_le _) hkn
 have hsk:(canF (q kn)).Sm:=szk.rs.sm hs1
 obtain ⟨b1,o1,A3,n3,k3,A4,n4,k4,hA,_,⟨y0,y1,y2,y3⟩,hmk⟩:=h1.frs.elem (Below.refl _ _) (canL_get hkn)
 injection hA with hA
 injection hA with hA1 hA2
 subst hA1;subst hA2
 simp only [Nat.zero_add] at y0 y1 y2 y3
 have HKK:Hid (∀t,subQ es kn (q kn) q t kn=q kn):=Lib.hid fun t=>subQ_own es kn _ q t
 obtain ⟨z,hzq⟩:∃z,z=q kn:=⟨_,rfl⟩
 rw [← hzq] at hz szk hsk y0 y2 hmk HKK ⊢
 have HZQ0:=Lib.hid hzq
 clear hzq
 generalize hn:es.length=l at *
 have HN:=Lib.hid hn
 have HA:=Lib.hid ha
 have HI:=Lib.hid hin
 obtain ⟨TQ,hTQ⟩:∃TQ:Nat→Nat→Rat,TQ=subQ es kn z q:=⟨_,rfl⟩
 rw [← hTQ] at hz HKK ⊢
 have HTQ:=Lib.hid hTQ
 have HZ:=Lib.hid hz
 have HT0:q=TQ 0:=by rw [hTQ];rfl
 have H1:Hid (FrsO base w (.slice (some ⟨g,0,none⟩) m c0) (canL m (TQ 0))):=Lib.hid (by rw [← HT0];exact h1)
 have H2:=Lib.hid h2
 have hk1:(kn:Int) < m:=by omega
 clear hn ha hTQ hin hz h1 h2 HT0
 have hq3:qs z=0∨qs z=1∨qs z= -1:=by have:=qs_bd z;omega
 go_enter Tryz.func161,Tryz.ntmps161
 go_wp2_with fail
 refine (signF_any _ (canF z) _ hmk).mono ?_
 rw [canF_q]
 rintro e w1 ⟨rfl,hb1⟩
 have ST:Hid (SubAt base (.slice (some ⟨g,0,none⟩) m c0) m (TQ 0) w w1):=Lib.hid ⟨H1.out.below hb1,KeepBut.of_below hb1,Others.of_below hb1,hb1.mono hbase⟩
 by_cases hq0:qs z=0
 ·have HE:Hid (SubAt base (.slice (some ⟨g,0,none⟩) m c0) m (TQ l) w w1):=Lib.hid (by
   have e:∀i,i < m→TQ 0 i=TQ l i:=fun i _=>by rw [HTQ.out,qs_zero.1 hq0,subQ_zero,subQ_zero]
   rw [show SubAt base (.slice (some ⟨g,0,none⟩) m c0) m (TQ l) w w1=SubAt base (.slice (some ⟨g,0,none⟩) m c0) m (TQ 0) w w1 from by unfold SubAt;rw [canL_congr e]]
   exact ST.out)
  rw [hq0]
  go_wp2
  refine bodyPost_ret (results_none rfl _ _ _) rfl ?_
  exact ⟨rfl,HE.out⟩
 ·have hqs:(qs z==0)=false:=by simpa using hq0
  clear hq3 hq0 y0 y1 y2 y3 hmk
  go_wp2
  clear hqs
  go_loopw [16] (fun i wr=>∃k:Nat,k≤l∧i= .int .i64 k∧SubAt base (.slice (some ⟨g,0,none⟩) m c0) m (TQ k) w wr) (fun i _=>l - (intOf i).toNat)
  case atStart=>exact ⟨0,by omega,rfl,ST.out⟩
  case round=>
   obtain ⟨k,hk,rfl,hO,hkb,hot,hbe⟩:=hrel
   rcases Nat.lt_or_ge k l with hkl | hkl
   ·obtain ⟨e,he⟩:=get_someE (es:=es) (i:=k) (by rw [HN.out];exact hkl)
    have h2r:=H2.out.but hkb (by decide) (by decide)
    obtain ⟨b,off,A1,n1,k1,A2,n2,k2,rfl,hlt,⟨x0,x1,x2,x3,x4⟩,hmf⟩:=h2r.elem (Below.refl _ _) he
    obtain ⟨i0,i1⟩:=HI.out k e he
    obtain ⟨j,hj⟩:=Int.eq_ofNat_of_zero_le i0
    have hjm:j < m:=by omega
    have HEQ:Hid ((j:Int)=kn→∀i,TQ (k+1) i=TQ k i):=Lib.hid fun q i=>by rw [HTQ.out];exact subQ_eq he (by rw [hj];exact q)
    have HNE:Hid ((j:Int)≠kn→∀i,TQ (k+1) i=if i=j then TQ k j - e.f.q * z else TQ k i):=Lib.hid fun q i=>by rw [HTQ.out];exact subQ_ne he (by rw [hj];exact q) hj
    have hsf0:=HA.out k e he
    obtain ⟨ei,f⟩:=e
    simp only at *
    subst hj
    obtain ⟨W1,hW1,hV,hbn⟩:=box_en wr (.int .i64 (j:Int)) (.bool f.num.neg) (.slice A1 n1 k1) (.bool f.den.neg) (.slice A2 n2 k2)
    have hO1:=hO.below hbn
    have hm1:=hmf.below hbn
    have hkb1:=hkb.trans (KeepBut.of_below hbn)
    have hot1:=hot.trans (Others.of_below hbn)
    have hbe1:=below_then hbe hbn (Nat.le_trans hbase hot.1)
    obtain ⟨v0,v1,v2,v3,v4⟩:=hV.five
    have rj:=HZ.out k j hk hjm
    have hsf:=hsf0.sm (show K≤34359738368 by omega)
    have hsj:(canF (TQ k j)).Sm:=rj.rs.sm hs1
    have szM:=Sz_mul (hsf0.sz hK) szk
    have szP:(canF (f.q * z)).Sm:=(szM.sh (by omega)).sm
    have hn1:(k:Int) < l:=by omega
    have hn2:(j:Int) < m:=by omega
    have hzk:(canL m (TQ k))[kn]? =some (canF z):=by rw [canL_get hkn,HKK.out]
    have hzj:(canL m (TQ k))[j]? =some (canF (TQ k j)):=canL_get hjm
    generalize hqj:TQ k j=qj at *
    have HQJ:=Lib.hid hqj
    clear hqj
    clear he hO hkb hbe hot hmf szM hsf0 rj h2r
    by_cases hix:(j:Int)=kn
    ·have HE1:Hid (canL m (TQ k)=canL m (TQ (k+1))):=Lib.hid (canL_congr fun i _=>by rw [HEQ.out hix])
     have hix':((j:Int) !=kn)=false:=by simpa using hix
     clear hix hzj hzk
     rw [HE1.out] at hO1
     go_wp2
     clear hW1
     go_roundw
     case rel=>exact ⟨k+1,by omega,by go_num,hO1,hkb1,hot1,hbe1⟩
     case measure=>simp [intOf];omega
    ·have HS1:=Lib.hid (HNE.out hix)
     have hix':((j:Int) !=kn)=true:=by simpa using hix
     have HV:Hid ((canF qj).q - (canF (f.q * z)).q=TQ (k+1) j):=Lib.hid (by rw [canF_q,canF_q,HS1.out,if_pos rfl])
     have HCS:Hid ((canL m (TQ k)).set j (canF (TQ (k+1) j))=canL m (TQ (k+1))):=Lib.hid (by rw [canL_set hjm];exact canL_congr fun i _=>by rw [HS1.out i,HS1.out j,if_pos rfl])
     obtain ⟨b1,o1,B3,p3,q3,B4,p4,q4,hA,_,⟨y0,y1,y2,y3⟩,hmk⟩:=hO1.frs.elem (Below.refl _ _) hzk
     injection hA with hA
     injection hA with hA1 hA2
     subst hA1;subst hA2
     obtain ⟨b1,o1,D3,r3,s3,D4,r4,s4,hA,_,⟨z0,z1,z2,z3⟩,hmj⟩:=hO1.frs.elem (Below.refl _ _) hzj
     injection hA with hA
     injection hA with hA1 hA2
     subst hA1;subst hA2
     simp only [Nat.zero_add] at y0 y1 y2 y3 z0 z1 z2 z3
     clear hix
     go_upto_region 5 with (fail)
     clear hW1
     have C0:=stab y0
     have C1:=stab y1
     have C2:=stab y2
     have C3:=stab y3
     have D0:=stab v0
     have D1:=stab v1
     have D2:=stab v2
     have D3':=stab v3
     have D4':=stab v4
     have E0:=stab z0
     have E1:=stab z1
     have E2:=stab z2
     have E3:=stab z3
     have hS0:=below_drew' W1
     clear y0 y1 y2 y3 v0 v1 v2 v3 v4 z0 z1 z2 z3 x0 x1 x2 x3 x4
     refine region_seq 17 [0,1,2,3,4,5,6,7,8,9,10,11,12,13,14,15,16,17] (by kernel_rfl) (by kernel_rfl) ?_
     repeat ((first | (refine seq_takeP (v:=?_) rfl rfl rfl ?_ ?_;rotate_left;(· (intro _ hSw;go_simp;(try go_bits);(try with_reducible rfl)))) | (refine seq_take (v:=?_) rfl rfl rfl ?_ ?_;rotate_left;(· (intro _ hSw;go_simp;(try go_bits);(try with_reducible rfl)))) | refine seq_skip rfl rfl rfl ?_);(try simp only [Act.put,pu1,pu2,pu3,pu4,pu5,pu6]))
     refine seq_step rfl rfl (fun KR hKR=>?_)
     go_simp
     with_reducible refine (mulF_any _ _ f (canF z) _ (hm1.below hS0) (hmk.below hS0) hsf hsk).mono ?_
     rw [canF_q]
     rintro _ w6 ⟨v6,rfl,e6,hb6⟩
     have hS6:=below_then hS0 hb6 hS0.size
     refine hKR.out _ _ (Or.inr hS6) ?_
     clear hKR KR
     (try simp only [Act.put,pu1,pu2,pu3,pu4,pu5,pu6])
     repeat ((first | (refine seq_takeP (v:=?_) rfl rfl rfl ?_ ?_;rotate_left;(· (intro _ hSw;go_simp;(try go_bits);(try with_reducible rfl)))) | (refine seq_take (v:=?_) rfl rfl rfl ?_ ?_;rotate_left;(· (intro _ hSw;go_simp;(try go_bits);(try with_reducible rfl)))) | refine seq_skip rfl rfl rfl ?_);(try simp only [Act.put,pu1,pu2,pu3,pu4,pu5,pu6]))
     refine seq_step rfl rfl (fun KR hKR=>?_)
     go_simp
     with_reducible refine (subF_any _ _ (canF qj) (canF (f.q * z)) _ (hmj.below hS6) e6 hsj szP).mono ?_
     rw [HV.out]
     rintro _ w7 ⟨v7,rfl,e7,hb7⟩
     have hS7:=below_then hS6 hb7 hS6.size
     obtain ⟨E,l9,k9,E',l9',k9',rfl,_,_⟩:=id e7
     have hO7:=hO1.below hS7
     obtain ⟨_,_,_,_,⟨c0,c1,c2,c3⟩,⟨f0,f1,f2,f3⟩,_⟩:=hO7.at_ hzj
     refine hKR.out _ _ (Or.inr hS7) ?_
     clear hKR KR
     (try simp only [Act.put,pu1,pu2,pu3,pu4,pu5,pu6])
     repeat ((first | (refine seq_takeP (v:=?_) rfl rfl rfl ?_ ?_;rotate_left;(· (intro _ hSw;go_simp;(try go_bits);(try with_reducible rfl)))) | (refine seq_take (v:=?_) rfl rfl rfl ?_ ?_;rotate_left;(· (intro _ hSw;go_simp;(try go_bits);(try with_reducible rfl)))) | refine seq_skip rfl rfl rfl ?_);(try simp only [Act.put,pu1,pu2,pu3,pu4,pu5,pu6]))
     refine seq_step rfl rfl (fun KR hKR=>?_)
     go_simp
     refine hKR.out _ _ (Or.inl (by decide)) ?_
     clear hKR KR
     (try simp only [Act.put,pu1,pu2,pu3,pu4,pu5,pu6])
     refine seq_done ?_
     clear C0 C1 C2 C3 D0 D1 D2 D3' D4' E0 E1 E2 E3
     have hjl:j < (canL m (TQ k)).length:=by rw [canL_length];exact hjm
     obtain ⟨hO8,hkb8⟩:=hO7.set_ hjl e7
     rw [HCS.out] at hO8
     have hkb9:=(hkb1.trans (KeepBut.of_below hS7)).trans hkb8
     have hot8:=hot1.trans (Others.of_below hS7)
     have hbe9:=below_set4' (below_then hbe1 hS7 (Nat.le_trans hbase hot1.1)) hg1 (j * 4) (j * 4+1) (j * 4+2) (j * 4+3)
     go_wp2
     go_roundw
     case rel=>exact ⟨k+1,by omega,by go_num,hO8,hkb9,hot8.trans others_set4,hbe9 _ _ _ _⟩
     case measure=>simp [intOf];omega
   ·obtain rfl:k=l:=by omega
    have HE:Hid (SubAt base (.slice (some ⟨g,0,none⟩) m c0) m (TQ k) w wr):=Lib.hid ⟨hO,hkb,hot,hbe⟩
    clear hO hkb hot hbe
    go_wp2
    go_end0
    exact ⟨rfl,HE.out⟩
end Go.Proofs.YtncmobkhenfhpaaGreat
