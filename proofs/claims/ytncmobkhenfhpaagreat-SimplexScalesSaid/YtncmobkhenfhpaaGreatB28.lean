/- Contracts and plain facts that the claim is built on, joined out of smaller texts; no condition. -/
import Derived.Test.YtncmobkhenfhpaaGreatB29
set_option linter.unusedVariables false
set_option linter.unusedSimpArgs false
set_option maxRecDepth 100000
set_option maxHeartbeats 40000000
namespace Go.Proofs.YtncmobkhenfhpaaGreat
open Go.RowKit
open Pl
attribute [local go_sem ↓] Go.wp_at_zero Go.wp_at_succ
namespace Pl
def remQ (es:List En) (g:Nat→Rat) (k:Int) (q:Rat):Nat→Rat
 | 0=>q
 | t+1=>match es[t]? with
  | some e=>if e.idx=k then remQ es g k q t else remQ es g k q t - e.f.q * g e.idx.toNat
  | none=>remQ es g k q t
theorem remQ_eq {es:List En} {g:Nat→Rat} {k:Int} {q:Rat} {t:Nat} {e:En} (h:es[t]? =some e) (hk:e.idx=k):remQ es g k q (t+1)=remQ es g k q t:=by
 simp only [remQ,h,if_pos hk]
theorem remQ_ne {es:List En} {g:Nat→Rat} {k:Int} {q:Rat} {t:Nat} {e:En} (h:es[t]? =some e) (hk:e.idx≠k):remQ es g k q (t+1)=remQ es g k q t - e.f.q * g e.idx.toNat:=by
 simp only [remQ,h,if_neg hk]
end Pl
def RemAt (r:RF) (q:Rat) (n:Nat) (w:World) (wr:World):Prop:=
 ∃(f:RF) (A A':Option Addr) (l c l' c':Nat),f.q=q∧(f=r∨f=canF f.q)∧f.Rs n∧Bk wr w.heap.size 48 [.bool f.num.neg,.slice A l c,.bool f.den.neg,.slice A' l' c']∧FracM wr (.agg #[.bool f.num.neg,.slice A l c,.bool f.den.neg,.slice A' l' c']) f∧
  Bk wr (w.heap.size+1) 48 [.bool false,.slice none 0 0,.bool false,.slice none 0 0]∧Below w.heap.size w wr
theorem diagonal_any (v:Value) (es:List En) (e:En) (w:World) (h:VecM w v es) (he:es[es.length - 1]? =some e):
 Calls Tryz.prog 158 #[v] w fun o w'=>∃v',o= .returned v'∧FracM w' v' e.f∧Below w.heap.size w w':=by
 obtain ⟨A,c,rfl,hc1,hc2⟩:=h.shape
 have hp:0 < es.length:=by have:=(List.getElem?_eq_some_iff.1 he).1;omega
 obtain ⟨W,hW,hR,hbe⟩:=boxF1 w (.bool false) (.slice none 0 0) (.bool false) (.slice none 0 0)
 obtain ⟨b,off,A1,n1,k1,A2,n2,k2,rfl,hlt,⟨x0,x1,x2,x3,x4⟩,hmf⟩:=h.elem hbe he
 generalize hk:es.length - 1=k at *
 generalize hl:es.length=l at *
 have hkl:(l:Int) - 1=(k:Int):=by omega
 have hk1:(k:Int) < l:=by omega
 obtain ⟨ei,f⟩:=e
 simp only at *
 obtain ⟨c0,c1,c2,c3⟩:=hR.four
 obtain ⟨f0,f1,f2,f3⟩:=hR.fourF
 clear he hl hk h hp
 go_enter Tryz.func158,Tryz.ntmps158
 go_wp2
 refine ret_cell Tryz.results158 Tryz.underlying48 (by kernel_rfl) rfl (hR.set4 _ _ _ _) rfl ?_
 exact fin_frac hR hmf hbe (Nat.le_refl _)
theorem remainder_any (va vb vd:Value) (r:RF) (es:List En) (kk:Int) (ws:List RF) (K J:Nat) (w:World) (h1:FracM w va r) (h2:VecM w vb es) (h3:FrsM w vd ws) (hin:inR ws.length es) (hr:r.Rs J) (hJ:1≤J) (ha:∀(k:Nat) (e:En),es[k]? =some e→e.f.Rs K) (hb:RsL K ws) (hK:1≤K) (hs:J+es.length * (2 * K+1)≤34359738368) (hs2:2 * K≤34359738368):
 Calls Tryz.prog 157 #[va,vb,.int .i64 kk,vd] w fun o w'=>∃v' f,o= .returned v'∧FracM w' v' f∧f.q=remQ es (qAt ws) kk r.q es.length∧(f=r∨f=canF f.q)∧f.Rs (J+es.length * (2 * K+1))∧Below w.heap.size w w':=by
 obtain ⟨R1,m1,d1,R2,m2,d2,rfl,_,_⟩:=id h1
 obtain ⟨A,c,rfl,hc1,hc2⟩:=h2.shape
 obtain ⟨A',c',rfl,hc3,hc4⟩:=h3.shape
 generalize hn:es.length=l at *
 generalize hm:ws.length=m at *
 have HN:=Lib.hid hn
 have HM:=Lib.hid hm
 have HA:=Lib.hid ha
 have HB:=Lib.hid hb
 have HS:=Lib.hid hs
 have HI:=Lib.hid hin
 obtain ⟨TQ,hTQ⟩:∃TQ:Nat→Rat,TQ=remQ es (qAt ws) kk r.q:=⟨_,rfl⟩
 rw [← hTQ]
 have HTQ:=Lib.hid hTQ
 have HT0:r.q=TQ 0:=by rw [hTQ];rfl
 obtain ⟨TZ,hTZ⟩:∃TZ:Nat→Nat,TZ=fun k=>J+k * (2 * K+1):=⟨_,rfl⟩
 have HL:J+l * (2 * K+1)=TZ l:=by rw [hTZ]
 rw [HL]
 have HTZ:Hid (∀k,k≤l→1≤TZ k∧TZ k≤34359738368∧TZ (k+1)=TZ k+(2 * K)+1):=Lib.hid fun k hk=>by
  rw [hTZ]
  have:=Nat.mul_le_mul_right (2 * K+1) hk
  refine ⟨by dsimp only;omega,by dsimp only;omega,?_⟩
  simp only [Nat.succ_mul];omega
 have hr0:r.Rs (TZ 0):=by rw [hTZ];simpa using hr
 obtain ⟨W,hW,_,hX,hR,hbe⟩:=boxF2 w (.bool r.num.neg) (.slice R1 m1 d1) (.bool r.den.neg) (.slice R2 m2 d2) (.bool false) (.slice none 0 0) (.bool false) (.slice none 0 0)
 have ST:Hid (RemAt r (TQ 0) (TZ 0) w W):=Lib.hid ⟨r,R1,R2,m1,d1,m2,d2,HT0,.inl rfl,hr0,hX,h1.below hbe,hR,hbe⟩
 clear hn hm ha hb hs hTQ hin hr HT0 HL hTZ hr0 hX hR hbe h1
 go_enter Tryz.func157,Tryz.ntmps157
 go_wp2
 clear hW
 go_loopw [13] (fun i wr=>∃k:Nat,k≤l∧i= .int .i64 k∧RemAt r (TQ k) (TZ k) w wr) (fun i _=>l - (intOf i).toNat)
 case atStart=>exact ⟨0,by omega,rfl,ST.out⟩
 case round=>
  obtain ⟨k,hk,rfl,DK,C,C',p,q,p',q',hDq,hDc,hDr,hX,hF,hR,hbe⟩:=hrel
  have HDC:=Lib.hid hDc
  clear hDc
  rcases Nat.lt_or_ge k l with hkl | hkl
  ·obtain ⟨e,he⟩:=get_someE (es:=es) (i:=k) (by rw [HN.out];exact hkl)
   obtain ⟨b,off,A1,n1,k1,A2,n2,k2,rfl,hlt,hcA,hmf⟩:=h2.elem hbe he
   obtain ⟨i0,i1⟩:=HI.out k e he
   obtain ⟨j,hj⟩:=Int.eq_ofNat_of_zero_le i0
   obtain ⟨f',hf'⟩:=get_some (fs:=ws) (i:=j) (by rw [HM.out];omega)
   have HEQ:Hid ((j:Int)=kk→TQ (k+1)=TQ k):=Lib.hid fun g=>by rw [HTQ.out];exact remQ_eq he (by rw [hj];exact g)
   have HNE:Hid ((j:Int)≠kk→TQ (k+1)=TQ k - e.f.q * f'.q):=Lib.hid fun g=>by rw [HTQ.out,remQ_ne he (by rw [hj];exact g),hj,Int.toNat_natCast,qAt_some hf']
   have hsf0:=HA.out k e he
   obtain ⟨ei,f⟩:=e
   simp only at *
   subst hj
   obtain ⟨x0,x1,x2,x3,x4⟩:=hcA
   obtain ⟨W1,hW1,hV,hbn⟩:=box_en wr (.int .i64 (j:Int)) (.bool f.num.neg) (.slice A1 n1 k1) (.bool f.den.neg) (.slice A2 n2 k2)
   have hbe1:=below_then hbe hbn hbe.size
   obtain ⟨b',off',A3,n3,k3,A4,n4,k4,rfl,hlt',hcB,hm1'⟩:=h3.elem hbe1 hf'
   obtain ⟨u0,u1,u2,u3⟩:=id hcB
   obtain ⟨v0,v1,v2,v3,v4⟩:=hV.five
   have hm1:=hmf.below hbn
   have hX1:=hX.later hbn
   have hR1:=hR.later hbn
   have hF1:=hF.below hbn
   have hn1:(k:Int) < l:=by omega
   have hn2:(j:Int) < m:=by omega
   have hsf0':=HB.out j f' hf'
   have hsf:=hsf0.sm (by omega)
   have hsf':=hsf0'.sm (by omega)
   obtain ⟨tz1,tz2,tz3⟩:=HTZ.out k hk
   have tz4:TZ (k+1)=TZ k+(K+K)+1:=by omega
   have szM:=Sz_mul (hsf0.sz hK) (hsf0'.sz hK)
   have szP:(canF (f.q * f'.q)).Sm:=(szM.sh (by omega)).sm
   have szD:DK.Sm:=hDr.sm tz2
   have HDR:Hid (DK.Rs (TZ (k+1))):=Lib.hid (hDr.mono (by omega))
   have szS:Sz (TZ (k+1)) (DK.q - f.q * f'.q):=by rw [tz4];exact Sz_sub (hDr.sz tz1) szM
   have HDQ:=Lib.hid hDq
   clear he hf' hX hR hF hbe hmf hDq hDr szM tz1 tz2 tz3 tz4 hsf0 hsf0'
   by_cases hix:(j:Int)=kk
   ·have HE1:Hid (DK.q=TQ (k+1)):=Lib.hid (by rw [HEQ.out hix,HDQ.out])
    have hix':((j:Int) !=kk)=false:=by simpa using hix
    clear hix szS hcB
    go_wp2
    clear hW1
    go_roundw
    case rel=>exact ⟨k+1,by omega,by go_num,DK,C,C',p,q,p',q',HE1.out,HDC.out,HDR.out,hX1,hF1,hR1,hbe1⟩
    case measure=>simp [intOf];omega
   ·have HS1:=Lib.hid (HNE.out hix)
    have hix':((j:Int) !=kk)=true:=by simpa using hix
    have hq3:qs f'.q=0∨qs f'.q=1∨qs f'.q= -1:=by have:=qs_bd f'.q;omega
    have HV:Hid (DK.q - (canF (f.q * f'.q)).q=TQ (k+1)):=Lib.hid (by rw [canF_q,HS1.out,HDQ.out])
    have HZ:Hid ((canF (TQ (k+1))).Rs (TZ (k+1))):=Lib.hid (by rw [HS1.out,← HDQ.out];exact szS.rs)
    clear hix szS
    rcases hq3 with hq' | hq' | hq'
    ·have HE1:Hid (DK.q=TQ (k+1)):=Lib.hid (by rw [HS1.out,HDQ.out,qs_zero.1 hq'];grind)
     go_wp2_with fail
     clear hW1
     refine (signF_any _ f' _ hm1').mono ?_
     rw [hq']
     rintro e w5 ⟨rfl,hb5⟩
     have hX5:=hX1.later hb5
     have hR5:=hR1.later hb5
     have hF5:=hF1.below hb5
     have hbe5:=below_then hbe1 hb5 hbe1.size
     go_wp2
     go_roundw
     case rel=>exact ⟨k+1,by omega,by go_num,DK,C,C',p,q,p',q',HE1.out,HDC.out,HDR.out,hX5,hF5,hR5,hbe5⟩
     case measure=>simp [intOf];omega
    ·have hq:qs f'.q=1:=hq'
     go_wp2_with fail
     clear hW1
     refine (signF_any _ f' _ hm1').mono ?_
     rw [hq]
     rintro e w5 ⟨rfl,hb5⟩
     have hX5:=hX1.later hb5
     have hR5:=hR1.later hb5
     have hF5:=hF1.below hb5
     have hV5:=hV.later hb5
     have hbe5:=below_then hbe1 hb5 hbe1.size
     have hm5:=hm1.below hb5
     have hm5':=hm1'.below hb5
     obtain ⟨y0,y1,y2,y3⟩:=cell4_later hb5 hcB
     clear u0 u1 u2 u3 hq hcB x0 x1 x2 x3 x4 v0 v1 v2 v3 v4
     obtain ⟨v0,v1,v2,v3,v4⟩:=hV5.five
     obtain ⟨z0,z1,z2,z3⟩:=hX5.four
     go_upto_region 5 with (fail)
     have C0:=stab y0
     have C1:=stab y1
     have C2:=stab y2
     have C3:=stab y3
     have D0:=stab v0
     have D1:=stab v1
     have D2:=stab v2
     have D3:=stab v3
     have D4:=stab v4
     have E0:=stab z0
     have E1:=stab z1
     have E2:=stab z2
     have E3:=stab z3
     have hS0:=below_drew' w5
     clear y0 y1 y2 y3 v0 v1 v2 v3 v4 z0 z1 z2 z3
     refine region_seq 10 [0,1,2,3,4,5,6,7,8,9,10] (by kernel_rfl) (by kernel_rfl) ?_
     repeat ((first | (refine seq_takeP (v:=?_) rfl rfl rfl ?_ ?_;rotate_left;(· (intro _ hSw;go_simp;(try go_bits);(try with_reducible rfl)))) | (refine seq_take (v:=?_) rfl rfl rfl ?_ ?_;rotate_left;(· (intro _ hSw;go_simp;(try go_bits);(try with_reducible rfl)))) | refine seq_skip rfl rfl rfl ?_);(try simp only [Act.put,pu1,pu2,pu3,pu4,pu5,pu6]))
     refine seq_step rfl rfl (fun KR hKR=>?_)
     go_simp
     with_reducible refine (mulF_any _ _ f f' _ (hm5.below hS0) (hm5'.below hS0) hsf hsf').mono ?_
     rintro _ w6 ⟨v6,rfl,e6,hb6⟩
     have hS6:=below_then hS0 hb6 hS0.size
     refine hKR.out _ _ (Or.inr hS6) ?_
     clear hKR KR
     (try simp only [Act.put,pu1,pu2,pu3,pu4,pu5,pu6])
     repeat ((first | (refine seq_takeP (v:=?_) rfl rfl rfl ?_ ?_;rotate_left;(· (intro _ hSw;go_simp;(try go_bits);(try with_reducible rfl)))) | (refine seq_take (v:=?_) rfl rfl rfl ?_ ?_;rotate_left;(· (intro _ hSw;go_simp;(try go_bits);(try with_reducible rfl)))) | refine seq_skip rfl rfl rfl ?_);(try simp only [Act.put,pu1,pu2,pu3,pu4,pu5,pu6]))
     refine seq_step rfl rfl (fun KR hKR=>?_)
     go_simp
     with_reducible refine (subF_any _ _ DK (canF (f.q * f'.q)) _ (hF5.below hS6) e6 szD szP).mono ?_
     rw [HV.out]
     rintro _ w7 ⟨v7,rfl,e7,hb7⟩
     have hS7:=below_then hS6 hb7 hS6.size
     obtain ⟨E,l9,k9,E',l9',k9',rfl,_,_⟩:=id e7
     have hX7:=hX5.later hS7
     have hR7:=hR5.later hS7
     obtain ⟨c0,c1,c2,c3⟩:=hX7.four
     obtain ⟨f0,f1,f2,f3⟩:=hX7.fourF
     refine hKR.out _ _ (Or.inr hS7) ?_
     clear hKR KR
     (try simp only [Act.put,pu1,pu2,pu3,pu4,pu5,pu6])
     refine seq_step rfl rfl (fun KR hKR=>?_)
     go_simp
     refine hKR.out _ _ (Or.inl (by decide)) ?_
     clear hKR KR
     (try simp only [Act.put,pu1,pu2,pu3,pu4,pu5,pu6])
     refine seq_done ?_
     clear C0 C1 C2 C3 D0 D1 D2 D3 D4 E0 E1 E2 E3
     have bb:=below_then hbe5 hS7 hbe5.size
     have hR9:=hR7.far4 (show w.heap.size+1≠w.heap.size by omega)
     go_wp2
     go_roundw
     case rel=>exact ⟨k+1,by omega,by go_num,_,E,E',l9,k9,l9',k9',canF_q _,.inr (by rw [canF_q]),HZ.out,hX7.set4 _ _ _ _,e7.keep (hX7.keep4 (by decide) _ _ _ _),hR9 _ _ _ _,below_set4 bb (Nat.le_refl _) _ _ _ _⟩
     case measure=>simp [intOf];omega
    ·have hq:qs f'.q= -1:=hq'
     go_wp2_with fail
     clear hW1
     refine (signF_any _ f' _ hm1').mono ?_
     rw [hq]
     rintro e w5 ⟨rfl,hb5⟩
     have hX5:=hX1.later hb5
     have hR5:=hR1.later hb5
     have hF5:=hF1.below hb5
     have hV5:=hV.later hb5
     have hbe5:=below_then hbe1 hb5 hbe1.size
     have hm5:=hm1.below hb5
     have hm5':=hm1'.below hb5
     obtain ⟨y0,y1,y2,y3⟩:=cell4_later hb5 hcB
     clear u0 u1 u2 u3 hq hcB x0 x1 x2 x3 x4 v0 v1 v2 v3 v4
     obtain ⟨v0,v1,v2,v3,v4⟩:=hV5.five
     obtain ⟨z0,z1,z2,z3⟩:=hX5.four
     go_upto_region 5 with (fail)
     have C0:=stab y0
     have C1:=stab y1
     have C2:=stab y2
     have C3:=stab y3
     have D0:=stab v0
     have D1:=stab v1
     have D2:=stab v2
     have D3:=stab v3
     have D4:=stab v4
     have E0:=stab z0
     have E1:=stab z1
     have E2:=stab z2
     have E3:=stab z3
     have hS0:=below_drew' w5
     clear y0 y1 y2 y3 v0 v1 v2 v3 v4 z0 z1 z2 z3
     refine region_seq 10 [0,1,2,3,4,5,6,7,8,9,10] (by kernel_rfl) (by kernel_rfl) ?_
     repeat ((first | (refine seq_takeP (v:=?_) rfl rfl rfl ?_ ?_;rotate_left;(· (intro _ hSw;go_simp;(try go_bits);(try with_reducible rfl)))) | (refine seq_take (v:=?_) rfl rfl rfl ?_ ?_;rotate_left;(· (intro _ hSw;go_simp;(try go_bits);(try with_reducible rfl)))) | refine seq_skip rfl rfl rfl ?_);(try simp only [Act.put,pu1,pu2,pu3,pu4,pu5,pu6]))
     refine seq_step rfl rfl (fun KR hKR=>?_)
     go_simp
     with_reducible refine (mulF_any _ _ f f' _ (hm5.below hS0) (hm5'.below hS0) hsf hsf').mono ?_
     rintro _ w6 ⟨v6,rfl,e6,hb6⟩
     have hS6:=below_then hS0 hb6 hS0.size
     refine hKR.out _ _ (Or.inr hS6) ?_
     clear hKR KR
     (try simp only [Act.put,pu1,pu2,pu3,pu4,pu5,pu6])
     repeat ((first | (refine seq_takeP (v:=?_) rfl rfl rfl ?_ ?_;rotate_left;(· (intro _ hSw;go_simp;(try go_bits);(try with_reducible rfl)))) | (refine seq_take (v:=?_) rfl rfl rfl ?_ ?_;rotate_left;(· (intro _ hSw;go_simp;(try go_bits);(try with_reducible rfl)))) | refine seq_skip rfl rfl rfl ?_);(try simp only [Act.put,pu1,pu2,pu3,pu4,pu5,pu6]))
     refine seq_step rfl rfl (fun KR hKR=>?_)
     go_simp
     with_reducible refine (subF_any _ _ DK (canF (f.q * f'.q)) _ (hF5.below hS6) e6 szD szP).mono ?_
     rw [HV.out]
     rintro _ w7 ⟨v7,rfl,e7,hb7⟩
     have hS7:=below_then hS6 hb7 hS6.size
     obtain ⟨E,l9,k9,E',l9',k9',rfl,_,_⟩:=id e7
     have hX7:=hX5.later hS7
     have hR7:=hR5.later hS7
     obtain ⟨c0,c1,c2,c3⟩:=hX7.four
     obtain ⟨f0,f1,f2,f3⟩:=hX7.fourF
     refine hKR.out _ _ (Or.inr hS7) ?_
     clear hKR KR
     (try simp only [Act.put,pu1,pu2,pu3,pu4,pu5,pu6])
     refine seq_step rfl rfl (fun KR hKR=>?_)
     go_simp
     refine hKR.out _ _ (Or.inl (by decide)) ?_
     clear hKR KR
     (try simp only [Act.put,pu1,pu2,pu3,pu4,pu5,pu6])
     refine seq_done ?_
     clear C0 C1 C2 C3 D0 D1 D2 D3 D4 E0 E1 E2 E3
     have bb:=below_then hbe5 hS7 hbe5.size
     have hR9:=hR7.far4 (show w.heap.size+1≠w.heap.size by omega)
     go_wp2
     go_roundw
     case rel=>exact ⟨k+1,by omega,by go_num,_,E,E',l9,k9,l9',k9',canF_q _,.inr (by rw [canF_q]),HZ.out,hX7.set4 _ _ _ _,e7.keep (hX7.keep4 (by decide) _ _ _ _),hR9 _ _ _ _,below_set4 bb (Nat.le_refl _) _ _ _ _⟩
     case measure=>simp [intOf];omega
  ·obtain rfl:k=l:=by omega
   obtain ⟨x1,x2,x3,x4⟩:=hX.four
   obtain ⟨c0,c1,c2,c3⟩:=hR.four
   obtain ⟨f0,f1,f2,f3⟩:=hR.fourF
   have HQ:=Lib.hid hDq
   have HR:=Lib.hid hDr
   clear hDq hDr
   go_wp2
   refine ret_cell Tryz.results157 Tryz.underlying48 (by kernel_rfl) rfl (hR.set4 _ _ _ _) rfl ?_
   exact ⟨_,DK,rfl,hF.keep (hR.keep4 (by decide) _ _ _ _),HQ.out,HDC.out,HR.out,below_set4 hbe (Nat.le_succ _) _ _ _ _⟩
namespace Pl
theorem Indep.uniq {n:Nat} {cols:Mx} {x y b:Nat→Rat} (hi:Indep n cols) (hx:∀r,r < n→mulC n cols x r=b r) (hy:∀r,r < n→mulC n cols y r=b r):∀k,k < n→x k=y k:=by
 obtain ⟨z,hz,h1⟩:=solveQ_eq hi hx
 obtain ⟨z',hz',h2⟩:=solveQ_eq hi hy
 rw [hz] at hz'
 injection hz' with e
 subst e
 exact fun k hk=>by rw [← h1 k hk,h2 k hk]
theorem Indep.sz {n K:Nat} {cols:Mx} {x b:Nat→Rat} (hi:Indep n cols) (hc:∀r c,r < n→c < n→Sz K (cols c r)) (hb:∀r,r < n→Sz K (b r)) (hx:∀r,r < n→mulC n cols x r=b r):∀i,i < n→Sz (5^n * K) (x i):=by
 obtain ⟨z,hz,h1⟩:=solveQ_eq hi hx
 exact fun i hi'=>by rw [← h1 i hi'];exact solveQ_B hc hb hz i hi'
def posF (C:Nat→Nat) (i:Nat):Nat→Nat
 | 0=>0
 | s+1=>if C s=i then s else posF C i s
theorem posF_at {n m k:Nat} {C:Nat→Nat} (h:Inj n m C) (hk:k < m):posF C (C k) m=k:=by
 have key:∀t,k < t→t≤m→posF C (C k) t=k:=by
  intro t
  induction t with
  | zero=>intro h1;omega
  | succ t ih=>
   intro h1 h2
   unfold posF
   by_cases e:t=k
   ·subst e;rw [if_pos rfl]
   ·rw [if_neg fun g=>e (h.eq (by omega) hk g)];exact ih (by omega) (by omega)
 exact key m hk (Nat.le_refl _)
def xOf (C:Nat→Nat) (n:Nat) (X:Nat→Rat):Nat→Rat:=fun i=>X (posF C i n)
theorem xOf_at {n k:Nat} {C:Nat→Nat} {X:Nat→Rat} (h:Inj n n C) (hk:k < n):xOf C n X (C k)=X k:=by unfold xOf;rw [posF_at h hk]
def lastL (n j:Nat) (C:Nat→Nat) (X:Nat→Rat):List RF:=rfL n fun i=>if n - j≤posF C i n then canF (X (posF C i n)) else zeroF
theorem lastL_zero {n:Nat} {C:Nat→Nat} {X:Nat→Rat} (h:Inj n n C):lastL n 0 C X=List.replicate n zeroF:=by
 have:lastL n 0 C X=rfL n fun _=>zeroF:=rfL_congr fun i hi=>by
  obtain ⟨s,hs,rfl⟩:=h.onto hi
  rw [posF_at h hs,if_neg (by omega)]
 rw [this]
 refine List.ext_getElem? fun i=>?_
 rcases Nat.lt_or_ge i n with e | e
 ·rw [rfL_get e];simp [e]
 ·rw [List.getElem?_eq_none (by rw [rfL_length];exact e),List.getElem?_eq_none (by simp;exact e)]
theorem lastL_next {n j k:Nat} {C:Nat→Nat} {X:Nat→Rat} (h:Inj n n C) (hk:k+1+j=n):(lastL n j C X).set (C k) (canF (X k))=lastL n (j+1) C X:=by
 unfold lastL
 rw [rfL_set (h.1 k (by omega))]
 refine rfL_congr fun i hi=>?_
 obtain ⟨s,hs,rfl⟩:=h.onto hi
 rw [posF_at h hs]
 by_cases e:s=k
 ·subst e;rw [if_pos rfl,if_pos (by omega)]
 ·rw [if_neg fun g=>e (h.eq hs (by omega) g)]
  by_cases e2:n - j≤s
  ·rw [if_pos e2,if_pos (by omega)]
  ·rw [if_neg e2,if_neg (by omega)]
theorem lastL_all {n:Nat} {C:Nat→Nat} {X:Nat→Rat} (_h:Inj n n C):lastL n n C X=canL n (xOf C n X):=by
 unfold lastL
 rw [← rfL_can]
 exact rfL_congr fun i _=>by rw [if_pos (by omega)];rfl
theorem lastL_length {n j:Nat} {C:Nat→Nat} {X:Nat→Rat}:(lastL n j C X).length=n:=rfL_length _ _
def solQ (n:Nat) (R C:Nat→Nat) (L U:Mx) (b:Nat→Rat):Nat→Rat:=xOf C n (bwdN n U (fwdN L (fun p=>b (R p)) n) n)
def solT (n:Nat) (R C:Nat→Nat) (L U:Mx) (d:Nat→Rat):Nat→Rat:=xOf R n (ltN n L (utN U (fun k=>d (C k)) n) n)
theorem LuFac.solQ {n:Nat} {A:Mx} {R C:Nat→Nat} {L U:Mx} (h:LuFac n A R C L U) (b:Nat→Rat):∀r,r < n→mulC n (trM A) (solQ n R C L U b) r=b r:=by
 refine h.solve (z:=fwdN L (fun p=>b (R p)) n) (fwdN_solves h.l0 h.l1) fun s hs=>?_
 rw [← bwdN_solves (z:=fwdN L (fun p=>b (R p)) n) h.u0 h.u1 s hs]
 exact sumN_congr fun k hk=>by unfold Pl.solQ;rw [xOf_at h.ci hk]
theorem LuFac.solT {n:Nat} {A:Mx} {R C:Nat→Nat} {L U:Mx} (h:LuFac n A R C L U) (d:Nat→Rat):∀c,c < n→mulC n A (solT n R C L U d) c=d c:=by
 refine h.solveT (v:=utN U (fun k=>d (C k)) n) (utN_solves h.u0 h.u1) fun s hs=>?_
 rw [← ltN_solves (w:=utN U (fun k=>d (C k)) n) h.l0 h.l1 s hs]
 exact sumN_congr fun k hk=>by unfold Pl.solT;rw [xOf_at h.ri hk]
structure FacS (n E:Nat) (A:Mx) (R C:Nat→Nat) (L U:Mx):Prop where
 fac:LuFac n A R C L U
 n7:n≤7
 e1:1≤E
 e2:E≤4000000
 lB:∀t p,t < n→p < n→Sz (2 * E) (L t p)
 uB:∀k s,k < n→s < n→Sz (2 * E) (U k s)
theorem Sz_prod {n K J:Nat} {f g:Nat→Rat} (hn:n≤7) (hf:∀i,i < n→Sz K (f i)) (hg:∀i,i < n→Sz J (g i)):Sz (7 * (K+J)+8) (sumN (fun i=>f i * g i) n):=
 (Sz_sum fun i hi=>Sz_mul (hf i hi) (hg i hi)).mono (by
  have:=Nat.mul_le_mul_right (K+J+1) hn
  omega)
theorem FacS.zB {n E:Nat} {A:Mx} {R C:Nat→Nat} {L U:Mx} (h:FacS n E A R C L U) {b:Nat→Rat} (hX:∀i,i < n→Sz E (Pl.solQ n R C L U b i)):∀s,s < n→Sz (29 * E) (fwdN L (fun p=>b (R p)) n s):=by
 intro s hs
 have e1:=h.e1
 rw [← bwdN_solves (z:=fwdN L (fun p=>b (R p)) n) h.fac.u0 h.fac.u1 s hs]
 refine (Sz_prod (K:=2 * E) (J:=E) h.n7 (fun k hk=>h.uB k s hk hs) fun k hk=>?_).mono (by omega)
 have:=hX (C k) (h.fac.ci.1 k hk)
 unfold Pl.solQ at this
 rwa [xOf_at h.fac.ci hk] at this
theorem FacS.fB {n E J:Nat} {A:Mx} {R C:Nat→Nat} {L U:Mx} (h:FacS n E A R C L U) {b:Nat→Rat} (hb:∀i,i < n→Sz J (b i)) (hX:∀i,i < n→Sz E (Pl.solQ n R C L U b i)):
 ∀j i,j≤n→i < n→Sz (J+226 * E) (fwdN L (fun p=>b (R p)) j i):=by
 have e1:=h.e1
 have key:∀j i,j≤i→i < n→Sz (J+226 * E) (fwdN L (fun p=>b (R p)) j i):=fun j i hj hi=>by
  rw [fwdN_sum L _ i j hj]
  have hs:Sz (7 * (2 * E+29 * E)+8) (sumN (fun s=>L s i * fwdN L (fun p=>b (R p)) s s) j):=Sz_prod (by have:=h.n7;omega) (fun s hs=>h.lB s i (by omega) hi) fun s hs=>by
   rw [← fwdN_at (show s≤n by omega)];exact h.zB hX s (by omega)
  exact (Sz_sub (hb (R i) (h.fac.ri.1 i hi)) hs).mono (by omega)
 intro j i hj hi
 rcases Nat.lt_or_ge i j with g | g
 ·rw [fwdN_at (show i≤j by omega)];exact key i i (Nat.le_refl _) hi
 ·exact key j i g hi
theorem FacS.bB {n E:Nat} {A:Mx} {R C:Nat→Nat} {L U:Mx} (h:FacS n E A R C L U) {b:Nat→Rat} (hX:∀i,i < n→Sz E (Pl.solQ n R C L U b i)):
 ∀j i,j≤n→i < n→Sz (59 * E) (bwdN n U (fwdN L (fun p=>b (R p)) n) j i):=by
 have e1:=h.e1
 have hx:∀k,k < n→Sz E (bwdN n U (fwdN L (fun p=>b (R p)) n) n k):=fun k hk=>by
  have:=hX (C k) (h.fac.ci.1 k hk)
  unfold Pl.solQ at this
  rwa [xOf_at h.fac.ci hk] at this
 intro j i hj hi
 rcases Nat.lt_or_ge (j+i) n with g | g
 ·rw [bwdN_sum n U _ i j g]
  have hs:Sz (7 * (2 * E+E)+8) (sumN (fun t=>U (n - 1 - t) i * bwdN n U (fwdN L (fun p=>b (R p)) n) n (n - 1 - t)) j):=Sz_prod (by have:=h.n7;omega) (fun t ht=>h.uB _ _ (by omega) hi) fun t ht=>hx _ (by omega)
  exact (Sz_sub (h.zB hX i hi) hs).mono (by omega)
 ·rw [bwdN_at hi (by omega) hj,← bwdN_at hi (by omega) (Nat.le_refl n)]
  exact (hx i hi).mono (by omega)
theorem FacS.wB {n E:Nat} {A:Mx} {R C:Nat→Nat} {L U:Mx} (h:FacS n E A R C L U) {d:Nat→Rat} (hY:∀i,i < n→Sz E (Pl.solT n R C L U d i)):∀s,s < n→Sz (29 * E) (utN U (fun k=>d (C k)) n s):=by
 intro s hs
 have e1:=h.e1
 rw [← ltN_solves (w:=utN U (fun k=>d (C k)) n) h.fac.l0 h.fac.l1 s hs]
 refine (Sz_prod (K:=2 * E) (J:=E) h.n7 (fun p hp=>h.lB s p hs hp) fun p hp=>?_).mono (by omega)
 have:=hY (R p) (h.fac.ri.1 p hp)
 unfold Pl.solT at this
 rwa [xOf_at h.fac.ri hp] at this
theorem FacS.tB {n E:Nat} {A:Mx} {R C:Nat→Nat} {L U:Mx} (h:FacS n E A R C L U) {d:Nat→Rat} (hY:∀i,i < n→Sz E (Pl.solT n R C L U d i)):
 ∀j i,j≤n→i < n→Sz (29 * E) (ltN n L (utN U (fun k=>d (C k)) n) j i):=by
 have e1:=h.e1
 intro j i hj hi
 rcases Nat.lt_or_ge (j+i) n with g | g
 ·rw [ltN_start g];exact h.wB hY i hi
 ·rw [ltN_at hi (by omega) hj,← ltN_at hi (show n - i≤n by omega) (Nat.le_refl n)]
  have:=hY (R i) (h.fac.ri.1 i hi)
  unfold Pl.solT at this
  rw [xOf_at h.fac.ri hi] at this
  exact this.mono (by omega)
theorem subQ_left {es ds:List En} {k:Int} {z:Rat} {g:Nat→Rat} {i:Nat}:∀{t:Nat},t≤es.length→subQ (es++ds) k z g t i=subQ es k z g t i
 | 0,_=>rfl
 | t+1,h=>by
  have ih:=subQ_left (es:=es) (ds:=ds) (k:=k) (z:=z) (g:=g) (i:=i) (t:=t) (by omega)
  conv=>lhs;unfold subQ
  conv=>rhs;unfold subQ
  rw [List.getElem?_append_left (by omega),ih]
theorem subQ_spV (f:Nat→Rat) (k:Nat) (z:Rat) (g:Nat→Rat) (i:Nat):∀n,subQ (spV f n) (k:Int) z g (spV f n).length i=if i < n∧i≠k then g i - f i * z else g i
 | 0=>by rw [if_neg (by omega)];rfl
 | n+1=>by
  have ih:=subQ_spV f k z g i n
  by_cases h0:f n=0
  ·rw [spV_skip h0,ih]
   by_cases e:i=n
   ·subst e
    rw [if_neg (by omega),h0]
    by_cases e2:i≠k
    ·rw [if_pos ⟨by omega,e2⟩];grind
    ·rw [if_neg (by omega)]
   ·by_cases e2:i < n∧i≠k
    ·rw [if_pos e2,if_pos ⟨by omega,e2.2⟩]
    ·rw [if_neg e2,if_neg (by omega)]
  ·rw [spV_next h0,List.length_append]
   show subQ _ _ _ _ ((spV f n).length+1) i=_
   conv=>lhs;unfold subQ
   rw [List.getElem?_append_right (Nat.le_refl _),Nat.sub_self]
   show (if ((n:Int)≠(k:Int)∧(n:Int)=(i:Int)) then _ else _)=_
   rw [subQ_left (Nat.le_refl _),ih,canF_q]
   by_cases e:i=n
   ·subst e
    rw [if_neg (show ¬(i < i∧i≠k) by omega)]
    by_cases e2:i≠k
    ·rw [if_pos ⟨by omega,rfl⟩,if_pos ⟨by omega,e2⟩]
    ·rw [if_neg (by omega),if_neg (by omega)]
   ·rw [if_neg (by omega)]
    by_cases e2:i < n∧i≠k
    ·rw [if_pos e2,if_pos ⟨by omega,e2.2⟩]
    ·rw [if_neg e2,if_neg (by omega)]
theorem subQ_mid (f:Nat→Rat) (k:Nat) (z:Rat) (g:Nat→Rat) (i:Nat):∀n t,t≤(spV f n).length→subQ (spV f n) (k:Int) z g t i=g i∨(i < n∧i≠k∧subQ (spV f n) (k:Int) z g t i=g i - f i * z)
 | 0,t,h=>by
  have h':t≤0:=h
  obtain rfl:t=0:=by omega
  exact .inl rfl
 | n+1,t,h=>by
  rcases Nat.eq_or_lt_of_le h with e | e
  ·have:=subQ_spV f k z g i (n+1)
   rw [← e] at this
   rw [this]
   by_cases e2:i < n+1∧i≠k
   ·rw [if_pos e2];exact .inr ⟨e2.1,e2.2,rfl⟩
   ·rw [if_neg e2];exact .inl rfl
  ·have ht:t≤(spV f n).length:=by
    by_cases h0:f n=0
    ·rw [spV_skip h0] at e;omega
    ·rw [spV_next h0,List.length_append] at e
     simp at e
     omega
   have hs:subQ (spV f (n+1)) (k:Int) z g t i=subQ (spV f n) (k:Int) z g t i:=by
    by_cases h0:f n=0
    ·rw [spV_skip h0]
    ·rw [spV_next h0];exact subQ_left ht
   rw [hs]
   rcases subQ_mid f k z g i n t ht with g1 | ⟨g1,g2,g3⟩
   ·exact .inl g1
   ·exact .inr ⟨by omega,g2,g3⟩
theorem remQ_left {es ds:List En} {g:Nat→Rat} {k:Int} {q:Rat}:∀{t:Nat},t≤es.length→remQ (es++ds) g k q t=remQ es g k q t
 | 0,_=>rfl
 | t+1,h=>by
  have ih:=remQ_left (es:=es) (ds:=ds) (k:=k) (g:=g) (q:=q) (t:=t) (by omega)
  conv=>lhs;unfold remQ
  conv=>rhs;unfold remQ
  rw [List.getElem?_append_left (by omega),ih]
theorem remQ_spV (f g:Nat→Rat) (k:Nat) (q:Rat):∀n,remQ (spV f n) g (k:Int) q (spV f n).length=q - sumN (fun i=>if i=k then 0 else f i * g i) n
 | 0=>by rw [sumN_zero];show q=_;grind
 | n+1=>by
  have ih:=remQ_spV f g k q n
  rw [sumN_succ]
  by_cases h0:f n=0
  ·rw [spV_skip h0,ih,h0]
   by_cases e:n=k
   ·rw [if_pos e];grind
   ·rw [if_neg e];grind
  ·rw [spV_next h0,List.length_append]
   show remQ _ _ _ _ ((spV f n).length+1)=_
   conv=>lhs;unfold remQ
   rw [List.getElem?_append_right (Nat.le_refl _),Nat.sub_self]
   show (if ((n:Int)=(k:Int)) then _ else _ - (canF (f n)).q * g (Int.toNat (n:Int)))=_
   rw [remQ_left (Nat.le_refl _),ih,canF_q,Int.toNat_natCast]
   by_cases e:n=k
   ·rw [if_pos (by omega),if_pos e];grind
   ·rw [if_neg (by omega),if_neg e];grind
theorem fwd_sub {n j i:Nat} {L:Mx} {b:Nat→Rat} (h0:∀t p,t < n→p < n→p < t→L t p=0) (hj:j < n) (hi:i < n):(if i < n∧i≠j then fwdN L b j i - L j i * fwdN L b j j else fwdN L b j i)=fwdN L b (j+1) i:=by
 rw [fwdN_succ]
 rcases Nat.lt_trichotomy i j with e | e | e
 ·rw [if_pos ⟨hi,by omega⟩,if_neg (by omega),h0 j i hj hi e];grind
 ·rw [if_neg (by omega),if_neg (by omega)]
 ·rw [if_pos ⟨hi,by omega⟩,if_pos e]
def divAt (g:Nat→Rat) (k:Nat) (u:Rat):Nat→Rat:=fun i=>if i=k then g k / u else g i
theorem bwd_sub {n j k i:Nat} {U:Mx} {z:Nat→Rat} (h0:∀k s,k < n→s < n→k < s→U k s=0) (hk:k+1+j=n) (hi:i < n):
 (if i < n∧i≠k then divAt (bwdN n U z j) k (U k k) i - U k i * divAt (bwdN n U z j) k (U k k) k else divAt (bwdN n U z j) k (U k k) i)=bwdN n U z (j+1) i:=by
 rw [bwdN_succ,show n - 1 - j=k by omega]
 unfold divAt
 rcases Nat.lt_trichotomy i k with e | e | e
 ·rw [if_pos ⟨hi,by omega⟩,if_neg (show i≠k by omega),if_neg (show i≠k by omega),if_pos e,if_pos rfl]
 ·subst e;rw [if_neg (by omega),if_pos rfl,if_pos rfl]
 ·rw [if_pos ⟨hi,by omega⟩,if_neg (show i≠k by omega),if_neg (show i≠k by omega),if_neg (show ¬i < k by omega),if_pos rfl,h0 k i (by omega) hi e];grind
def firstL (n k:Nat) (w:Nat→Rat):List RF:=rfL n fun i=>if i < k then canF (w i) else zeroF
theorem firstL_length {n k:Nat} {w:Nat→Rat}:(firstL n k w).length=n:=rfL_length _ _
theorem firstL_zero {n:Nat} {w:Nat→Rat}:firstL n 0 w=List.replicate n zeroF:=by
 unfold firstL
 refine List.ext_getElem? fun i=>?_
 rcases Nat.lt_or_ge i n with e | e
 ·rw [rfL_get e,if_neg (by omega)];simp [e]
 ·rw [List.getElem?_eq_none (by rw [rfL_length];exact e),List.getElem?_eq_none (by simp;exact e)]
theorem firstL_next {n k:Nat} {w:Nat→Rat} (hk:k < n):(firstL n k w).set k (canF (w k))=firstL n (k+1) w:=by
 unfold firstL
 rw [rfL_set hk]
 exact rfL_congr fun i _=>by
  by_cases e:i=k
  ·subst e;rw [if_pos rfl,if_pos (by omega)]
  ·rw [if_neg e]
   by_cases e2:i < k
   ·rw [if_pos e2,if_pos (by omega)]
   ·rw [if_neg e2,if_neg (by omega)]
theorem firstL_all {n:Nat} {w:Nat→Rat}:firstL n n w=canL n w:=by
 unfold firstL
 rw [← rfL_can]
 exact rfL_congr fun i hi=>if_pos hi
theorem firstL_q {n k i:Nat} {w:Nat→Rat} (hi:i < n):qAt (firstL n k w) i=if i < k then w i else 0:=by
 unfold firstL
 rw [rfL_qAt hi]
 by_cases e:i < k
 ·rw [if_pos e,if_pos e,canF_q]
 ·rw [if_neg e,if_neg e,zeroF_q]
end Pl
namespace Pl
theorem LuInv.facS {n K:Nat} {A a:Mx} {R C:Nat→Nat} {m:Mx} (h:LuInv n n A a R C m) (hn:n≤7) (hK:1≤K) (hE:5^n * K≤4000000) (ha:∀i j,i < n→j < n→Sz (5^n * K) (a i j)) (hm:∀s i,s < n→i < n→Sz (2 * (5^n * K)) (m s i)):
 FacS n (5^n * K) A R C (luL R m) (luU R C a) where
 fac:=h.fac
 n7:=hn
 e1:=Nat.mul_pos (Nat.pow_pos (by decide)) hK
 e2:=hE
 lB:=fun t p ht hp=>by
  have e1:1≤5^n * K:=Nat.mul_pos (Nat.pow_pos (by decide)) hK
  unfold luL
  split
  ·exact Sz_one.mono (by omega)
  ·split
   ·exact hm t _ ht (h.ri.1 p hp)
   ·exact Sz_zero.mono (by omega)
 uB:=fun k s hk hs=>by
  have e1:1≤5^n * K:=Nat.mul_pos (Nat.pow_pos (by decide)) hK
  unfold luU
  split
  ·exact (ha _ _ (h.ri.1 s hs) (h.ci.1 k hk)).mono (by omega)
  ·exact Sz_zero.mono (by omega)
theorem elim_B {n t K:Nat} {a a' m':Mx} {r c:Nat} {P:Nat→Prop} {Q:Nat→Prop} [DecidablePred P] [DecidablePred Q] (hK:1≤K) (hr:r < n) (hc:c < n) (h:∀i j,i < n→j < n→Sz (5^t * K) (a i j)) (hmt:∀i,i < n→m' t i=if P i then a i c / a r c else 0)
 (ha:∀i j,i < n→j < n→a' i j=if P i∧Q j then a i j - m' t i * a r j else a i j):(∀i,i < n→Sz (2 * (5^t * K)) (m' t i))∧∀i j,i < n→j < n→Sz (5^(t+1) * K) (a' i j):=by
 have e1:1≤5^t * K:=Nat.mul_pos (Nat.pow_pos (by decide)) hK
 have e2:5^(t+1) * K=5 * (5^t * K):=by rw [Nat.pow_succ];ac_rfl
 have hm:∀i,i < n→Sz (2 * (5^t * K)) (m' t i):=fun i hi=>by
  rw [hmt i hi]
  split
  ·exact (Sz_div (h i c hi hc) (h r c hr hc)).mono (by omega)
  ·exact Sz_zero.mono (by omega)
 refine ⟨hm,fun i j hi hj=>?_⟩
 rw [ha i j hi hj,e2]
 split
 ·exact (Sz_sub (h i j hi hj) (Sz_mul (hm i hi) (h r j hr hj))).mono (by omega)
 ·exact (h i j hi hj).mono (by omega)
theorem Indep.trQ {n:Nat} {cols:Mx} (h:Indep n cols):Indep n (trM cols):=by
 intro y hy k hk
 obtain ⟨x,hx⟩:=some_of_indep h (fun r=>if r=k then 1 else 0)
 have h1:=(solveQ_iff hx x).2 fun _ _=>rfl
 have e1:y k=sumN (fun r=>y r * mulC n cols x r) n:=by
  rw [sumN_congr (g:=fun r=>if r=k then y k else 0) fun r hr=>by
   rw [h1 r hr]
   by_cases e:r=k
   ·subst e;rw [if_pos rfl,if_pos rfl];grind
   ·rw [if_neg e,if_neg e];grind,sumN_one hk]
 have e2:sumN (fun r=>y r * mulC n cols x r) n=sumN (fun r=>sumN (fun c=>x c * (cols c r * y r)) n) n:=sumN_congr fun r hr=>by
  unfold mulC
  rw [← sumN_mul]
  exact sumN_congr fun c _=>by grind
 rw [e1,e2,sumN_swap]
 exact sumN_all0 fun c hc=>by
  rw [sumN_mul]
  have:=hy c hc
  have e3:sumN (fun r=>cols c r * y r) n=0:=this
  rw [e3];grind
structure Ups (n K T:Nat) (k:Nat→Nat) (im V:Mx) (Cs:Nat→Mx):Prop where
 kn:∀t,t < T→k t < n
 step:∀t,t < T→Cs (t+1)=repC (Cs t) (k t) (V t)
 img:∀t,t < T→∀r,r < n→mulC n (Cs t) (im t) r=V t r
 nz:∀t,t < T→im t (k t)≠0
 szV:∀t,t < T→∀r,r < n→Sz K (V t r)
 szC:∀r c,r < n→c < n→Sz K (Cs 0 c r)
 ind:Indep n (Cs 0)
theorem Ups.indep {n K T:Nat} {k:Nat→Nat} {im V:Mx} {Cs:Nat→Mx} (h:Ups n K T k im V Cs):∀t,t≤T→Indep n (Cs t)
 | 0,_=>h.ind
 | t+1,ht=>by rw [h.step t (by omega)];exact indep_rep (h.kn t (by omega)) (h.indep t (by omega)) (h.img t (by omega)) (h.nz t (by omega))
theorem Ups.sz {n K T:Nat} {k:Nat→Nat} {im V:Mx} {Cs:Nat→Mx} (h:Ups n K T k im V Cs):∀t,t≤T→∀r c,r < n→c < n→Sz K (Cs t c r)
 | 0,_=>h.szC
 | t+1,ht=>fun r c hr hc=>by
  rw [h.step t (by omega)]
  unfold repC
  split
  ·exact h.szV t (by omega) r hr
  ·exact h.sz t (by omega) r c hr hc
theorem Ups.imB {n K T:Nat} {k:Nat→Nat} {im V:Mx} {Cs:Nat→Mx} (h:Ups n K T k im V Cs):∀t,t < T→∀i,i < n→Sz (5^n * K) (im t i):=fun t ht=>(h.indep t (by omega)).sz (h.sz t (by omega)) (h.szV t ht) (h.img t ht)
theorem Ups.zero {n K:Nat} {cols:Mx} (hs:∀r c,r < n→c < n→Sz K (cols c r)) (hi:Indep n cols) (k:Nat→Nat) (im V:Mx):Ups n K 0 k im V (fun _=>cols) where
 kn:=fun t ht=>absurd ht (by omega)
 step:=fun t ht=>absurd ht (by omega)
 img:=fun t ht=>absurd ht (by omega)
 nz:=fun t ht=>absurd ht (by omega)
 szV:=fun t ht=>absurd ht (by omega)
 szC:=hs
 ind:=hi
def putN {α:Type} (f:Nat→α) (T:Nat) (x:α):Nat→α:=fun t=>if t=T then x else f t
theorem putN_old {α:Type} {f:Nat→α} {T t:Nat} {x:α} (h:t < T):putN f T x t=f t:=if_neg (by omega)
theorem putN_new {α:Type} {f:Nat→α} {T:Nat} {x:α}:putN f T x T=x:=if_pos rfl
theorem Ups.snoc {n K T:Nat} {k:Nat→Nat} {im V:Mx} {Cs:Nat→Mx} (h:Ups n K T k im V Cs) {q:Nat} {v x:Nat→Rat} (hq:q < n) (hx:∀r,r < n→mulC n (Cs T) x r=v r) (h0:x q≠0) (hv:∀r,r < n→Sz K (v r)):
 Ups n K (T+1) (putN k T q) (putN im T x) (putN V T v) (putN Cs (T+1) (repC (Cs T) q v)) where
 kn:=fun t ht=>by
  by_cases e:t=T
  ·subst e;rw [putN_new];exact hq
  ·rw [putN_old (by omega)];exact h.kn t (by omega)
 step:=fun t ht=>by
  by_cases e:t=T
  ·subst e;rw [putN_new,putN_new,putN_new,putN_old (by omega)]
  ·rw [putN_old (by omega),putN_old (by omega),putN_old (by omega),putN_old (by omega)];exact h.step t (by omega)
 img:=fun t ht=>by
  by_cases e:t=T
  ·subst e;rw [putN_new,putN_new,putN_old (by omega)];exact hx
  ·rw [putN_old (by omega),putN_old (by omega),putN_old (by omega)];exact h.img t (by omega)
 nz:=fun t ht=>by
  by_cases e:t=T
  ·subst e;rw [putN_new,putN_new];exact h0
  ·rw [putN_old (by omega),putN_old (by omega)];exact h.nz t (by omega)
 szV:=fun t ht=>by
  by_cases e:t=T
  ·subst e;rw [putN_new];exact hv
  ·rw [putN_old (by omega)];exact h.szV t (by omega)
 szC:=fun r c hr hc=>by rw [putN_old (by omega)];exact h.szC r c hr hc
 ind:=by rw [putN_old (by omega)];exact h.ind
def upd1 (k:Nat) (im x:Nat→Rat):Nat→Rat:=fun i=>if i=k then x k / im k else x i - im i * (x k / im k)
theorem upd1_zero {k:Nat} {im x:Nat→Rat} (h:x k=0) (i:Nat):upd1 k im x i=x i:=by
 unfold upd1
 rw [h,show (0:Rat) / im k=0 by rw [Rat.div_def];grind]
 split
 ·rename_i e;rw [e,h]
 ·grind
def xN (k:Nat→Nat) (im:Mx) (x:Nat→Rat):Nat→Nat→Rat
 | 0=>x
 | t+1=>upd1 (k t) (im t) (xN k im x t)
theorem Ups.solves {n K T:Nat} {k:Nat→Nat} {im V:Mx} {Cs:Nat→Mx} (h:Ups n K T k im V Cs) {x b:Nat→Rat} (hx:∀r,r < n→mulC n (Cs 0) x r=b r):∀t,t≤T→∀r,r < n→mulC n (Cs t) (xN k im x t) r=b r
 | 0,_=>hx
 | t+1,ht=>by
  rw [h.step t (by omega)]
  refine mulC_rep (h.kn t (by omega)) (h.img t (by omega)) (h.nz t (by omega)) (h.solves hx t (by omega)) ?_ fun i _ hne=>?_
  ·show upd1 _ _ _ _=_
   unfold upd1;rw [if_pos rfl]
  ·show upd1 _ _ _ _=_ - _ * upd1 _ _ _ _
   unfold upd1;rw [if_neg hne,if_pos rfl]
theorem Ups.xB {n K T:Nat} {k:Nat→Nat} {im V:Mx} {Cs:Nat→Mx} (h:Ups n K T k im V Cs) {x b:Nat→Rat} (hx:∀r,r < n→mulC n (Cs 0) x r=b r) (hb:∀r,r < n→Sz K (b r)):∀t,t≤T→∀i,i < n→Sz (5^n * K) (xN k im x t i):=fun t ht=>(h.indep t ht).sz (h.sz t ht) hb (h.solves hx t ht)
def back1 (n k:Nat) (im c:Nat→Rat):Nat→Rat:=fun i=>if i=k then (c k - sumN (fun i=>if i=k then 0 else im i * c i) n) / im k else c i
def cN (n T:Nat) (k:Nat→Nat) (im:Mx) (d:Nat→Rat):Nat→Nat→Rat
 | 0=>d
 | j+1=>back1 n (k (T - 1 - j)) (im (T - 1 - j)) (cN n T k im d j)
theorem back1_sol {n q:Nat} {cols:Mx} {im v y c:Nat→Rat} (hq:q < n) (h0:im q≠0) (hi:∀r,r < n→mulC n cols im r=v r) (h:∀j,j < n→mulC n (trM cols) y j=back1 n q im c j):∀j,j < n→mulC n (trM (repC cols q v)) y j=c j:=by
 intro j hj
 by_cases e:j=q
 ·subst e
  have e1:mulC n (trM (repC cols j v)) y j=sumN (fun r=>y r * mulC n cols im r) n:=sumN_congr fun r hr=>by
   show repC cols j v j r * y r=_
   unfold repC
   rw [if_pos rfl,hi r hr];grind
  have e2:sumN (fun r=>y r * mulC n cols im r) n=sumN (fun i=>im i * mulC n (trM cols) y i) n:=by
   rw [sumN_congr (g:=fun r=>sumN (fun i=>im i * (cols i r * y r)) n) fun r _=>by
    unfold mulC
    rw [← sumN_mul]
    exact sumN_congr fun i _=>by grind,sumN_swap]
   exact sumN_congr fun i _=>sumN_mul _ _ _
  have e3:sumN (fun i=>im i * mulC n (trM cols) y i) n=sumN (fun i=>(if i=j then 0 else im i * c i)+(if i=j then c j - sumN (fun i=>if i=j then 0 else im i * c i) n else 0)) n:=sumN_congr fun i hi'=>by
   rw [h i hi']
   unfold back1
   by_cases e:i=j
   ·subst e
    rw [if_pos rfl,if_pos rfl,if_pos rfl]
    have:=Rat.div_mul_cancel (a:=c i - sumN (fun x=>if x=i then 0 else im x * c x) n) h0
    grind
   ·rw [if_neg e,if_neg e,if_neg e];grind
  rw [e1,e2,e3,sumN_add,sumN_one hj]
  grind
 ·have:=h j hj
  unfold back1 at this
  rw [if_neg e] at this
  rw [← this]
  exact sumN_congr fun r _=>by
   show repC cols q v j r * y r=_
   unfold repC
   rw [if_neg e];rfl
theorem Ups.solvesT {n K T:Nat} {k:Nat→Nat} {im V:Mx} {Cs:Nat→Mx} (h:Ups n K T k im V Cs) {d y:Nat→Rat} (hy:∀c,c < n→mulC n (trM (Cs 0)) y c=cN n T k im d T c):∀t,t≤T→∀c,c < n→mulC n (trM (Cs t)) y c=cN n T k im d (T - t) c
 | 0,_=>hy
 | t+1,ht=>by
  have ih:=h.solvesT hy t (by omega)
  rw [h.step t (by omega)]
  refine back1_sol (h.kn t (by omega)) (h.nz t (by omega)) (h.img t (by omega)) fun j hj=>?_
  rw [ih j hj,show T - t=(T - (t+1))+1 by omega]
  show back1 n (k (T - 1 - (T - (t+1)))) (im (T - 1 - (T - (t+1)))) _ j=_
  rw [show T - 1 - (T - (t+1))=t by omega]
theorem Ups.yB {n K T:Nat} {k:Nat→Nat} {im V:Mx} {Cs:Nat→Mx} (h:Ups n K T k im V Cs) {d y:Nat→Rat} (hd:∀r,r < n→Sz K (d r)) (hy:∀c,c < n→mulC n (trM (Cs 0)) y c=cN n T k im d T c):∀i,i < n→Sz (5^n * K) (y i):=
 (h.indep T (Nat.le_refl _)).trQ.sz (fun r c hr hc=>h.sz T (Nat.le_refl _) c r hc hr) hd fun r hr=>by
  rw [h.solvesT hy T (Nat.le_refl _) r hr,Nat.sub_self];rfl
theorem Ups.cB {n K T:Nat} {k:Nat→Nat} {im V:Mx} {Cs:Nat→Mx} (h:Ups n K T k im V Cs) (hn:n≤7) (hK:1≤K) {d y:Nat→Rat} (hd:∀r,r < n→Sz K (d r)) (hy:∀c,c < n→mulC n (trM (Cs 0)) y c=cN n T k im d T c):∀j,j≤T→∀i,i < n→Sz (22 * (5^n * K)) (cN n T k im d j i):=fun j hj i hi=>by
 have e1:K≤5^n * K:=Nat.le_mul_of_pos_left K (Nat.pow_pos (by decide))
 have:=h.solvesT hy (T - j) (by omega) i hi
 rw [show T - (T - j)=j by omega] at this
 rw [← this]
 exact (Sz_prod (K:=K) (J:=5^n * K) hn (fun r hr=>h.sz (T - j) (by omega) r i hr hi) (h.yB hd hy)).mono (by omega)
end Pl
end Go.Proofs.YtncmobkhenfhpaaGreat
