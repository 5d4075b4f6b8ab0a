/- Contracts and plain facts that the claim is built on, joined out of smaller texts; no condition. -/
import Derived.Test.YtncmobkhenfhpaaGreatB20
set_option linter.unusedVariables false
set_option linter.unusedSimpArgs false
set_option maxRecDepth 100000
set_option maxHeartbeats 40000000
namespace Go.Proofs.YtncmobkhenfhpaaGreat
open Go.RowKit
open Pl
attribute [local go_sem ↓] Go.wp_at_zero Go.wp_at_succ
theorem rmul_any (v1 v2:Value) (a b:RI) (w:World) (h1:IntM w v1 a) (h2:IntM w v2 b) (hs:a.ds.length+b.ds.length≤549755813888):
 Calls Tryz.prog 70 #[v1,v2] w fun e w'=>∃v',e= .returned v'∧IntM w' v' (canI (a.z * b.z))∧Below w.heap.size w w':=by
 obtain ⟨A,n,c,rfl,hd⟩:=h1.shape
 obtain ⟨A',n',c',rfl,hd'⟩:=h2.shape
 obtain ⟨W,hW,hX,hY,hR,hbe⟩:=box2 w (.bool a.neg) (.slice A n c) (.bool b.neg) (.slice A' n' c')
 have d1:=hd.below hbe
 have d2:=hd'.below hbe
 have hlen:(digs (val a.ds * val b.ds)).length≤549755813888:=by
  have q1:=digs_len_le hd.ok
  have q2:=digs_len_le hd'.ok
  exact Nat.le_trans (mul_len _ _) (by omega)
 go_enter Tryz.func70,Tryz.ntmps70
 go_wp2_with fail
 clear hW
 have hn1:w.heap.size≠w.heap.size+1+1:=by omega
 have hn2:w.heap.size+1≠w.heap.size+1+1:=by omega
 go_region_held3 (fun w'=>(w'.cell? ⟨w.heap.size,0,none⟩=some (.bool a.neg)∧w'.cell? ⟨w.heap.size,1,none⟩=some (.slice A n c))∧(w'.cell? ⟨w.heap.size+1,0,none⟩=some (.bool b.neg)∧w'.cell? ⟨w.heap.size+1,1,none⟩=some (.slice A' n' c')))
  (first | with_reducible exact ⟨hX.drew.pair,hY.drew.pair⟩ | with_reducible exact ⟨(hX.drew.later hb1).pair,(hY.drew.later hb1).pair⟩ | with_reducible exact ⟨((hX.drew.later hb1).later hb2).pair,((hY.drew.later hb1).later hb2).pair⟩ | with_reducible exact ⟨((hX.drew.later hb1).later hb2).two_far hn1 _ _,((hY.drew.later hb1).later hb2).two_far hn2 _ _⟩)
  (first
   | (go_at_call 107;refine (rmulDigits_any _ _ a.ds b.ds _ (d1.keep (Keep.drew _)) (d2.keep (Keep.drew _)) (by omega)).mono ?_;rintro e w1 ⟨v1,rfl,e1,hb1⟩)
   | (go_at_call 106;refine (make_dig (a.neg !=b.neg) _ _ _ e1 hlen).mono ?_;rintro e w2 ⟨v2,rfl,e2,hb2⟩;obtain ⟨A3,n3,k3,rfl,_⟩:=e2.shape;obtain ⟨c0,c1,f0,f1⟩:=((hR.drew.later hb1).later hb2).two))
 go_wp2
 refine ret_cell Tryz.results70 Tryz.underlying46 (by kernel_rfl) rfl (((hR.drew.later hb1).later hb2).set2 _ _) rfl ?_
 rw [RI.z_eq,RI.z_eq,← sm_mul]
 exact fin_int ((hR.drew.later hb1).later hb2) e2 (below_then (below_then hbe.drew hb1 hbe.size) hb2 (Nat.le_trans hbe.size hb1.size)) (by omega)
theorem rdivF_own (v1 v2:Value) (a b:RF) (w:World) (h1:FracM w v1 a) (h2:FracM w v2 b) (hs:a.Sh) (hs2:b.Sh):
 Calls Tryz.prog 82 #[v1,v2] w fun e w'=>∃v',e= .returned v'∧FracO w.heap.size w' v' (canF (a.q / b.q))∧Below w.heap.size w w':=by
 obtain ⟨A,n,c,A',n',c',rfl,_,_⟩:=id h1
 obtain ⟨B,m,d,B',m',d',rfl,_,_⟩:=id h2
 obtain ⟨W,hW,hX,hY,hR,hbe⟩:=boxF3 w (.bool a.num.neg) (.slice A n c) (.bool a.den.neg) (.slice A' n' c') (.bool b.num.neg) (.slice B m d) (.bool b.den.neg) (.slice B' m' d')
 have i1:=h1.below hbe
 have i2:=h2.below hbe
 have hn1:w.heap.size≠w.heap.size+1:=by omega
 have hn2:w.heap.size+1+1≠w.heap.size:=by omega
 have hn3:w.heap.size+1+1≠w.heap.size+1:=by omega
 have tok:True:=trivial
 obtain ⟨p1,p2,p3,p4⟩:=hX.four
 obtain ⟨q1,q2,q3,q4⟩:=hY.four
 go_enter Tryz.func82,Tryz.ntmps82
 go_wp2_with fail
 clear hW
 go_upto_region 1 with (fail)
 go_cut [] (fun wx=>∃(A A' B B':Option Addr) (n c n' c' m d m' d':Nat),CanF2 a.q b.q w wx A A' B B' n c n' c' m d m' d')
 case first=>
  go_region_with (first
   | (go_at_call 69;have _t:=tok;refine (rcanon_own _ a _ (i1.keep (Keep.drew _)) hs).mono ?_;clear tok _t;rintro e w6 ⟨v6,rfl,e6,hb6⟩;obtain ⟨A6,n6,k6,A6',n6',k6',rfl,_,_⟩:=id e6.1;obtain ⟨q1',q2',q3',q4'⟩:=(hY.drew.later hb6).four)
   | (go_at_call 69;refine (rcanon_own _ b _ ((i2.keep (Keep.drew _)).below hb6) hs2).mono ?_;rintro e w7 ⟨v7,rfl,e7,hb7⟩;obtain ⟨A7,n7,k7,A7',n7',k7',rfl,_,_⟩:=id e7.1;obtain ⟨c0,c1,c2,c3⟩:=((hX.drew.later hb6).later hb7).four;obtain ⟨r0,r1,r2,r3⟩:=((hX.drew.later hb6).later hb7).fourF;obtain ⟨c0',c1',c2',c3'⟩:=((hY.drew.later hb6).later hb7).four;obtain ⟨r0',r1',r2',r3'⟩:=((hY.drew.later hb6).later hb7).fourF))
  all_goals
   go_wp2_with fail
   go_meet
   have b1:=below_then hbe.drew hb6 hbe.size
   obtain ⟨a1,a2,a3,a4,a5,a6⟩:=fin_two ((hX.drew.later hb6).later hb7) ((hY.drew.later hb6).later hb7) ((hR.drew.later hb6).later hb7) hn1 hn2 hn3 (e6.below hb7).1 e7.1 (below_then b1 hb7 b1.size) (by omega) (by omega) _ rfl
   exact ⟨A6,A6',A7,A7',n6,k6,n6',k6',n7,k7,n7',k7',a1,a2,a3,a4,a5,a6⟩
 case rest=>
  obtain ⟨A,A',B,B',n,c,n',c',m,d,m',d',bX,bY,bR,fX,fY,be⟩:=hcut
  clear p1 p2 p3 p4 q1 q2 q3 q4 hX hY hR hbe i1 i2 h1 h2 tok
  have sz1:=hs.sz
  have sz2:=hs2.sz
  obtain ⟨l1,l2⟩:=szI sz1
  obtain ⟨l3,l4⟩:=szI sz2
  have hz1:=zN a.q
  have hz2:=zD a.q
  have hz3:=zN b.q
  have hz4:=zD b.q
  generalize canF a.q=P at *
  generalize canF b.q=Q at *
  have HZ1:=Lib.hid hz1
  have HZ2:=Lib.hid hz2
  have HZ3:=Lib.hid hz3
  have HZ4:=Lib.hid hz4
  clear hz1 hz2 hz3 hz4
  obtain ⟨iN,iD⟩:=fX.num
  obtain ⟨jN,jD⟩:=fY.num
  have tok:True:=trivial
  have tok2:True:=trivial
  have hL1:(digs (val (canI (P.num.z * Q.den.z)).ds)).length≤137438953472:=(szV (by rw [HZ1.out,HZ4.out,Int.natAbs_mul];exact Nat.le_trans (mul_len _ _) (Nat.le_trans (Nat.add_le_add sz1.1 sz2.2) (by decide))))
  have hL2:(digs (val (canI (P.den.z * Q.num.z)).ds)).length≤137438953472:=(szV (by rw [HZ2.out,HZ3.out,Int.natAbs_mul];exact Nat.le_trans (mul_len _ _) (Nat.le_trans (Nat.add_le_add sz1.2 sz2.1) (by decide))))
  have HV:Hid (Rat.divInt (P.num.z * Q.den.z) (P.den.z * Q.num.z)=a.q / b.q):=Lib.hid (by rw [HZ1.out,HZ2.out,HZ3.out,HZ4.out];exact div_eq _ _)
  clear sz1 sz2 hs hs2 HZ1 HZ2 HZ3 HZ4
  go_wp2_with fail
  go_region_held3 (fun w'=>(w'.cell? ⟨w.heap.size,0,none⟩=some (.bool P.num.neg)∧w'.cell? ⟨w.heap.size,1,none⟩=some (.slice A n c)∧w'.cell? ⟨w.heap.size,2,none⟩=some (.bool P.den.neg)∧w'.cell? ⟨w.heap.size,3,none⟩=some (.slice A' n' c'))∧(w'.cell? ⟨w.heap.size+1,0,none⟩=some (.bool Q.num.neg)∧w'.cell? ⟨w.heap.size+1,1,none⟩=some (.slice B m d)∧w'.cell? ⟨w.heap.size+1,2,none⟩=some (.bool Q.den.neg)∧w'.cell? ⟨w.heap.size+1,3,none⟩=some (.slice B' m' d')))
   (first | with_reducible exact ⟨bX.drew.four,bY.drew.four⟩ | with_reducible exact ⟨(bX.drew.later hb8).four,(bY.drew.later hb8).four⟩ | with_reducible exact ⟨((bX.drew.later hb8).later hb9).four,((bY.drew.later hb8).later hb9).four⟩ | with_reducible exact ⟨(((bX.drew.later hb8).later hb9).later hb10).four,(((bY.drew.later hb8).later hb9).later hb10).four⟩ | with_reducible exact ⟨((((bX.drew.later hb8).later hb9).later hb10).far4 (Ne.symm hn2) _ _ _ _).four,((((bY.drew.later hb8).later hb9).later hb10).far4 (Ne.symm hn3) _ _ _ _).four⟩)
   (first
    | (go_at_call 70;have _t:=tok;refine (rmul_any _ _ P.num Q.den _ (iN.keep (Keep.drew _)) (jD.keep (Keep.drew _)) (by omega)).mono ?_;clear tok _t;rintro e w8 ⟨v8,rfl,e8,hb8⟩)
    | (go_at_call 70;refine (rmul_any _ _ P.den Q.num _ ((iD.keep (Keep.drew _)).below hb8) ((jN.keep (Keep.drew _)).below hb8) (by omega)).mono ?_;rintro e w9 ⟨v9,rfl,e9,hb9⟩)
    | (go_at_call 67;refine (rnew_own _ _ (canI (P.num.z * Q.den.z)) (canI (P.den.z * Q.num.z)) _ (e8.below hb9) e9 hL1 hL2).mono ?_;rw [canI_z,canI_z,HV.out];rintro e w10 ⟨v10,rfl,e10,hb10⟩;obtain ⟨C,l,f,C',l',f',rfl,_,_⟩:=id e10.1;obtain ⟨c0,c1,c2,c3⟩:=(((bR.drew.later hb8).later hb9).later hb10).four;obtain ⟨f0,f1,f2,f3⟩:=(((bR.drew.later hb8).later hb9).later hb10).fourF))
  go_wp2
  refine ret_cell Tryz.results82 Tryz.underlying48 (by kernel_rfl) rfl ((((bR.drew.later hb8).later hb9).later hb10).set4 _ _ _ _) rfl ?_
  have b0:=be.drew
  have b1:=below_then b0 hb8 b0.size
  have b2:=below_then b1 hb9 b1.size
  have b3:=below_then b2 hb10 b2.size
  exact fin_fracO (((bR.drew.later hb8).later hb9).later hb10) (e10.mono b2.size) b3 (by omega)
end Go.Proofs.YtncmobkhenfhpaaGreat
