/- Contracts and plain facts that the claim is built on, joined out of smaller texts; no condition. -/
import Derived.Test.YtncmobkhenfhpaaGreatB48
import Derived.Test.YtncmobkhenfhpaaGreatSmTJ
set_option linter.unusedVariables false
set_option linter.unusedSimpArgs false
set_option maxRecDepth 100000
set_option maxHeartbeats 40000000
namespace Go.Proofs.YtncmobkhenfhpaaGreat
open Go.RowKit
namespace Pl
end Pl
open Pl
attribute [local go_sem ↓] Go.wp_at_zero Go.wp_at_succ
theorem rmulF_own (v1 v2:Value) (a b:RF) (w:World) (h1:FracM w v1 a) (h2:FracM w v2 b) (hs:a.Sh) (hs2:b.Sh):
 Calls Tryz.prog 32 #[v1,v2] w fun e w'=>∃v',e= .returned v'∧FracO w.heap.size w' v' (canF (a.q * b.q))∧Below w.heap.size w w':=by
 obtain ⟨A,n,c,A',n',c',rfl,_,_⟩:=id h1
 obtain ⟨B,m,d,B',m',d',rfl,_,_⟩:=id h2
 obtain ⟨W,hW,hX,hY,hR,hbe⟩:=boxF3 w (.bool a.num.neg) (.slice A n c) (.bool a.den.neg) (.slice A' n' c') (.bool b.num.neg) (.slice B m d) (.bool b.den.neg) (.slice B' m' d')
 have i1:=h1.below hbe
 have i2:=h2.below hbe
 have hn1:w.heap.size≠w.heap.size+1:=by omega
 have hn2:w.heap.size+1+1≠w.heap.size:=by omega
 have hn3:w.heap.size+1+1≠w.heap.size+1:=by omega
 have tok:True:=trivial
 obtain ⟨p1,p2,p3,p4⟩:=hX.four
 obtain ⟨q1,q2,q3,q4⟩:=hY.four
 go_enter Tryz.func32,Tryz.ntmps32
 go_wp2_with fail
 clear hW
 go_upto_region 1 with (fail)
 go_cut [] (fun wx=>∃(A A' B B':Option Addr) (n c n' c' m d m' d':Nat),CanF2 a.q b.q w wx A A' B B' n c n' c' m d m' d')
 case first=>
  go_region_with (first
   | (go_at_call 69;have _t:=tok;refine (rcanon_own _ a _ (i1.keep (Keep.drew _)) hs).mono ?_;clear tok _t;rintro e w6 ⟨v6,rfl,e6,hb6⟩;obtain ⟨A6,n6,k6,A6',n6',k6',rfl,_,_⟩:=id e6.1;obtain ⟨q1',q2',q3',q4'⟩:=(hY.drew.later hb6).four)
   | (go_at_call 69;refine (rcanon_own _ b _ ((i2.keep (Keep.drew _)).below hb6) hs2).mono ?_;rintro e w7 ⟨v7,rfl,e7,hb7⟩;obtain ⟨A7,n7,k7,A7',n7',k7',rfl,_,_⟩:=id e7.1;obtain ⟨c0,c1,c2,c3⟩:=((hX.drew.later hb6).later hb7).four;obtain ⟨r0,r1,r2,r3⟩:=((hX.drew.later hb6).later hb7).fourF;obtain ⟨c0',c1',c2',c3'⟩:=((hY.drew.later hb6).later hb7).four;obtain ⟨r0',r1',r2',r3'⟩:=((hY.drew.later hb6).later hb7).fourF))
  all_goals
   go_wp2_with fail
   go_meet
   have b1:=below_then hbe.drew hb6 hbe.size
   obtain ⟨a1,a2,a3,a4,a5,a6⟩:=fin_two ((hX.drew.later hb6).later hb7) ((hY.drew.later hb6).later hb7) ((hR.drew.later hb6).later hb7) hn1 hn2 hn3 (e6.below hb7).1 e7.1 (below_then b1 hb7 b1.size) (by omega) (by omega) _ rfl
   exact ⟨A6,A6',A7,A7',n6,k6,n6',k6',n7,k7,n7',k7',a1,a2,a3,a4,a5,a6⟩
 case rest=>
  obtain ⟨A,A',B,B',n,c,n',c',m,d,m',d',bX,bY,bR,fX,fY,be⟩:=hcut
  clear p1 p2 p3 p4 q1 q2 q3 q4 hX hY hR hbe i1 i2 h1 h2 tok
  have sz1:=hs.sz
  have sz2:=hs2.sz
  obtain ⟨l1,l2⟩:=szI sz1
  obtain ⟨l3,l4⟩:=szI sz2
  have hz1:=zN a.q
  have hz2:=zD a.q
  have hz3:=zN b.q
  have hz4:=zD b.q
  generalize canF a.q=P at *
  generalize canF b.q=Q at *
  have HZ1:=Lib.hid hz1
  have HZ2:=Lib.hid hz2
  have HZ3:=Lib.hid hz3
  have HZ4:=Lib.hid hz4
  clear hz1 hz2 hz3 hz4
  obtain ⟨iN,iD⟩:=fX.num
  obtain ⟨jN,jD⟩:=fY.num
  have tok:True:=trivial
  have tok2:True:=trivial
  have hL1:(digs (val (canI (P.num.z * Q.num.z)).ds)).length≤137438953472:=(szV (by rw [HZ1.out,HZ3.out,Int.natAbs_mul];exact Nat.le_trans (mul_len _ _) (Nat.le_trans (Nat.add_le_add sz1.1 sz2.1) (by decide))))
  have hL2:(digs (val (canI (P.den.z * Q.den.z)).ds)).length≤137438953472:=(szV (by rw [HZ2.out,HZ4.out,Int.natAbs_mul];exact Nat.le_trans (mul_len _ _) (Nat.le_trans (Nat.add_le_add sz1.2 sz2.2) (by decide))))
  have HV:Hid (Rat.divInt (P.num.z * Q.num.z) (P.den.z * Q.den.z)=a.q * b.q):=Lib.hid (by rw [HZ1.out,HZ2.out,HZ3.out,HZ4.out];exact mul_eq _ _)
  clear sz1 sz2 hs hs2 HZ1 HZ2 HZ3 HZ4
  go_wp2_with fail
  go_region_held3 (fun w'=>(w'.cell? ⟨w.heap.size,0,none⟩=some (.bool P.num.neg)∧w'.cell? ⟨w.heap.size,1,none⟩=some (.slice A n c)∧w'.cell? ⟨w.heap.size,2,none⟩=some (.bool P.den.neg)∧w'.cell? ⟨w.heap.size,3,none⟩=some (.slice A' n' c'))∧(w'.cell? ⟨w.heap.size+1,0,none⟩=some (.bool Q.num.neg)∧w'.cell? ⟨w.heap.size+1,1,none⟩=some (.slice B m d)∧w'.cell? ⟨w.heap.size+1,2,none⟩=some (.bool Q.den.neg)∧w'.cell? ⟨w.heap.size+1,3,none⟩=some (.slice B' m' d')))
   (first | with_reducible exact ⟨bX.drew.four,bY.drew.four⟩ | with_reducible exact ⟨(bX.drew.later hb8).four,(bY.drew.later hb8).four⟩ | with_reducible exact ⟨((bX.drew.later hb8).later hb9).four,((bY.drew.later hb8).later hb9).four⟩ | with_reducible exact ⟨(((bX.drew.later hb8).later hb9).later hb10).four,(((bY.drew.later hb8).later hb9).later hb10).four⟩ | with_reducible exact ⟨((((bX.drew.later hb8).later hb9).later hb10).far4 (Ne.symm hn2) _ _ _ _).four,((((bY.drew.later hb8).later hb9).later hb10).far4 (Ne.symm hn3) _ _ _ _).four⟩)
   (first
    | (go_at_call 70;have _t:=tok;refine (rmul_any _ _ P.num Q.num _ (iN.keep (Keep.drew _)) (jN.keep (Keep.drew _)) (by omega)).mono ?_;clear tok _t;rintro e w8 ⟨v8,rfl,e8,hb8⟩)
    | (go_at_call 70;refine (rmul_any _ _ P.den Q.den _ ((iD.keep (Keep.drew _)).below hb8) ((jD.keep (Keep.drew _)).below hb8) (by omega)).mono ?_;rintro e w9 ⟨v9,rfl,e9,hb9⟩)
    | (go_at_call 67;refine (rnew_own _ _ (canI (P.num.z * Q.num.z)) (canI (P.den.z * Q.den.z)) _ (e8.below hb9) e9 hL1 hL2).mono ?_;rw [canI_z,canI_z,HV.out];rintro e w10 ⟨v10,rfl,e10,hb10⟩;obtain ⟨C,l,f,C',l',f',rfl,_,_⟩:=id e10.1;obtain ⟨c0,c1,c2,c3⟩:=(((bR.drew.later hb8).later hb9).later hb10).four;obtain ⟨f0,f1,f2,f3⟩:=(((bR.drew.later hb8).later hb9).later hb10).fourF))
  go_wp2
  refine ret_cell Tryz.results32 Tryz.underlying48 (by kernel_rfl) rfl ((((bR.drew.later hb8).later hb9).later hb10).set4 _ _ _ _) rfl ?_
  have b0:=be.drew
  have b1:=below_then b0 hb8 b0.size
  have b2:=below_then b1 hb9 b1.size
  have b3:=below_then b2 hb10 b2.size
  exact fin_fracO (((bR.drew.later hb8).later hb9).later hb10) (e10.mono b2.size) b3 (by omega)
namespace Pl
theorem qAt_none {fs:List RF} {i:Nat} (h:fs.length≤i):qAt fs i=0:=by simp [qAt,List.getElem?_eq_none h]
end Pl
namespace Pl
theorem canL_succ (m:Nat) (f:Nat→Rat):canL m f++[canF (f m)]=canL (m+1) f:=by simp [canL,List.range_succ]
end Pl
section
attribute [local irreducible] wpAlone
end
section
open Go.Maps (int_keyed keyOf_int_mk)
end
section
attribute [local irreducible] wpAlone
end
namespace Pl
def Gd (p:LPd) (b:Int) (t:LSt):Prop:=Val p t∧settleQ p t=t∧t.pivots≤b
theorem Gd.start (p:LPd):Gd p 0 (settleQ p (startS p)):=⟨(start_val p).settle,settle_twice,by show (0:Int)≤0;omega⟩
theorem Gd.run {p:LPd} {b:Int} {t:LSt} (h:Gd p b t) (N:Nat):Gd p (b+N) (runL p N t):=⟨runL_val h.1,runL_settled h.2.1,by have:=runL_pivots (n:=N) h.1;have:=h.2.2;omega⟩
theorem Gd.err {p:LPd} {b:Int} {t:LSt} (h:Gd p b t) (hz:lpErr p=0):smErr p t=0:=by rw [smErr_vs hz];exact h.1.vs
theorem Gd.ru {p:LPd} {b:Int} {t:LSt} (h:Gd p b t) (hz:lpErr p=0) (N:Nat):smRun p t N=runL p N t:=by rw [smRun_yes (h.err hz),h.2.1]
theorem Gd.st {p:LPd} {b:Int} {t:LSt} (h:Gd p b t) (hz:lpErr p=0):smSt p t=(statQ p t,statJ p t):=by rw [smSt_yes (h.err hz),h.2.1]
theorem Gd.va {p:LPd} {b:Int} {t:LSt} (h:Gd p b t) (hz:lpErr p=0):smVa p t=canF (objQ p 2 t):=by rw [smVa_yes (h.err hz),h.2.1]
theorem Gd.rg {p:LPd} {b:Int} {t:LSt} (h:Gd p b t) {K:Nat} (F:p.Ft K):t.basis.length≤1099511627776∧∀z∈t.basis,-9223372036854775808≤z∧z≤9223372036854775807:=fit_rg h.1.fit F.2.1 F.1.cols
theorem Gd.pv {p:LPd} {b:Int} {t:LSt} (h:Gd p b t) {N:Nat} (hb:b+N≤9223372036854775807):t.pivots+(N:Int)≤9223372036854775807:=by have:=h.2.2;omega
theorem obj_shH {p:LPd} {K:Nat} (F:p.Ft K) (ph:Int) (s:LSt):ShH (canF (objQ p ph s)):=by
 have h:Sz (1+p.right.length * (K+5^p.right.length * K+1)) (objQ p ph s):=Sz_sum fun i _=>Sz_mul (Sz_cost F.1.ok F.1.k1 ph _) ((zL_B F.1 s).qAt (Nat.le_trans F.1.k1 F.1.le) i)
 refine Sz.shH h ?_
 have h1:=F.2.1
 have h2:=F.2.2
 have h3:=F.k.2
 have h4:p.right.length * (K+5^p.right.length * K+1)≤7 * (4000000+4000000+1):=Nat.mul_le_mul h1 (by omega)
 omega
theorem Gd.step {p:LPd} {b:Int} {t:LSt} (h:Gd p b t) (h2:t.phase=2):objQ p 2 (runL p 1 t)≤objQ p 2 t:=by
 cases e:pivQ p t with
 | none=>rw [runL_stop e];exact Rat.le_refl
 | some u=>rw [runL_step e];exact (pivQ_obj2 h.1 h2 e).1
theorem Gd.phase {p:LPd} {b:Int} {t:LSt} (h:Gd p b t) (N:Nat):t.phase≤(runL p N t).phase:=runL_phase h.1
end Pl
namespace Pl
def sclP (f:Rat) (p:LPd):LPd:=⟨canL p.cost.length fun j=>f * qAt p.cost j,p.cols,p.right⟩
theorem sclP_scaled {f:Rat} {p:LPd} (hf:0 < f):Scaled f p (sclP f p):=by
 refine ⟨hf,rfl,rfl,fun j=>?_⟩
 show qAt (canL p.cost.length fun j=>f * qAt p.cost j) j=f * qAt p.cost j
 by_cases h:j < p.cost.length
 ·rw [canL_qAt h]
 ·have e1:qAt (canL p.cost.length fun j=>f * qAt p.cost j) j=0:=qAt_none (by rw [canL_length];omega)
  have e2:qAt p.cost j=0:=qAt_none (by omega)
  rw [e1,e2];grind
theorem sclP_ft {f:Rat} {p:LPd} (F:p.Ft 32) (hc:RsL 1 p.cost) (hf:Sz 1 f):(sclP f p).Ft 32:=by
 obtain ⟨⟨⟨_,h2,h3⟩,i1,i2,i3,i4,i5,i6⟩,h7,h8⟩:=F
 have e:RsL 32 (canL p.cost.length fun j=>f * qAt p.cost j):=canL_rs fun i _=>(Sz_mul hf (hc.qAt (by decide) i)).mono (by decide)
 exact ⟨⟨⟨e,h2,h3⟩,i1,i2,by show (canL _ _).length=_;rw [canL_length];exact i3,i4,i5,i6⟩,h7,h8⟩
theorem sclP_err {f:Rat} {p:LPd} (h:lpErr p=0):lpErr (sclP f p)=0:=by
 have e:lpErr (sclP f p)=lpErr p:=by
  unfold lpErr sclP
  simp only [canL_length]
 rw [e,h]
theorem Gd.scl {p:LPd} {b:Int} {t:LSt} (h:Gd p b t) {f:Rat} (hf:0 < f):Gd (sclP f p) b t:=⟨(sclP_scaled hf).val h.1,by rw [(sclP_scaled hf).settle];exact h.2.1,h.2.2⟩
theorem Gd.sclrun {p:LPd} {b:Int} {t:LSt} (h:Gd p b t) {f:Rat} (hf:0 < f) (N:Nat):runL (sclP f p) N t=runL p N t:=(sclP_scaled hf).run h.1
theorem scl_obj {p:LPd} {t:LSt} {f:Rat} (hf:0 < f):objQ (sclP f p) 2 t=f * objQ p 2 t:=(sclP_scaled hf).obj
theorem Gd.ph {p:LPd} {b:Int} {t:LSt} (h:Gd p b t):t.phase=1∨t.phase=2:=h.1.ph
end Pl
section
def ScG (U:World) (f:RF) (k:Nat) (w:World) (v:Value):Prop:=match k with
 | 4=>FracM w v f
 | 5=>∃g,v= .pointer (some ⟨g,0,none⟩)∧U.heap.size≤g∧Bk w g 26 [.slice none 0 0,.slice none 0 0,.slice none 0 0]
 | 6=>∃g,v= .pointer (some ⟨g,0,none⟩)∧U.heap.size≤g∧Bk w g 48 [.bool false,.slice none 0 0,.bool false,.slice none 0 0]
 | _=>True
theorem ScG.later {U:World} {f:RF} (k:Nat) (w w':World) (v:Value) (h:ScG U f k w v) (hb:Below w.heap.size w w'):ScG U f k w' v:=by
 unfold ScG at *
 split at h
 all_goals first | exact FracM.below h hb | (obtain ⟨g,e,h1,h2⟩:=h;exact ⟨g,e,h1,h2.later hb⟩) | trivial
theorem KeepBut.old {e:TypeId} {w0 w w':World} {n:Nat} (h:KeepBut e w0 w) (hb:Below n w w') (hn:w0.heap.size≤n):KeepBut e w0 w':=by
 intro b cs t fz ht h0
 rw [hb.block b (by have:=lt_heap h0;omega)]
 exact h b cs t fz ht h0
theorem below_trans_le {n m:Nat} {w w1 w2 w3:World} (h:Below n w w1) (h2:Below w1.heap.size w1 w2) (h3:Below m w2 w3) (hs:w.heap.size≤w1.heap.size) (hn:n≤m) (hw:n≤w1.heap.size):Below n w w3:=
 ⟨h3.os.trans (h2.os.trans h.os),h3.tape.trans (h2.tape.trans h.tape),h3.output.trans (h2.output.trans h.output),Nat.le_trans h.size (Nat.le_trans h2.size h3.size),fun k hk=>(h3.block k (by omega)).trans ((h2.block k (by omega)).trans (h.block k hk))⟩
attribute [local irreducible] wpAlone
theorem simplexScales_any (v0:Value) (a1:Int) (a2:Int) (zl0:List Int) (w:World) (h0:IntsM w v0 zl0) (_g1: -9223372036854775808≤a1) (_k1:a1≤9223372036854775807) (_g2: -9223372036854775808≤a2) (_k2:a2≤9223372036854775807):
 Calls Tryz.prog 8 #[v0,.int .i64 a1,.int .i64 a2] w fun e w'=>e= .returned (.bool true)∧Below w.heap.size w w':=by
 obtain ⟨b0,d0,rfl,_,_⟩:=h0.shape
 generalize hn0:zl0.length=m0 at *
 clear hn0
 go_enter Tryz.func8,Tryz.ntmps8
 go_wp2_with fail
 refine (lp_own _ zl0 _ h0).mono ?_
 rintro _ w1 ⟨vp,p,rfl,hp,hok,hrr,hb⟩
 have HOK:=Lib.hid hok
 have HF:=Lib.hid (hok.ft (hrr.mono (by decide)))
 have HZ:=Lib.hid hok.err
 have hlp:=hp.lp
 obtain ⟨A0,n0,c0,A1,n1,c1,A2,m,c2,rfl,_,_,_⟩:=id hlp
 clear hok hrr hp
 obtain ⟨W1,hW1,hB,hn⟩:=box_lp w1 (.slice A0 n0 c0) (.slice A1 n1 c1) (.slice A2 m c2)
 have hc:=below_then hb hn hb.size
 have LP_1:=Lib.hid ((hlp).below hn)
 have X_1:=Lib.hid hB
 have hbw1:=hc
 clear hc hb hn hB
 clear hlp h0
 obtain ⟨cX0,cX1,cX2⟩:=X_1.out.three
 have HSZ:Hid (w1.heap.size < W1.heap.size):=Lib.hid X_1.out.lt
 have hbw1s:=Lib.hid hbw1.size
 have HCL:=Lib.hid HOK.out.2.2.2.1
 have HRC:=Lib.hid HOK.out.2.2.2.2.1
 obtain ⟨hFa,hFb,hFc⟩:FrsM W1 (.slice A0 n0 c0) p.cost∧VecsM W1 (.slice A1 n1 c1) p.cols∧FrsM W1 (.slice A2 m c2) p.right:=by obtain ⟨_,_,_,_,_,_,_,_,_,e,h1,h2,h3⟩:=LP_1.out;injection e with e;simp at e;obtain ⟨⟨rfl,rfl,rfl⟩,⟨rfl,rfl,rfl⟩,rfl,rfl,rfl⟩:=e;exact ⟨h1,h2,h3⟩
 have hla:=hFa.len.1
 have HLA:=Lib.hid hla
 clear hla
 have q0:0≤a2 % 16:=by omega
 have q1:a2 % 16 < 16:=by omega
 have m1:=i64_and15
 go_wp2_with fail
 clear hW1
 have C0:=stab cX0
 have C1:=stab cX1
 have C2:=stab cX2
 clear cX0 cX1 cX2
 obtain ⟨f,hf⟩:∃f:Rat,f=((1+a2 % 16:Int):Rat):=⟨_,rfl⟩
 obtain ⟨ff,hff⟩:∃ff:RF,ff=canF f:=⟨_,rfl⟩
 refine region_plan 7 (.go 0 (.go 1 (.go 2 (.go 3 (.bag [4,5,6] (.go 7 (.go 8 .done))))))) (by kernel_rfl) (by kernel_rfl) ?_
 repeat ((first | (refine plan_takeP (v:=?_) rfl rfl rfl ?_ ?_;rotate_left;(· (intro _ hSw;go_simp;(try go_bits);(try with_reducible rfl)))) | (refine plan_take (v:=?_) rfl rfl rfl ?_ ?_;rotate_left;(· (intro _ hSw;go_simp;(try go_bits);(try with_reducible rfl)))) | refine plan_skip rfl rfl rfl ?_ | refine plan_skipc rfl rfl rfl (by assumption) ?_);(try simp only [Act.put,pu1,pu2,pu3,pu4,pu5,pu6]))
 refine plan_grow (l:=[(4,27),(5,8),(6,9)]) W1 (ScG W1 ff) (fun _=>undef) rfl ?_ (by decide) (below_drew' W1) ScG.later (List.forall_mem_cons.2 ⟨?_,List.forall_mem_cons.2 ⟨?_,List.forall_mem_cons.2 ⟨?_,List.forall_mem_nil _⟩⟩⟩) ?_
 ·simp only [putA,List.foldl_cons,List.foldl_nil,Act.put,List.setIfInBounds_toArray,List.set_cons_zero,List.set_cons_succ]
 ·refine Grow.mk rfl fun s wx b hbb hd hb KR hKR=>?_
  simp only [putA,List.foldl_cons,List.foldl_nil,Act.put,List.setIfInBounds_toArray,List.set_cons_zero,List.set_cons_succ] at hbb
  subst hbb
  go_simp
  try rw [i64_and15]
  refine (rint_own (1+a2 % 16) _ (by omega) (by omega)).mono ?_
  rintro _ w' ⟨v',rfl,e',hb'⟩
  exact hKR.out _ _ (Or.inr (below_then hb hb' hb.size)) ⟨hb',v',by simp [putA,updV,Act.put],by rw [hff,hf];exact e'.1⟩
 ·refine Grow.mk rfl fun s wx b hbb hd hb KR hKR=>?_
  clear hd
  simp only [putA,List.foldl_cons,List.foldl_nil,Act.put,List.setIfInBounds_toArray,List.set_cons_zero,List.set_cons_succ] at hbb
  subst hbb
  go_simp
  exact hKR.out _ _ (Or.inr (below_then hb (below_new wx _) hb.size)) ⟨below_new wx _,_,by simp [putA,updV,Act.put],_,rfl,hb.size,Bk.new wx 26 [.slice none 0 0,.slice none 0 0,.slice none 0 0]⟩
 ·refine Grow.mk rfl fun s wx b hbb hd hb KR hKR=>?_
  clear hd
  simp only [putA,List.foldl_cons,List.foldl_nil,Act.put,List.setIfInBounds_toArray,List.set_cons_zero,List.set_cons_succ] at hbb
  subst hbb
  go_simp
  exact hKR.out _ _ (Or.inr (below_then hb (below_new wx _) hb.size)) ⟨below_new wx _,_,by simp [putA,updV,Act.put],_,rfl,hb.size,Bk.new wx 48 [.bool false,.slice none 0 0,.bool false,.slice none 0 0]⟩
 ·intro s wx hG hb
  have g4:FracM wx (s 4) ff:=hG 4 (by decide)
  have g5:∃g,s 5= .pointer (some ⟨g,0,none⟩)∧W1.heap.size≤g∧Bk wx g 26 [.slice none 0 0,.slice none 0 0,.slice none 0 0]:=hG 5 (by decide)
  have g6:∃g,s 6= .pointer (some ⟨g,0,none⟩)∧W1.heap.size≤g∧Bk wx g 48 [.bool false,.slice none 0 0,.bool false,.slice none 0 0]:=hG 6 (by decide)
  have HFF:=Lib.hid hff
  have HFE:=Lib.hid hf
  clear hff hf
  have HSF:Hid (Sz 1 f):=Lib.hid (by rw [HFE.out];exact Sz_int (by omega) (by omega))
  obtain ⟨gq,e5,hg5,hQ⟩:=g5
  obtain ⟨gf,e6,hg6,hB⟩:=g6
  obtain ⟨B,k,d,B',k',d',e4,_,_⟩:=id g4
  rw [e4] at g4
  clear hG m1 C0 C1 C2
  simp only [putA,List.foldl_cons,List.foldl_nil,Act.put,List.setIfInBounds_toArray,List.set_cons_zero,List.set_cons_succ]
  rw [e4,e5,e6]
  clear e4 e5 e6 s
  obtain ⟨t0,t1,t2⟩:=hQ.three
  obtain ⟨f0,f1,f2⟩:=hQ.threeF
  refine plan_step rfl rfl (fun KR hKR=>?_)
  go_simp
  refine hKR.out _ _ (Or.inl (by decide)) ?_
  clear hKR KR t0 t1 t2 f0 f1 f2
  obtain ⟨wy,hwy⟩:∃wy,wy=((wx.setCell ⟨gq,0,none⟩ (.slice A0 n0 c0)).setCell ⟨gq,1,none⟩ (.slice A1 n1 c1)).setCell ⟨gq,2,none⟩ (.slice A2 m c2):=⟨_,rfl⟩
  have hQy:Bk wy gq 26 [.slice A0 n0 c0,.slice A1 n1 c1,.slice A2 m c2]:=by rw [hwy];exact ((hQ.set_ 0 _).set_ 1 _).set_ 2 _
  have hky:KeepBut 26 wx wy:=by rw [hwy];exact ((KeepBut.setCell hQ 0 _).trans (KeepBut.setCell (hQ.set_ 0 _) 1 _)).trans (KeepBut.setCell ((hQ.set_ 0 _).set_ 1 _) 2 _)
  have hby:Below W1.heap.size W1 wy:=by rw [hwy];exact ((hb.setCell (p:=⟨gq,0,none⟩) hg5 _).setCell (p:=⟨gq,1,none⟩) hg5 _).setCell (p:=⟨gq,2,none⟩) hg5 _
  rw [← hwy]
  have hBy:=hky.bk hB (by decide)
  have hfy:=g4.keep (hky.keep (by decide))
  clear hwy hky hQ hB hb g4
  obtain ⟨t0,t1,t2,t3⟩:=hBy.four
  obtain ⟨f0,f1,f2,f3⟩:=hBy.fourF
  refine plan_step rfl rfl (fun KR hKR=>?_)
  go_simp
  refine hKR.out _ _ (Or.inl (by decide)) ?_
  clear hKR KR t0 t1 t2 t3 f0 f1 f2 f3
  refine plan_done ?_
  obtain ⟨wz,hwz⟩:∃wz,wz=(((wy.setCell ⟨gf,0,none⟩ (.bool ff.num.neg)).setCell ⟨gf,1,none⟩ (.slice B k d)).setCell ⟨gf,2,none⟩ (.bool ff.den.neg)).setCell ⟨gf,3,none⟩ (.slice B' k' d'):=⟨_,rfl⟩
  have hBz:Bk wz gf 48 [.bool ff.num.neg,.slice B k d,.bool ff.den.neg,.slice B' k' d']:=by rw [hwz];exact hBy.set4 _ _ _ _
  have hkz:KeepBut 48 wy wz:=by rw [hwz];exact hBy.but4 _ _ _ _
  have hbz:Below W1.heap.size W1 wz:=by rw [hwz];exact below_set4 hby hg6 _ _ _ _
  rw [← hwz]
  have hQz:=hkz.bk hQy (by decide)
  have hfz:=Lib.hid (hfy.keep (hkz.keep (by decide)))
  clear hwz hkz hQy hBy hfy hby
  have hXz:=X_1.out.later hbz
  have hbw:=below_then hbw1 hbz hbw1.size
  have LPz:=Lib.hid (LP_1.out.below hbz)
  have hca:=Lib.hid (hFa.below hbz)
  have hcb:=Lib.hid (hFb.below hbz)
  have hcc:=Lib.hid (hFc.below hbz)
  clear LP_1 X_1 hbw1 hFa hFb hFc
  obtain ⟨x0,x1,x2⟩:=hQz.three
  obtain ⟨f0,f1,f2⟩:=hQz.threeF
  go_wp2
  clear x0 x1 x2 f0 f1 f2 q0 q1
  obtain ⟨W0,hW0⟩:∃W0,W0=wz.setCell ⟨gq,0,none⟩ (.slice none 0 0):=⟨_,rfl⟩
  have hQ0:Bk W0 gq 26 [.slice none 0 0,.slice A1 n1 c1,.slice A2 m c2]:=by rw [hW0];exact hQz.set_ 0 _
  have hk0:KeepBut 26 wz W0:=by rw [hW0];exact KeepBut.setCell hQz 0 _
  have hng:w1.heap.size≠gq:=by have:=hg5;have:=HSZ.out;omega
  have hX0:Bk W0 w1.heap.size 26 [.slice A0 n0 c0,.slice A1 n1 c1,.slice A2 m c2]:=by rw [hW0];exact hXz.set_other hng 0 _
  have hb0:Below w.heap.size w W0:=by rw [hW0];exact hbw.setCell (p:=⟨gq,0,none⟩) (by have:=hbw1s.out;show w.heap.size≤gq;omega) _
  rw [← hW0]
  clear hW0
  have HB0:=Lib.hid (hk0.bk hBz (by decide))
  have Hf0:=Lib.hid (hfz.out.keep (hk0.keep (by decide)))
  have Ha0:=Lib.hid (hca.out.but hk0 (by decide) (by decide))
  have Hb0:=Lib.hid (hcb.out.but hk0 (by decide) (by decide) (by decide))
  have Hc0:=Lib.hid (hcc.out.but hk0 (by decide) (by decide))
  clear hk0 hQz hXz hbw hBz hfz hca hcb hcc hbz LPz
  have HWW:Hid (w.heap.size≤W0.heap.size):=Lib.hid hb0.size
  have hn5:n0≤5:=by rw [HLA.out,HCL.out];exact HOK.out.2.2.1
  go_loopw [10] (fun i wr=>∃(j:Nat) (vc:Value),j≤n0∧i= .int .i64 j∧Below w.heap.size w wr∧KeepBut 26 W0 wr∧W0.heap.size≤wr.heap.size∧Bk wr w1.heap.size 26 [.slice A0 n0 c0,.slice A1 n1 c1,.slice A2 m c2]∧Bk wr gq 26 [vc,.slice A1 n1 c1,.slice A2 m c2]∧FrsO W0.heap.size wr vc (canL j (fun i=>f * qAt p.cost i))) (fun i _=>((n0:Int) - intOf i).toNat)
  case atStart=>exact ⟨0,_,by omega,rfl,hb0,KeepBut.refl _ _,Nat.le_refl _,hX0,hQ0,FrsO.nil _ _⟩
  case round=>
   obtain ⟨j,vc,hj,rfl,hbe,hkb,hsz,hX,hQ,hO⟩:=hrel
   clear hX0 hQ0 hb0
   have ha:=Ha0.out.but hkb (by decide) (by decide)
   have hB:=hkb.bk HB0.out (by decide)
   have hf:=Hf0.out.keep (hkb.keep (by decide))
   obtain ⟨b0,b1,b2,b3⟩:=hB.four
   obtain ⟨x0,x1,x2⟩:=hX.three
   obtain ⟨Av,nv,cv,rfl⟩:=hO.sliceN
   obtain ⟨y0,y1,y2⟩:=hQ.three
   rcases Nat.lt_or_ge j n0 with hjl | hjl
   ·obtain ⟨fj,hfj⟩:∃fj,p.cost[j]? =some fj:=⟨_,List.getElem?_eq_getElem (by have:=HLA.out;omega)⟩
    have HFJ:=Lib.hid hfj
    have HSJ:=Lib.hid ((show ∀(i:Nat) (f:RF),p.cost[i]? =some f→f.Rs 1 from HRC.out) j fj hfj)
    obtain ⟨bb,ob,A3,n3,c3,A4,n4,c4,rfl,hblt,⟨e0,e1,e2,e3⟩,em⟩:=ha.elem (Below.refl _ _) hfj
    clear hfj hblt
    go_wp2_with fail
    have C0:=stab x0
    have C1:=stab y0
    have C2:=stab b0
    have C3:=stab b1
    have C4:=stab b2
    have C5:=stab b3
    have C6:=stab e0
    have C7:=stab e1
    have C8:=stab e2
    have C9:=stab e3
    have hS0:=below_drew' wr
    clear x0 x1 x2 y0 y1 y2 b0 b1 b2 b3 e0 e1 e2 e3
    generalize hvc:Value.slice Av nv cv=vc at *
    clear hvc
    refine region_seq 10 [0,1,2,3,4,5,6,7,8,9,10,11,12] (by kernel_rfl) (by kernel_rfl) ?_
    repeat ((first | (refine seq_takeP (v:=?_) rfl rfl rfl ?_ ?_;rotate_left;(· (intro _ hSw;go_simp;(try go_bits);(try with_reducible rfl)))) | (refine seq_take (v:=?_) rfl rfl rfl ?_ ?_;rotate_left;(· (intro _ hSw;go_simp;(try go_bits);(try with_reducible rfl)))) | refine seq_skip rfl rfl rfl ?_);(try simp only [Act.put,pu1,pu2,pu3,pu4,pu5,pu6]))
    refine seq_step rfl rfl (fun KR hKR=>?_)
    go_simp
    with_reducible refine (rmulF_own _ _ ff fj _ ((hf.below hS0)) ((em.below hS0)) (by rw [HFF.out];exact HSF.out.sh (by decide)) (HSJ.out.sh (by decide))).mono ?_
    rw [show ff.q * fj.q=f * qAt p.cost j by rw [HFF.out,canF_q,qAt_some HFJ.out]]
    rintro _ w2 ⟨v2,rfl,e2,hb2⟩
    have hS2:=below_then hS0 hb2 hS0.size
    obtain ⟨B2,l2,d2,B3,l3,d3,rfl,_,_⟩:=id e2.frac
    have HF2:=Lib.hid e2.frac
    clear e2
    obtain ⟨Q,hQQ⟩:∃Q,Q=canF (f * qAt p.cost j):=⟨_,rfl⟩
    have HQQ:=Lib.hid hQQ
    rw [← hQQ] at HF2 ⊢
    clear hQQ
    refine hKR.out _ _ (Or.inr hS2) ?_
    clear hKR KR
    (try simp only [Act.put,pu1,pu2,pu3,pu4,pu5,pu6])
    repeat ((first | (refine seq_takeP (v:=?_) rfl rfl rfl ?_ ?_;rotate_left;(· (intro _ hSw;go_simp;(try go_bits);(try with_reducible rfl)))) | (refine seq_take (v:=?_) rfl rfl rfl ?_ ?_;rotate_left;(· (intro _ hSw;go_simp;(try go_bits);(try with_reducible rfl)))) | refine seq_skip rfl rfl rfl ?_);(try simp only [Act.put,pu1,pu2,pu3,pu4,pu5,pu6]))
    refine seq_step rfl rfl (fun KR hKR=>?_)
    go_simp
    refine hKR.out _ _ (Or.inr (below_then hS2 (below_new _ _) hS2.size)) ?_
    clear hKR KR
    (try simp only [Act.put,pu1,pu2,pu3,pu4,pu5,pu6])
    have HO:=Lib.hid (hO.below hS2)
    have hbs:W0.heap.size≤w2.heap.size:=by have:=hS2.size;omega
    have hlen:(canL j (fun i=>f * qAt p.cost i)).length+1≤1099511627776:=by rw [canL_length];omega
    refine seq_append_frac rfl rfl rfl (by decide) (.tmp 37) (.tmp 45) rfl w2 W0.heap.size vc _ rfl HO.out _ _ B2 B3 l2 d2 l3 d3 Q HF2.out rfl hlen hbs ?_
    intro v' w4 hown4 hk4 hb4
    obtain ⟨A5,n5,c5,rfl⟩:=hown4.sliceN
    (try simp only [Act.put,pu1,pu2,pu3,pu4,pu5,pu6])
    have hX4:=hk4.bk (hX.later hS2) (by decide)
    have hQ4:=hk4.bk (hQ.later hS2) (by decide)
    have hkb4:=(hkb.old hS2 hsz).then hb4
    have hX4:=hk4.bk (hX.later hS2) (by decide)
    have hQ4:=hk4.bk (hQ.later hS2) (by decide)
    have hkb4:=(hkb.old hS2 hsz).then hb4
    have hbe4:=below_trans_le hbe hS2 hb4 hbe.size HWW.out hbe.size
    obtain ⟨t0,t1,t2⟩:=hQ4.three
    obtain ⟨g0,g1,g2⟩:=hQ4.threeF
    refine seq_step rfl rfl (fun KR hKR=>?_)
    go_simp
    refine hKR.out _ _ (Or.inl (by decide)) ?_
    clear hKR KR
    (try simp only [Act.put,pu1,pu2,pu3,pu4,pu5,pu6])
    refine seq_step rfl rfl (fun KR hKR=>?_)
    go_simp
    refine hKR.out _ _ (Or.inl (by decide)) ?_
    clear hKR KR
    (try simp only [Act.put,pu1,pu2,pu3,pu4,pu5,pu6])
    refine seq_done ?_
    generalize hv':Value.slice A5 n5 c5=v' at *
    clear hv' C0 C1 C2 C3 C4 C5 C6 C7 C8 C9 t0 t1 t2 g0 g1 g2
    have hQ5:=hQ4.set_ 0 v'
    have hX5:=hX4.set_other hng 0 v'
    have hk5:=KeepBut.setCell hQ4 0 v'
    have hO5:=hown4.but hk5 (by decide) (by decide)
    have hkb5:=hkb4.trans hk5
    have hbe5:=hbe4.setCell (p:=⟨gq,0,none⟩) (by have:=hbw1s.out;show w.heap.size≤gq;omega) v'
    have hs5:W0.heap.size≤(w4.setCell ⟨gq,0,none⟩ v').heap.size:=by have:=hb4.size;simp;omega
    generalize w4.setCell ⟨gq,0,none⟩ v'=W5 at *
    rw [HQQ.out,canL_succ] at hO5
    simp only [List.set_cons_zero] at hQ5
    clear hX4 hQ4 hk4 hkb4 hbe4 hown4 hk5 hb4 hX hQ hO hS0 hS2 hb2 HO HF2 hkb hbe ha hB hf em hlen
    go_wp2
    go_roundw
    case rel=>exact ⟨j+1,v',by omega,by go_num,hbe5,hkb5,hs5,hX5,hQ5,hO5⟩
    case measure=>simp [intOf];omega
   ·obtain rfl:j=n0:=by omega
    have hvc:=hO.frs
    rw [HLA.out] at hvc
    have LPj:Hid (LpM wr (.agg #[.slice A0 j c0,.slice A1 n1 c1,.slice A2 m c2]) p):=Lib.hid ⟨_,_,_,_,_,_,_,_,_,rfl,ha,Hb0.out.but hkb (by decide) (by decide) (by decide),Hc0.out.but hkb (by decide) (by decide)⟩
    have hfp:0 < f:=by rw [HFE.out];exact Rat.intCast_pos.mpr (by omega)
    obtain ⟨q,hq⟩:∃q,q=sclP f p:=⟨_,rfl⟩
    have LQj:Hid (LpM wr (.agg #[.slice Av nv cv,.slice A1 n1 c1,.slice A2 m c2]) q):=Lib.hid (by rw [hq];exact ⟨_,_,_,_,_,_,_,_,_,rfl,hvc,Hb0.out.but hkb (by decide) (by decide) (by decide),Hc0.out.but hkb (by decide) (by decide)⟩)
    have HFq:Hid (q.Ft 32):=Lib.hid (by rw [hq];exact sclP_ft HF.out HRC.out HSF.out)
    have HZq:Hid (lpErr q=0):=Lib.hid (by rw [hq];exact sclP_err HZ.out)
    have HQE:=Lib.hid hq
    have HFP:=Lib.hid hfp
    clear hq hfp hvc
    have Xj:=Lib.hid hX
    have Qj:=Lib.hid hQ
    have Bj:=Lib.hid hB
    have Fj:=Lib.hid hf
    clear hX hQ hB hf hO hkb ha b0 b1 b2 b3 y0 y1 y2 hsz hj hjl
    go_wp2_with fail
    refine (sstart_own _ p 32 _ LPj.out HF.out.1.ok (fun _=>HF.out)).mono ?_
    rw [smSta_yes HZ.out,HZ.out]
    have HGs:=Lib.hid (Gd.start p)
    obtain ⟨s,hs⟩:∃s,s=settleQ p (startS p):=⟨_,rfl⟩
    have HDs:=Lib.hid hs
    rw [← hs] at HGs ⊢
    clear hs
    have HRs:=Lib.hid (HGs.out.rg HF.out)
    rintro _ w2 ⟨v2,rfl,⟨A2,n2,c2,rfl,hI⟩,hb⟩
    obtain ⟨W2,hW2,hB,hn⟩:=box_st w2 (.int .i64 s.phase) (.slice A2 n2 c2) (.int .i64 s.pivots)
    have hc:=below_then hb hn hb.size
    have LP_2:=Lib.hid (LPj.out.below hc)
    have LQ_2:=Lib.hid (LQj.out.below hc)
    have X_2:=Lib.hid (Xj.out.later hc)
    have Q_2:=Lib.hid (Qj.out.later hc)
    have FB_2:=Lib.hid (Bj.out.later hc)
    have FF_2:=Lib.hid (Fj.out.below hc)
    have Ms_2:=Lib.hid (StM.below ((⟨A2,n2,c2,rfl,hI.ints⟩:StM w2 (.agg #[.int .i64 s.phase,.slice A2 n2 c2,.int .i64 s.pivots]) s)) hn)
    have Bs_2:=Lib.hid hB
    have hbw2:=below_then hbe hc hbe.size
    clear x0 x1 x2
    clear LPj LQj Xj Qj Bj Fj hbe hc hb hn hB
    clear hI
    obtain ⟨cX0,cX1,cX2⟩:=X_2.out.three
    obtain ⟨cBs0,cBs1,cBs2⟩:=Bs_2.out.three
    go_wp2_with fail
    clear hW2
    rw [i64_and15]
    obtain ⟨N,hN⟩:∃N:Nat,a1 % 16=N:=⟨(a1 % 16).toNat,by omega⟩
    have bN:N < 16:=by omega
    rw [hN]
    have HAN:=Lib.hid hN
    clear hN
    refine (srun_own _ _ p s 32 _ LP_2.out Ms_2.out HF.out.1.ok (fun _=>HF.out) HRs.out.1 HRs.out.2 N (by omega) (fun _=>HGs.out.pv (by omega))).mono ?_
    rw [HGs.out.ru HZ.out,HGs.out.err HZ.out]
    have HGt:=Lib.hid (HGs.out.run N)
    obtain ⟨t,ht⟩:∃t,t=runL p N s:=⟨_,rfl⟩
    have HDt:=Lib.hid ht
    rw [← ht] at HGt ⊢
    clear ht
    have HRt:=Lib.hid (HGt.out.rg HF.out)
    rintro _ w3 ⟨v3,rfl,⟨A3,n3,c3,rfl,hI⟩,hb⟩
    obtain ⟨W3,hW3,hB,hn⟩:=box_st w3 (.int .i64 t.phase) (.slice A3 n3 c3) (.int .i64 t.pivots)
    have hc:=below_then hb hn hb.size
    have LP_3:=Lib.hid (LP_2.out.below hc)
    have LQ_3:=Lib.hid (LQ_2.out.below hc)
    have X_3:=Lib.hid (X_2.out.later hc)
    have Q_3:=Lib.hid (Q_2.out.later hc)
    have FB_3:=Lib.hid (FB_2.out.later hc)
    have FF_3:=Lib.hid (FF_2.out.below hc)
    have Ms_3:=Lib.hid (Ms_2.out.below hc)
    have Bs_3:=Lib.hid (Bs_2.out.later hc)
    have Mt_3:=Lib.hid (StM.below ((⟨A3,n3,c3,rfl,hI.ints⟩:StM w3 (.agg #[.int .i64 t.phase,.slice A3 n3 c3,.int .i64 t.pivots]) t)) hn)
    have Bt_3:=Lib.hid hB
    have hbw3:=below_then hbw2 hc hbw2.size
    clear cX0 cX1 cX2 cBs0 cBs1 cBs2
    clear LP_2 LQ_2 X_2 Q_2 FB_2 FF_2 Ms_2 Bs_2 hbw2 hc hb hn hB
    clear hI
    obtain ⟨cQ0,cQ1,cQ2⟩:=Q_3.out.three
    obtain ⟨cBs0,cBs1,cBs2⟩:=Bs_3.out.three
    go_wp2_with fail
    clear hW3
    rw [i64_and15,HAN.out]
    refine (srun_own _ _ q s 32 _ LQ_3.out Ms_3.out HFq.out.1.ok (fun _=>HFq.out) HRs.out.1 HRs.out.2 N (by omega) (fun _=>HGs.out.pv (by omega))).mono ?_
    have HGq:Hid (Gd q 0 s):=Lib.hid (by rw [HQE.out];exact HGs.out.scl HFP.out)
    rw [HGq.out.ru HZq.out,HGq.out.err HZq.out,show runL q N s=t by rw [HQE.out,HGs.out.sclrun HFP.out,HDt.out]]
    rintro _ w4 ⟨v4,rfl,⟨A4,n4,c4,rfl,hI⟩,hb⟩
    obtain ⟨W4,hW4,hB,hn⟩:=box_st w4 (.int .i64 t.phase) (.slice A4 n4 c4) (.int .i64 t.pivots)
    have hc:=below_then hb hn hb.size
    have LP_4:=Lib.hid (LP_3.out.below hc)
    have LQ_4:=Lib.hid (LQ_3.out.below hc)
    have X_4:=Lib.hid (X_3.out.later hc)
    have Q_4:=Lib.hid (Q_3.out.later hc)
    have FB_4:=Lib.hid (FB_3.out.later hc)
    have FF_4:=Lib.hid (FF_3.out.below hc)
    have Ms_4:=Lib.hid (Ms_3.out.below hc)
    have Bs_4:=Lib.hid (Bs_3.out.later hc)
    have Mt_4:=Lib.hid (Mt_3.out.below hc)
    have Bt_4:=Lib.hid (Bt_3.out.later hc)
    have Mu_4:=Lib.hid (StM.below ((⟨A4,n4,c4,rfl,hI.ints⟩:StM w4 (.agg #[.int .i64 t.phase,.slice A4 n4 c4,.int .i64 t.pivots]) t)) hn)
    have Bu_4:=Lib.hid hB
    have hbw4:=below_then hbw3 hc hbw3.size
    clear cQ0 cQ1 cQ2 cBs0 cBs1 cBs2
    clear LP_3 LQ_3 X_3 Q_3 FB_3 FF_3 Ms_3 Bs_3 Mt_3 Bt_3 hbw3 hc hb hn hB
    clear hI
    obtain ⟨cX0,cX1,cX2⟩:=X_4.out.three
    obtain ⟨cBt0,cBt1,cBt2⟩:=Bt_4.out.three
    go_wp2_with fail
    clear hW4
    refine (svalue_own _ _ p t 32 _ LP_4.out Mt_4.out HF.out.1.ok (fun _=>HF.out) HRt.out.1 HRt.out.2).mono ?_
    rw [HGt.out.va HZ.out,HGt.out.err HZ.out]
    obtain ⟨v,hv⟩:∃v:RF,v=canF (objQ p 2 t):=⟨_,rfl⟩
    have HDv:=Lib.hid hv
    rw [← hv]
    clear hv
    rintro _ w5 ⟨v5,rfl,he,hb⟩
    obtain ⟨A5,n5,c5,E5,j5,d5,rfl,_,_⟩:=id he
    obtain ⟨W5,hW5,hB,hn⟩:=boxF1 w5 (.bool v.num.neg) (.slice A5 n5 c5) (.bool v.den.neg) (.slice E5 j5 d5)
    have hc:=below_then hb hn hb.size
    have LP_5:=Lib.hid (LP_4.out.below hc)
    have LQ_5:=Lib.hid (LQ_4.out.below hc)
    have X_5:=Lib.hid (X_4.out.later hc)
    have Q_5:=Lib.hid (Q_4.out.later hc)
    have FB_5:=Lib.hid (FB_4.out.later hc)
    have FF_5:=Lib.hid (FF_4.out.below hc)
    have Ms_5:=Lib.hid (Ms_4.out.below hc)
    have Bs_5:=Lib.hid (Bs_4.out.later hc)
    have Mt_5:=Lib.hid (Mt_4.out.below hc)
    have Bt_5:=Lib.hid (Bt_4.out.later hc)
    have Mu_5:=Lib.hid (Mu_4.out.below hc)
    have Bu_5:=Lib.hid (Bu_4.out.later hc)
    have Fv_5:=Lib.hid ((he).below hn)
    have Bv_5:=Lib.hid hB
    have hbw5:=below_then hbw4 hc hbw4.size
    clear cX0 cX1 cX2 cBt0 cBt1 cBt2
    clear LP_4 LQ_4 X_4 Q_4 FB_4 FF_4 Ms_4 Bs_4 Mt_4 Bt_4 Mu_4 Bu_4 hbw4 hc hb hn hB
    clear he
    obtain ⟨cQ0,cQ1,cQ2⟩:=Q_5.out.three
    obtain ⟨cBu0,cBu1,cBu2⟩:=Bu_5.out.three
    go_wp2_with fail
    clear hW5
    refine (svalue_own _ _ q t 32 _ LQ_5.out Mu_5.out HFq.out.1.ok (fun _=>HFq.out) HRt.out.1 HRt.out.2).mono ?_
    have HGqt:Hid (Gd q (0+N) t):=Lib.hid (by rw [HQE.out];exact HGt.out.scl HFP.out)
    rw [HGqt.out.va HZq.out,HGqt.out.err HZq.out]
    obtain ⟨z,hz⟩:∃z:RF,z=canF (objQ q 2 t):=⟨_,rfl⟩
    have HDz:=Lib.hid hz
    rw [← hz]
    clear hz
    rintro _ w6 ⟨v6,rfl,he,hb⟩
    obtain ⟨A6,n6,c6,E6,j6,d6,rfl,_,_⟩:=id he
    obtain ⟨W6,hW6,hB,hn⟩:=boxF1 w6 (.bool z.num.neg) (.slice A6 n6 c6) (.bool z.den.neg) (.slice E6 j6 d6)
    have hc:=below_then hb hn hb.size
    have LP_6:=Lib.hid (LP_5.out.below hc)
    have LQ_6:=Lib.hid (LQ_5.out.below hc)
    have X_6:=Lib.hid (X_5.out.later hc)
    have Q_6:=Lib.hid (Q_5.out.later hc)
    have FB_6:=Lib.hid (FB_5.out.later hc)
    have FF_6:=Lib.hid (FF_5.out.below hc)
    have Ms_6:=Lib.hid (Ms_5.out.below hc)
    have Bs_6:=Lib.hid (Bs_5.out.later hc)
    have Mt_6:=Lib.hid (Mt_5.out.below hc)
    have Bt_6:=Lib.hid (Bt_5.out.later hc)
    have Mu_6:=Lib.hid (Mu_5.out.below hc)
    have Bu_6:=Lib.hid (Bu_5.out.later hc)
    have Fv_6:=Lib.hid (Fv_5.out.below hc)
    have Bv_6:=Lib.hid (Bv_5.out.later hc)
    have Fz_6:=Lib.hid ((he).below hn)
    have Bz_6:=Lib.hid hB
    have hbw6:=below_then hbw5 hc hbw5.size
    clear cQ0 cQ1 cQ2 cBu0 cBu1 cBu2
    clear LP_5 LQ_5 X_5 Q_5 FB_5 FF_5 Ms_5 Bs_5 Mt_5 Bt_5 Mu_5 Bu_5 Fv_5 Bv_5 hbw5 hc hb hn hB
    clear he
    obtain ⟨cBt0,cBt1,cBt2⟩:=Bt_6.out.three
    obtain ⟨cBu0,cBu1,cBu2⟩:=Bu_6.out.three
    obtain ⟨cFB0,cFB1,cFB2,cFB3⟩:=FB_6.out.four
    obtain ⟨cBv0,cBv1,cBv2,cBv3⟩:=Bv_6.out.four
    obtain ⟨cBz0,cBz1,cBz2,cBz3⟩:=Bz_6.out.four
    go_wp2_with fail
    clear hW6
    have D0:=stab cBt0
    have D1:=stab cBt1
    have D2:=stab cBt2
    have D3:=stab cBu0
    have D4:=stab cBu1
    have D5:=stab cBu2
    have D6:=stab cFB0
    have D7:=stab cFB1
    have D8:=stab cFB2
    have D9:=stab cFB3
    have D10:=stab cBv0
    have D11:=stab cBv1
    have D12:=stab cBv2
    have D13:=stab cBv3
    have D14:=stab cBz0
    have D15:=stab cBz1
    have D16:=stab cBz2
    have D17:=stab cBz3
    have hS0:=below_drew' W6
    clear cBt0 cBt1 cBt2 cBu0 cBu1 cBu2 cFB0 cFB1 cFB2 cFB3 cBv0 cBv1 cBv2 cBv3 cBz0 cBz1 cBz2 cBz3
    refine region_seq 34 [0,1,2,3,4,5,6,7,8,9,10,11,12,13,14,15,16,17,18,19,20,21,22,23,24,25,26,27,28,29,30,31,32,33] (by kernel_rfl) (by kernel_rfl) ?_
    repeat ((first | (refine seq_takeP (v:=?_) rfl rfl rfl ?_ ?_;rotate_left;(· (intro _ hSw;go_simp;(try go_bits);(try with_reducible rfl)))) | (refine seq_take (v:=?_) rfl rfl rfl ?_ ?_;rotate_left;(· (intro _ hSw;go_simp;(try go_bits);(try with_reducible rfl)))) | refine seq_skip rfl rfl rfl ?_ | refine seq_skipc rfl rfl rfl (by assumption) ?_);(try simp only [Act.put,pu1,pu2,pu3,pu4,pu5,pu6]))
    refine seq_step rfl rfl (fun KR hKR=>?_)
    go_simp
    with_reducible refine (samestate_any _ _ t _ (Mt_6.out.below hS0) (Mu_6.out.below hS0) HRt.out.1).mono ?_
    rintro _ x1 ⟨rfl,hb1⟩
    have hS1:=below_then hS0 hb1 hS0.size
    refine hKR.out _ _ (Or.inr hS1) ?_
    clear hKR KR
    (try simp only [Act.put,pu1,pu2,pu3,pu4,pu5,pu6])
    repeat ((first | (refine seq_takeP (v:=?_) rfl rfl rfl ?_ ?_;rotate_left;(· (intro _ hSw;go_simp;(try go_bits);(try with_reducible rfl)))) | (refine seq_take (v:=?_) rfl rfl rfl ?_ ?_;rotate_left;(· (intro _ hSw;go_simp;(try go_bits);(try with_reducible rfl)))) | refine seq_skip rfl rfl rfl ?_ | refine seq_skipc rfl rfl rfl (by assumption) ?_);(try simp only [Act.put,pu1,pu2,pu3,pu4,pu5,pu6]))
    refine seq_step rfl rfl (fun KR hKR=>?_)
    go_simp
    with_reducible refine (rmulF_own _ _ ff v _ (FF_6.out.below hS1) (Fv_6.out.below hS1) (by rw [HFF.out];exact HSF.out.sh (by decide)) (by rw [HDv.out];exact (obj_shH HF.out _ _).sh)).mono ?_
    rintro _ x2 ⟨y2,rfl,he,hb2⟩
    have hS2:=below_then hS1 hb2 hS1.size
    have HE2:=Lib.hid he.frac
    clear he
    refine hKR.out _ _ (Or.inr hS2) ?_
    clear hKR KR
    (try simp only [Act.put,pu1,pu2,pu3,pu4,pu5,pu6])
    repeat ((first | (refine seq_takeP (v:=?_) rfl rfl rfl ?_ ?_;rotate_left;(· (intro _ hSw;go_simp;(try go_bits);(try with_reducible rfl)))) | (refine seq_take (v:=?_) rfl rfl rfl ?_ ?_;rotate_left;(· (intro _ hSw;go_simp;(try go_bits);(try with_reducible rfl)))) | refine seq_skip rfl rfl rfl ?_ | refine seq_skipc rfl rfl rfl (by assumption) ?_);(try simp only [Act.put,pu1,pu2,pu3,pu4,pu5,pu6]))
    refine seq_step rfl rfl (fun KR hKR=>?_)
    go_simp
    with_reducible refine (sameF_any _ _ z _ _ (Fz_6.out.below hS2) HE2.out).mono ?_
    rw [show z=canF (ff.q * v.q) by rw [HDz.out,HFF.out,HDv.out,canF_q,canF_q,HQE.out,scl_obj HFP.out],sameF_refl]
    rintro _ x3 ⟨rfl,hb3⟩
    have hS3:=below_then hS2 hb3 hS2.size
    refine hKR.out _ _ (Or.inr hS3) ?_
    clear hKR KR
    (try simp only [Act.put,pu1,pu2,pu3,pu4,pu5,pu6])
    repeat ((first | (refine seq_takeP (v:=?_) rfl rfl rfl ?_ ?_;rotate_left;(· (intro _ hSw;go_simp;(try go_bits);(try with_reducible rfl)))) | (refine seq_take (v:=?_) rfl rfl rfl ?_ ?_;rotate_left;(· (intro _ hSw;go_simp;(try go_bits);(try with_reducible rfl)))) | refine seq_skip rfl rfl rfl ?_ | refine seq_skipc rfl rfl rfl (by assumption) ?_);(try simp only [Act.put,pu1,pu2,pu3,pu4,pu5,pu6]))
    refine seq_step rfl rfl (fun KR hKR=>?_)
    go_simp
    with_reducible refine (known_own _).mono ?_
    rintro _ x4 ⟨rfl,hb4⟩
    have hS4:=below_then hS3 hb4 hS3.size
    refine hKR.out _ _ (Or.inr hS4) ?_
    clear hKR KR
    (try simp only [Act.put,pu1,pu2,pu3,pu4,pu5,pu6])
    repeat ((first | (refine seq_takeP (v:=?_) rfl rfl rfl ?_ ?_;rotate_left;(· (intro _ hSw;go_simp;(try go_bits);(try with_reducible rfl)))) | (refine seq_take (v:=?_) rfl rfl rfl ?_ ?_;rotate_left;(· (intro _ hSw;go_simp;(try go_bits);(try with_reducible rfl)))) | refine seq_skip rfl rfl rfl ?_ | refine seq_skipc rfl rfl rfl (by assumption) ?_);(try simp only [Act.put,pu1,pu2,pu3,pu4,pu5,pu6]))
    refine seq_done ?_
    have bfin:=below_then hbw6 hS4 hbw6.size
    clear D0 D1 D2 D3 D4 D5 D6 D7 D8 D9 D10 D11 D12 D13 D14 D15 D16 D17
    go_wp2
    go_ret
    exact ⟨rfl,bfin⟩
end
end Go.Proofs.YtncmobkhenfhpaaGreat
