/- Contracts and plain facts that the claim is built on, joined out of smaller texts; no condition. -/
import Derived.Test.YtncmobkhenfhpaaGreatB12
set_option linter.unusedVariables false
set_option linter.unusedSimpArgs false
set_option maxRecDepth 100000
set_option maxHeartbeats 40000000
namespace Go.Proofs.YtncmobkhenfhpaaGreat
open Go.RowKit
open Pl
attribute [local go_sem ↓] Go.wp_at_zero Go.wp_at_succ
namespace Pl
theorem mul_len (m n:Nat):(digs (m * n)).length≤(digs m).length+(digs n).length:=by
 apply digs_lt
 rw [Nat.pow_add]
 have h1:=digs_lt_pow m
 have h2:=digs_lt_pow n
 exact Nat.mul_lt_mul'' h1 h2
theorem add_len (m n k:Nat) (h1:(digs m).length≤k) (h2:(digs n).length≤k):(digs (m+n)).length≤k+1:=by
 apply digs_lt
 have a1:=Nat.lt_of_lt_of_le (digs_lt_pow m) (Nat.pow_le_pow_right B32_pos h1)
 have a2:=Nat.lt_of_lt_of_le (digs_lt_pow n) (Nat.pow_le_pow_right B32_pos h2)
 rw [Nat.pow_succ]
 generalize B32^k=p at *
 unfold B32
 omega
theorem val_canI (z:Int):val (canI z).ds=z.natAbs:=val_digs _
theorem RI.Sm.mul {a b:RI} (h1:a.Sm) (h2:b.Sm):(digs (val (canI (a.z * b.z)).ds)).length≤137438953472:=by
 unfold RI.Sm at h1 h2
 rw [val_canI,Int.natAbs_mul,z_natAbs,z_natAbs]
 exact Nat.le_trans (mul_len _ _) (by omega)
theorem RI.Sm.two {a b:RI} (h1:a.Sm) (h2:b.Sm):(digs (val a.ds)).length+(digs (val b.ds)).length≤1099511627776:=by
 unfold RI.Sm at h1 h2
 omega
theorem okq_mul {n d m k:Int} {p q:Rat} (h:okq n d p) (g:okq m k q):(-9223372036854775807≤n * m∧n * m≤9223372036854775807)∧(0 < d * k∧d * k≤9223372036854775807)∧Rat.divInt (n * m) (d * k)=p * q:=by
 obtain ⟨⟨a1,a2⟩,a3,a4,rfl⟩:=h
 obtain ⟨⟨b1,b2⟩,b3,b4,rfl⟩:=g
 refine ⟨?_,⟨Int.mul_pos a3 b3,?_⟩,(Rat.divInt_mul_divInt _ _).symm⟩
 ·exact prod_bd (by omega) (by omega) (by omega) (by omega)
 ·exact (prod_bd (by omega) (by omega) (by omega) (by omega)).2
 where
  prod_bd {x y:Int} (h1: -2147483648≤x) (h2:x≤2147483648) (h3: -2147483648≤y) (h4:y≤2147483648): -9223372036854775807≤x * y∧x * y≤9223372036854775807:=by
   have e:(x * y).natAbs≤2147483648 * 2147483648:=by rw [Int.natAbs_mul];exact Nat.mul_le_mul (by omega) (by omega)
   omega
end Pl
theorem boxF3 (w:World) (x1 x2 x3 x4 y1 y2 y3 y4:Value):∃W,((w.alloc (.cells #[x1,x2,x3,x4] 48)).alloc (.cells #[y1,y2,y3,y4] 48)).alloc (.cells #[.bool false,.slice none 0 0,.bool false,.slice none 0 0] 48)=W∧Bk W w.heap.size 48 [x1,x2,x3,x4]∧Bk W (w.heap.size+1) 48 [y1,y2,y3,y4]∧
 Bk W (w.heap.size+1+1) 48 [.bool false,.slice none 0 0,.bool false,.slice none 0 0]∧Below w.heap.size w W:=by
 obtain ⟨W,hW,hs,h1,h2,hb⟩:=boxF2 w x1 x2 x3 x4 y1 y2 y3 y4
 exact ⟨_,by rw [hW],h1.alloc _,h2.alloc _,Bk.next hs _ _ hb,hb.alloc hb.size _⟩
theorem words2 (w:World) (x y z u:Int):∃W,(w.alloc (.cells #[.int .i64 x,.int .i64 y] 148)).alloc (.cells #[.int .i64 z,.int .i64 u] 148)=W∧Bk W w.heap.size 148 [.int .i64 x,.int .i64 y]∧Bk W (w.heap.size+1) 148 [.int .i64 z,.int .i64 u]∧Below w.heap.size w W:=by
 refine ⟨_,rfl,(Bk.new w _ [.int .i64 x,.int .i64 y]).alloc _,?_,(below_new w _).alloc (by simp) _⟩
 have:=Bk.new (w.alloc (.cells #[.int .i64 x,.int .i64 y] 148)) 148 [.int .i64 z,.int .i64 u]
 rwa [size_alloc] at this
theorem Pl.pos_ne {x y:Int} (h:0 < x) (k:0 < y):(canI (x * y)).z≠0:=by
 rw [canI_z];have:=Int.mul_pos h k;omega
theorem mulF_any (v1 v2:Value) (a b:RF) (w:World) (h1:FracM w v1 a) (h2:FracM w v2 b) (hs:a.Sm) (hs2:b.Sm):
 Calls Tryz.prog 95 #[v1,v2] w fun e w'=>∃v',e= .returned v'∧FracM w' v' (canF (a.q * b.q))∧Below w.heap.size w w':=by
 obtain ⟨A,n,c,A',n',c',rfl,hd,hd'⟩:=id h1
 obtain ⟨B,m,d,B',m',d',rfl,ke,ke'⟩:=id h2
 obtain ⟨W,hW,hX,hY,hR,hbe⟩:=boxF3 w (.bool a.num.neg) (.slice A n c) (.bool a.den.neg) (.slice A' n' c') (.bool b.num.neg) (.slice B m d) (.bool b.den.neg) (.slice B' m' d')
 have e1:=h1.below hbe
 have e2:=h2.below hbe
 obtain ⟨p1,p2,p3,p4⟩:=hX.four
 obtain ⟨r1,r2,r3,r4⟩:=hY.four
 clear h1 h2 hd hd' ke ke'
 go_enter Tryz.func95,Tryz.ntmps95
 go_wp2_with fail
 clear hW
 refine (small_any _ _ a b _ e1 e2).mono ?_
 rintro e w1 ⟨x,y,z,u,ok,rfl,hq,hb1⟩
 have HQ:=Lib.hid hq
 have hX1:=hX.later hb1
 have hY1:=hY.later hb1
 have hR1:=hR.later hb1
 have hbe1:=below_then hbe hb1 hbe.size
 have e11:=e1.below hb1
 have e21:=e2.below hb1
 clear hq hX hY hR hbe e1 e2 hb1 p1 p2 p3 p4 r1 r2 r3 r4
 obtain ⟨W2,hW2,bW,bV,bn⟩:=words2 w1 x y z u
 have hX2:=hX1.later bn
 have hY2:=hY1.later bn
 have hR2:=hR1.later bn
 have hbe2:=below_then hbe1 bn hbe1.size
 have e12:=e11.below bn
 have e22:=e21.below bn
 clear hX1 hY1 hR1 hbe1 e11 e21 bn
 cases ok
 ·obtain ⟨p1,p2,p3,p4⟩:=hX2.four
  clear HQ
  go_wp2_with fail
  clear hW2
  refine (parts_any _ a _ e12 hs).mono ?_
  rintro e w3 ⟨v1,v2,N,D,rfl,iN,iD,hD,hq1,sN,sD,hb3⟩
  have HD:=Lib.hid hD
  have HQ1:=Lib.hid hq1
  obtain ⟨A3,n3,k3,rfl,_⟩:=iN.shape
  obtain ⟨A4,n4,k4,rfl,_⟩:=iD.shape
  obtain ⟨W3,hW3,bN,bD,bn⟩:=boxes w3 (.bool N.neg) (.slice A3 n3 k3) (.bool D.neg) (.slice A4 n4 k4)
  have hb33:=below_then hb3 bn hb3.size
  have hY3:=hY2.later hb33
  have hR3:=hR2.later hb33
  have hbe3:=below_then hbe2 hb33 hbe2.size
  have e23:=e22.below hb33
  have iN3:=iN.below bn
  have iD3:=iD.below bn
  clear hD hq1 hX2 hY2 hR2 hbe2 e12 e22 hb3 hb33 bn iN iD p1 p2 p3 p4 bW bV hs
  obtain ⟨r1,r2,r3,r4⟩:=hY3.four
  go_wp2_with fail
  clear hW3
  refine (parts_any _ b _ e23 hs2).mono ?_
  rintro e w5 ⟨v1,v2,N',D',rfl,jN,jD,hD',hq2,sN',sD',hb5⟩
  have HD':=Lib.hid hD'
  have HQ2:=Lib.hid hq2
  obtain ⟨A5,n5,k5,rfl,_⟩:=jN.shape
  obtain ⟨A6,n6,k6,rfl,_⟩:=jD.shape
  obtain ⟨W5,hW5,bN',bD',bn⟩:=boxes w5 (.bool N'.neg) (.slice A5 n5 k5) (.bool D'.neg) (.slice A6 n6 k6)
  have hb55:=below_then hb5 bn hb5.size
  have bN5:=bN.later hb55
  have bD5:=bD.later hb55
  have hR5:=hR3.later hb55
  have hbe5:=below_then hbe3 hb55 hbe3.size
  have iN5:=iN3.below hb55
  have iD5:=iD3.below hb55
  have jN5:=jN.below bn
  have jD5:=jD.below bn
  clear hD' hq2 hY3 hR3 hbe3 e23 hb5 hb55 bn jN jD r1 r2 r3 r4 bN bD iN3 iD3 hs2
  obtain ⟨x0,x1,_,_⟩:=bN5.two
  obtain ⟨y0,y1,_,_⟩:=bD5.two
  obtain ⟨x0',x1',_,_⟩:=bN'.two
  obtain ⟨y0',y1',_,_⟩:=bD'.two
  have hk1:w3.heap.size≠w.heap.size+1+1:=(bN5.ne_of hR5 (by decide))
  have hk2:w3.heap.size+1≠w.heap.size+1+1:=(bD5.ne_of hR5 (by decide))
  have hk3:w5.heap.size≠w.heap.size+1+1:=(bN'.ne_of hR5 (by decide))
  have hk4:w5.heap.size+1≠w.heap.size+1+1:=(bD'.ne_of hR5 (by decide))
  have tok:True:=trivial
  go_wp2_with fail
  clear hW5
  go_region_held3 (fun w'=>(w'.cell? ⟨w3.heap.size,0,none⟩=some (.bool N.neg)∧w'.cell? ⟨w3.heap.size,1,none⟩=some (.slice A3 n3 k3))∧(w'.cell? ⟨w3.heap.size+1,0,none⟩=some (.bool D.neg)∧w'.cell? ⟨w3.heap.size+1,1,none⟩=some (.slice A4 n4 k4))∧(w'.cell? ⟨w5.heap.size,0,none⟩=some (.bool N'.neg)∧w'.cell? ⟨w5.heap.size,1,none⟩=some (.slice A5 n5 k5))∧(w'.cell? ⟨w5.heap.size+1,0,none⟩=some (.bool D'.neg)∧w'.cell? ⟨w5.heap.size+1,1,none⟩=some (.slice A6 n6 k6)))
   (first | with_reducible exact ⟨bN5.pair,bD5.pair,bN'.pair,bD'.pair⟩ | with_reducible exact ⟨bN5.drew.pair,bD5.drew.pair,bN'.drew.pair,bD'.drew.pair⟩ | with_reducible exact ⟨(bN5.drew.later hb6).pair,(bD5.drew.later hb6).pair,(bN'.drew.later hb6).pair,(bD'.drew.later hb6).pair⟩ | with_reducible exact ⟨((bN5.drew.later hb6).later hb7).pair,((bD5.drew.later hb6).later hb7).pair,((bN'.drew.later hb6).later hb7).pair,((bD'.drew.later hb6).later hb7).pair⟩ | with_reducible exact ⟨(((bN5.drew.later hb6).later hb7).later hb8).pair,(((bD5.drew.later hb6).later hb7).later hb8).pair,(((bN'.drew.later hb6).later hb7).later hb8).pair,(((bD'.drew.later hb6).later hb7).later hb8).pair⟩ | with_reducible exact ⟨((((bN5.drew.later hb6).later hb7).later hb8).far4 hk1 _ _ _ _).pair,((((bD5.drew.later hb6).later hb7).later hb8).far4 hk2 _ _ _ _).pair,((((bN'.drew.later hb6).later hb7).later hb8).far4 hk3 _ _ _ _).pair,((((bD'.drew.later hb6).later hb7).later hb8).far4 hk4 _ _ _ _).pair⟩)
   (first
    | (go_at_call 128;have _t:=tok;refine (mulI_any _ _ N N' _ (iN5.keep (Keep.drew _)) (jN5.keep (Keep.drew _)) (RI.Sm.two sN sN')).mono ?_;clear tok _t;rintro e w6 ⟨v6,rfl,e6,hb6⟩)
    | (go_at_call 128;refine (mulI_any _ _ D D' _ ((iD5.keep (Keep.drew _)).below hb6) ((jD5.keep (Keep.drew _)).below hb6) (RI.Sm.two sD sD')).mono ?_;rintro e w7 ⟨v7,rfl,e7,hb7⟩)
    | (go_at_call 127;refine (reduce_any _ _ (canI (N.z * N'.z)) (canI (D.z * D'.z)) _ (e6.below hb7) e7 (Nat.le_trans (RI.Sm.mul sN sN') (by decide)) (Nat.le_trans (RI.Sm.mul sD sD') (by decide)) (pos_ne HD.out HD'.out)).mono ?_;rw [canI_z,canI_z,← Rat.divInt_mul_divInt,HQ1.out,HQ2.out];rintro e w8 ⟨v8,rfl,e8,hb8⟩;obtain ⟨C,l,f,C',l',f',rfl,_,_⟩:=id e8;obtain ⟨c0,c1,c2,c3⟩:=(((hR5.drew.later hb6).later hb7).later hb8).four;obtain ⟨f0,f1,f2,f3⟩:=(((hR5.drew.later hb6).later hb7).later hb8).fourF))
  go_wp2
  refine ret_cell Tryz.results95 Tryz.underlying48 (by kernel_rfl) rfl ((((hR5.drew.later hb6).later hb7).later hb8).set4 _ _ _ _) rfl ?_
  have bb0:=below_then hbe5.drew hb6 hbe5.size
  have bb1:=below_then bb0 hb7 bb0.size
  have bb2:=below_then bb1 hb8 bb1.size
  exact fin_frac (((hR5.drew.later hb6).later hb7).later hb8) e8 bb2 (by omega)
 ·obtain ⟨⟨b1,b2⟩,⟨b3,b4⟩,hval⟩:=okq_mul (HQ.out rfl).1 (HQ.out rfl).2
  have HV:=Lib.hid hval
  obtain ⟨q0,q1,_,_⟩:=bW.two
  obtain ⟨s0,s1,_,_⟩:=bV.two
  clear hval HQ
  have t1:IntKind.i64.wrap (x * z)=x * z:=by simp only [IntKind.wrap,IntKind.bits,IntKind.signed];simp;omega
  have t2:IntKind.i64.wrap (y * u)=y * u:=by simp only [IntKind.wrap,IntKind.bits,IntKind.signed];simp;omega
  go_wp2_with fail
  clear hW2
  refine (fromWords_any (x * z) (y * u) _ b1 b2 b3 b4).mono ?_
  rw [HV.out]
  rintro e w3 ⟨v3,rfl,e3,hb3⟩
  have hR3:=hR2.later hb3
  obtain ⟨C,l,f,C',l',f',rfl,_,_⟩:=id e3
  obtain ⟨c0,c1,c2,c3⟩:=hR3.four
  obtain ⟨f0,f1,f2,f3⟩:=hR3.fourF
  go_wp2
  refine ret_cell Tryz.results95 Tryz.underlying48 (by kernel_rfl) rfl (hR3.set4 _ _ _ _) rfl ?_
  exact fin_frac hR3 e3 (below_then hbe2 hb3 hbe2.size) (by omega)
namespace Pl
theorem okq_add {n d m k:Int} {p q:Rat} (h:okq n d p) (g:okq m k q):(-9223372036854775807≤n * k+m * d∧n * k+m * d≤9223372036854775807)∧(0 < d * k∧d * k≤9223372036854775807)∧((-4611686018427387904≤n * k∧n * k≤4611686018427387904)∧(-4611686018427387904≤m * d∧m * d≤4611686018427387904))∧Rat.divInt (n * k+m * d) (d * k)=p+q:=by
 obtain ⟨⟨a1,a2⟩,a3,a4,rfl⟩:=h
 obtain ⟨⟨b1,b2⟩,b3,b4,rfl⟩:=g
 have e1:=prod_bd1 (x:=n) (y:=k) (by omega) (by omega) (by omega) (by omega)
 have e2:=prod_bd1 (x:=m) (y:=d) (by omega) (by omega) (by omega) (by omega)
 have e3:=prod_bd1 (x:=d) (y:=k) (by omega) (by omega) (by omega) (by omega)
 refine ⟨⟨by omega,by omega⟩,⟨Int.mul_pos a3 b3,by omega⟩,⟨⟨by omega,by omega⟩,⟨by omega,by omega⟩⟩,?_⟩
 rw [Rat.divInt_add_divInt _ _ (by omega) (by omega)]
 where
  prod_bd1 {x y:Int} (h1: -2147483647≤x) (h2:x≤2147483647) (h3: -2147483647≤y) (h4:y≤2147483647): -4611686014132420609≤x * y∧x * y≤4611686014132420609:=by
   have e:(x * y).natAbs≤2147483647 * 2147483647:=by rw [Int.natAbs_mul];exact Nat.mul_le_mul (by omega) (by omega)
   omega
theorem add_lenI {x y:Int} {k:Nat} (h1:(digs x.natAbs).length≤k) (h2:(digs y.natAbs).length≤k):(digs (x+y).natAbs).length≤k+1:=
 Nat.le_trans (digs_len_mono (Int.natAbs_add_le x y)) (add_len _ _ _ h1 h2)
theorem RI.Sm.add {a b:RI} (h1:a.Sm) (h2:b.Sm):(digs (val (canI (a.z+b.z)).ds)).length≤549755813888:=by
 unfold RI.Sm at h1 h2
 rw [val_canI]
 rw [← z_natAbs] at h1 h2
 exact Nat.le_trans (add_lenI h1 h2) (by omega)
theorem RI.Sm.adds {a b c d:RI} (h1:a.Sm) (h2:b.Sm) (h3:c.Sm) (h4:d.Sm):(digs (val (canI ((canI (a.z * b.z)).z+(canI (c.z * d.z)).z)).ds)).length≤549755813888:=by
 have e1:=RI.Sm.mul h1 h2
 have e2:=RI.Sm.mul h3 h4
 rw [val_canI] at e1 e2 ⊢
 rw [canI_z,canI_z]
 exact Nat.le_trans (add_lenI e1 e2) (by omega)
theorem sgn_eq_zero {z:Int}:sgn z=0↔z=0:=by
 unfold sgn;split;omega;split <;> omega
theorem add_same {n m d:Int} (h:d≠0):Rat.divInt n d+Rat.divInt m d=Rat.divInt (n+m) d:=by
 rw [Rat.divInt_add_divInt _ _ h h,← Int.add_mul,Rat.divInt_mul_right h]
end Pl
theorem addF_any (v1 v2:Value) (a b:RF) (w:World) (h1:FracM w v1 a) (h2:FracM w v2 b) (hs:a.Sm) (hs2:b.Sm):
 Calls Tryz.prog 101 #[v1,v2] w fun e w'=>∃v',e= .returned v'∧FracM w' v' (canF (a.q+b.q))∧Below w.heap.size w w':=by
 obtain ⟨A,n,c,A',n',c',rfl,hd,hd'⟩:=id h1
 obtain ⟨B,m,d,B',m',d',rfl,ke,ke'⟩:=id h2
 obtain ⟨W,hW,hX,hY,hR,hbe⟩:=boxF3 w (.bool a.num.neg) (.slice A n c) (.bool a.den.neg) (.slice A' n' c') (.bool b.num.neg) (.slice B m d) (.bool b.den.neg) (.slice B' m' d')
 have e1:=h1.below hbe
 have e2:=h2.below hbe
 obtain ⟨p1,p2,p3,p4⟩:=hX.four
 obtain ⟨r1,r2,r3,r4⟩:=hY.four
 clear h1 h2 hd hd' ke ke'
 go_enter Tryz.func101,Tryz.ntmps101
 go_wp2_with fail
 clear hW
 refine (small_any _ _ a b _ e1 e2).mono ?_
 rintro e w1 ⟨x,y,z,u,ok,rfl,hq,hb1⟩
 have HQ:=Lib.hid hq
 have hX1:=hX.later hb1
 have hY1:=hY.later hb1
 have hR1:=hR.later hb1
 have hbe1:=below_then hbe hb1 hbe.size
 have e11:=e1.below hb1
 have e21:=e2.below hb1
 clear hq hX hY hR hbe e1 e2 hb1 p1 p2 p3 p4 r1 r2 r3 r4
 obtain ⟨W2,hW2,bW,bV,bn⟩:=words2 w1 x y z u
 have hX2:=hX1.later bn
 have hY2:=hY1.later bn
 have hR2:=hR1.later bn
 have hbe2:=below_then hbe1 bn hbe1.size
 have e12:=e11.below bn
 have e22:=e21.below bn
 clear hX1 hY1 hR1 hbe1 e11 e21 bn
 cases ok
 ·obtain ⟨p1,p2,p3,p4⟩:=hX2.four
  clear HQ
  go_wp2_with fail
  clear hW2
  refine (parts_any _ a _ e12 hs).mono ?_
  rintro e w3 ⟨v1,v2,N,D,rfl,iN,iD,hD,hq1,sN,sD,hb3⟩
  have HD:=Lib.hid hD
  have HQ1:=Lib.hid hq1
  obtain ⟨A3,n3,k3,rfl,_⟩:=iN.shape
  obtain ⟨A4,n4,k4,rfl,_⟩:=iD.shape
  obtain ⟨W3,hW3,bN,bD,bn⟩:=boxes w3 (.bool N.neg) (.slice A3 n3 k3) (.bool D.neg) (.slice A4 n4 k4)
  have hb33:=below_then hb3 bn hb3.size
  have hY3:=hY2.later hb33
  have hR3:=hR2.later hb33
  have hbe3:=below_then hbe2 hb33 hbe2.size
  have e23:=e22.below hb33
  have iN3:=iN.below bn
  have iD3:=iD.below bn
  clear hD hq1 hX2 hY2 hR2 hbe2 e12 e22 hb3 hb33 bn iN iD p1 p2 p3 p4 bW bV hs
  obtain ⟨r1,r2,r3,r4⟩:=hY3.four
  go_wp2_with fail
  clear hW3
  refine (parts_any _ b _ e23 hs2).mono ?_
  rintro e w5 ⟨v1,v2,N',D',rfl,jN,jD,hD',hq2,sN',sD',hb5⟩
  have HD':=Lib.hid hD'
  have HQ2:=Lib.hid hq2
  obtain ⟨A5,n5,k5,rfl,_⟩:=jN.shape
  obtain ⟨A6,n6,k6,rfl,_⟩:=jD.shape
  obtain ⟨W5,hW5,bN',bD',bn⟩:=boxes w5 (.bool N'.neg) (.slice A5 n5 k5) (.bool D'.neg) (.slice A6 n6 k6)
  have hb55:=below_then hb5 bn hb5.size
  have bN5:=bN.later hb55
  have bD5:=bD.later hb55
  have hR5:=hR3.later hb55
  have hbe5:=below_then hbe3 hb55 hbe3.size
  have iN5:=iN3.below hb55
  have iD5:=iD3.below hb55
  have jN5:=jN.below bn
  have jD5:=jD.below bn
  clear hD' hq2 hY3 hR3 hbe3 e23 hb5 hb55 bn jN jD r1 r2 r3 r4 bN bD iN3 iD3 hs2
  obtain ⟨x0,x1,_,_⟩:=bN5.two
  obtain ⟨y0,y1,_,_⟩:=bD5.two
  obtain ⟨x0',x1',_,_⟩:=bN'.two
  obtain ⟨y0',y1',_,_⟩:=bD'.two
  have hk1:w3.heap.size≠w.heap.size+1+1:=(bN5.ne_of hR5 (by decide))
  have hk2:w3.heap.size+1≠w.heap.size+1+1:=(bD5.ne_of hR5 (by decide))
  have hk3:w5.heap.size≠w.heap.size+1+1:=(bN'.ne_of hR5 (by decide))
  have hk4:w5.heap.size+1≠w.heap.size+1+1:=(bD'.ne_of hR5 (by decide))
  go_wp2_with fail
  clear hW5
  refine (compareI_any _ _ D D' _ iD5 jD5).mono ?_
  rintro e w6 ⟨rfl,hb6⟩
  have bN6:=bN5.later hb6
  have bD6:=bD5.later hb6
  have bN6':=bN'.later hb6
  have bD6':=bD'.later hb6
  have hR6:=hR5.later hb6
  have hbe6:=below_then hbe5 hb6 hbe5.size
  have iN6:=iN5.below hb6
  have iD6:=iD5.below hb6
  have jN6:=jN5.below hb6
  have jD6:=jD5.below hb6
  clear bN5 bD5 bN' bD' hR5 hbe5 iN5 iD5 jN5 jD5 hb6 x0 x1 y0 y1 x0' x1' y0' y1'
  have tok1:True:=trivial
  have tok2:True:=trivial
  obtain ⟨x0,x1,_,_⟩:=bN6.two
  obtain ⟨y0,y1,_,_⟩:=bD6.two
  obtain ⟨x0',x1',_,_⟩:=bN6'.two
  obtain ⟨y0',y1',_,_⟩:=bD6'.two
  by_cases hDD:D.z=D'.z
  ·have hsg:sgn (D.z - D'.z)=0:=by rw [hDD];simp [sgn]
   rw [hsg]
   have HDD:=Lib.hid hDD
   clear hsg hDD
   go_wp2_with fail
   go_region_held3 (fun w'=>(w'.cell? ⟨w3.heap.size,0,none⟩=some (.bool N.neg)∧w'.cell? ⟨w3.heap.size,1,none⟩=some (.slice A3 n3 k3))∧(w'.cell? ⟨w3.heap.size+1,0,none⟩=some (.bool D.neg)∧w'.cell? ⟨w3.heap.size+1,1,none⟩=some (.slice A4 n4 k4))∧(w'.cell? ⟨w5.heap.size,0,none⟩=some (.bool N'.neg)∧w'.cell? ⟨w5.heap.size,1,none⟩=some (.slice A5 n5 k5))∧(w'.cell? ⟨w5.heap.size+1,0,none⟩=some (.bool D'.neg)∧w'.cell? ⟨w5.heap.size+1,1,none⟩=some (.slice A6 n6 k6)))
    (first | with_reducible exact ⟨bN6.pair,bD6.pair,bN6'.pair,bD6'.pair⟩ | with_reducible exact ⟨bN6.drew.pair,bD6.drew.pair,bN6'.drew.pair,bD6'.drew.pair⟩ | with_reducible exact ⟨(bN6.drew.later hb7).pair,(bD6.drew.later hb7).pair,(bN6'.drew.later hb7).pair,(bD6'.drew.later hb7).pair⟩ | with_reducible exact ⟨((bN6.drew.later hb7).later hb8).pair,((bD6.drew.later hb7).later hb8).pair,((bN6'.drew.later hb7).later hb8).pair,((bD6'.drew.later hb7).later hb8).pair⟩ | with_reducible exact ⟨(((bN6.drew.later hb7).later hb8).far4 hk1 _ _ _ _).pair,(((bD6.drew.later hb7).later hb8).far4 hk2 _ _ _ _).pair,(((bN6'.drew.later hb7).later hb8).far4 hk3 _ _ _ _).pair,(((bD6'.drew.later hb7).later hb8).far4 hk4 _ _ _ _).pair⟩)
    (first
     | (go_at_call 131;refine (addI_any _ _ N N' _ (iN6.keep (Keep.drew _)) (jN6.keep (Keep.drew _)) (Nat.le_trans sN (by decide)) (Nat.le_trans sN' (by decide))).mono ?_;rintro e w7 ⟨v7,rfl,e7,hb7⟩)
     | (go_at_call 127;refine (reduce_any _ _ (canI (N.z+N'.z)) D _ e7 ((iD6.keep (Keep.drew _)).below hb7) (RI.Sm.add sN sN') (Nat.le_trans sD (by decide)) (Int.ne_of_gt HD.out)).mono ?_;rw [canI_z,← add_same (Int.ne_of_gt HD.out),HQ1.out,HDD.out,HQ2.out];rintro e w8 ⟨v8,rfl,e8,hb8⟩;obtain ⟨C,l,f,C',l',f',rfl,_,_⟩:=id e8;obtain ⟨c0,c1,c2,c3⟩:=((hR6.drew.later hb7).later hb8).four;obtain ⟨f0,f1,f2,f3⟩:=((hR6.drew.later hb7).later hb8).fourF))
   go_wp2
   refine ret_cell Tryz.results101 Tryz.underlying48 (by kernel_rfl) rfl (((hR6.drew.later hb7).later hb8).set4 _ _ _ _) rfl ?_
   have bb0:=below_then hbe6.drew hb7 hbe6.size
   have bb1:=below_then bb0 hb8 bb0.size
   exact fin_frac ((hR6.drew.later hb7).later hb8) e8 bb1 (by omega)
  ·have hsg:(sgn (D.z - D'.z)==0)=false:=by
    have:sgn (D.z - D'.z)≠0:=fun h=>hDD (by have:=sgn_eq_zero.1 h;omega)
    simpa using this
   have hsb:=sgn_bd (D.z - D'.z)
   generalize sgn (D.z - D'.z)=sg at *
   clear hDD
   go_wp2_with fail
   clear hsg hsb
   go_region_held3 (fun w'=>(w'.cell? ⟨w3.heap.size,0,none⟩=some (.bool N.neg)∧w'.cell? ⟨w3.heap.size,1,none⟩=some (.slice A3 n3 k3))∧(w'.cell? ⟨w3.heap.size+1,0,none⟩=some (.bool D.neg)∧w'.cell? ⟨w3.heap.size+1,1,none⟩=some (.slice A4 n4 k4))∧(w'.cell? ⟨w5.heap.size,0,none⟩=some (.bool N'.neg)∧w'.cell? ⟨w5.heap.size,1,none⟩=some (.slice A5 n5 k5))∧(w'.cell? ⟨w5.heap.size+1,0,none⟩=some (.bool D'.neg)∧w'.cell? ⟨w5.heap.size+1,1,none⟩=some (.slice A6 n6 k6)))
    (first | with_reducible exact ⟨bN6.pair,bD6.pair,bN6'.pair,bD6'.pair⟩ | with_reducible exact ⟨bN6.drew.pair,bD6.drew.pair,bN6'.drew.pair,bD6'.drew.pair⟩ | with_reducible exact ⟨(bN6.drew.later hb7).pair,(bD6.drew.later hb7).pair,(bN6'.drew.later hb7).pair,(bD6'.drew.later hb7).pair⟩ | with_reducible exact ⟨((bN6.drew.later hb7).later hb8).pair,((bD6.drew.later hb7).later hb8).pair,((bN6'.drew.later hb7).later hb8).pair,((bD6'.drew.later hb7).later hb8).pair⟩ | with_reducible exact ⟨(((bN6.drew.later hb7).later hb8).later hb9).pair,(((bD6.drew.later hb7).later hb8).later hb9).pair,(((bN6'.drew.later hb7).later hb8).later hb9).pair,(((bD6'.drew.later hb7).later hb8).later hb9).pair⟩ | with_reducible exact ⟨((((bN6.drew.later hb7).later hb8).later hb9).later hb10).pair,((((bD6.drew.later hb7).later hb8).later hb9).later hb10).pair,((((bN6'.drew.later hb7).later hb8).later hb9).later hb10).pair,((((bD6'.drew.later hb7).later hb8).later hb9).later hb10).pair⟩ | with_reducible exact ⟨(((((bN6.drew.later hb7).later hb8).later hb9).later hb10).later hb11).pair,(((((bD6.drew.later hb7).later hb8).later hb9).later hb10).later hb11).pair,(((((bN6'.drew.later hb7).later hb8).later hb9).later hb10).later hb11).pair,(((((bD6'.drew.later hb7).later hb8).later hb9).later hb10).later hb11).pair⟩ | with_reducible exact ⟨((((((bN6.drew.later hb7).later hb8).later hb9).later hb10).later hb11).far4 hk1 _ _ _ _).pair,((((((bD6.drew.later hb7).later hb8).later hb9).later hb10).later hb11).far4 hk2 _ _ _ _).pair,((((((bN6'.drew.later hb7).later hb8).later hb9).later hb10).later hb11).far4 hk3 _ _ _ _).pair,((((((bD6'.drew.later hb7).later hb8).later hb9).later hb10).later hb11).far4 hk4 _ _ _ _).pair⟩)
    (first
     | (go_at_call 128;have _t:=tok1;refine (mulI_any _ _ N D' _ (iN6.keep (Keep.drew _)) (jD6.keep (Keep.drew _)) (RI.Sm.two sN sD')).mono ?_;clear tok1 _t;rintro e w7 ⟨v7,rfl,e7,hb7⟩)
     | (go_at_call 128;have _t:=tok2;refine (mulI_any _ _ N' D _ ((jN6.keep (Keep.drew _)).below hb7) ((iD6.keep (Keep.drew _)).below hb7) (RI.Sm.two sN' sD)).mono ?_;clear tok2 _t;rintro e w8 ⟨v8,rfl,e8,hb8⟩)
     | (go_at_call 131;refine (addI_any _ _ (canI (N.z * D'.z)) (canI (N'.z * D.z)) _ (e7.below hb8) e8 (Nat.le_trans (RI.Sm.mul sN sD') (by decide)) (Nat.le_trans (RI.Sm.mul sN' sD) (by decide))).mono ?_;rintro e w9 ⟨v9,rfl,e9,hb9⟩)
     | (go_at_call 128;refine (mulI_any _ _ D D' _ ((((iD6.keep (Keep.drew _)).below hb7).below hb8).below hb9) ((((jD6.keep (Keep.drew _)).below hb7).below hb8).below hb9) (RI.Sm.two sD sD')).mono ?_;rintro e w10 ⟨v10,rfl,e10,hb10⟩)
     | (go_at_call 127;refine (reduce_any _ _ (canI ((canI (N.z * D'.z)).z+(canI (N'.z * D.z)).z)) (canI (D.z * D'.z)) _ (e9.below hb10) e10 (RI.Sm.adds sN sD' sN' sD) (Nat.le_trans (RI.Sm.mul sD sD') (by decide)) (pos_ne HD.out HD'.out)).mono ?_;rw [canI_z,canI_z,canI_z,canI_z,← Rat.divInt_add_divInt _ _ (Int.ne_of_gt HD.out) (Int.ne_of_gt HD'.out),HQ1.out,HQ2.out];rintro e w11 ⟨v11,rfl,e11,hb11⟩;obtain ⟨C,l,f,C',l',f',rfl,_,_⟩:=id e11;obtain ⟨c0,c1,c2,c3⟩:=(((((hR6.drew.later hb7).later hb8).later hb9).later hb10).later hb11).four;obtain ⟨f0,f1,f2,f3⟩:=(((((hR6.drew.later hb7).later hb8).later hb9).later hb10).later hb11).fourF))
   go_wp2
   refine ret_cell Tryz.results101 Tryz.underlying48 (by kernel_rfl) rfl ((((((hR6.drew.later hb7).later hb8).later hb9).later hb10).later hb11).set4 _ _ _ _) rfl ?_
   have bb0:=below_then hbe6.drew hb7 hbe6.size
   have bb1:=below_then bb0 hb8 bb0.size
   have bb2:=below_then bb1 hb9 bb1.size
   have bb3:=below_then bb2 hb10 bb2.size
   have bb4:=below_then bb3 hb11 bb3.size
   exact fin_frac (((((hR6.drew.later hb7).later hb8).later hb9).later hb10).later hb11) e11 bb4 (by omega)
 ·obtain ⟨⟨b1,b2⟩,⟨b3,b4⟩,⟨⟨b5,b6⟩,⟨b7,b8⟩⟩,hval⟩:=okq_add (HQ.out rfl).1 (HQ.out rfl).2
  have HV:=Lib.hid hval
  obtain ⟨q0,q1,_,_⟩:=bW.two
  obtain ⟨s0,s1,_,_⟩:=bV.two
  clear hval HQ
  have t1:IntKind.i64.wrap (x * u+z * y)=x * u+z * y:=by simp only [IntKind.wrap,IntKind.bits,IntKind.signed];simp;omega
  have t2:IntKind.i64.wrap (y * u)=y * u:=by simp only [IntKind.wrap,IntKind.bits,IntKind.signed];simp;omega
  have t3:IntKind.i64.wrap (x * u)=x * u:=by simp only [IntKind.wrap,IntKind.bits,IntKind.signed];simp;omega
  have t4:IntKind.i64.wrap (z * y)=z * y:=by simp only [IntKind.wrap,IntKind.bits,IntKind.signed];simp;omega
  go_wp2_with fail
  clear hW2
  refine (fromWords_any (x * u+z * y) (y * u) _ b1 b2 b3 b4).mono ?_
  rw [HV.out]
  rintro e w3 ⟨v3,rfl,e3,hb3⟩
  have hR3:=hR2.later hb3
  obtain ⟨C,l,f,C',l',f',rfl,_,_⟩:=id e3
  obtain ⟨c0,c1,c2,c3⟩:=hR3.four
  obtain ⟨f0,f1,f2,f3⟩:=hR3.fourF
  go_wp2
  refine ret_cell Tryz.results101 Tryz.underlying48 (by kernel_rfl) rfl (hR3.set4 _ _ _ _) rfl ?_
  exact fin_frac hR3 e3 (below_then hbe2 hb3 hbe2.size) (by omega)
namespace Pl
theorem RI.z_flip (n:Bool) (ds:List Nat):(RI.mk (!n) ds).z= -(RI.mk n ds).z:=by cases n <;> simp [RI.z,sm]
theorem okq_sub {n d m k:Int} {p q:Rat} (h:okq n d p) (g:okq m k q):(-9223372036854775807≤n * k - m * d∧n * k - m * d≤9223372036854775807)∧(0 < d * k∧d * k≤9223372036854775807)∧((-4611686018427387904≤n * k∧n * k≤4611686018427387904)∧(-4611686018427387904≤m * d∧m * d≤4611686018427387904))∧Rat.divInt (n * k - m * d) (d * k)=p - q:=by
 have g':okq (-m) k (-q):=by
  obtain ⟨⟨b1,b2⟩,b3,b4,rfl⟩:=g
  exact ⟨⟨by omega,by omega⟩,b3,b4,by rw [Rat.neg_divInt]⟩
 obtain ⟨⟨a1,a2⟩,a3,⟨a4,a5,a6⟩,a7⟩:=okq_add h g'
 rw [Int.neg_mul] at a1 a2 a5 a6 a7
 refine ⟨⟨by omega,by omega⟩,a3,⟨a4,by omega,by omega⟩,?_⟩
 rw [Int.sub_eq_add_neg,a7];grind
theorem sub_lenI {x y:Int} {k:Nat} (h1:(digs x.natAbs).length≤k) (h2:(digs y.natAbs).length≤k):(digs (x - y).natAbs).length≤k+1:=by
 rw [Int.sub_eq_add_neg];exact add_lenI h1 (by rw [Int.natAbs_neg];exact h2)
theorem RI.Sm.sub {a b:RI} (h1:a.Sm) (h2:b.Sm):(digs (val (canI (a.z - b.z)).ds)).length≤549755813888:=by
 unfold RI.Sm at h1 h2
 rw [val_canI]
 rw [← z_natAbs] at h1 h2
 exact Nat.le_trans (sub_lenI h1 h2) (by omega)
theorem RI.Sm.subs {a b c d:RI} (h1:a.Sm) (h2:b.Sm) (h3:c.Sm) (h4:d.Sm):(digs (val (canI ((canI (a.z * b.z)).z - (canI (c.z * d.z)).z)).ds)).length≤549755813888:=by
 have e1:=RI.Sm.mul h1 h2
 have e2:=RI.Sm.mul h3 h4
 rw [val_canI] at e1 e2 ⊢
 rw [canI_z,canI_z]
 exact Nat.le_trans (sub_lenI e1 e2) (by omega)
theorem sub_same {n m d:Int} (h:d≠0):Rat.divInt n d - Rat.divInt m d=Rat.divInt (n - m) d:=by
 rw [Rat.sub_eq_add_neg,Rat.neg_divInt,add_same h,Int.sub_eq_add_neg]
theorem sub_two {n d m k:Int} (hd:d≠0) (hk:k≠0):Rat.divInt n d - Rat.divInt m k=Rat.divInt (n * k - m * d) (d * k):=by
 rw [Rat.sub_eq_add_neg,Rat.neg_divInt,Rat.divInt_add_divInt _ _ hd hk,Int.neg_mul,Int.sub_eq_add_neg]
end Pl
theorem subI_any (v1 v2:Value) (a b:RI) (w:World) (h1:IntM w v1 a) (h2:IntM w v2 b) (hs:(digs (val a.ds)).length≤549755813888) (hs2:(digs (val b.ds)).length≤549755813888):
 Calls Tryz.prog 130 #[v1,v2] w fun e w'=>∃v',e= .returned v'∧IntM w' v' (canI (a.z - b.z))∧Below w.heap.size w w':=by
 obtain ⟨A,n,c,rfl,hd⟩:=h1.shape
 obtain ⟨A',n',c',rfl,hd'⟩:=h2.shape
 obtain ⟨neg,ds⟩:=a
 obtain ⟨neg',ds'⟩:=b
 simp only at hd hs hd' hs2 ⊢
 obtain ⟨W,hW,hX,hX',hR,hbe⟩:=box2 w (.bool neg) (.slice A n c) (.bool neg') (.slice A' n' c')
 have hdX:=hd.below hbe
 have hdX':=hd'.below hbe
 have tok:True:=trivial
 go_enter Tryz.func130,Tryz.ntmps130
 go_wp2_with fail
 clear hW
 go_region_held3 (fun w'=>(w'.cell? ⟨w.heap.size,0,none⟩=some (.bool neg)∧w'.cell? ⟨w.heap.size,1,none⟩=some (.slice A n c))∧(w'.cell? ⟨w.heap.size+1,0,none⟩=some (.bool neg')∧w'.cell? ⟨w.heap.size+1,1,none⟩=some (.slice A' n' c')))
  (first | exact ⟨hX.pair,hX'.pair⟩ | exact ⟨(hX.drew.later hb3).pair,(hX'.drew.later hb3).pair⟩ | exact ⟨(hX.drew.later hb3).two_far (by omega) _ _,(hX'.drew.later hb3).two_far (by omega) _ _⟩)
  (first
   | (go_at_call 143;have _t:=tok;refine (trim_any _ ds _ (hdX.keep (Keep.drew _))).mono ?_;clear tok _t;rintro e w1 ⟨v1,rfl,e1,rfl⟩)
   | (go_at_call 143;refine (trim_any _ ds' _ (hdX'.keep (Keep.drew _))).mono ?_;rintro e w1 ⟨v2,rfl,e2,rfl⟩)
   | (go_at_call 152;refine (addSigned_any neg (!neg') _ _ _ _ _ e1 e2 hs hs2).mono ?_;rintro e w3 ⟨v3,rfl,h3,hb3⟩;obtain ⟨A3,n3,k3,rfl,_⟩:=h3.shape;obtain ⟨c0,c1,f0,f1⟩:=(hR.drew.later hb3).two))
 go_wp2
 refine ret_cell Tryz.results130 Tryz.underlying46 (by kernel_rfl) rfl ((hR.drew.later hb3).set2 _ _) rfl ?_
 rw [show canI (RI.z ⟨neg,ds⟩ - RI.z ⟨neg',ds'⟩)=canI (RI.z ⟨neg,ds⟩+RI.z ⟨!neg',ds'⟩) by rw [RI.z_flip];rfl]
 exact fin_int (hR.drew.later hb3) h3 (below_then hbe.drew hb3 hbe.size) (by omega)
theorem subF_any (v1 v2:Value) (a b:RF) (w:World) (h1:FracM w v1 a) (h2:FracM w v2 b) (hs:a.Sm) (hs2:b.Sm):
 Calls Tryz.prog 94 #[v1,v2] w fun e w'=>∃v',e= .returned v'∧FracM w' v' (canF (a.q - b.q))∧Below w.heap.size w w':=by
 obtain ⟨A,n,c,A',n',c',rfl,hd,hd'⟩:=id h1
 obtain ⟨B,m,d,B',m',d',rfl,ke,ke'⟩:=id h2
 obtain ⟨W,hW,hX,hY,hR,hbe⟩:=boxF3 w (.bool a.num.neg) (.slice A n c) (.bool a.den.neg) (.slice A' n' c') (.bool b.num.neg) (.slice B m d) (.bool b.den.neg) (.slice B' m' d')
 have e1:=h1.below hbe
 have e2:=h2.below hbe
 obtain ⟨p1,p2,p3,p4⟩:=hX.four
 obtain ⟨r1,r2,r3,r4⟩:=hY.four
 clear h1 h2 hd hd' ke ke'
 go_enter Tryz.func94,Tryz.ntmps94
 go_wp2_with fail
 clear hW
 refine (small_any _ _ a b _ e1 e2).mono ?_
 rintro e w1 ⟨x,y,z,u,ok,rfl,hq,hb1⟩
 have HQ:=Lib.hid hq
 have hX1:=hX.later hb1
 have hY1:=hY.later hb1
 have hR1:=hR.later hb1
 have hbe1:=below_then hbe hb1 hbe.size
 have e11:=e1.below hb1
 have e21:=e2.below hb1
 clear hq hX hY hR hbe e1 e2 hb1 p1 p2 p3 p4 r1 r2 r3 r4
 obtain ⟨W2,hW2,bW,bV,bn⟩:=words2 w1 x y z u
 have hX2:=hX1.later bn
 have hY2:=hY1.later bn
 have hR2:=hR1.later bn
 have hbe2:=below_then hbe1 bn hbe1.size
 have e12:=e11.below bn
 have e22:=e21.below bn
 clear hX1 hY1 hR1 hbe1 e11 e21 bn
 cases ok
 ·obtain ⟨p1,p2,p3,p4⟩:=hX2.four
  clear HQ
  go_wp2_with fail
  clear hW2
  refine (parts_any _ a _ e12 hs).mono ?_
  rintro e w3 ⟨v1,v2,N,D,rfl,iN,iD,hD,hq1,sN,sD,hb3⟩
  have HD:=Lib.hid hD
  have HQ1:=Lib.hid hq1
  obtain ⟨A3,n3,k3,rfl,_⟩:=iN.shape
  obtain ⟨A4,n4,k4,rfl,_⟩:=iD.shape
  obtain ⟨W3,hW3,bN,bD,bn⟩:=boxes w3 (.bool N.neg) (.slice A3 n3 k3) (.bool D.neg) (.slice A4 n4 k4)
  have hb33:=below_then hb3 bn hb3.size
  have hY3:=hY2.later hb33
  have hR3:=hR2.later hb33
  have hbe3:=below_then hbe2 hb33 hbe2.size
  have e23:=e22.below hb33
  have iN3:=iN.below bn
  have iD3:=iD.below bn
  clear hD hq1 hX2 hY2 hR2 hbe2 e12 e22 hb3 hb33 bn iN iD p1 p2 p3 p4 bW bV hs
  obtain ⟨r1,r2,r3,r4⟩:=hY3.four
  go_wp2_with fail
  clear hW3
  refine (parts_any _ b _ e23 hs2).mono ?_
  rintro e w5 ⟨v1,v2,N',D',rfl,jN,jD,hD',hq2,sN',sD',hb5⟩
  have HD':=Lib.hid hD'
  have HQ2:=Lib.hid hq2
  obtain ⟨A5,n5,k5,rfl,_⟩:=jN.shape
  obtain ⟨A6,n6,k6,rfl,_⟩:=jD.shape
  obtain ⟨W5,hW5,bN',bD',bn⟩:=boxes w5 (.bool N'.neg) (.slice A5 n5 k5) (.bool D'.neg) (.slice A6 n6 k6)
  have hb55:=below_then hb5 bn hb5.size
  have bN5:=bN.later hb55
  have bD5:=bD.later hb55
  have hR5:=hR3.later hb55
  have hbe5:=below_then hbe3 hb55 hbe3.size
  have iN5:=iN3.below hb55
  have iD5:=iD3.below hb55
  have jN5:=jN.below bn
  have jD5:=jD.below bn
  clear hD' hq2 hY3 hR3 hbe3 e23 hb5 hb55 bn jN jD r1 r2 r3 r4 bN bD iN3 iD3 hs2
  obtain ⟨x0,x1,_,_⟩:=bN5.two
  obtain ⟨y0,y1,_,_⟩:=bD5.two
  obtain ⟨x0',x1',_,_⟩:=bN'.two
  obtain ⟨y0',y1',_,_⟩:=bD'.two
  have hk1:w3.heap.size≠w.heap.size+1+1:=(bN5.ne_of hR5 (by decide))
  have hk2:w3.heap.size+1≠w.heap.size+1+1:=(bD5.ne_of hR5 (by decide))
  have hk3:w5.heap.size≠w.heap.size+1+1:=(bN'.ne_of hR5 (by decide))
  have hk4:w5.heap.size+1≠w.heap.size+1+1:=(bD'.ne_of hR5 (by decide))
  go_wp2_with fail
  clear hW5
  refine (compareI_any _ _ D D' _ iD5 jD5).mono ?_
  rintro e w6 ⟨rfl,hb6⟩
  have bN6:=bN5.later hb6
  have bD6:=bD5.later hb6
  have bN6':=bN'.later hb6
  have bD6':=bD'.later hb6
  have hR6:=hR5.later hb6
  have hbe6:=below_then hbe5 hb6 hbe5.size
  have iN6:=iN5.below hb6
  have iD6:=iD5.below hb6
  have jN6:=jN5.below hb6
  have jD6:=jD5.below hb6
  clear bN5 bD5 bN' bD' hR5 hbe5 iN5 iD5 jN5 jD5 hb6 x0 x1 y0 y1 x0' x1' y0' y1'
  have tok1:True:=trivial
  have tok2:True:=trivial
  obtain ⟨x0,x1,_,_⟩:=bN6.two
  obtain ⟨y0,y1,_,_⟩:=bD6.two
  obtain ⟨x0',x1',_,_⟩:=bN6'.two
  obtain ⟨y0',y1',_,_⟩:=bD6'.two
  by_cases hDD:D.z=D'.z
  ·have hsg:sgn (D.z - D'.z)=0:=by rw [hDD];simp [sgn]
   rw [hsg]
   have HDD:=Lib.hid hDD
   clear hsg hDD
   go_wp2_with fail
   go_region_held3 (fun w'=>(w'.cell? ⟨w3.heap.size,0,none⟩=some (.bool N.neg)∧w'.cell? ⟨w3.heap.size,1,none⟩=some (.slice A3 n3 k3))∧(w'.cell? ⟨w3.heap.size+1,0,none⟩=some (.bool D.neg)∧w'.cell? ⟨w3.heap.size+1,1,none⟩=some (.slice A4 n4 k4))∧(w'.cell? ⟨w5.heap.size,0,none⟩=some (.bool N'.neg)∧w'.cell? ⟨w5.heap.size,1,none⟩=some (.slice A5 n5 k5))∧(w'.cell? ⟨w5.heap.size+1,0,none⟩=some (.bool D'.neg)∧w'.cell? ⟨w5.heap.size+1,1,none⟩=some (.slice A6 n6 k6)))
    (first | with_reducible exact ⟨bN6.pair,bD6.pair,bN6'.pair,bD6'.pair⟩ | with_reducible exact ⟨bN6.drew.pair,bD6.drew.pair,bN6'.drew.pair,bD6'.drew.pair⟩ | with_reducible exact ⟨(bN6.drew.later hb7).pair,(bD6.drew.later hb7).pair,(bN6'.drew.later hb7).pair,(bD6'.drew.later hb7).pair⟩ | with_reducible exact ⟨((bN6.drew.later hb7).later hb8).pair,((bD6.drew.later hb7).later hb8).pair,((bN6'.drew.later hb7).later hb8).pair,((bD6'.drew.later hb7).later hb8).pair⟩ | with_reducible exact ⟨(((bN6.drew.later hb7).later hb8).far4 hk1 _ _ _ _).pair,(((bD6.drew.later hb7).later hb8).far4 hk2 _ _ _ _).pair,(((bN6'.drew.later hb7).later hb8).far4 hk3 _ _ _ _).pair,(((bD6'.drew.later hb7).later hb8).far4 hk4 _ _ _ _).pair⟩)
    (first
     | (go_at_call 130;refine (subI_any _ _ N N' _ (iN6.keep (Keep.drew _)) (jN6.keep (Keep.drew _)) (Nat.le_trans sN (by decide)) (Nat.le_trans sN' (by decide))).mono ?_;rintro e w7 ⟨v7,rfl,e7,hb7⟩)
     | (go_at_call 127;refine (reduce_any _ _ (canI (N.z - N'.z)) D _ e7 ((iD6.keep (Keep.drew _)).below hb7) (RI.Sm.sub sN sN') (Nat.le_trans sD (by decide)) (Int.ne_of_gt HD.out)).mono ?_;rw [canI_z,← sub_same (Int.ne_of_gt HD.out),HQ1.out,HDD.out,HQ2.out];rintro e w8 ⟨v8,rfl,e8,hb8⟩;obtain ⟨C,l,f,C',l',f',rfl,_,_⟩:=id e8;obtain ⟨c0,c1,c2,c3⟩:=((hR6.drew.later hb7).later hb8).four;obtain ⟨f0,f1,f2,f3⟩:=((hR6.drew.later hb7).later hb8).fourF))
   go_wp2
   refine ret_cell Tryz.results94 Tryz.underlying48 (by kernel_rfl) rfl (((hR6.drew.later hb7).later hb8).set4 _ _ _ _) rfl ?_
   have bb0:=below_then hbe6.drew hb7 hbe6.size
   have bb1:=below_then bb0 hb8 bb0.size
   exact fin_frac ((hR6.drew.later hb7).later hb8) e8 bb1 (by omega)
  ·have hsg:(sgn (D.z - D'.z)==0)=false:=by
    have:sgn (D.z - D'.z)≠0:=fun h=>hDD (by have:=sgn_eq_zero.1 h;omega)
    simpa using this
   have hsb:=sgn_bd (D.z - D'.z)
   generalize sgn (D.z - D'.z)=sg at *
   clear hDD
   go_wp2_with fail
   clear hsg hsb
   go_region_held3 (fun w'=>(w'.cell? ⟨w3.heap.size,0,none⟩=some (.bool N.neg)∧w'.cell? ⟨w3.heap.size,1,none⟩=some (.slice A3 n3 k3))∧(w'.cell? ⟨w3.heap.size+1,0,none⟩=some (.bool D.neg)∧w'.cell? ⟨w3.heap.size+1,1,none⟩=some (.slice A4 n4 k4))∧(w'.cell? ⟨w5.heap.size,0,none⟩=some (.bool N'.neg)∧w'.cell? ⟨w5.heap.size,1,none⟩=some (.slice A5 n5 k5))∧(w'.cell? ⟨w5.heap.size+1,0,none⟩=some (.bool D'.neg)∧w'.cell? ⟨w5.heap.size+1,1,none⟩=some (.slice A6 n6 k6)))
    (first | with_reducible exact ⟨bN6.pair,bD6.pair,bN6'.pair,bD6'.pair⟩ | with_reducible exact ⟨bN6.drew.pair,bD6.drew.pair,bN6'.drew.pair,bD6'.drew.pair⟩ | with_reducible exact ⟨(bN6.drew.later hb7).pair,(bD6.drew.later hb7).pair,(bN6'.drew.later hb7).pair,(bD6'.drew.later hb7).pair⟩ | with_reducible exact ⟨((bN6.drew.later hb7).later hb8).pair,((bD6.drew.later hb7).later hb8).pair,((bN6'.drew.later hb7).later hb8).pair,((bD6'.drew.later hb7).later hb8).pair⟩ | with_reducible exact ⟨(((bN6.drew.later hb7).later hb8).later hb9).pair,(((bD6.drew.later hb7).later hb8).later hb9).pair,(((bN6'.drew.later hb7).later hb8).later hb9).pair,(((bD6'.drew.later hb7).later hb8).later hb9).pair⟩ | with_reducible exact ⟨((((bN6.drew.later hb7).later hb8).later hb9).later hb10).pair,((((bD6.drew.later hb7).later hb8).later hb9).later hb10).pair,((((bN6'.drew.later hb7).later hb8).later hb9).later hb10).pair,((((bD6'.drew.later hb7).later hb8).later hb9).later hb10).pair⟩ | with_reducible exact ⟨(((((bN6.drew.later hb7).later hb8).later hb9).later hb10).later hb11).pair,(((((bD6.drew.later hb7).later hb8).later hb9).later hb10).later hb11).pair,(((((bN6'.drew.later hb7).later hb8).later hb9).later hb10).later hb11).pair,(((((bD6'.drew.later hb7).later hb8).later hb9).later hb10).later hb11).pair⟩ | with_reducible exact ⟨((((((bN6.drew.later hb7).later hb8).later hb9).later hb10).later hb11).far4 hk1 _ _ _ _).pair,((((((bD6.drew.later hb7).later hb8).later hb9).later hb10).later hb11).far4 hk2 _ _ _ _).pair,((((((bN6'.drew.later hb7).later hb8).later hb9).later hb10).later hb11).far4 hk3 _ _ _ _).pair,((((((bD6'.drew.later hb7).later hb8).later hb9).later hb10).later hb11).far4 hk4 _ _ _ _).pair⟩)
    (first
     | (go_at_call 128;have _t:=tok1;refine (mulI_any _ _ N D' _ (iN6.keep (Keep.drew _)) (jD6.keep (Keep.drew _)) (RI.Sm.two sN sD')).mono ?_;clear tok1 _t;rintro e w7 ⟨v7,rfl,e7,hb7⟩)
     | (go_at_call 128;have _t:=tok2;refine (mulI_any _ _ N' D _ ((jN6.keep (Keep.drew _)).below hb7) ((iD6.keep (Keep.drew _)).below hb7) (RI.Sm.two sN' sD)).mono ?_;clear tok2 _t;rintro e w8 ⟨v8,rfl,e8,hb8⟩)
     | (go_at_call 130;refine (subI_any _ _ (canI (N.z * D'.z)) (canI (N'.z * D.z)) _ (e7.below hb8) e8 (Nat.le_trans (RI.Sm.mul sN sD') (by decide)) (Nat.le_trans (RI.Sm.mul sN' sD) (by decide))).mono ?_;rintro e w9 ⟨v9,rfl,e9,hb9⟩)
     | (go_at_call 128;refine (mulI_any _ _ D D' _ ((((iD6.keep (Keep.drew _)).below hb7).below hb8).below hb9) ((((jD6.keep (Keep.drew _)).below hb7).below hb8).below hb9) (RI.Sm.two sD sD')).mono ?_;rintro e w10 ⟨v10,rfl,e10,hb10⟩)
     | (go_at_call 127;refine (reduce_any _ _ (canI ((canI (N.z * D'.z)).z - (canI (N'.z * D.z)).z)) (canI (D.z * D'.z)) _ (e9.below hb10) e10 (RI.Sm.subs sN sD' sN' sD) (Nat.le_trans (RI.Sm.mul sD sD') (by decide)) (pos_ne HD.out HD'.out)).mono ?_;rw [canI_z,canI_z,canI_z,canI_z,← sub_two (Int.ne_of_gt HD.out) (Int.ne_of_gt HD'.out),HQ1.out,HQ2.out];rintro e w11 ⟨v11,rfl,e11,hb11⟩;obtain ⟨C,l,f,C',l',f',rfl,_,_⟩:=id e11;obtain ⟨c0,c1,c2,c3⟩:=(((((hR6.drew.later hb7).later hb8).later hb9).later hb10).later hb11).four;obtain ⟨f0,f1,f2,f3⟩:=(((((hR6.drew.later hb7).later hb8).later hb9).later hb10).later hb11).fourF))
   go_wp2
   refine ret_cell Tryz.results94 Tryz.underlying48 (by kernel_rfl) rfl ((((((hR6.drew.later hb7).later hb8).later hb9).later hb10).later hb11).set4 _ _ _ _) rfl ?_
   have bb0:=below_then hbe6.drew hb7 hbe6.size
   have bb1:=below_then bb0 hb8 bb0.size
   have bb2:=below_then bb1 hb9 bb1.size
   have bb3:=below_then bb2 hb10 bb2.size
   have bb4:=below_then bb3 hb11 bb3.size
   exact fin_frac (((((hR6.drew.later hb7).later hb8).later hb9).later hb10).later hb11) e11 bb4 (by omega)
 ·obtain ⟨⟨b1,b2⟩,⟨b3,b4⟩,⟨⟨b5,b6⟩,⟨b7,b8⟩⟩,hval⟩:=okq_sub (HQ.out rfl).1 (HQ.out rfl).2
  have HV:=Lib.hid hval
  obtain ⟨q0,q1,_,_⟩:=bW.two
  obtain ⟨s0,s1,_,_⟩:=bV.two
  clear hval HQ
  have t1:IntKind.i64.wrap (x * u - z * y)=x * u - z * y:=by simp only [IntKind.wrap,IntKind.bits,IntKind.signed];simp;omega
  have t2:IntKind.i64.wrap (y * u)=y * u:=by simp only [IntKind.wrap,IntKind.bits,IntKind.signed];simp;omega
  have t3:IntKind.i64.wrap (x * u)=x * u:=by simp only [IntKind.wrap,IntKind.bits,IntKind.signed];simp;omega
  have t4:IntKind.i64.wrap (z * y)=z * y:=by simp only [IntKind.wrap,IntKind.bits,IntKind.signed];simp;omega
  go_wp2_with fail
  clear hW2
  refine (fromWords_any (x * u - z * y) (y * u) _ b1 b2 b3 b4).mono ?_
  rw [HV.out]
  rintro e w3 ⟨v3,rfl,e3,hb3⟩
  have hR3:=hR2.later hb3
  obtain ⟨C,l,f,C',l',f',rfl,_,_⟩:=id e3
  obtain ⟨c0,c1,c2,c3⟩:=hR3.four
  obtain ⟨f0,f1,f2,f3⟩:=hR3.fourF
  go_wp2
  refine ret_cell Tryz.results94 Tryz.underlying48 (by kernel_rfl) rfl (hR3.set4 _ _ _ _) rfl ?_
  exact fin_frac hR3 e3 (below_then hbe2 hb3 hbe2.size) (by omega)
end Go.Proofs.YtncmobkhenfhpaaGreat
