/- Lemmas of the claim; no condition. -/
import Derived.Test.YtidgdpkcloaheaaGreatQ8
set_option linter.all false
set_option maxRecDepth 100000
set_option maxHeartbeats 40000000
namespace Go.Proofs.YtidgdpkcloaheaaGreat
open Go.RowKit
open Pl
attribute [local go_sem ↓] Go.wp_at_zero Go.wp_at_succ
namespace Pl
theorem YO (m n:Nat):(Zi (m * n)).length≤(Zi m).length+(Zi n).length:=by
 apply YM;rw [Nat.pow_add];have h1:=Z9 m;have h2:=Z9 n;exact Nat.mul_lt_mul'' h1 h2
theorem Zmk (m n k:Nat) (h1:(Zi m).length≤k) (h2:(Zi n).length≤k):(Zi (m+n)).length≤k+1:=by
 apply YM;have a1:=Nat.lt_of_lt_of_le (Z9 m) (Nat.pow_le_pow_right B32_pos h1);have a2:=Nat.lt_of_lt_of_le (Z9 n) (Nat.pow_le_pow_right B32_pos h2);rw [Nat.pow_succ];generalize B32^k=p at *;unfold B32;omega
theorem Yk (z:Int):val (canI z).ds=z.natAbs:=Zh _
theorem RI.Sm.mul {a b:RI} (h1:a.Sm) (h2:b.Sm):(Zi (val (canI (a.z * b.z)).ds)).length≤137438953472:=by
 unfold RI.Sm at h1 h2;rw [Yk,Int.natAbs_mul,Zz,Zz];exact JW (YO _ _) (by omega)
theorem RI.Sm.two {a b:RI} (h1:a.Sm) (h2:b.Sm):(Zi (val a.ds)).length+(Zi (val b.ds)).length≤1099511627776:=by
 unfold RI.Sm at h1 h2;omega
theorem Zsy {n d m k:Int} {p q:Rat} (h:okq n d p) (g:okq m k q):(-9223372036854775807≤n * m∧n * m≤9223372036854775807)∧(0 < d * k∧d * k≤9223372036854775807)∧Rat.divInt (n * m) (d * k)=p * q:=by
 obtain ⟨⟨a1,a2⟩,a3,a4,rfl⟩:=h;obtain ⟨⟨b1,b2⟩,b3,b4,rfl⟩:=g;refine ⟨?_,⟨Int.mul_pos a3 b3,?_⟩,(Rat.divInt_mul_divInt _ _).symm⟩
 ·exact prod_bd (by omega) (by omega) (by omega) (by omega)
 ·exact (prod_bd (by omega) (by omega) (by omega) (by omega)).2
 where
  prod_bd {x y:Int} (h1: -2147483648≤x) (h2:x≤2147483648) (h3: -2147483648≤y) (h4:y≤2147483648): -9223372036854775807≤x * y∧x * y≤9223372036854775807:=by
   have e:(x * y).natAbs≤2147483648 * 2147483648:=(by rw [Int.natAbs_mul];exact Nat.mul_le_mul (by omega) (by omega));omega
end Pl
theorem Zee (w:World) (x1 x2 x3 x4 y1 y2 y3 y4:Value):∃W,((w.alloc (.cells #[x1,x2,x3,x4] 36)).alloc (.cells #[y1,y2,y3,y4] 36)).alloc (.cells #[.bool false,.slice none 0 0,.bool false,.slice none 0 0] 36)=W∧Bk W w.heap.size 36 [x1,x2,x3,x4]∧Bk W (w.heap.size+1) 36 [y1,y2,y3,y4]∧
 Bk W (w.heap.size+1+1) 36 [.bool false,.slice none 0 0,.bool false,.slice none 0 0]∧Below w.heap.size w W:=by
 obtain ⟨W,hW,hs,h1,h2,hb⟩:=Zjk w x1 x2 x3 x4 y1 y2 y3 y4;exact ⟨_,by rw [hW],h1.alloc _,h2.alloc _,Bk.next hs _ _ hb,hb.alloc hb.size _⟩
theorem Zhs (w:World) (x y z u:Int):∃W,(w.alloc (.cells #[.int .i64 x,.int .i64 y] 117)).alloc (.cells #[.int .i64 z,.int .i64 u] 117)=W∧Bk W w.heap.size 117 [.int .i64 x,.int .i64 y]∧Bk W (w.heap.size+1) 117 [.int .i64 z,.int .i64 u]∧Below w.heap.size w W:=by
 refine ⟨_,rfl,(Bk.new w _ [.int .i64 x,.int .i64 y]).alloc _,?_,(Zd w _).alloc (by simp) _⟩;have:=Bk.new (w.alloc (.cells #[.int .i64 x,.int .i64 y] 117)) 117 [.int .i64 z,.int .i64 u]
 rwa [size_alloc] at this
theorem Pl.pos_ne {x y:Int} (h:0 < x) (k:0 < y):(canI (x * y)).z≠0:=by
 rw [Zx];have:=Int.mul_pos h k;omega
theorem Zcq [Old] (v1 v2:Value) (a b:RF) (w:World) (h1:Zm w v1 a) (h2:Zm w v2 b) (hs:a.Sm) (hs2:b.Sm) (hOl:Zb w:=by (repeat (first | assumption | exact Zb.up (by assumption) hOl | exact Zb.up (Hid.out (by assumption)) hOl | with_reducible refine Zb.set ?_ _ _ | with_reducible refine Zb.mk_ ?_ _ | with_reducible refine Zb.dr ?_ | with_reducible refine Zb.drN ?_ | refine Zb.up (by assumption) ?_ | refine Zb.up (Hid.out (by assumption)) ?_))):
 Calls Tryz.prog 50 #[v1,v2] w fun e w'=>∃v',e= .returned v'∧Zm w' v' (canF (a.q * b.q))∧Below w.heap.size w w':=by
 have av:=hOl.le;obtain ⟨A,n,c,A',n',c',rfl,hd,ap⟩:=id h1;obtain ⟨B,m,d,B',m',d',rfl,ke,aq⟩:=id h2;obtain ⟨W,hW,hX,hY,hR,J⟩:=Zee w (.bool a.num.neg) (.slice A n c) (.bool a.den.neg) (.slice A' n' c') (.bool b.num.neg) (.slice B m d) (.bool b.den.neg) (.slice B' m' d');have e1:=h1.below J;have e2:=h2.below J;obtain ⟨p1,p2,p3,p4⟩:=hX.four;obtain ⟨r1,r2,r3,r4⟩:=hY.four;clear h1 h2 hd ap ke aq;go_enter Tryz.func50,Tryz.ntmps50;go_wp2_with fail;clear hW;refine (VV _ _ a b _ e1 e2).mono ?_;rintro e w1 ⟨x,y,z,u,ok,rfl,hq,F⟩;have HQ:=JZ hq;have P:=hX.later F;have R:=hY.later F;have S:=hR.later F;have H:=Za J F J.size;have T:=e1.below F;have U:=e2.below F;clear hq hX hY hR J e1 e2 F p1 p2 p3 p4 r1 r2 r3 r4;obtain ⟨W2,a7,bW,bV,bn⟩:=Zhs w1 x y z u;have V:=P.later bn;have X:=R.later bn;have M:=S.later bn;have k:=Za H bn H.size;have Y:=T.below bn;have Z:=U.below bn;clear P R S H T U bn
 cases ok
 ·obtain ⟨p1,p2,p3,p4⟩:=V.four;clear HQ;go_wp2_with fail;clear a7;refine (Xr _ a _ Y hs).mono ?_;rintro e w3 ⟨v1,v2,N,D,rfl,iN,iD,hD,a8,sN,sD,G⟩;have HD:=JZ hD;have ad:=JZ a8;obtain ⟨A3,n3,k3,rfl,_⟩:=iN.shape;obtain ⟨A4,n4,k4,rfl,_⟩:=iD.shape;obtain ⟨W3,ar,bN,bD,bn⟩:=boxes w3 (.bool N.neg) (.slice A3 n3 k3) (.bool D.neg) (.slice A4 n4 k4);have o:=Za G bn G.size;have a0:=X.later o;have E:=M.later o;have I:=Za k o k.size;have a1:=Z.below o;have a2:=iN.below bn;have a3:=iD.below bn;clear hD a8 V X M k Y Z G o bn iN iD p1 p2 p3 p4 bW bV hs;obtain ⟨r1,r2,r3,r4⟩:=a0.four;go_wp2_with fail;clear ar;refine (Xr _ b _ a1 hs2).mono ?_;rintro e w5 ⟨v1,v2,N',D',rfl,jN,jD,a9,aa,ab,ac,O⟩;have ae:=JZ a9;have af:=JZ aa;obtain ⟨A5,n5,k5,rfl,_⟩:=jN.shape;obtain ⟨A6,n6,k6,rfl,_⟩:=jD.shape;obtain ⟨W5,au,t,v,bn⟩:=boxes w5 (.bool N'.neg) (.slice A5 n5 k5) (.bool D'.neg) (.slice A6 n6 k6);have j:=Za O bn O.size;have p:=bN.later j;have r:=bD.later j;have s:=E.later j;have K:=Za I j I.size;have ag:=a2.below j;have ah:=a3.below j;have ai:=jN.below bn;have aj:=jD.below bn;clear a9 aa a0 E I a1 O j bn jN jD r1 r2 r3 r4 bN bD a2 a3 hs2;obtain ⟨x0,x1,_,_⟩:=p.two;obtain ⟨y0,y1,_,_⟩:=r.two;obtain ⟨aw,ax,_,_⟩:=t.two;obtain ⟨ay,az,_,_⟩:=v.two;have ak:w3.heap.size≠w.heap.size+1+1:=(p.ne_of s (by decide));have al:w3.heap.size+1≠w.heap.size+1+1:=(r.ne_of s (by decide));have am:w5.heap.size≠w.heap.size+1+1:=(t.ne_of s (by decide));have an:w5.heap.size+1≠w.heap.size+1+1:=(v.ne_of s (by decide));have a4:True:=trivial;go_wp2_with fail;clear au
  go_region_held3 (fun w'=>(w'.cell? ⟨w3.heap.size,0,none⟩=some (.bool N.neg)∧w'.cell? ⟨w3.heap.size,1,none⟩=some (.slice A3 n3 k3))∧(w'.cell? ⟨w3.heap.size+1,0,none⟩=some (.bool D.neg)∧w'.cell? ⟨w3.heap.size+1,1,none⟩=some (.slice A4 n4 k4))∧(w'.cell? ⟨w5.heap.size,0,none⟩=some (.bool N'.neg)∧w'.cell? ⟨w5.heap.size,1,none⟩=some (.slice A5 n5 k5))∧(w'.cell? ⟨w5.heap.size+1,0,none⟩=some (.bool D'.neg)∧w'.cell? ⟨w5.heap.size+1,1,none⟩=some (.slice A6 n6 k6)))
   (first | with_reducible exact ⟨p.pair,r.pair,t.pair,v.pair⟩ | with_reducible exact ⟨p.drew.pair,r.drew.pair,t.drew.pair,v.drew.pair⟩ | with_reducible exact ⟨(p.drew.later g).pair,(r.drew.later g).pair,(t.drew.later g).pair,(v.drew.later g).pair⟩ | with_reducible exact ⟨((p.drew.later g).later h).pair,((r.drew.later g).later h).pair,((t.drew.later g).later h).pair,((v.drew.later g).later h).pair⟩ | with_reducible exact ⟨(((p.drew.later g).later h).later i).pair,(((r.drew.later g).later h).later i).pair,(((t.drew.later g).later h).later i).pair,(((v.drew.later g).later h).later i).pair⟩ | with_reducible exact ⟨((((p.drew.later g).later h).later i).far4 ak _ _ _ _).pair,((((r.drew.later g).later h).later i).far4 al _ _ _ _).pair,((((t.drew.later g).later h).later i).far4 am _ _ _ _).pair,((((v.drew.later g).later h).later i).far4 an _ _ _ _).pair⟩)
   (first
    | (go_at_call 84;have _t:=a4;refine (Xm _ _ N N' _ (ag.keep (ZE.drew _)) (ai.keep (ZE.drew _)) (RI.Sm.two sN ab)).mono ?_;clear a4 _t;rintro e w6 ⟨v6,rfl,e6,g⟩)
    | (go_at_call 84;refine (Xm _ _ D D' _ ((ah.keep (ZE.drew _)).below g) ((aj.keep (ZE.drew _)).below g) (RI.Sm.two sD ac)).mono ?_;rintro e w7 ⟨v7,rfl,e7,h⟩)
    | (go_at_call 83;refine (Xd _ _ (canI (N.z * N'.z)) (canI (D.z * D'.z)) _ (e6.below h) e7 (JW (RI.Sm.mul sN ab) (by decide)) (JW (RI.Sm.mul sD ac) (by decide)) (pos_ne HD.out ae.out)).mono ?_;rw [Zx,Zx,← Rat.divInt_mul_divInt,ad.out,af.out];rintro e w8 ⟨v8,rfl,e8,i⟩;obtain ⟨C,l,f,C',l',f',rfl,_,_⟩:=id e8;obtain ⟨c0,c1,c2,c3⟩:=(((s.drew.later g).later h).later i).four;obtain ⟨f0,f1,f2,f3⟩:=(((s.drew.later g).later h).later i).fourF))
  go_wp2;refine Zn Tryz.results50 Tryz.underlying36 (by kernel_rfl) rfl ((((s.drew.later g).later h).later i).set4 _ _ _ _) rfl ?_;have a5:=Za K.drew g K.size;have a6:=Za a5 h a5.size;have ao:=Za a6 i a6.size;exact Yn (((s.drew.later g).later h).later i) e8 ao (by omega)
 ·obtain ⟨⟨b1,b2⟩,⟨b3,b4⟩,L⟩:=Zsy (HQ.out rfl).1 (HQ.out rfl).2;have HV:=JZ L;obtain ⟨q0,q1,_,_⟩:=bW.two;obtain ⟨s0,s1,_,_⟩:=bV.two;clear L HQ;have t1:IntKind.i64.wrap (x * z)=x * z:=by simp only [IntKind.wrap,IntKind.bits,IntKind.signed];simp;omega
  have t2:IntKind.i64.wrap (y * u)=y * u:=by simp only [IntKind.wrap,IntKind.bits,IntKind.signed];simp;omega
  go_wp2_with fail;clear a7;refine (YQ (x * z) (y * u) _ b1 b2 b3 b4).mono ?_;rw [HV.out];rintro e w3 ⟨v3,rfl,e3,G⟩;have E:=M.later G;obtain ⟨C,l,f,C',l',f',rfl,_,_⟩:=id e3;obtain ⟨c0,c1,c2,c3⟩:=E.four;obtain ⟨f0,f1,f2,f3⟩:=E.fourF;go_wp2;refine Zn Tryz.results50 Tryz.underlying36 (by kernel_rfl) rfl (E.set4 _ _ _ _) rfl ?_;exact Yn E e3 (Za k G k.size) (by omega)
namespace Pl
theorem Zml {n d m k:Int} {p q:Rat} (h:okq n d p) (g:okq m k q):(-9223372036854775807≤n * k+m * d∧n * k+m * d≤9223372036854775807)∧(0 < d * k∧d * k≤9223372036854775807)∧((-4611686018427387904≤n * k∧n * k≤4611686018427387904)∧(-4611686018427387904≤m * d∧m * d≤4611686018427387904))∧Rat.divInt (n * k+m * d) (d * k)=p+q:=by
 obtain ⟨⟨a1,a2⟩,a3,a4,rfl⟩:=h;obtain ⟨⟨b1,b2⟩,b3,b4,rfl⟩:=g;have e1:=prod_bd1 (x:=n) (y:=k) (by omega) (by omega) (by omega) (by omega);have e2:=prod_bd1 (x:=m) (y:=d) (by omega) (by omega) (by omega) (by omega);have e3:=prod_bd1 (x:=d) (y:=k) (by omega) (by omega) (by omega) (by omega);refine ⟨⟨by omega,by omega⟩,⟨Int.mul_pos a3 b3,by omega⟩,⟨⟨by omega,by omega⟩,⟨by omega,by omega⟩⟩,?_⟩;rw [Rat.divInt_add_divInt _ _ (by omega) (by omega)]
 where
  prod_bd1 {x y:Int} (h1: -2147483647≤x) (h2:x≤2147483647) (h3: -2147483647≤y) (h4:y≤2147483647): -4611686014132420609≤x * y∧x * y≤4611686014132420609:=by
   have e:(x * y).natAbs≤2147483647 * 2147483647:=(by rw [Int.natAbs_mul];exact Nat.mul_le_mul (by omega) (by omega));omega
theorem VW {x y:Int} {k:Nat} (h1:(Zi x.natAbs).length≤k) (h2:(Zi y.natAbs).length≤k):(Zi (x+y).natAbs).length≤k+1:=
 JW (Zo (Int.natAbs_add_le x y)) (Zmk _ _ _ h1 h2)
theorem RI.Sm.add {a b:RI} (h1:a.Sm) (h2:b.Sm):(Zi (val (canI (a.z+b.z)).ds)).length≤549755813888:=by
 unfold RI.Sm at h1 h2;rw [Yk];rw [← Zz] at h1 h2;exact JW (VW h1 h2) (by omega)
theorem RI.Sm.adds {a b c d:RI} (h1:a.Sm) (h2:b.Sm) (h3:c.Sm) (h4:d.Sm):(Zi (val (canI ((canI (a.z * b.z)).z+(canI (c.z * d.z)).z)).ds)).length≤549755813888:=by
 have e1:=RI.Sm.mul h1 h2;have e2:=RI.Sm.mul h3 h4;rw [Yk] at e1 e2 ⊢;rw [Zx,Zx];exact JW (VW e1 e2) (by omega)
theorem Wj {z:Int}:sgn z=0↔z=0:=by
 unfold sgn;split;omega;split <;> omega
theorem Zht {n m d:Int} (h:d≠0):Rat.divInt n d+Rat.divInt m d=Rat.divInt (n+m) d:=by
 rw [Rat.divInt_add_divInt _ _ h h,← Int.add_mul,Rat.divInt_mul_right h]
end Pl
theorem Zhu [Old] (v1 v2:Value) (a b:RF) (w:World) (h1:Zm w v1 a) (h2:Zm w v2 b) (hs:a.Sm) (hs2:b.Sm) (hOl:Zb w:=by (repeat (first | assumption | exact Zb.up (by assumption) hOl | exact Zb.up (Hid.out (by assumption)) hOl | with_reducible refine Zb.set ?_ _ _ | with_reducible refine Zb.mk_ ?_ _ | with_reducible refine Zb.dr ?_ | with_reducible refine Zb.drN ?_ | refine Zb.up (by assumption) ?_ | refine Zb.up (Hid.out (by assumption)) ?_))):
 Calls Tryz.prog 66 #[v1,v2] w fun e w'=>∃v',e= .returned v'∧Zm w' v' (canF (a.q+b.q))∧Below w.heap.size w w':=by
 have bu:=hOl.le;obtain ⟨A,n,c,A',n',c',rfl,hd,bp⟩:=id h1;obtain ⟨B,m,d,B',m',d',rfl,ke,bq⟩:=id h2;obtain ⟨W,hW,hX,hY,hR,U⟩:=Zee w (.bool a.num.neg) (.slice A n c) (.bool a.den.neg) (.slice A' n' c') (.bool b.num.neg) (.slice B m d) (.bool b.den.neg) (.slice B' m' d');have e1:=h1.below U;have e2:=h2.below U;obtain ⟨p1,p2,p3,p4⟩:=hX.four;obtain ⟨r1,r2,r3,r4⟩:=hY.four;clear h1 h2 hd bp ke bq;go_enter Tryz.func66,Tryz.ntmps66;go_wp2_with fail;clear hW;refine (VV _ _ a b _ e1 e2).mono ?_;rintro e w1 ⟨x,y,z,u,ok,rfl,hq,J⟩;have HQ:=JZ hq;have ad:=hX.later J;have ae:=hY.later J;have af:=hR.later J;have O:=Za U J U.size;have P:=e1.below J;have ag:=e2.below J;clear hq hX hY hR U e1 e2 J p1 p2 p3 p4 r1 r2 r3 r4;obtain ⟨W2,bd,bW,bV,bn⟩:=Zhs w1 x y z u;have ah:=ad.later bn;have ai:=ae.later bn;have a8:=af.later bn;have F:=Za O bn O.size;have aj:=P.below bn;have ak:=ag.below bn;clear ad ae af O P ag bn
 cases ok
 ·obtain ⟨p1,p2,p3,p4⟩:=ah.four;clear HQ;go_wp2_with fail;clear bd;refine (Xr _ a _ aj hs).mono ?_;rintro e w3 ⟨v1,v2,N,D,rfl,iN,iD,hD,bi,sN,sD,M⟩;have HD:=JZ hD;have al:=JZ bi;obtain ⟨A3,n3,k3,rfl,_⟩:=iN.shape;obtain ⟨A4,n4,k4,rfl,_⟩:=iD.shape;obtain ⟨W3,br,bN,bD,bn⟩:=boxes w3 (.bool N.neg) (.slice A3 n3 k3) (.bool D.neg) (.slice A4 n4 k4);have G:=Za M bn M.size;have am:=ai.later G;have I:=a8.later G;have R:=Za F G F.size;have an:=ak.below G;have ao:=iN.below bn;have ap:=iD.below bn;clear hD bi ah ai a8 F aj ak M G bn iN iD p1 p2 p3 p4 bW bV hs;obtain ⟨r1,r2,r3,r4⟩:=am.four;go_wp2_with fail;clear br;refine (Xr _ b _ an hs2).mono ?_;rintro e w5 ⟨v1,v2,N',D',rfl,jN,jD,bj,bk,V,X,ac⟩;have aq:=JZ bj;have ar:=JZ bk;obtain ⟨A5,n5,k5,rfl,_⟩:=jN.shape;obtain ⟨A6,n6,k6,rfl,_⟩:=jD.shape;obtain ⟨W5,bs,a3,a4,bn⟩:=boxes w5 (.bool N'.neg) (.slice A5 n5 k5) (.bool D'.neg) (.slice A6 n6 k6);have v:=Za ac bn ac.size;have Z:=bN.later v;have a0:=bD.later v;have L:=I.later v;have S:=Za R v R.size;have au:=ao.below v;have a9:=ap.below v;have av:=jN.below bn;have aa:=jD.below bn;clear bj bk am I R an ac v bn jN jD r1 r2 r3 r4 bN bD ao ap hs2;obtain ⟨x0,x1,_,_⟩:=Z.two;obtain ⟨y0,y1,_,_⟩:=a0.two;obtain ⟨be,bf,_,_⟩:=a3.two;obtain ⟨bg,bh,_,_⟩:=a4.two;have aw:w3.heap.size≠w.heap.size+1+1:=(Z.ne_of L (by decide));have ax:w3.heap.size+1≠w.heap.size+1+1:=(a0.ne_of L (by decide));have ay:w5.heap.size≠w.heap.size+1+1:=(a3.ne_of L (by decide));have az:w5.heap.size+1≠w.heap.size+1+1:=(a4.ne_of L (by decide));go_wp2_with fail;clear bs;refine (UK _ _ D D' _ a9 aa).mono ?_;rintro e w6 ⟨rfl,E⟩;have s:=Z.later E;have t:=a0.later E;have o:=a3.later E;have p:=a4.later E;have H:=L.later E;have K:=Za S E S.size;have b0:=au.below E;have ab:=a9.below E;have b9:=av.below E;have ba:=aa.below E;clear Z a0 a3 a4 L S au a9 av aa E x0 x1 y0 y1 be bf bg bh;have a5:True:=trivial;have a6:True:=trivial;obtain ⟨x0,x1,_,_⟩:=s.two;obtain ⟨y0,y1,_,_⟩:=t.two;obtain ⟨be,bf,_,_⟩:=o.two;obtain ⟨bg,bh,_,_⟩:=p.two;by_cases Y:D.z=D'.z
  ·have a1:sgn (D.z - D'.z)=0:=(by rw [Y];simp [sgn]);rw [a1];have bl:=JZ Y;clear a1 Y;go_wp2_with fail
   go_region_held3 (fun w'=>(w'.cell? ⟨w3.heap.size,0,none⟩=some (.bool N.neg)∧w'.cell? ⟨w3.heap.size,1,none⟩=some (.slice A3 n3 k3))∧(w'.cell? ⟨w3.heap.size+1,0,none⟩=some (.bool D.neg)∧w'.cell? ⟨w3.heap.size+1,1,none⟩=some (.slice A4 n4 k4))∧(w'.cell? ⟨w5.heap.size,0,none⟩=some (.bool N'.neg)∧w'.cell? ⟨w5.heap.size,1,none⟩=some (.slice A5 n5 k5))∧(w'.cell? ⟨w5.heap.size+1,0,none⟩=some (.bool D'.neg)∧w'.cell? ⟨w5.heap.size+1,1,none⟩=some (.slice A6 n6 k6)))
    (first | with_reducible exact ⟨s.pair,t.pair,o.pair,p.pair⟩ | with_reducible exact ⟨s.drew.pair,t.drew.pair,o.drew.pair,p.drew.pair⟩ | with_reducible exact ⟨(s.drew.later g).pair,(t.drew.later g).pair,(o.drew.later g).pair,(p.drew.later g).pair⟩ | with_reducible exact ⟨((s.drew.later g).later i).pair,((t.drew.later g).later i).pair,((o.drew.later g).later i).pair,((p.drew.later g).later i).pair⟩ | with_reducible exact ⟨(((s.drew.later g).later i).far4 aw _ _ _ _).pair,(((t.drew.later g).later i).far4 ax _ _ _ _).pair,(((o.drew.later g).later i).far4 ay _ _ _ _).pair,(((p.drew.later g).later i).far4 az _ _ _ _).pair⟩)
    (first
     | (go_at_call 94;refine (Zhr _ _ N N' _ (b0.keep (ZE.drew _)) (b9.keep (ZE.drew _)) (JW sN (by decide)) (JW V (by decide))).mono ?_;rintro e w7 ⟨v7,rfl,e7,g⟩)
     | (go_at_call 83;refine (Xd _ _ (canI (N.z+N'.z)) D _ e7 ((ab.keep (ZE.drew _)).below g) (RI.Sm.add sN V) (JW sD (by decide)) (Int.ne_of_gt HD.out)).mono ?_;rw [Zx,← Zht (Int.ne_of_gt HD.out),al.out,bl.out,ar.out];rintro e w8 ⟨v8,rfl,e8,i⟩;obtain ⟨C,l,f,C',l',f',rfl,_,_⟩:=id e8;obtain ⟨c0,c1,c2,c3⟩:=((H.drew.later g).later i).four;obtain ⟨f0,f1,f2,f3⟩:=((H.drew.later g).later i).fourF))
   go_wp2;refine Zn Tryz.results66 Tryz.underlying36 (by kernel_rfl) rfl (((H.drew.later g).later i).set4 _ _ _ _) rfl ?_;have T:=Za K.drew g K.size;have a2:=Za T i T.size;exact Yn ((H.drew.later g).later i) e8 a2 (by omega)
  ·have a1:(sgn (D.z - D'.z)==0)=false:=by
    have:sgn (D.z - D'.z)≠0:=fun h=>Y (by have:=Wj.1 h;omega)
    simpa using this
   have bm:=Zec (D.z - D'.z);generalize sgn (D.z - D'.z)=sg at *;clear Y;go_wp2_with fail;clear a1 bm
   go_region_held3 (fun w'=>(w'.cell? ⟨w3.heap.size,0,none⟩=some (.bool N.neg)∧w'.cell? ⟨w3.heap.size,1,none⟩=some (.slice A3 n3 k3))∧(w'.cell? ⟨w3.heap.size+1,0,none⟩=some (.bool D.neg)∧w'.cell? ⟨w3.heap.size+1,1,none⟩=some (.slice A4 n4 k4))∧(w'.cell? ⟨w5.heap.size,0,none⟩=some (.bool N'.neg)∧w'.cell? ⟨w5.heap.size,1,none⟩=some (.slice A5 n5 k5))∧(w'.cell? ⟨w5.heap.size+1,0,none⟩=some (.bool D'.neg)∧w'.cell? ⟨w5.heap.size+1,1,none⟩=some (.slice A6 n6 k6)))
    (first | with_reducible exact ⟨s.pair,t.pair,o.pair,p.pair⟩ | with_reducible exact ⟨s.drew.pair,t.drew.pair,o.drew.pair,p.drew.pair⟩ | with_reducible exact ⟨(s.drew.later g).pair,(t.drew.later g).pair,(o.drew.later g).pair,(p.drew.later g).pair⟩ | with_reducible exact ⟨((s.drew.later g).later i).pair,((t.drew.later g).later i).pair,((o.drew.later g).later i).pair,((p.drew.later g).later i).pair⟩ | with_reducible exact ⟨(((s.drew.later g).later i).later k).pair,(((t.drew.later g).later i).later k).pair,(((o.drew.later g).later i).later k).pair,(((p.drew.later g).later i).later k).pair⟩ | with_reducible exact ⟨((((s.drew.later g).later i).later k).later j).pair,((((t.drew.later g).later i).later k).later j).pair,((((o.drew.later g).later i).later k).later j).pair,((((p.drew.later g).later i).later k).later j).pair⟩ | with_reducible exact ⟨(((((s.drew.later g).later i).later k).later j).later r).pair,(((((t.drew.later g).later i).later k).later j).later r).pair,(((((o.drew.later g).later i).later k).later j).later r).pair,(((((p.drew.later g).later i).later k).later j).later r).pair⟩ | with_reducible exact ⟨((((((s.drew.later g).later i).later k).later j).later r).far4 aw _ _ _ _).pair,((((((t.drew.later g).later i).later k).later j).later r).far4 ax _ _ _ _).pair,((((((o.drew.later g).later i).later k).later j).later r).far4 ay _ _ _ _).pair,((((((p.drew.later g).later i).later k).later j).later r).far4 az _ _ _ _).pair⟩)
    (first
     | (go_at_call 84;have _t:=a5;refine (Xm _ _ N D' _ (b0.keep (ZE.drew _)) (ba.keep (ZE.drew _)) (RI.Sm.two sN X)).mono ?_;clear a5 _t;rintro e w7 ⟨v7,rfl,e7,g⟩)
     | (go_at_call 84;have _t:=a6;refine (Xm _ _ N' D _ ((b9.keep (ZE.drew _)).below g) ((ab.keep (ZE.drew _)).below g) (RI.Sm.two V sD)).mono ?_;clear a6 _t;rintro e w8 ⟨v8,rfl,e8,i⟩)
     | (go_at_call 94;refine (Zhr _ _ (canI (N.z * D'.z)) (canI (N'.z * D.z)) _ (e7.below i) e8 (JW (RI.Sm.mul sN X) (by decide)) (JW (RI.Sm.mul V sD) (by decide))).mono ?_;rintro e w9 ⟨v9,rfl,e9,k⟩)
     | (go_at_call 84;refine (Xm _ _ D D' _ ((((ab.keep (ZE.drew _)).below g).below i).below k) ((((ba.keep (ZE.drew _)).below g).below i).below k) (RI.Sm.two sD X)).mono ?_;rintro e bv ⟨bw,rfl,bt,j⟩)
     | (go_at_call 83;refine (Xd _ _ (canI ((canI (N.z * D'.z)).z+(canI (N'.z * D.z)).z)) (canI (D.z * D'.z)) _ (e9.below j) bt (RI.Sm.adds sN X V sD) (JW (RI.Sm.mul sD X) (by decide)) (pos_ne HD.out aq.out)).mono ?_;rw [Zx,Zx,Zx,Zx,← Rat.divInt_add_divInt _ _ (Int.ne_of_gt HD.out) (Int.ne_of_gt aq.out),al.out,ar.out];rintro e bx ⟨bz,rfl,P,r⟩;obtain ⟨C,l,f,C',l',f',rfl,_,_⟩:=id P;obtain ⟨c0,c1,c2,c3⟩:=(((((H.drew.later g).later i).later k).later j).later r).four;obtain ⟨f0,f1,f2,f3⟩:=(((((H.drew.later g).later i).later k).later j).later r).fourF))
   go_wp2;refine Zn Tryz.results66 Tryz.underlying36 (by kernel_rfl) rfl ((((((H.drew.later g).later i).later k).later j).later r).set4 _ _ _ _) rfl ?_;have T:=Za K.drew g K.size;have a2:=Za T i T.size;have bb:=Za a2 k a2.size;have bc:=Za bb j bb.size;have bo:=Za bc r bc.size;exact Yn (((((H.drew.later g).later i).later k).later j).later r) P bo (by omega)
 ·obtain ⟨⟨b1,b2⟩,⟨b3,b4⟩,⟨⟨b5,b6⟩,⟨b7,b8⟩⟩,a7⟩:=Zml (HQ.out rfl).1 (HQ.out rfl).2;have HV:=JZ a7;obtain ⟨q0,q1,_,_⟩:=bW.two;obtain ⟨s0,s1,_,_⟩:=bV.two;clear a7 HQ;have t1:IntKind.i64.wrap (x * u+z * y)=x * u+z * y:=by simp only [IntKind.wrap,IntKind.bits,IntKind.signed];simp;omega
  have t2:IntKind.i64.wrap (y * u)=y * u:=by simp only [IntKind.wrap,IntKind.bits,IntKind.signed];simp;omega
  have t3:IntKind.i64.wrap (x * u)=x * u:=by simp only [IntKind.wrap,IntKind.bits,IntKind.signed];simp;omega
  have t4:IntKind.i64.wrap (z * y)=z * y:=by simp only [IntKind.wrap,IntKind.bits,IntKind.signed];simp;omega
  go_wp2_with fail;clear bd;refine (YQ (x * u+z * y) (y * u) _ b1 b2 b3 b4).mono ?_;rw [HV.out];rintro e w3 ⟨v3,rfl,e3,M⟩;have I:=a8.later M;obtain ⟨C,l,f,C',l',f',rfl,_,_⟩:=id e3;obtain ⟨c0,c1,c2,c3⟩:=I.four;obtain ⟨f0,f1,f2,f3⟩:=I.fourF;go_wp2;refine Zn Tryz.results66 Tryz.underlying36 (by kernel_rfl) rfl (I.set4 _ _ _ _) rfl ?_;exact Yn I e3 (Za F M F.size) (by omega)
namespace Pl
def RF.Sh (f:RF):Prop:=(Zi (val f.num.ds)).length≤34359738368∧(Zi (val f.den.ds)).length≤34359738368
def Sz (k:Nat) (q:Rat):Prop:=(Zi q.num.natAbs).length≤k∧(Zi q.den).length≤k
theorem Sz.mono {j k:Nat} {q:Rat} (h:Sz j q) (hk:j≤k):Sz k q:=⟨JW h.1 hk,JW h.2 hk⟩
theorem Sz.sh {k:Nat} {q:Rat} (h:Sz k q) (hk:k≤34359738368):(canF q).Sh:=by
 unfold RF.Sh canF;simp only [Yk];exact ⟨JW h.1 hk,JW h.2 hk⟩
theorem RF.Sh.sm {f:RF} (h:f.Sh):f.Sm:=by
 unfold RF.Sh at h;unfold RF.Sm RI.Sm;omega
theorem XY {a b:Int} {k:Nat} (h1:(Zi a.natAbs).length≤k) (h2:(Zi b.natAbs).length≤k) (hk:1≤k):Sz k (Rat.divInt a b):=by
 unfold Sz;rw [Rat.num_divInt,Rat.den_divInt];constructor
 ·refine JW (Zo ?_) h1;refine JW (Int.natAbs_ediv_le_natAbs ..) ?_;rw [Int.natAbs_mul];have:b.sign.natAbs≤1:=by rw [Int.natAbs_sign];split <;> omega
  exact JW (JS _ this) (by omega)
 ·split
  ·exact JW (YM (k:=1) (by unfold B32;omega)) hk
  ·exact JW (Zo (Nat.div_le_self _ _)) h2
theorem RF.Sh.sz {f:RF} (h:f.Sh):Sz 34359738368 f.q:=XY (by rw [Zz];exact h.1) (by rw [Zz];exact h.2) (by decide)
theorem Zbu {k:Nat} {q:Rat} (h:Sz k q):1≤k:=by
 have:=h.2;have:=YC (n:=q.den) q.den_pos;omega
theorem Zru (p q:Rat):Rat.divInt (p.num * q.den) (p.den * q.num)=p / q:=by
 conv=>rhs;rw [← Rat.num_divInt_den p,← Rat.num_divInt_den q]
 rw [Rat.div_def,Rat.inv_divInt,Rat.divInt_mul_divInt]
theorem Zvf (p q:Rat):Rat.divInt (p.num * q.num) (p.den * q.den)=p * q:=by
 conv=>rhs;rw [← Rat.num_divInt_den p,← Rat.num_divInt_den q]
 rw [Rat.divInt_mul_divInt]
theorem Zrv (p q:Rat):Rat.divInt (p.num * q.den+q.num * p.den) (p.den * q.den)=p+q:=by
 conv=>rhs;rw [← Rat.num_divInt_den p,← Rat.num_divInt_den q]
 have h1:(p.den:Int)≠0:=by have:=p.den_pos;omega
 have h2:(q.den:Int)≠0:=by have:=q.den_pos;omega
 rw [Rat.divInt_add_divInt _ _ h1 h2]
theorem V5 {j k:Nat} {p q:Rat} (h:Sz j p) (g:Sz k q):Sz (j+k) (p * q):=by
 rw [← Zvf];refine XY ?_ ?_ (by have:=Zbu h;omega)
 ·rw [Int.natAbs_mul];exact JW (YO _ _) (Nat.add_le_add h.1 g.1)
 ·rw [Int.natAbs_mul];exact JW (YO _ _) (Nat.add_le_add h.2 g.2)
theorem Zbv {j k:Nat} {p q:Rat} (h:Sz j p) (g:Sz k q):Sz (j+k) (p / q):=by
 rw [← Zru];refine XY ?_ ?_ (by have:=Zbu h;omega)
 ·rw [Int.natAbs_mul];exact JW (YO _ _) (Nat.add_le_add h.1 g.2)
 ·rw [Int.natAbs_mul];exact JW (YO _ _) (Nat.add_le_add h.2 g.1)
theorem Zrw {j k:Nat} {p q:Rat} (h:Sz j p) (g:Sz k q):Sz (j+k+1) (p+q):=by
 rw [← Zrv];refine XY ?_ ?_ (by omega)
 ·refine VW ?_ ?_
  ·rw [Int.natAbs_mul];exact JW (YO _ _) (Nat.add_le_add h.1 g.2)
  ·rw [Int.natAbs_mul,Nat.add_comm j k];exact JW (YO _ _) (Nat.add_le_add g.1 h.2)
 ·rw [Int.natAbs_mul];exact JW (YO _ _) (JW (Nat.add_le_add h.2 g.2) (by omega))
theorem Zen {k:Nat} {q:Rat} (h:Sz k q):Sz k (-q):=by
 unfold Sz at *;rw [Rat.neg_num,Rat.neg_den,Int.natAbs_neg];exact h
theorem Zeo {j k:Nat} {p q:Rat} (h:Sz j p) (g:Sz k q):Sz (j+k+1) (p - q):=by
 rw [Rat.sub_eq_add_neg];exact Zrw h (Zen g)
theorem Sz_zero:Sz 1 0:=by unfold Sz;exact ⟨by rw [show Int.natAbs (Rat.num 0)=0 from rfl,digs_zero];decide,YM (by rw [show Rat.den 0=1 from rfl];decide)⟩
theorem Zgk (z:Int):Rat.divInt z 1=(z:Rat):=Rat.mkRat_one z
theorem Ztg (f:RF):Rat.divInt (-f.num.z) f.den.z= -f.q:=(Rat.neg_divInt _ _).symm
end Pl
theorem Zm.num [Old] {w:World} {A A':Option Addr} {n c n' c':Nat} {b b':Bool} {f:RF} (h:Zm w (.agg #[.bool b,.slice A n c,.bool b',.slice A' n' c']) f):ZT w (.agg #[.bool b,.slice A n c]) f.num∧ZT w (.agg #[.bool b',.slice A' n' c']) f.den:=by
 obtain ⟨B,m,d,B',m',d',e,d1,d2⟩:=h;simp at e;obtain ⟨rfl,⟨rfl,rfl,rfl⟩,rfl,rfl,rfl,rfl⟩:=e;exact ⟨⟨_,rfl,d1⟩,_,rfl,d2⟩
theorem Zmq (x y z u:Value) (w:World):(Instr.field 36 (.agg #[x,y,z,u]) 0).run Tryz.prog w= .ok (.agg #[x,y]) w:=by kernel_rfl
theorem Zth (x y z u:Value) (w:World):(Instr.field 36 (.agg #[x,y,z,u]) 1).run Tryz.prog w= .ok (.agg #[z,u]) w:=by kernel_rfl
theorem Zah (w:World) (x1 x2 x3 x4:Value):∃W,w.alloc (.cells #[x1,x2,x3,x4] 36)=W∧Bk W w.heap.size 36 [x1,x2,x3,x4]∧Below w.heap.size w W:=
 ⟨_,rfl,Bk.new w _ [x1,x2,x3,x4],Zd w _⟩
theorem Zti [Old] {w w4:World} {g g' h:Nat} {x y z u x' y' z' u':Value} {cs:List Value} {b1 s1 b2 s2 b3 s3 b4 s4:Value} {p q:RF} (hX:Bk w4 g 36 [x,y,z,u]) (hY:Bk w4 g' 36 [x',y',z',u']) (hR:Bk w4 h 36 cs) (hne:g≠g') (hr1:h≠g) (hr2:h≠g') (dq:Zm w4 (.agg #[b1,s1,b2,s2]) p) (dr:Zm w4 (.agg #[b3,s3,b4,s4]) q) {m:Nat} (hbe:Below m w w4) (hg:m≤g) (hg':m≤g'):
 ∀W,W=((((((((w4.setCell ⟨g,0,none⟩ b1).setCell ⟨g,1,none⟩ s1).setCell ⟨g,2,none⟩ b2).setCell ⟨g,3,none⟩ s2).setCell ⟨g',0,none⟩ b3).setCell ⟨g',1,none⟩ s3).setCell ⟨g',2,none⟩ b4).setCell ⟨g',3,none⟩ s4)→(hO:Old.n≤m:=by first | assumption | exact Nat.zero_le _ | omega | ((first | with_reducible refine Zb.le ?_ | with_reducible refine Zb.le1 ?_ | with_reducible refine Zb.le2 ?_ | with_reducible refine Zb.le3 ?_);repeat (first | assumption | exact Zb.up (by assumption) hOl | exact Zb.up (Hid.out (by assumption)) hOl | with_reducible refine Zb.set ?_ _ _ | with_reducible refine Zb.mk_ ?_ _ | with_reducible refine Zb.dr ?_ | with_reducible refine Zb.drN ?_ | refine Zb.up (by assumption) ?_ | refine Zb.up (Hid.out (by assumption)) ?_)))→
 Bk W g 36 [b1,s1,b2,s2]∧Bk W g' 36 [b3,s3,b4,s4]∧Bk W h 36 cs∧Zm W (.agg #[b1,s1,b2,s2]) p∧Zm W (.agg #[b3,s3,b4,s4]) q∧Below m w W:=by
 rintro W rfl hO;have h1:=hX.set4 b1 s1 b2 s2;have h2:=hY.far4 (Ne.symm hne) b1 s1 b2 s2;have k1:=hX.keep4 (by decide) b1 s1 b2 s2;have k2:=h2.keep4 (by decide) b3 s3 b4 s4;exact ⟨h1.far4 hne _ _ _ _,h2.set4 _ _ _ _,(hR.far4 hr1 _ _ _ _).far4 hr2 _ _ _ _,dq.keep (k1.trans k2),dr.keep (k1.trans k2),Z5 (Z5 hbe hg _ _ _ _) hg' _ _ _ _⟩
theorem szI {k:Nat} {q:Rat} (h:Sz k q):(canF q).num.ds.length≤k∧(canF q).den.ds.length≤k:=h
theorem szV {k:Nat} {z:Int} (h:(Zi z.natAbs).length≤k):(Zi (val (canI z).ds)).length≤k:=by rw [Yk];exact h
theorem zN (q:Rat):(canF q).num.z=q.num:=Zx _
theorem zD (q:Rat):(canF q).den.z=q.den:=Zx _
namespace Pl
theorem Zrz {z:Int} (h: -4294967296 < z) (h2:z < 4294967296):Sz 1 (z:Rat):=by
 unfold Sz;exact ⟨YM (by rw [Rat.num_intCast];unfold B32;omega),YM (by rw [Rat.den_intCast];decide)⟩
end Pl
namespace Pl
abbrev Mx:=Nat→Nat→Rat
def Yp (M:Mx) (c:Nat):Nat→Nat→Option Nat
 | _,0=>none
 | r,n+1=>if M r c≠0 then some r else Yp M c (r+1) n
def X6 (M:Mx) (k m:Nat):Option Nat:=Yp M k k (m - k)
theorem Uc {M:Mx} {c:Nat}:∀{n r:Nat},(∀s,r≤s→s < r+n→M s c=0)→Yp M c r n=none
 | 0,_,_=>rfl
 | n+1,r,h=>by
  unfold Yp
  rw [if_neg (by simpa using h r (JY _) (by omega))]
  exact Uc fun s h1 h2=>h s (by omega) (by omega)
theorem Ud {M:Mx} {c:Nat}:∀{n r t:Nat},r≤t→t < r+n→M t c≠0→(∀s,r≤s→s < t→M s c=0)→Yp M c r n=some t
 | 0,r,t,h1,h2,_,_=>by omega
 | n+1,r,t,h1,h2,h3,h4=>by
  unfold Yp
  rcases Nat.eq_or_lt_of_le h1 with e | e
  ·subst e;rw [if_pos h3]
  ·rw [if_neg (by simpa using h4 r (JY _) e)]
   exact Ud (by omega) (by omega) h3 fun s h5 h6=>h4 s (by omega) h6
theorem Zju {M:Mx} {k m:Nat} (h:∀s,k≤s→s < m→M s k=0):X6 M k m=none:=Uc fun s h1 h2=>h s h1 (by omega)
theorem Zjv {M:Mx} {k m t:Nat} (h1:k≤t) (h2:t < m) (h3:M t k≠0) (h4:∀s,k≤s→s < t→M s k=0):X6 M k m=some t:=Ud h1 (by omega) h3 h4
theorem Zak {M:Mx} {c:Nat}:∀{n r t:Nat},Yp M c r n=some t→r≤t∧t < r+n∧M t c≠0
 | 0,_,_,h=>by cases h
 | n+1,r,t,h=>by
  unfold Yp at h
  split at h
  ·injection h with h;subst h;exact ⟨JY _,by omega,by assumption⟩
  ·have:=Zak h;exact ⟨by omega,by omega,this.2.2⟩
theorem Ue {M:Mx} {c:Nat}:∀{n r:Nat},Yp M c r n=none→∀s,r≤s→s < r+n→M s c=0
 | 0,r,_,s,h1,h2=>by omega
 | n+1,r,h,s,h1,h2=>by
  unfold Yp at h
  split at h
  ·cases h
  ·rename_i h0
   rcases Nat.eq_or_lt_of_le h1 with e | e
   ·subst e;simpa using h0
   ·exact Ue h s (by omega) (by omega)
theorem Va {M:Mx} {k m t:Nat} (h:X6 M k m=some t):k≤t∧t < m∧M t k≠0:=by
 have:=Zak h;exact ⟨this.1,by omega,this.2.2⟩
theorem Zjw {M:Mx} {k m:Nat} (h:X6 M k m=none):∀s,k≤s→s < m→M s k=0:=fun s h1 h2=>Ue h s h1 (by omega)
theorem Vq {A B:Mx} {c:Nat} (h:∀r,A r c=B r c):∀(n r:Nat),Yp A c r n=Yp B c r n
 | 0,_=>rfl
 | n+1,r=>by unfold Yp;rw [h r,Vq h n]
def Ztn (M:Mx) (r i:Nat) (q:Rat):Mx:=fun s c=>if s=r∧c=i then q else M s c
def swapM (M:Mx) (k t:Nat):Mx:=fun r=>if r=k then M t else if r=t then M k else M r
def scaleTo (M:Mx) (k i:Nat) (f:Rat):Mx:=fun r c=>if r=k∧k≤c∧c < i then M r c / f else M r c
def Xb (M:Mx) (k s i:Nat) (g:Rat):Mx:=fun r c=>if r=s∧k≤c∧c < i then M r c - g * M k c else M r c
def ZL (M:Mx) (k s m:Nat):Mx:=fun r c=>if r≠k∧r < s∧k≤c∧c≤m then M r c - M r k * M k c else M r c
def Wv (M:Mx) (k m:Nat):Option Mx:=match X6 M k m with
 | none=>none
 | some t=>some (ZL (scaleTo (swapM M k t) k (m+1) (swapM M k t k k)) k m m)
def gj (M:Mx) (m:Nat):Nat→Option Mx
 | 0=>some M
 | k+1=>match gj M m k with
  | none=>none
  | some M'=>Wv M' k m
def Zbi (m:Nat) (cols:Mx) (b:Nat→Rat):Mx:=fun r c=>if c < m then cols c r else b r
def Xt (m:Nat) (cols:Mx) (b:Nat→Rat):Option (Nat→Rat):=(gj (Zbi m cols b) m m).map fun M k=>M k m
theorem Zeq (M:Mx) (k s:Nat) (g:Rat):Xb M k s k g=M:=by
 funext r c;unfold Xb;rw [if_neg (by omega)]
theorem Zbz {M:Mx} {k s i:Nat} {g:Rat} (h:s≠k) (c:Nat):Xb M k s i g k c=M k c:=by
 unfold Xb;rw [if_neg (by omega)]
theorem Zgr {M:Mx} {k s i:Nat} {g:Rat} (h:k≤i) (hs:s≠k):Ztn (Xb M k s i g) s i (Xb M k s i g s i - g * Xb M k s i g k i)=Xb M k s (i+1) g:=by
 funext r c
 rw [Zbz hs];unfold Ztn Xb;by_cases h1:r=s∧c=i
 ·obtain ⟨rfl,rfl⟩:=h1;rw [if_pos ⟨rfl,rfl⟩,if_neg (by omega),if_pos ⟨rfl,h,by omega⟩]
 ·rw [if_neg h1];by_cases h2:r=s∧k≤c∧c < i
  ·rw [if_pos h2,if_pos ⟨h2.1,h2.2.1,by omega⟩]
  ·rw [if_neg h2,if_neg (by omega)]
theorem Zcu (M:Mx) (k m:Nat):ZL M k 0 m=M:=by
 funext r c;unfold ZL;rw [if_neg (by omega)]
theorem Wo {M:Mx} {k s m:Nat} (c:Nat):ZL M k s m k c=M k c:=by
 unfold ZL;rw [if_neg (by omega)]
theorem Zjx {M:Mx} {k s m:Nat} (c:Nat):ZL M k s m s c=M s c:=by
 unfold ZL;rw [if_neg (by omega)]
theorem Zer {M:Mx} {k s m:Nat} (h:s=k∨M s k=0):ZL M k s m=ZL M k (s+1) m:=by
 funext r c
 unfold ZL;by_cases h1:r≠k∧r < s∧k≤c∧c≤m
 ·rw [if_pos h1,if_pos ⟨h1.1,by omega,h1.2.2⟩]
 ·rw [if_neg h1];by_cases h2:r≠k∧r < s+1∧k≤c∧c≤m
  ·rw [if_pos h2];have:r=s:=by omega
   subst this;rcases h with h | h
   ·exact absurd h h2.1
   ·rw [h];grind
  ·rw [if_neg h2]
theorem Zes {M:Mx} {k s m:Nat} (hs:s≠k):Xb (ZL M k s m) k s (m+1) (ZL M k s m s k)=ZL M k (s+1) m:=by
 funext r c
 unfold Xb;rw [Wo,Zjx];unfold ZL;by_cases h1:r=s∧k≤c∧c < m+1
 ·obtain ⟨rfl,h2,h3⟩:=h1;rw [if_pos ⟨rfl,h2,h3⟩,if_neg (by omega),if_pos ⟨hs,by omega,h2,by omega⟩]
 ·rw [if_neg h1];by_cases h2:r≠k∧r < s∧k≤c∧c≤m
  ·rw [if_pos h2,if_pos ⟨h2.1,by omega,h2.2.2⟩]
  ·rw [if_neg h2,if_neg (by omega)]
def MB (m n K:Nat) (M:Mx):Prop:=∀r c,r < m→c < n→Sz K (M r c)
theorem MB.mono {m n K K':Nat} {M:Mx} (h:MB m n K M) (hk:K≤K'):MB m n K' M:=fun r c h1 h2=>(h r c h1 h2).mono hk
theorem MB.swap {m n K:Nat} {M:Mx} (h:MB m n K M) {k t:Nat} (hk:k < m) (ht:t < m):MB m n K (swapM M k t):=fun r c h1 h2=>by
 unfold swapM;split
 ·exact h t c ht h2
 ·split
  ·exact h k c hk h2
  ·exact h r c h1 h2
theorem MB.scale {m n K:Nat} {M:Mx} (h:MB m n K M) {k i:Nat} {f:Rat} (hf:Sz K f):MB m n (2 * K) (scaleTo M k i f):=fun r c h1 h2=>by
 unfold scaleTo;split
 ·exact (Zbv (h r c h1 h2) hf).mono (by omega)
 ·exact (h r c h1 h2).mono (by omega)
theorem Zgs {m n K:Nat} {M:Mx} (h:MB m n K M) {k i:Nat} {f:Rat} {r c:Nat} (hr:r < m) (hc:c < n) (hne:r≠k):Sz K (scaleTo M k i f r c):=by
 unfold scaleTo;rw [if_neg (by omega)];exact h r c hr hc
theorem Zmu {m n K:Nat} {M:Mx} (h:MB m n K M) {k i:Nat} {f:Rat} (hf:Sz K f) {r c:Nat} (hr:r < m) (hc:c < n):Sz (2 * K) (scaleTo M k i f r c):=h.scale hf r c hr hc
theorem MB.elim {m n K:Nat} {M:Mx} {k s m':Nat} (hk:k < m) (h1:∀r c,r < m→c < n→r≠k→Sz K (M r c)) (h2:∀c,c < n→Sz (2 * K) (M k c)) (hn:k < n):MB m n (5 * K) (ZL M k s m'):=fun r c hr hc=>by
 unfold ZL;split
 ·rename_i h
  have a:=h1 r c hr hc h.1
  have b:=h1 r k hr hn h.1
  have:=Zbu a
  exact (Zeo a (V5 b (h2 c hc))).mono (by omega)
 ·by_cases e:r=k
  ·subst e;exact (h2 c hc).mono (by omega)
  ·exact (h1 r c hr hc e).mono (by omega)
theorem Zpy {M M':Mx} {k m K:Nat} (h:MB m (m+1) K M) (hk:k < m) (e:Wv M k m=some M'):MB m (m+1) (5 * K) M':=by
 unfold Wv at e
 cases hf:X6 M k m with
 | none=>rw [hf] at e;cases e
 | some t=>
  rw [hf] at e;injection e with e;subst e;obtain ⟨h1,h2,_⟩:=Va hf;have hs:=h.swap hk h2;exact MB.elim hk (fun r c hr hc hne=>Zgs hs hr hc hne) (fun c hc=>Zmu hs (hs k k hk (by omega)) hk hc) (by omega)
theorem Zwx {M:Mx} {m K:Nat} (h:MB m (m+1) K M):∀{k:Nat} {M':Mx},k≤m→gj M m k=some M'→MB m (m+1) (5^k * K) M'
 | 0,M',_,e=>by unfold gj at e;injection e with e;subst e;simpa using h
 | k+1,M',hk,e=>by
  unfold gj at e
  cases hg:gj M m k with
  | none=>rw [hg] at e;cases e
  | some N=>
   rw [hg] at e
   have:=Zpy (Zwx h (by omega) hg) (by omega) e
   exact this.mono (by rw [Nat.pow_succ];grind)
theorem Zwk {m K:Nat} {cols:Mx} {b:Nat→Rat} (h:∀r c,r < m→c < m→Sz K (cols c r)) (hb:∀r,r < m→Sz K (b r)):MB m (m+1) K (Zbi m cols b):=fun r c hr hc=>by
 unfold Zbi;split
 ·exact h r c hr (by assumption)
 ·exact hb r hr
theorem Zpz {m K:Nat} {cols:Mx} {b x:Nat→Rat} (h:∀r c,r < m→c < m→Sz K (cols c r)) (hb:∀r,r < m→Sz K (b r)) (e:Xt m cols b=some x):∀r,r < m→Sz (5^m * K) (x r):=by
 unfold Xt at e
 cases hg:gj (Zbi m cols b) m m with
 | none=>rw [hg] at e;cases e
 | some N=>
  rw [hg] at e;injection e with e;subst e;exact fun r hr=>Zwx (Zwk h hb) (JY _) hg r m hr (by omega)
def WI (m:Nat) (A B:Mx):Prop:=∀r c,c < m→A r c=B r c
theorem WI.step {m k:Nat} {A B:Mx} (h:WI m A B) (hk:k < m):match Wv A k m,Wv B k m with | some A',some B'=>WI m A' B' | none,none=>True | _,_=>False:=by
 unfold Wv X6;rw [Vq (fun r=>h r k hk)]
 cases Yp B k k (m - k) with
 | none=>trivial
 | some t=>
  have hs:WI m (swapM A k t) (swapM B k t):=fun r c hc=>by
   unfold swapM;split
   ·exact h t c hc
   ·split
    ·exact h k c hc
    ·exact h r c hc
  have h2:WI m (scaleTo (swapM A k t) k (m+1) (swapM A k t k k)) (scaleTo (swapM B k t) k (m+1) (swapM B k t k k)):=fun r c hc=>by
   unfold scaleTo;rw [hs r c hc,hs k k hk]
  show WI m _ _;intro r c hc;unfold ZL;rw [h2 r c hc,h2 r k hk,h2 k c hc]
theorem WI.gj {m:Nat} {A B:Mx} (h:WI m A B):∀(k:Nat),k≤m→match gj A m k,gj B m k with | some A',some B'=>WI m A' B' | none,none=>True | _,_=>False
 | 0,_=>h
 | k+1,hk=>by
  have ih:=WI.gj h k (by omega)
  unfold Pl.gj
  generalize Pl.gj A m k=X at ih ⊢
  generalize Pl.gj B m k=Y at ih ⊢
  match X,Y,ih with
  | some A',some B',ih=>exact ih.step (by omega)
  | none,none,_=>trivial
theorem Zal {m:Nat} {cols:Mx} (b b':Nat→Rat):(Xt m cols b).isSome=(Xt m cols b').isSome:=by
 have h:WI m (Zbi m cols b) (Zbi m cols b'):=fun r c hc=>by unfold Zbi;rw [if_pos hc,if_pos hc]
 have:=h.gj m (JY _);unfold Xt;generalize Pl.gj (Zbi m cols b) m m=X at this ⊢;generalize Pl.gj (Zbi m cols b') m m=Y at this ⊢
 match X,Y,this with
 | some A',some B',_=>rfl
 | none,none,_=>rfl
end Pl
end Go.Proofs.YtidgdpkcloaheaaGreat
