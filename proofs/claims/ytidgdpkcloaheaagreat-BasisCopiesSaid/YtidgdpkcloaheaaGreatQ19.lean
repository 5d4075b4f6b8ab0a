/- Lemmas of the claim; no condition. -/
import Derived.Test.YtidgdpkcloaheaaGreatQ20
set_option linter.all false
set_option maxRecDepth 100000
set_option maxHeartbeats 40000000
namespace Go.Proofs.YtidgdpkcloaheaaGreat
open Go.RowKit
open Pl
attribute [local go_sem ↓] Go.wp_at_zero Go.wp_at_succ
namespace Pl
theorem RI.z_flip (n:Bool) (ds:List Nat):(RI.mk (!n) ds).z= -(RI.mk n ds).z:=by cases n <;> simp [RI.z,sm]
theorem Ztp {n d m k:Int} {p q:Rat} (h:okq n d p) (g:okq m k q):(-9223372036854775807≤n * k - m * d∧n * k - m * d≤9223372036854775807)∧(0 < d * k∧d * k≤9223372036854775807)∧((-4611686018427387904≤n * k∧n * k≤4611686018427387904)∧(-4611686018427387904≤m * d∧m * d≤4611686018427387904))∧Rat.divInt (n * k - m * d) (d * k)=p - q:=by
 have g':okq (-m) k (-q):=by
  obtain ⟨⟨b1,b2⟩,b3,b4,rfl⟩:=g;exact ⟨⟨by omega,by omega⟩,b3,b4,by rw [Rat.neg_divInt]⟩
 obtain ⟨⟨a1,a2⟩,a3,⟨a4,a5,a6⟩,a7⟩:=Zml h g';rw [Int.neg_mul] at a1 a2 a5 a6 a7;refine ⟨⟨by omega,by omega⟩,a3,⟨a4,by omega,by omega⟩,?_⟩;rw [Int.sub_eq_add_neg,a7];grind
theorem Zif {x y:Int} {k:Nat} (h1:(Zi x.natAbs).length≤k) (h2:(Zi y.natAbs).length≤k):(Zi (x - y).natAbs).length≤k+1:=by
 rw [Int.sub_eq_add_neg];exact VW h1 (by rw [Int.natAbs_neg];exact h2)
theorem RI.Sm.sub {a b:RI} (h1:a.Sm) (h2:b.Sm):(Zi (val (canI (a.z - b.z)).ds)).length≤549755813888:=by
 unfold RI.Sm at h1 h2;rw [Yk];rw [← Zz] at h1 h2;exact JW (Zif h1 h2) (by omega)
theorem RI.Sm.subs {a b c d:RI} (h1:a.Sm) (h2:b.Sm) (h3:c.Sm) (h4:d.Sm):(Zi (val (canI ((canI (a.z * b.z)).z - (canI (c.z * d.z)).z)).ds)).length≤549755813888:=by
 have e1:=RI.Sm.mul h1 h2;have e2:=RI.Sm.mul h3 h4;rw [Yk] at e1 e2 ⊢;rw [Zx,Zx];exact JW (Zif e1 e2) (by omega)
theorem Zqe {n m d:Int} (h:d≠0):Rat.divInt n d - Rat.divInt m d=Rat.divInt (n - m) d:=by
 rw [Rat.sub_eq_add_neg,Rat.neg_divInt,Zht h,Int.sub_eq_add_neg]
theorem Ztq {n d m k:Int} (hd:d≠0) (hk:k≠0):Rat.divInt n d - Rat.divInt m k=Rat.divInt (n * k - m * d) (d * k):=by
 rw [Rat.sub_eq_add_neg,Rat.neg_divInt,Rat.divInt_add_divInt _ _ hd hk,Int.neg_mul,Int.sub_eq_add_neg]
end Pl
theorem Zig [Old] (v1 v2:Value) (a b:RI) (w:World) (h1:ZT w v1 a) (h2:ZT w v2 b) (hs:(Zi (val a.ds)).length≤549755813888) (hs2:(Zi (val b.ds)).length≤549755813888) (hOl:Zb w:=by (repeat (first | assumption | exact Zb.up (by assumption) hOl | exact Zb.up (Hid.out (by assumption)) hOl | with_reducible refine Zb.set ?_ _ _ | with_reducible refine Zb.mk_ ?_ _ | with_reducible refine Zb.dr ?_ | with_reducible refine Zb.drN ?_ | refine Zb.up (by assumption) ?_ | refine Zb.up (Hid.out (by assumption)) ?_))):
 Calls Tryz.prog 89 #[v1,v2] w fun e w'=>∃v',e= .returned v'∧ZT w' v' (canI (a.z - b.z))∧Below w.heap.size w w':=by
 have p:=hOl.le;obtain ⟨A,n,c,rfl,hd⟩:=h1.shape;obtain ⟨A',n',c',rfl,m⟩:=h2.shape;obtain ⟨g,ds⟩:=a;obtain ⟨d,i⟩:=b;simp only at hd hs m hs2 ⊢;obtain ⟨W,hW,hX,j,hR,h⟩:=Zrp w (.bool g) (.slice A n c) (.bool d) (.slice A' n' c');have o:=hd.below h;have k:=m.below h;have l:True:=trivial;go_enter Tryz.func89,Tryz.ntmps89;go_wp2_with fail;clear hW
 go_region_held3 (fun w'=>(w'.cell? ⟨w.heap.size,0,none⟩=some (.bool g)∧w'.cell? ⟨w.heap.size,1,none⟩=some (.slice A n c))∧(w'.cell? ⟨w.heap.size+1,0,none⟩=some (.bool d)∧w'.cell? ⟨w.heap.size+1,1,none⟩=some (.slice A' n' c')))
  (first | exact ⟨hX.pair,j.pair⟩ | exact ⟨(hX.drew.later f).pair,(j.drew.later f).pair⟩ | exact ⟨(hX.drew.later f).two_far (by omega) _ _,(j.drew.later f).two_far (by omega) _ _⟩)
  (first
   | (go_at_call 108;have _t:=l;refine (ZO _ ds _ (o.keep (ZE.drew _))).mono ?_;clear l _t;rintro e w1 ⟨v1,rfl,e1,rfl⟩)
   | (go_at_call 108;refine (ZO _ i _ (k.keep (ZE.drew _))).mono ?_;rintro e w1 ⟨v2,rfl,e2,rfl⟩)
   | (go_at_call 111;refine (VT g (!d) _ _ _ _ _ e1 e2 hs hs2).mono ?_;rintro e w3 ⟨v3,rfl,h3,f⟩;obtain ⟨A3,n3,k3,rfl,_⟩:=h3.shape;obtain ⟨c0,c1,f0,f1⟩:=(hR.drew.later f).two))
 go_wp2;refine Zn Tryz.results89 Tryz.underlying34 (by kernel_rfl) rfl ((hR.drew.later f).set2 _ _) rfl ?_;rw [show canI (RI.z ⟨g,ds⟩ - RI.z ⟨d,i⟩)=canI (RI.z ⟨g,ds⟩+RI.z ⟨!d,i⟩) by rw [RI.z_flip];rfl];exact Yx (hR.drew.later f) h3 (Za h.drew f h.size) (by omega)
theorem Zcv [Old] (v1 v2:Value) (a b:RF) (w:World) (h1:Zm w v1 a) (h2:Zm w v2 b) (hs:a.Sm) (hs2:b.Sm) (hOl:Zb w:=by (repeat (first | assumption | exact Zb.up (by assumption) hOl | exact Zb.up (Hid.out (by assumption)) hOl | with_reducible refine Zb.set ?_ _ _ | with_reducible refine Zb.mk_ ?_ _ | with_reducible refine Zb.dr ?_ | with_reducible refine Zb.drN ?_ | refine Zb.up (by assumption) ?_ | refine Zb.up (Hid.out (by assumption)) ?_))):
 Calls Tryz.prog 58 #[v1,v2] w fun e w'=>∃v',e= .returned v'∧Zm w' v' (canF (a.q - b.q))∧Below w.heap.size w w':=by
 have bu:=hOl.le;obtain ⟨A,n,c,A',n',c',rfl,hd,bp⟩:=id h1;obtain ⟨B,m,d,B',m',d',rfl,ke,bq⟩:=id h2;obtain ⟨W,hW,hX,hY,hR,U⟩:=Zee w (.bool a.num.neg) (.slice A n c) (.bool a.den.neg) (.slice A' n' c') (.bool b.num.neg) (.slice B m d) (.bool b.den.neg) (.slice B' m' d');have e1:=h1.below U;have e2:=h2.below U;obtain ⟨p1,p2,p3,p4⟩:=hX.four;obtain ⟨r1,r2,r3,r4⟩:=hY.four;clear h1 h2 hd bp ke bq;go_enter Tryz.func58,Tryz.ntmps58;go_wp2_with fail;clear hW;refine (VV _ _ a b _ e1 e2).mono ?_;rintro e w1 ⟨x,y,z,u,ok,rfl,hq,J⟩;have HQ:=JZ hq;have ad:=hX.later J;have ae:=hY.later J;have af:=hR.later J;have O:=Za U J U.size;have P:=e1.below J;have ag:=e2.below J;clear hq hX hY hR U e1 e2 J p1 p2 p3 p4 r1 r2 r3 r4;obtain ⟨W2,bd,bW,bV,bn⟩:=Zhs w1 x y z u;have ah:=ad.later bn;have ai:=ae.later bn;have a8:=af.later bn;have F:=Za O bn O.size;have aj:=P.below bn;have ak:=ag.below bn;clear ad ae af O P ag bn
 cases ok
 ·obtain ⟨p1,p2,p3,p4⟩:=ah.four;clear HQ;go_wp2_with fail;clear bd;refine (Xr _ a _ aj hs).mono ?_;rintro e w3 ⟨v1,v2,N,D,rfl,iN,iD,hD,bi,sN,sD,M⟩;have HD:=JZ hD;have al:=JZ bi;obtain ⟨A3,n3,k3,rfl,_⟩:=iN.shape;obtain ⟨A4,n4,k4,rfl,_⟩:=iD.shape;obtain ⟨W3,br,bN,bD,bn⟩:=boxes w3 (.bool N.neg) (.slice A3 n3 k3) (.bool D.neg) (.slice A4 n4 k4);have G:=Za M bn M.size;have am:=ai.later G;have I:=a8.later G;have R:=Za F G F.size;have an:=ak.below G;have ao:=iN.below bn;have ap:=iD.below bn;clear hD bi ah ai a8 F aj ak M G bn iN iD p1 p2 p3 p4 bW bV hs;obtain ⟨r1,r2,r3,r4⟩:=am.four;go_wp2_with fail;clear br;refine (Xr _ b _ an hs2).mono ?_;rintro e w5 ⟨v1,v2,N',D',rfl,jN,jD,bj,bk,V,X,ac⟩;have aq:=JZ bj;have ar:=JZ bk;obtain ⟨A5,n5,k5,rfl,_⟩:=jN.shape;obtain ⟨A6,n6,k6,rfl,_⟩:=jD.shape;obtain ⟨W5,bs,a3,a4,bn⟩:=boxes w5 (.bool N'.neg) (.slice A5 n5 k5) (.bool D'.neg) (.slice A6 n6 k6);have v:=Za ac bn ac.size;have Z:=bN.later v;have a0:=bD.later v;have L:=I.later v;have S:=Za R v R.size;have au:=ao.below v;have a9:=ap.below v;have av:=jN.below bn;have aa:=jD.below bn;clear bj bk am I R an ac v bn jN jD r1 r2 r3 r4 bN bD ao ap hs2;obtain ⟨x0,x1,_,_⟩:=Z.two;obtain ⟨y0,y1,_,_⟩:=a0.two;obtain ⟨be,bf,_,_⟩:=a3.two;obtain ⟨bg,bh,_,_⟩:=a4.two;have aw:w3.heap.size≠w.heap.size+1+1:=(Z.ne_of L (by decide));have ax:w3.heap.size+1≠w.heap.size+1+1:=(a0.ne_of L (by decide));have ay:w5.heap.size≠w.heap.size+1+1:=(a3.ne_of L (by decide));have az:w5.heap.size+1≠w.heap.size+1+1:=(a4.ne_of L (by decide));go_wp2_with fail;clear bs;refine (UK _ _ D D' _ a9 aa).mono ?_;rintro e w6 ⟨rfl,E⟩;have s:=Z.later E;have t:=a0.later E;have o:=a3.later E;have p:=a4.later E;have H:=L.later E;have K:=Za S E S.size;have b0:=au.below E;have ab:=a9.below E;have b9:=av.below E;have ba:=aa.below E;clear Z a0 a3 a4 L S au a9 av aa E x0 x1 y0 y1 be bf bg bh;have a5:True:=trivial;have a6:True:=trivial;obtain ⟨x0,x1,_,_⟩:=s.two;obtain ⟨y0,y1,_,_⟩:=t.two;obtain ⟨be,bf,_,_⟩:=o.two;obtain ⟨bg,bh,_,_⟩:=p.two;by_cases Y:D.z=D'.z
  ·have a1:sgn (D.z - D'.z)=0:=(by rw [Y];simp [sgn]);rw [a1];have bl:=JZ Y;clear a1 Y;go_wp2_with fail
   go_region_held3 (fun w'=>(w'.cell? ⟨w3.heap.size,0,none⟩=some (.bool N.neg)∧w'.cell? ⟨w3.heap.size,1,none⟩=some (.slice A3 n3 k3))∧(w'.cell? ⟨w3.heap.size+1,0,none⟩=some (.bool D.neg)∧w'.cell? ⟨w3.heap.size+1,1,none⟩=some (.slice A4 n4 k4))∧(w'.cell? ⟨w5.heap.size,0,none⟩=some (.bool N'.neg)∧w'.cell? ⟨w5.heap.size,1,none⟩=some (.slice A5 n5 k5))∧(w'.cell? ⟨w5.heap.size+1,0,none⟩=some (.bool D'.neg)∧w'.cell? ⟨w5.heap.size+1,1,none⟩=some (.slice A6 n6 k6)))
    (first | with_reducible exact ⟨s.pair,t.pair,o.pair,p.pair⟩ | with_reducible exact ⟨s.drew.pair,t.drew.pair,o.drew.pair,p.drew.pair⟩ | with_reducible exact ⟨(s.drew.later g).pair,(t.drew.later g).pair,(o.drew.later g).pair,(p.drew.later g).pair⟩ | with_reducible exact ⟨((s.drew.later g).later i).pair,((t.drew.later g).later i).pair,((o.drew.later g).later i).pair,((p.drew.later g).later i).pair⟩ | with_reducible exact ⟨(((s.drew.later g).later i).far4 aw _ _ _ _).pair,(((t.drew.later g).later i).far4 ax _ _ _ _).pair,(((o.drew.later g).later i).far4 ay _ _ _ _).pair,(((p.drew.later g).later i).far4 az _ _ _ _).pair⟩)
    (first
     | (go_at_call 89;refine (Zig _ _ N N' _ (b0.keep (ZE.drew _)) (b9.keep (ZE.drew _)) (JW sN (by decide)) (JW V (by decide))).mono ?_;rintro e w7 ⟨v7,rfl,e7,g⟩)
     | (go_at_call 83;refine (Xd _ _ (canI (N.z - N'.z)) D _ e7 ((ab.keep (ZE.drew _)).below g) (RI.Sm.sub sN V) (JW sD (by decide)) (Int.ne_of_gt HD.out)).mono ?_;rw [Zx,← Zqe (Int.ne_of_gt HD.out),al.out,bl.out,ar.out];rintro e w8 ⟨v8,rfl,e8,i⟩;obtain ⟨C,l,f,C',l',f',rfl,_,_⟩:=id e8;obtain ⟨c0,c1,c2,c3⟩:=((H.drew.later g).later i).four;obtain ⟨f0,f1,f2,f3⟩:=((H.drew.later g).later i).fourF))
   go_wp2;refine Zn Tryz.results58 Tryz.underlying36 (by kernel_rfl) rfl (((H.drew.later g).later i).set4 _ _ _ _) rfl ?_;have T:=Za K.drew g K.size;have a2:=Za T i T.size;exact Yn ((H.drew.later g).later i) e8 a2 (by omega)
  ·have a1:(sgn (D.z - D'.z)==0)=false:=by
    have:sgn (D.z - D'.z)≠0:=fun h=>Y (by have:=Wj.1 h;omega)
    simpa using this
   have bm:=Zec (D.z - D'.z);generalize sgn (D.z - D'.z)=sg at *;clear Y;go_wp2_with fail;clear a1 bm
   go_region_held3 (fun w'=>(w'.cell? ⟨w3.heap.size,0,none⟩=some (.bool N.neg)∧w'.cell? ⟨w3.heap.size,1,none⟩=some (.slice A3 n3 k3))∧(w'.cell? ⟨w3.heap.size+1,0,none⟩=some (.bool D.neg)∧w'.cell? ⟨w3.heap.size+1,1,none⟩=some (.slice A4 n4 k4))∧(w'.cell? ⟨w5.heap.size,0,none⟩=some (.bool N'.neg)∧w'.cell? ⟨w5.heap.size,1,none⟩=some (.slice A5 n5 k5))∧(w'.cell? ⟨w5.heap.size+1,0,none⟩=some (.bool D'.neg)∧w'.cell? ⟨w5.heap.size+1,1,none⟩=some (.slice A6 n6 k6)))
    (first | with_reducible exact ⟨s.pair,t.pair,o.pair,p.pair⟩ | with_reducible exact ⟨s.drew.pair,t.drew.pair,o.drew.pair,p.drew.pair⟩ | with_reducible exact ⟨(s.drew.later g).pair,(t.drew.later g).pair,(o.drew.later g).pair,(p.drew.later g).pair⟩ | with_reducible exact ⟨((s.drew.later g).later i).pair,((t.drew.later g).later i).pair,((o.drew.later g).later i).pair,((p.drew.later g).later i).pair⟩ | with_reducible exact ⟨(((s.drew.later g).later i).later k).pair,(((t.drew.later g).later i).later k).pair,(((o.drew.later g).later i).later k).pair,(((p.drew.later g).later i).later k).pair⟩ | with_reducible exact ⟨((((s.drew.later g).later i).later k).later j).pair,((((t.drew.later g).later i).later k).later j).pair,((((o.drew.later g).later i).later k).later j).pair,((((p.drew.later g).later i).later k).later j).pair⟩ | with_reducible exact ⟨(((((s.drew.later g).later i).later k).later j).later r).pair,(((((t.drew.later g).later i).later k).later j).later r).pair,(((((o.drew.later g).later i).later k).later j).later r).pair,(((((p.drew.later g).later i).later k).later j).later r).pair⟩ | with_reducible exact ⟨((((((s.drew.later g).later i).later k).later j).later r).far4 aw _ _ _ _).pair,((((((t.drew.later g).later i).later k).later j).later r).far4 ax _ _ _ _).pair,((((((o.drew.later g).later i).later k).later j).later r).far4 ay _ _ _ _).pair,((((((p.drew.later g).later i).later k).later j).later r).far4 az _ _ _ _).pair⟩)
    (first
     | (go_at_call 84;have _t:=a5;refine (Xm _ _ N D' _ (b0.keep (ZE.drew _)) (ba.keep (ZE.drew _)) (RI.Sm.two sN X)).mono ?_;clear a5 _t;rintro e w7 ⟨v7,rfl,e7,g⟩)
     | (go_at_call 84;have _t:=a6;refine (Xm _ _ N' D _ ((b9.keep (ZE.drew _)).below g) ((ab.keep (ZE.drew _)).below g) (RI.Sm.two V sD)).mono ?_;clear a6 _t;rintro e w8 ⟨v8,rfl,e8,i⟩)
     | (go_at_call 89;refine (Zig _ _ (canI (N.z * D'.z)) (canI (N'.z * D.z)) _ (e7.below i) e8 (JW (RI.Sm.mul sN X) (by decide)) (JW (RI.Sm.mul V sD) (by decide))).mono ?_;rintro e w9 ⟨v9,rfl,e9,k⟩)
     | (go_at_call 84;refine (Xm _ _ D D' _ ((((ab.keep (ZE.drew _)).below g).below i).below k) ((((ba.keep (ZE.drew _)).below g).below i).below k) (RI.Sm.two sD X)).mono ?_;rintro e bv ⟨bw,rfl,bt,j⟩)
     | (go_at_call 83;refine (Xd _ _ (canI ((canI (N.z * D'.z)).z - (canI (N'.z * D.z)).z)) (canI (D.z * D'.z)) _ (e9.below j) bt (RI.Sm.subs sN X V sD) (JW (RI.Sm.mul sD X) (by decide)) (pos_ne HD.out aq.out)).mono ?_;rw [Zx,Zx,Zx,Zx,← Ztq (Int.ne_of_gt HD.out) (Int.ne_of_gt aq.out),al.out,ar.out];rintro e bx ⟨bz,rfl,P,r⟩;obtain ⟨C,l,f,C',l',f',rfl,_,_⟩:=id P;obtain ⟨c0,c1,c2,c3⟩:=(((((H.drew.later g).later i).later k).later j).later r).four;obtain ⟨f0,f1,f2,f3⟩:=(((((H.drew.later g).later i).later k).later j).later r).fourF))
   go_wp2;refine Zn Tryz.results58 Tryz.underlying36 (by kernel_rfl) rfl ((((((H.drew.later g).later i).later k).later j).later r).set4 _ _ _ _) rfl ?_;have T:=Za K.drew g K.size;have a2:=Za T i T.size;have bb:=Za a2 k a2.size;have bc:=Za bb j bb.size;have bo:=Za bc r bc.size;exact Yn (((((H.drew.later g).later i).later k).later j).later r) P bo (by omega)
 ·obtain ⟨⟨b1,b2⟩,⟨b3,b4⟩,⟨⟨b5,b6⟩,⟨b7,b8⟩⟩,a7⟩:=Ztp (HQ.out rfl).1 (HQ.out rfl).2;have HV:=JZ a7;obtain ⟨q0,q1,_,_⟩:=bW.two;obtain ⟨s0,s1,_,_⟩:=bV.two;clear a7 HQ;have t1:IntKind.i64.wrap (x * u - z * y)=x * u - z * y:=by simp only [IntKind.wrap,IntKind.bits,IntKind.signed];simp;omega
  have t2:IntKind.i64.wrap (y * u)=y * u:=by simp only [IntKind.wrap,IntKind.bits,IntKind.signed];simp;omega
  have t3:IntKind.i64.wrap (x * u)=x * u:=by simp only [IntKind.wrap,IntKind.bits,IntKind.signed];simp;omega
  have t4:IntKind.i64.wrap (z * y)=z * y:=by simp only [IntKind.wrap,IntKind.bits,IntKind.signed];simp;omega
  go_wp2_with fail;clear bd;refine (YQ (x * u - z * y) (y * u) _ b1 b2 b3 b4).mono ?_;rw [HV.out];rintro e w3 ⟨v3,rfl,e3,M⟩;have I:=a8.later M;obtain ⟨C,l,f,C',l',f',rfl,_,_⟩:=id e3;obtain ⟨c0,c1,c2,c3⟩:=I.four;obtain ⟨f0,f1,f2,f3⟩:=I.fourF;go_wp2;refine Zn Tryz.results58 Tryz.underlying36 (by kernel_rfl) rfl (I.set4 _ _ _ _) rfl ?_;exact Yn I e3 (Za F M F.size) (by omega)
namespace Pl
def VE (es:List En) (k:Int) (z:Rat) (g:Nat→Rat):Nat→Nat→Rat
 | 0,i=>g i
 | t+1,i=>match es[t]? with
  | some e=>if e.idx≠k∧e.idx=(i:Int) then VE es k z g t i - e.f.q * z else VE es k z g t i
  | none=>VE es k z g t i
theorem Zau (es:List En) (k:Int) (g:Nat→Rat) (i:Nat):∀t,VE es k 0 g t i=g i
 | 0=>rfl
 | t+1=>by
  have ih:=Zau es k g i t
  unfold VE
  split
  ·split
   ·rw [ih];grind
   ·exact ih
  ·exact ih
theorem Ztu {es:List En} {k:Int} {z:Rat} {g:Nat→Rat} {t i:Nat} {e:En} (h:es[t]? =some e) (hk:e.idx=k):VE es k z g (t+1) i=VE es k z g t i:=by
 conv=>lhs;unfold VE
 simp only [h,hk,ne_eq,not_true_eq_false,false_and,if_false]
theorem Ztv {es:List En} {k:Int} {z:Rat} {g:Nat→Rat} {t i j:Nat} {e:En} (h:es[t]? =some e) (hk:e.idx≠k) (hj:e.idx=(j:Int)):VE es k z g (t+1) i=if i=j then VE es k z g t j - e.f.q * z else VE es k z g t i:=by
 conv=>lhs;unfold VE
 simp only [h];by_cases c:i=j
 ·subst c;rw [if_pos ⟨hk,hj⟩,if_pos rfl]
 ·rw [if_neg (fun q=>c (by omega)),if_neg c]
theorem Zii (es:List En) (k:Nat) (z:Rat) (g:Nat→Rat):∀t,VE es k z g t k=g k
 | 0=>rfl
 | t+1=>by
  have ih:=Zii es k z g t
  conv=>lhs;unfold VE
  split
  ·rw [if_neg (fun q=>q.1 q.2)];exact ih
  ·exact ih
end Pl
theorem ZN.of_below {g:Option Nat} {w w':World} (h:Below w.heap.size w w'):ZN g w w':=⟨h.size,fun b hb _=>h.block b hb⟩
def UQ [Old] (base:Nat) (vz:Value) (N:Nat) (G:Nat→Rat) (w wr:World):Prop:=YL base wr vz (YT N G)∧Zk 36 w wr∧ZN vz.ownBlock w wr∧Below base w wr
theorem UM [Old] (vz vb:Value) (m:Nat) (q:Nat→Rat) (es:List En) (kn K J base:Nat) (w:World) (h1:YL base w vz (YT m q)) (h2:Wy w vb es) (hkn:kn < m) (hin:inR m es) (ha:∀(k:Nat) (e:En),es[k]? =some e→e.f.Rs K) (hz:∀t i,t≤es.length→i < m→Sz J (VE es kn (q kn) q t i)) (hK:1≤K) (hs1:J≤34359738368) (hs2:K+J≤34359738368) (hOl:Zb w:=by (repeat (first | assumption | exact Zb.up (by assumption) hOl | exact Zb.up (Hid.out (by assumption)) hOl | with_reducible refine Zb.set ?_ _ _ | with_reducible refine Zb.mk_ ?_ _ | with_reducible refine Zb.dr ?_ | with_reducible refine Zb.drN ?_ | refine Zb.up (by assumption) ?_ | refine Zb.up (Hid.out (by assumption)) ?_))) (hO:Old.n≤base:=by first | assumption | exact Nat.zero_le _ | omega | ((first | with_reducible refine Zb.le ?_ | with_reducible refine Zb.le1 ?_ | with_reducible refine Zb.le2 ?_ | with_reducible refine Zb.le3 ?_);repeat (first | assumption | exact Zb.up (by assumption) hOl | exact Zb.up (Hid.out (by assumption)) hOl | with_reducible refine Zb.set ?_ _ _ | with_reducible refine Zb.mk_ ?_ _ | with_reducible refine Zb.dr ?_ | with_reducible refine Zb.drN ?_ | refine Zb.up (by assumption) ?_ | refine Zb.up (Hid.out (by assumption)) ?_))):
 Calls Tryz.prog 99 #[vz,vb,.int .i64 (kn:Int)] w fun o w'=>o= .returned (.tuple #[])∧UQ base vz m (VE es kn (q kn) q es.length) w w':=by
 have ax:=hOl.le;obtain ⟨g,c0,rfl,ap,b3,aq,b4⟩:=h1.shape (by rw [Zu];omega);obtain ⟨A,c,rfl,b5,b6⟩:=h2.shape;rw [Zu] at h1 aq ⊢;have a:base≤w.heap.size:=by omega
 have P:Sz J (q kn):=hz 0 kn (Nat.zero_le _) hkn;have X:(canF (q kn)).Sm:=P.rs.sm hs1;obtain ⟨b1,o1,A3,n3,k3,A4,n4,k4,hA,_,⟨y0,y1,y2,y3⟩,u⟩:=h1.frs.elem (JR _ _) (Z7 hkn);injection hA with hA;injection hA with hA1 hA2;subst hA1;subst hA2;simp only [Nat.zero_add] at y0 y1 y2 y3;have R:Hid (∀t,VE es kn (q kn) q t kn=q kn):=JZ fun t=>Zii es kn _ q t
 obtain ⟨z,V⟩:∃z,z=q kn:=⟨_,rfl⟩;rw [← V] at hz P X y0 y2 u R ⊢;have aw:=JZ V;clear V;generalize hn:es.length=l at *;have HN:=JZ hn;have HA:=JZ ha;have HI:=JZ hin;obtain ⟨TQ,H⟩:∃TQ:Nat→Nat→Rat,TQ=VE es kn z q:=⟨_,rfl⟩;rw [← H] at hz R ⊢;have S:=JZ H;have HZ:=JZ hz;have Y:q=TQ 0:=by rw [H];rfl
 have H1:Hid (YL base w (.slice (some ⟨g,0,none⟩) m c0) (YT m (TQ 0))):=JZ (by rw [← Y];exact h1);have H2:=JZ h2;have ay:(kn:Int) < m:=by omega
 clear hn ha H hin hz h1 h2 Y;have ac:qs z=0∨qs z=1∨qs z= -1:=by have:=Zjl z;omega
 go_enter Tryz.func99,Tryz.ntmps99;go_wp2_with fail;refine (Yd _ (canF z) _ u).mono ?_;rw [ZG];rintro e w1 ⟨rfl,L⟩;have ST:Hid (UQ base (.slice (some ⟨g,0,none⟩) m c0) m (TQ 0) w w1):=JZ ⟨H1.out.below L,Zk.of_below L,ZN.of_below L,L.mono a⟩;by_cases M:qs z=0
 ·have HE:Hid (UQ base (.slice (some ⟨g,0,none⟩) m c0) m (TQ l) w w1):=JZ (by
   have e:∀i,i < m→TQ 0 i=TQ l i:=fun i _=>by rw [S.out,Yz.1 M,Zau,Zau]
   rw [show UQ base (.slice (some ⟨g,0,none⟩) m c0) m (TQ l) w w1=UQ base (.slice (some ⟨g,0,none⟩) m c0) m (TQ 0) w w1 from by unfold UQ;rw [Yf e]];exact ST.out)
  rw [M];go_wp2;refine bodyPost_ret (results_none rfl _ _ _) rfl ?_;exact ⟨rfl,HE.out⟩
 ·have ad:(qs z==0)=false:=by simpa using M
  clear ac M y0 y1 y2 y3 u;go_wp2;clear ad
  go_loopw [16] (fun i wr=>∃k:Nat,k≤l∧i= .int .i64 k∧UQ base (.slice (some ⟨g,0,none⟩) m c0) m (TQ k) w wr) (fun i _=>l - (intOf i).toNat)
  case atStart=>exact ⟨0,by omega,rfl,ST.out⟩
  case round=>
   obtain ⟨k,hk,rfl,hO,x,y,I⟩:=hrel;rcases JX k l with hkl | hkl
   ·obtain ⟨e,he⟩:=YS (es:=es) (i:=k) (by rw [HN.out];exact hkl);have Z:=H2.out.but x (by decide) (by decide);obtain ⟨b,b7,A1,n1,k1,A2,n2,k2,rfl,b8,⟨x0,x1,x2,x3,x4⟩,a7⟩:=Z.elem (JR _ _) he;obtain ⟨i0,i1⟩:=HI.out k e he;obtain ⟨j,hj⟩:=JT i0;have D:j < m:=(by omega);have ae:Hid ((j:Int)=kn→∀i,TQ (k+1) i=TQ k i):=JZ fun q i=>by rw [S.out];exact Ztu he (by rw [hj];exact q)
    have af:Hid ((j:Int)≠kn→∀i,TQ (k+1) i=if i=j then TQ k j - e.f.q * z else TQ k i):=JZ fun q i=>by rw [S.out];exact Ztv he (by rw [hj];exact q) hj
    have h:=HA.out k e he;obtain ⟨ei,f⟩:=e;simp only at *;subst hj;obtain ⟨W1,a8,hV,B⟩:=Zid wr (.int .i64 (j:Int)) (.bool f.num.neg) (.slice A1 n1 k1) (.bool f.den.neg) (.slice A2 n2 k2);have p:=hO.below B;have ag:=a7.below B;have N:=x.trans (Zk.of_below B);have r:=y.trans (ZN.of_below B);have O:=Za I B (JW a y.1);obtain ⟨v0,v1,v2,v3,v4⟩:=hV.five;have rj:=HZ.out k j hk D;have ah:=h.sm (show K≤34359738368 by omega);have ai:(canF (TQ k j)).Sm:=rj.rs.sm hs1;have a0:=V5 (h.sz hK) P;have aj:(canF (f.q * z)).Sm:=(a0.sh (by omega)).sm;have az:(k:Int) < l:=(by omega);have b0:(j:Int) < m:=(by omega);have a1:(YT m (TQ k))[kn]? =some (canF z):=(by rw [Z7 hkn,R.out]);have T:(YT m (TQ k))[j]? =some (canF (TQ k j)):=Z7 D;generalize ab:TQ k j=qj at *;have b2:=JZ ab;clear ab;clear he hO x I y a7 a0 h rj Z;by_cases d:(j:Int)=kn
    ·have ak:Hid (YT m (TQ k)=YT m (TQ (k+1))):=JZ (Yf fun i _=>by rw [ae.out d]);have a2:((j:Int) !=kn)=false:=(by simpa using d);clear d T a1;rw [ak.out] at p;go_wp2;clear a8;go_roundw
     case rel=>exact ⟨k+1,by omega,by go_num,p,N,r,O⟩
     case measure=>simp [intOf];omega
    ·have U:=JZ (af.out d);have a2:((j:Int) !=kn)=true:=(by simpa using d);have HV:Hid ((canF qj).q - (canF (f.q * z)).q=TQ (k+1) j):=JZ (by rw [ZG,ZG,U.out,if_pos rfl]);have al:Hid ((YT m (TQ k)).set j (canF (TQ (k+1) j))=YT m (TQ (k+1))):=JZ (by rw [V9 D];exact Yf fun i _=>by rw [U.out i,U.out j,if_pos rfl]);obtain ⟨b1,o1,B3,p3,q3,B4,p4,q4,hA,_,⟨y0,y1,y2,y3⟩,u⟩:=p.frs.elem (JR _ _) a1;injection hA with hA;injection hA with hA1 hA2;subst hA1;subst hA2;obtain ⟨b1,o1,D3,r3,s3,D4,r4,s4,hA,_,⟨z0,z1,z2,z3⟩,ar⟩:=p.frs.elem (JR _ _) T;injection hA with hA;injection hA with hA1 hA2;subst hA1;subst hA2;simp only [Nat.zero_add] at y0 y1 y2 y3 z0 z1 z2 z3;clear d
     go_upto_region 5 with (fail)
     clear a8;have C0:=Zr y0;have C1:=Zr y1;have C2:=Zr y2;have C3:=Zr y3;have D0:=Zr v0;have D1:=Zr v1;have D2:=Zr v2;have am:=Zr v3;have an:=Zr v4;have E0:=Zr z0;have E1:=Zr z1;have E2:=Zr z2;have E3:=Zr z3;have F:=Zj W1;clear y0 y1 y2 y3 v0 v1 v2 v3 v4 z0 z1 z2 z3 x0 x1 x2 x3 x4;refine Zt 17 [0,1,2,3,4,5,6,7,8,9,10,11,12,13,14,15,16,17] (by kernel_rfl) (by kernel_rfl) ?_;repeat ((first | (refine Zc (v:=?_) rfl rfl rfl ?_ ?_;rotate_left;(· (intro _ C;go_simp;(try go_bits);(try with_reducible rfl)))) | (refine Ze (v:=?_) rfl rfl rfl ?_ ?_;rotate_left;(· (intro _ C;go_simp;(try go_bits);(try with_reducible rfl)))) | refine Zf rfl rfl rfl ?_);(try simp only [Act.put,pu1,pu2,pu3,pu4,pu5,pu6]))
     refine Zg rfl rfl (fun KR hKR=>?_);go_simp;(with_reducible refine (Zcq _ _ f (canF z) _ (ag.below F) (u.below F) ah X).mono ?_);rw [ZG];rintro _ w6 ⟨v6,rfl,e6,au⟩;have G:=Za F au F.size;refine hKR.out _ _ (Or.inr G) ?_;clear hKR KR;(try simp only [Act.put,pu1,pu2,pu3,pu4,pu5,pu6]);repeat ((first | (refine Zc (v:=?_) rfl rfl rfl ?_ ?_;rotate_left;(· (intro _ C;go_simp;(try go_bits);(try with_reducible rfl)))) | (refine Ze (v:=?_) rfl rfl rfl ?_ ?_;rotate_left;(· (intro _ C;go_simp;(try go_bits);(try with_reducible rfl)))) | refine Zf rfl rfl rfl ?_);(try simp only [Act.put,pu1,pu2,pu3,pu4,pu5,pu6]))
     refine Zg rfl rfl (fun KR hKR=>?_);go_simp;(with_reducible refine (Zcv _ _ (canF qj) (canF (f.q * z)) _ (ar.below G) e6 ai aj).mono ?_);rw [HV.out];rintro _ w7 ⟨v7,rfl,e7,av⟩;have s:=Za G av G.size;obtain ⟨E,l9,k9,E',b9,ba,rfl,_,_⟩:=id e7;have a3:=p.below s;obtain ⟨_,_,_,_,⟨c0,c1,c2,c3⟩,⟨f0,f1,f2,f3⟩,_⟩:=a3.at_ T;refine hKR.out _ _ (Or.inr s) ?_;clear hKR KR;(try simp only [Act.put,pu1,pu2,pu3,pu4,pu5,pu6]);repeat ((first | (refine Zc (v:=?_) rfl rfl rfl ?_ ?_;rotate_left;(· (intro _ C;go_simp;(try go_bits);(try with_reducible rfl)))) | (refine Ze (v:=?_) rfl rfl rfl ?_ ?_;rotate_left;(· (intro _ C;go_simp;(try go_bits);(try with_reducible rfl)))) | refine Zf rfl rfl rfl ?_);(try simp only [Act.put,pu1,pu2,pu3,pu4,pu5,pu6]))
     refine Zg rfl rfl (fun KR hKR=>?_);go_simp;refine hKR.out _ _ (Or.inl (by decide)) ?_;clear hKR KR;(try simp only [Act.put,pu1,pu2,pu3,pu4,pu5,pu6]);refine Zv ?_;clear C0 C1 C2 C3 D0 D1 D2 am an E0 E1 E2 E3;have ao:j < (YT m (TQ k)).length:=(by rw [Zu];exact D);obtain ⟨a9,aa⟩:=a3.set_ ao e7;rw [al.out] at a9;have a4:=(N.trans (Zk.of_below s)).trans aa;have a5:=r.trans (ZN.of_below s);have a6:=ZB (Za O s (JW a r.1)) ap (j * 4) (j * 4+1) (j * 4+2) (j * 4+3);go_wp2;go_roundw
     case rel=>exact ⟨k+1,by omega,by go_num,a9,a4,a5.trans Yb,a6 _ _ _ _⟩
     case measure=>simp [intOf];omega
   ·obtain rfl:k=l:=by omega
    have HE:Hid (UQ base (.slice (some ⟨g,0,none⟩) m c0) m (TQ k) w wr):=JZ ⟨hO,x,y,I⟩;clear hO x y I;go_wp2
    go_end0
    exact ⟨rfl,HE.out⟩
namespace Pl
theorem XA.sz {n K:Nat} {cols:Mx} {x b:Nat→Rat} (hi:XA n cols) (hc:∀r c,r < n→c < n→Sz K (cols c r)) (hb:∀r,r < n→Sz K (b r)) (hx:∀r,r < n→XV n cols x r=b r):∀i,i < n→Sz (5^n * K) (x i):=by
 obtain ⟨z,hz,h1⟩:=Znd hi hx;exact fun i hi'=>by rw [← h1 i hi'];exact Zpz hc hb hz i hi'
def Ztx (C:Nat→Nat) (i:Nat):Nat→Nat
 | 0=>0
 | s+1=>if C s=i then s else Ztx C i s
theorem Zgz {n m k:Nat} {C:Nat→Nat} (h:Inj n m C) (hk:k < m):Ztx C (C k) m=k:=by
 have a:∀t,k < t→t≤m→Ztx C (C k) t=k:=by
  intro t
  induction t with
  | zero=>intro h1;omega
  | succ t ih=>
   intro h1 h2;unfold Ztx;by_cases e:t=k
   ·subst e;rw [if_pos rfl]
   ·rw [if_neg fun g=>e (h.eq (by omega) hk g)];exact ih (by omega) (by omega)
 exact a m hk (JY _)
def xOf (C:Nat→Nat) (n:Nat) (X:Nat→Rat):Nat→Rat:=fun i=>X (Ztx C i n)
theorem Zno {n k:Nat} {C:Nat→Nat} {X:Nat→Rat} (h:Inj n n C) (hk:k < n):xOf C n X (C k)=X k:=by unfold xOf;rw [Zgz h hk]
def UH (n j:Nat) (C:Nat→Nat) (X:Nat→Rat):List RF:=rfL n fun i=>if n - j≤Ztx C i n then canF (X (Ztx C i n)) else zeroF
theorem Zkf {n:Nat} {C:Nat→Nat} {X:Nat→Rat} (h:Inj n n C):UH n 0 C X=List.replicate n zeroF:=by
 have:UH n 0 C X=rfL n fun _=>zeroF:=YU fun i hi=>by
  obtain ⟨s,hs,rfl⟩:=h.onto hi;rw [Zgz h hs,if_neg (by omega)]
 rw [this];refine List.ext_getElem? fun i=>?_
 rcases JX i n with e | e
 ·rw [Yt e];simp [e]
 ·rw [JU (by rw [Zq];exact e),JU (by simp;exact e)]
theorem Zkg {n j k:Nat} {C:Nat→Nat} {X:Nat→Rat} (h:Inj n n C) (hk:k+1+j=n):(UH n j C X).set (C k) (canF (X k))=UH n (j+1) C X:=by
 unfold UH;rw [WN (h.1 k (by omega))];refine YU fun i hi=>?_
 obtain ⟨s,hs,rfl⟩:=h.onto hi;rw [Zgz h hs];by_cases e:s=k
 ·subst e;rw [if_pos rfl,if_pos (by omega)]
 ·rw [if_neg fun g=>e (h.eq hs (by omega) g)];by_cases e2:n - j≤s
  ·rw [if_pos e2,if_pos (by omega)]
  ·rw [if_neg e2,if_neg (by omega)]
theorem Znp {n:Nat} {C:Nat→Nat} {X:Nat→Rat} (_h:Inj n n C):UH n n C X=YT n (xOf C n X):=by
 unfold UH;rw [← Zgw];exact YU fun i _=>by rw [if_pos (by omega)];rfl
theorem UN {n j:Nat} {C:Nat→Nat} {X:Nat→Rat}:(UH n j C X).length=n:=Zq _ _
def solQ (n:Nat) (R C:Nat→Nat) (L U:Mx) (b:Nat→Rat):Nat→Rat:=xOf C n (VJ n U (VG L (fun p=>b (R p)) n) n)
theorem Zeu.solQ {n:Nat} {A:Mx} {R C:Nat→Nat} {L U:Mx} (h:Zeu n A R C L U) (b:Nat→Rat):∀r,r < n→XV n (trM A) (solQ n R C L U b) r=b r:=by
 refine h.solve (z:=VG L (fun p=>b (R p)) n) (Zgy h.l0 h.l1) fun s hs=>?_
 rw [← Zax (z:=VG L (fun p=>b (R p)) n) h.u0 h.u1 s hs];exact Zp fun k hk=>by unfold Pl.solQ;rw [Zno h.ci hk]
structure Znq (n E:Nat) (A:Mx) (R C:Nat→Nat) (L U:Mx):Prop where
 fac:Zeu n A R C L U
 n7:n≤7
 e1:1≤E
 e2:E≤4000000
 lB:∀t p,t < n→p < n→Sz (2 * E) (L t p)
 uB:∀k s,k < n→s < n→Sz (2 * E) (U k s)
theorem Zdd {n K J:Nat} {f g:Nat→Rat} (hn:n≤7) (hf:∀i,i < n→Sz K (f i)) (hg:∀i,i < n→Sz J (g i)):Sz (7 * (K+J)+8) (Z6 (fun i=>f i * g i) n):=
 (Zvg fun i hi=>V5 (hf i hi) (hg i hi)).mono (by
  have:=JS (K+J+1) hn
  omega)
theorem Znq.zB {n E:Nat} {A:Mx} {R C:Nat→Nat} {L U:Mx} (h:Znq n E A R C L U) {b:Nat→Rat} (hX:∀i,i < n→Sz E (Pl.solQ n R C L U b i)):∀s,s < n→Sz (29 * E) (VG L (fun p=>b (R p)) n s):=by
 intro s hs;have e1:=h.e1;rw [← Zax (z:=VG L (fun p=>b (R p)) n) h.fac.u0 h.fac.u1 s hs];refine (Zdd (K:=2 * E) (J:=E) h.n7 (fun k hk=>h.uB k s hk hs) fun k hk=>?_).mono (by omega);have:=hX (C k) (h.fac.ci.1 k hk);unfold Pl.solQ at this
 rwa [Zno h.fac.ci hk] at this
theorem Znq.fB {n E J:Nat} {A:Mx} {R C:Nat→Nat} {L U:Mx} (h:Znq n E A R C L U) {b:Nat→Rat} (hb:∀i,i < n→Sz J (b i)) (hX:∀i,i < n→Sz E (Pl.solQ n R C L U b i)):
 ∀j i,j≤n→i < n→Sz (J+226 * E) (VG L (fun p=>b (R p)) j i):=by
 have e1:=h.e1;have a:∀j i,j≤i→i < n→Sz (J+226 * E) (VG L (fun p=>b (R p)) j i):=fun j i hj hi=>by
  rw [Zdb L _ i j hj];have hs:Sz (7 * (2 * E+29 * E)+8) (Z6 (fun s=>L s i * VG L (fun p=>b (R p)) s s) j):=Zdd (by have:=h.n7;omega) (fun s hs=>h.lB s i (by omega) hi) fun s hs=>by
   rw [← Zda (show s≤n by omega)];exact h.zB hX s (by omega)
  exact (Zeo (hb (R i) (h.fac.ri.1 i hi)) hs).mono (by omega)
 intro j i hj hi;rcases JX i j with g | g
 ·rw [Zda (show i≤j by omega)];exact a i i (JY _) hi
 ·exact a j i g hi
theorem Znq.bB {n E:Nat} {A:Mx} {R C:Nat→Nat} {L U:Mx} (h:Znq n E A R C L U) {b:Nat→Rat} (hX:∀i,i < n→Sz E (Pl.solQ n R C L U b i)):
 ∀j i,j≤n→i < n→Sz (59 * E) (VJ n U (VG L (fun p=>b (R p)) n) j i):=by
 have e1:=h.e1;have hx:∀k,k < n→Sz E (VJ n U (VG L (fun p=>b (R p)) n) n k):=fun k hk=>by
  have:=hX (C k) (h.fac.ci.1 k hk);unfold Pl.solQ at this
  rwa [Zno h.fac.ci hk] at this
 intro j i hj hi;rcases JX (j+i) n with g | g
 ·rw [Zdc n U _ i j g];have hs:Sz (7 * (2 * E+E)+8) (Z6 (fun t=>U (n - 1 - t) i * VJ n U (VG L (fun p=>b (R p)) n) n (n - 1 - t)) j):=Zdd (by have:=h.n7;omega) (fun t ht=>h.uB _ _ (by omega) hi) fun t ht=>hx _ (by omega)
  exact (Zeo (h.zB hX i hi) hs).mono (by omega)
 ·rw [UG hi (by omega) hj,← UG hi (by omega) (JY n)];exact (hx i hi).mono (by omega)
theorem Zay {es ds:List En} {k:Int} {z:Rat} {g:Nat→Rat} {i:Nat}:∀{t:Nat},t≤es.length→VE (es++ds) k z g t i=VE es k z g t i
 | 0,_=>rfl
 | t+1,h=>by
  have ih:=Zay (es:=es) (ds:=ds) (k:=k) (z:=z) (g:=g) (i:=i) (t:=t) (by omega)
  conv=>lhs;unfold VE
  conv=>rhs;unfold VE
  rw [List.getElem?_append_left (by omega),ih]
theorem Zde (f:Nat→Rat) (k:Nat) (z:Rat) (g:Nat→Rat) (i:Nat):∀n,VE (spV f n) (k:Int) z g (spV f n).length i=if i < n∧i≠k then g i - f i * z else g i
 | 0=>by rw [if_neg (by omega)];rfl
 | n+1=>by
  have ih:=Zde f k z g i n
  by_cases h0:f n=0
  ·rw [Y8 h0,ih]
   by_cases e:i=n
   ·subst e
    rw [if_neg (by omega),h0]
    by_cases e2:i≠k
    ·rw [if_pos ⟨by omega,e2⟩];grind
    ·rw [if_neg (by omega)]
   ·by_cases e2:i < n∧i≠k
    ·rw [if_pos e2,if_pos ⟨by omega,e2.2⟩]
    ·rw [if_neg e2,if_neg (by omega)]
  ·rw [Xo h0,List.length_append]
   show VE _ _ _ _ ((spV f n).length+1) i=_
   conv=>lhs;unfold VE
   rw [List.getElem?_append_right (JY _),Nat.sub_self]
   show (if ((n:Int)≠(k:Int)∧(n:Int)=(i:Int)) then _ else _)=_
   rw [Zay (JY _),ih,ZG]
   by_cases e:i=n
   ·subst e
    rw [if_neg (show ¬(i < i∧i≠k) by omega)]
    by_cases e2:i≠k
    ·rw [if_pos ⟨by omega,rfl⟩,if_pos ⟨by omega,e2⟩]
    ·rw [if_neg (by omega),if_neg (by omega)]
   ·rw [if_neg (by omega)]
    by_cases e2:i < n∧i≠k
    ·rw [if_pos e2,if_pos ⟨by omega,e2.2⟩]
    ·rw [if_neg e2,if_neg (by omega)]
theorem Zin (f:Nat→Rat) (k:Nat) (z:Rat) (g:Nat→Rat) (i:Nat):∀n t,t≤(spV f n).length→VE (spV f n) (k:Int) z g t i=g i∨(i < n∧i≠k∧VE (spV f n) (k:Int) z g t i=g i - f i * z)
 | 0,t,h=>by
  have h':t≤0:=h
  obtain rfl:t=0:=by omega
  exact .inl rfl
 | n+1,t,h=>by
  rcases Nat.eq_or_lt_of_le h with e | e
  ·have:=Zde f k z g i (n+1)
   rw [← e] at this
   rw [this]
   by_cases e2:i < n+1∧i≠k
   ·rw [if_pos e2];exact .inr ⟨e2.1,e2.2,rfl⟩
   ·rw [if_neg e2];exact .inl rfl
  ·have ht:t≤(spV f n).length:=by
    by_cases h0:f n=0
    ·rw [Y8 h0] at e;omega
    ·rw [Xo h0,List.length_append] at e;simp at e;omega
   have hs:VE (spV f (n+1)) (k:Int) z g t i=VE (spV f n) (k:Int) z g t i:=by
    by_cases h0:f n=0
    ·rw [Y8 h0]
    ·rw [Xo h0];exact Zay ht
   rw [hs];rcases Zin f k z g i n t ht with g1 | ⟨g1,g2,g3⟩
   ·exact .inl g1
   ·exact .inr ⟨by omega,g2,g3⟩
theorem Zty {n j i:Nat} {L:Mx} {b:Nat→Rat} (h0:∀t p,t < n→p < n→p < t→L t p=0) (hj:j < n) (hi:i < n):(if i < n∧i≠j then VG L b j i - L j i * VG L b j j else VG L b j i)=VG L b (j+1) i:=by
 rw [Zaw];rcases Nat.lt_trichotomy i j with e | e | e
 ·rw [if_pos ⟨hi,by omega⟩,if_neg (by omega),h0 j i hj hi e];grind
 ·rw [if_neg (by omega),if_neg (by omega)]
 ·rw [if_pos ⟨hi,by omega⟩,if_pos e]
def Zdf (g:Nat→Rat) (k:Nat) (u:Rat):Nat→Rat:=fun i=>if i=k then g k / u else g i
theorem Ztz {n j k i:Nat} {U:Mx} {z:Nat→Rat} (h0:∀k s,k < n→s < n→k < s→U k s=0) (hk:k+1+j=n) (hi:i < n):
 (if i < n∧i≠k then Zdf (VJ n U z j) k (U k k) i - U k i * Zdf (VJ n U z j) k (U k k) k else Zdf (VJ n U z j) k (U k k) i)=VJ n U z (j+1) i:=by
 rw [Ul,show n - 1 - j=k by omega];unfold Zdf;rcases Nat.lt_trichotomy i k with e | e | e
 ·rw [if_pos ⟨hi,by omega⟩,if_neg (show i≠k by omega),if_neg (show i≠k by omega),if_pos e,if_pos rfl]
 ·subst e;rw [if_neg (by omega),if_pos rfl,if_pos rfl]
 ·rw [if_pos ⟨hi,by omega⟩,if_neg (show i≠k by omega),if_neg (show i≠k by omega),if_neg (show ¬i < k by omega),if_pos rfl,h0 k i (by omega) hi e];grind
def XQ (n k:Nat) (w:Nat→Rat):List RF:=rfL n fun i=>if i < k then canF (w i) else zeroF
theorem Un {n k:Nat} {w:Nat→Rat}:(XQ n k w).length=n:=Zq _ _
theorem Zaz {n:Nat} {w:Nat→Rat}:XQ n 0 w=List.replicate n zeroF:=by
 unfold XQ;refine List.ext_getElem? fun i=>?_
 rcases JX i n with e | e
 ·rw [Yt e,if_neg (by omega)];simp [e]
 ·rw [JU (by rw [Zq];exact e),JU (by simp;exact e)]
theorem VH {n k:Nat} {w:Nat→Rat} (hk:k < n):(XQ n k w).set k (canF (w k))=XQ n (k+1) w:=by
 unfold XQ;rw [WN hk];exact YU fun i _=>by
  by_cases e:i=k
  ·subst e;rw [if_pos rfl,if_pos (by omega)]
  ·rw [if_neg e];by_cases e2:i < k
   ·rw [if_pos e2,if_pos (by omega)]
   ·rw [if_neg e2,if_neg (by omega)]
theorem Zcc {n:Nat} {w:Nat→Rat}:XQ n n w=YT n w:=by
 unfold XQ;rw [← Zgw];exact YU fun i hi=>if_pos hi
end Pl
namespace Pl
theorem VA.facS {n K:Nat} {A a:Mx} {R C:Nat→Nat} {m:Mx} (h:VA n n A a R C m) (hn:n≤7) (hK:1≤K) (hE:5^n * K≤4000000) (ha:∀i j,i < n→j < n→Sz (5^n * K) (a i j)) (hm:∀s i,s < n→i < n→Sz (2 * (5^n * K)) (m s i)):
 Znq n (5^n * K) A R C (luL R m) (luU R C a) where
 fac:=h.fac
 n7:=hn
 e1:=Nat.mul_pos (Nat.pow_pos (by decide)) hK
 e2:=hE
 lB:=fun t p ht hp=>by
  have e1:1≤5^n * K:=Nat.mul_pos (Nat.pow_pos (by decide)) hK
  unfold luL
  split
  ·exact Sz_one.mono (by omega)
  ·split
   ·exact hm t _ ht (h.ri.1 p hp)
   ·exact Sz_zero.mono (by omega)
 uB:=fun k s hk hs=>by
  have e1:1≤5^n * K:=Nat.mul_pos (Nat.pow_pos (by decide)) hK
  unfold luU
  split
  ·exact (ha _ _ (h.ri.1 s hs) (h.ci.1 k hk)).mono (by omega)
  ·exact Sz_zero.mono (by omega)
theorem Zvn {n t K:Nat} {a a' m':Mx} {r c:Nat} {P:Nat→Prop} {Q:Nat→Prop} [DecidablePred P] [DecidablePred Q] (hK:1≤K) (hr:r < n) (hc:c < n) (h:∀i j,i < n→j < n→Sz (5^t * K) (a i j)) (hmt:∀i,i < n→m' t i=if P i then a i c / a r c else 0)
 (ha:∀i j,i < n→j < n→a' i j=if P i∧Q j then a i j - m' t i * a r j else a i j):(∀i,i < n→Sz (2 * (5^t * K)) (m' t i))∧∀i j,i < n→j < n→Sz (5^(t+1) * K) (a' i j):=by
 have e1:1≤5^t * K:=Nat.mul_pos (Nat.pow_pos (by decide)) hK;have e2:5^(t+1) * K=5 * (5^t * K):=by rw [Nat.pow_succ];ac_rfl
 have hm:∀i,i < n→Sz (2 * (5^t * K)) (m' t i):=fun i hi=>by
  rw [hmt i hi];split
  ·exact (Zbv (h i c hi hc) (h r c hr hc)).mono (by omega)
  ·exact Sz_zero.mono (by omega)
 refine ⟨hm,fun i j hi hj=>?_⟩;rw [ha i j hi hj,e2];split
 ·exact (Zeo (h i j hi hj) (V5 (hm i hi) (h r j hr hj))).mono (by omega)
 ·exact (h i j hi hj).mono (by omega)
theorem XA.trQ {n:Nat} {cols:Mx} (h:XA n cols):XA n (trM cols):=by
 intro y hy k hk;obtain ⟨x,hx⟩:=Uh h (fun r=>if r=k then 1 else 0);have h1:=(Vd hx x).2 fun _ _=>rfl
 have e1:y k=Z6 (fun r=>y r * XV n cols x r) n:=by
  rw [Zp (g:=fun r=>if r=k then y k else 0) fun r hr=>by
   rw [h1 r hr];by_cases e:r=k
   ·subst e;rw [if_pos rfl,if_pos rfl];grind
   ·rw [if_neg e,if_neg e];grind,WZ hk]
 have e2:Z6 (fun r=>y r * XV n cols x r) n=Z6 (fun r=>Z6 (fun c=>x c * (cols c r * y r)) n) n:=Zp fun r hr=>by
  unfold XV;rw [← Xn];exact Zp fun c _=>by grind
 rw [e1,e2,Ub];exact WL fun c hc=>by
  rw [Xn];have:=hy c hc;have e3:Z6 (fun r=>cols c r * y r) n=0:=this;rw [e3];grind
structure Ups (n K T:Nat) (k:Nat→Nat) (im V:Mx) (Cs:Nat→Mx):Prop where
 kn:∀t,t < T→k t < n
 step:∀t,t < T→Cs (t+1)=Zgu (Cs t) (k t) (V t)
 img:∀t,t < T→∀r,r < n→XV n (Cs t) (im t) r=V t r
 nz:∀t,t < T→im t (k t)≠0
 szV:∀t,t < T→∀r,r < n→Sz K (V t r)
 szC:∀r c,r < n→c < n→Sz K (Cs 0 c r)
 ind:XA n (Cs 0)
theorem Ups.indep {n K T:Nat} {k:Nat→Nat} {im V:Mx} {Cs:Nat→Mx} (h:Ups n K T k im V Cs):∀t,t≤T→XA n (Cs t)
 | 0,_=>h.ind
 | t+1,ht=>by rw [h.step t (by omega)];exact Zne (h.kn t (by omega)) (h.indep t (by omega)) (h.img t (by omega)) (h.nz t (by omega))
theorem Ups.sz {n K T:Nat} {k:Nat→Nat} {im V:Mx} {Cs:Nat→Mx} (h:Ups n K T k im V Cs):∀t,t≤T→∀r c,r < n→c < n→Sz K (Cs t c r)
 | 0,_=>h.szC
 | t+1,ht=>fun r c hr hc=>by
  rw [h.step t (by omega)]
  unfold Zgu
  split
  ·exact h.szV t (by omega) r hr
  ·exact h.sz t (by omega) r c hr hc
theorem Ups.imB {n K T:Nat} {k:Nat→Nat} {im V:Mx} {Cs:Nat→Mx} (h:Ups n K T k im V Cs):∀t,t < T→∀i,i < n→Sz (5^n * K) (im t i):=fun t ht=>(h.indep t (by omega)).sz (h.sz t (by omega)) (h.szV t ht) (h.img t ht)
theorem Ups.zero {n K:Nat} {cols:Mx} (hs:∀r c,r < n→c < n→Sz K (cols c r)) (hi:XA n cols) (k:Nat→Nat) (im V:Mx):Ups n K 0 k im V (fun _=>cols) where
 kn:=fun t ht=>absurd ht (by omega)
 step:=fun t ht=>absurd ht (by omega)
 img:=fun t ht=>absurd ht (by omega)
 nz:=fun t ht=>absurd ht (by omega)
 szV:=fun t ht=>absurd ht (by omega)
 szC:=hs
 ind:=hi
def putN {α:Type} (f:Nat→α) (T:Nat) (x:α):Nat→α:=fun t=>if t=T then x else f t
theorem ZM {α:Type} {f:Nat→α} {T t:Nat} {x:α} (h:t < T):putN f T x t=f t:=if_neg (by omega)
theorem ZP {α:Type} {f:Nat→α} {T:Nat} {x:α}:putN f T x T=x:=if_pos rfl
def Zkh (k:Nat) (im x:Nat→Rat):Nat→Rat:=fun i=>if i=k then x k / im k else x i - im i * (x k / im k)
theorem Znr {k:Nat} {im x:Nat→Rat} (h:x k=0) (i:Nat):Zkh k im x i=x i:=by
 unfold Zkh;rw [h,show (0:Rat) / im k=0 by rw [Rat.div_def];grind];split
 ·rename_i e;rw [e,h]
 ·grind
def xN (k:Nat→Nat) (im:Mx) (x:Nat→Rat):Nat→Nat→Rat
 | 0=>x
 | t+1=>Zkh (k t) (im t) (xN k im x t)
theorem Ups.solves {n K T:Nat} {k:Nat→Nat} {im V:Mx} {Cs:Nat→Mx} (h:Ups n K T k im V Cs) {x b:Nat→Rat} (hx:∀r,r < n→XV n (Cs 0) x r=b r):∀t,t≤T→∀r,r < n→XV n (Cs t) (xN k im x t) r=b r
 | 0,_=>hx
 | t+1,ht=>by
  rw [h.step t (by omega)]
  refine Zqh (h.kn t (by omega)) (h.img t (by omega)) (h.nz t (by omega)) (h.solves hx t (by omega)) ?_ fun i _ hne=>?_
  ·show Zkh _ _ _ _=_
   unfold Zkh;rw [if_pos rfl]
  ·show Zkh _ _ _ _=_ - _ * Zkh _ _ _ _
   unfold Zkh;rw [if_neg hne,if_pos rfl]
theorem Ups.xB {n K T:Nat} {k:Nat→Nat} {im V:Mx} {Cs:Nat→Mx} (h:Ups n K T k im V Cs) {x b:Nat→Rat} (hx:∀r,r < n→XV n (Cs 0) x r=b r) (hb:∀r,r < n→Sz K (b r)):∀t,t≤T→∀i,i < n→Sz (5^n * K) (xN k im x t i):=fun t ht=>(h.indep t ht).sz (h.sz t ht) hb (h.solves hx t ht)
def Zns (n k:Nat) (im c:Nat→Rat):Nat→Rat:=fun i=>if i=k then (c k - Z6 (fun i=>if i=k then 0 else im i * c i) n) / im k else c i
def cN (n T:Nat) (k:Nat→Nat) (im:Mx) (d:Nat→Rat):Nat→Nat→Rat
 | 0=>d
 | j+1=>Zns n (k (T - 1 - j)) (im (T - 1 - j)) (cN n T k im d j)
theorem Znt {n q:Nat} {cols:Mx} {im v y c:Nat→Rat} (hq:q < n) (h0:im q≠0) (hi:∀r,r < n→XV n cols im r=v r) (h:∀j,j < n→XV n (trM cols) y j=Zns n q im c j):∀j,j < n→XV n (trM (Zgu cols q v)) y j=c j:=by
 intro j hj;by_cases e:j=q
 ·subst e;have e1:XV n (trM (Zgu cols j v)) y j=Z6 (fun r=>y r * XV n cols im r) n:=Zp fun r hr=>by
   show Zgu cols j v j r * y r=_;unfold Zgu;rw [if_pos rfl,hi r hr];grind
  have e2:Z6 (fun r=>y r * XV n cols im r) n=Z6 (fun i=>im i * XV n (trM cols) y i) n:=by
   rw [Zp (g:=fun r=>Z6 (fun i=>im i * (cols i r * y r)) n) fun r _=>by
    unfold XV;rw [← Xn];exact Zp fun i _=>by grind,Ub]
   exact Zp fun i _=>Xn _ _ _
  have e3:Z6 (fun i=>im i * XV n (trM cols) y i) n=Z6 (fun i=>(if i=j then 0 else im i * c i)+(if i=j then c j - Z6 (fun i=>if i=j then 0 else im i * c i) n else 0)) n:=Zp fun i hi'=>by
   rw [h i hi'];unfold Zns;by_cases e:i=j
   ·subst e;rw [if_pos rfl,if_pos rfl,if_pos rfl];have:=Rat.div_mul_cancel (a:=c i - Z6 (fun x=>if x=i then 0 else im x * c x) n) h0;grind
   ·rw [if_neg e,if_neg e,if_neg e];grind
  rw [e1,e2,e3,WY,WZ hj];grind
 ·have:=h j hj;unfold Zns at this;rw [if_neg e] at this;rw [← this];exact Zp fun r _=>by
   show Zgu cols q v j r * y r=_;unfold Zgu;rw [if_neg e];rfl
theorem Ups.solvesT {n K T:Nat} {k:Nat→Nat} {im V:Mx} {Cs:Nat→Mx} (h:Ups n K T k im V Cs) {d y:Nat→Rat} (hy:∀c,c < n→XV n (trM (Cs 0)) y c=cN n T k im d T c):∀t,t≤T→∀c,c < n→XV n (trM (Cs t)) y c=cN n T k im d (T - t) c
 | 0,_=>hy
 | t+1,ht=>by
  have ih:=h.solvesT hy t (by omega)
  rw [h.step t (by omega)]
  refine Znt (h.kn t (by omega)) (h.nz t (by omega)) (h.img t (by omega)) fun j hj=>?_
  rw [ih j hj,show T - t=(T - (t+1))+1 by omega]
  show Zns n (k (T - 1 - (T - (t+1)))) (im (T - 1 - (T - (t+1)))) _ j=_
  rw [show T - 1 - (T - (t+1))=t by omega]
theorem Ups.yB {n K T:Nat} {k:Nat→Nat} {im V:Mx} {Cs:Nat→Mx} (h:Ups n K T k im V Cs) {d y:Nat→Rat} (hd:∀r,r < n→Sz K (d r)) (hy:∀c,c < n→XV n (trM (Cs 0)) y c=cN n T k im d T c):∀i,i < n→Sz (5^n * K) (y i):=
 (h.indep T (JY _)).trQ.sz (fun r c hr hc=>h.sz T (JY _) c r hc hr) hd fun r hr=>by
  rw [h.solvesT hy T (JY _) r hr,Nat.sub_self];rfl
theorem Ups.cB {n K T:Nat} {k:Nat→Nat} {im V:Mx} {Cs:Nat→Mx} (h:Ups n K T k im V Cs) (hn:n≤7) (hK:1≤K) {d y:Nat→Rat} (hd:∀r,r < n→Sz K (d r)) (hy:∀c,c < n→XV n (trM (Cs 0)) y c=cN n T k im d T c):∀j,j≤T→∀i,i < n→Sz (22 * (5^n * K)) (cN n T k im d j i):=fun j hj i hi=>by
 have e1:K≤5^n * K:=Nat.le_mul_of_pos_left K (Nat.pow_pos (by decide))
 have:=h.solvesT hy (T - j) (by omega) i hi
 rw [show T - (T - j)=j by omega] at this
 rw [← this]
 exact (Zdd (K:=K) (J:=5^n * K) hn (fun r hr=>h.sz (T - j) (by omega) r i hr hi) (h.yB hd hy)).mono (by omega)
end Pl
end Go.Proofs.YtidgdpkcloaheaaGreat
