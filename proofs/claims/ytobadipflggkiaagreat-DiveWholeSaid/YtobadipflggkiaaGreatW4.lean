/- Lemmas of the claim; no condition. -/
import Derived.Test.YtobadipflggkiaaGreatW3
set_option linter.all false
set_option maxRecDepth 100000
set_option maxHeartbeats 40000000
namespace Go.Proofs.YtobadipflggkiaaGreat
open Go.RowKit
open Pl Tryz
attribute [local go_sem ↓] Go.wp_at_zero Go.wp_at_succ
namespace Pl
def XP(m n:Nat):(Zp (m*n)).length<=(Zp m).length+(Zp n).length:=by
 apply Xd;rw[iG];have h1:=Yu m;have h2:=Yu n;exact Nat.mul_lt_mul'' h1 h2
def Yau(m n k:Nat)(h1:(Zp m).length<=k)(h2:(Zp n).length<=k):(Zp (m+n)).length<=k+1:=by
 apply Xd;have a1:=je (Yu m) (jS B32_pos h1);have a2:=je (Yu n) (jS B32_pos h2);rw[jf];generalize B32^k=p at *;unfold B32;omega
def YM(z:Int):val (canI z).ds=z.natAbs:=Zn _
def RI.Sm.mul{a b:RI}(h1:a.Sm)(h2:b.Sm):(Zp (val (canI (a.z*b.z)).ds)).length<=137438953472:=by
 unfold RI.Sm at h1 h2;rw[YM,kD,ZT,ZT];exact JW (XP _ _) Qk
def RI.Sm.two{a b:RI}(h1:a.Sm)(h2:b.Sm):(Zp (val a.ds)).length+(Zp (val b.ds)).length<=1099511627776:=by
 unfold RI.Sm at h1 h2;omega
def Zrt{n d m k:Int}{p q:Rat}(h:okq n d p)(g:okq m k q):(-9223372036854775807<=n*m/\n*m<=9223372036854775807)/\(0<d*k/\d*k<=9223372036854775807)/\Rat.divInt (n*m) (d*k)=p*q:=by
 obtain⟨⟨a1,a2⟩,a3,a4,rfl⟩:=h;obtain⟨⟨b1,b2⟩,b3,b4,rfl⟩:=g;refine⟨?_,⟨aD a3 b3,?_⟩,(gW _ _).symm⟩
 ·exact prod_bd Qk Qk Qk Qk
 ·exact(prod_bd Qk Qk Qk Qk).2
 where
  prod_bd {x y:Int} (h1: -2147483648<=x) (h2:x<=2147483648) (h3: -2147483648<=y) (h4:y<=2147483648): -9223372036854775807<=x*y/\x*y<=9223372036854775807:=by
   have e:(x*y).natAbs<=2147483648*2147483648:=(by rw[kD];exact gL Qk Qk);omega
end Pl
def Zru(w:World)(x1 x2 x3 x4 y1 y2 y3 y4:Value):∃W,((w.alloc (.cells #[x1,x2,x3,x4] 49)).alloc (.cells #[y1,y2,y3,y4] 49)).alloc (.cells #[.bool false,.slice none 0 0,.bool false,.slice none 0 0] 49)=W/\Bk W w.heap.size 49 [x1,x2,x3,x4]/\Bk W (w.heap.size+1) 49 [y1,y2,y3,y4]/\
 Bk W (w.heap.size+1+1) 49 [.bool false,.slice none 0 0,.bool false,.slice none 0 0]/\Below w.heap.size w W:=by
 obtain⟨W,hW,hs,h1,h2,hb⟩:=Zoe w x1 x2 x3 x4 y1 y2 y3 y4;exact⟨_,by rw[hW],h1.alloc _,h2.alloc _,Bk.next hs _ _ hb,hb.alloc hb.size _⟩
def Zoi(w:World)(x y z u:Int):∃W,(w.alloc (.cells #[.int .i64 x,.int .i64 y] 173)).alloc (.cells #[.int .i64 z,.int .i64 u] 173)=W/\Bk W w.heap.size 173 [.int .i64 x,.int .i64 y]/\Bk W (w.heap.size+1) 173 [.int .i64 z,.int .i64 u]/\Below w.heap.size w W:=by
 refine⟨_,rfl,(Bk.new w _ [.int .i64 x,.int .i64 y]).alloc _,?_,(Ze w _).alloc (by simp) _⟩;have:=Bk.new (w.alloc (.cells #[.int .i64 x,.int .i64 y] 173)) 173 [.int .i64 z,.int .i64 u]
 rwa[size_alloc]at this
def Pl.pos_ne{x y:Int}(h:0<x)(k:0<y):(canI (x*y)).z≠0:=by
 rw[ZM];have:=aD h k;omega
def WV(v1 v2:Value)(a b:RF)(w:World)(h1:Zx w v1 a)(h2:Zx w v2 b)(hs:a.Sm)(hs2:b.Sm):
 Calls prog 67 #[v1,v2] w λe w'=>∃v',e= .returned v'/\Zx w' v' (canF (a.q*b.q))/\Below w.heap.size w w':=by
 obtain⟨A,n,c,A',n',c',rfl,hd,ap⟩:=id h1;obtain⟨B,m,d,B',m',d',rfl,ke,aq⟩:=id h2;obtain⟨W,hW,hX,hY,hR,J⟩:=Zru w (.bool a.num.neg) (.slice A n c) (.bool a.den.neg) (.slice A' n' c') (.bool b.num.neg) (.slice B m d) (.bool b.den.neg) (.slice B' m' d');have e1:=h1.below J;have e2:=h2.below J;obtain⟨p1,p2,p3,p4⟩:=hX.four;obtain⟨r1,r2,r3,r4⟩:=hY.four;clear h1 h2 hd ap ke aq;go_enter func67,ntmps67;go_wp2_with fail;clear hW;refine(UR _ _ a b _ e1 e2).mono ?_;rintro e w1 ⟨x,y,z,u,ok,rfl,hq,F⟩;have HQ:=JZ hq;have P:=hX.later F;have R:=hY.later F;have S:=hR.later F;have H:=Za J F J.size;have T:=e1.below F;have U:=e2.below F;clear hq hX hY hR J e1 e2 F p1 p2 p3 p4 r1 r2 r3 r4;obtain⟨W2,a7,bW,bV,bn⟩:=Zoi w1 x y z u;have V:=P.later bn;have X:=R.later bn;have M:=S.later bn;have k:=Za H bn H.size;have Y:=T.below bn;have Z:=U.below bn;clear P R S H T U bn
 cases ok
 ·obtain⟨p1,p2,p3,p4⟩:=V.four;clear HQ;go_wp2_with fail;clear a7;refine(XB _ a _ Y hs).mono ?_;rintro e w3 ⟨v1,v2,N,D,rfl,iN,iD,hD,a8,sN,sD,G⟩;have HD:=JZ hD;have ad:=JZ a8;obtain⟨A3,n3,k3,rfl,_⟩:=iN.shape;obtain⟨A4,n4,k4,rfl,_⟩:=iD.shape;obtain⟨W3,ar,bN,bD,bn⟩:=boxes w3 (.bool N.neg) (.slice A3 n3 k3) (.bool D.neg) (.slice A4 n4 k4);have o:=Za G bn G.size;have a0:=X.later o;have E:=M.later o;have I:=Za k o k.size;have a1:=Z.below o;have a2:=iN.below bn;have a3:=iD.below bn;clear hD a8 V X M k Y Z G o bn iN iD p1 p2 p3 p4 bW bV hs;obtain⟨r1,r2,r3,r4⟩:=a0.four;go_wp2_with fail;clear ar;refine(XB _ b _ a1 hs2).mono ?_;rintro e w5 ⟨v1,v2,N',D',rfl,jN,jD,a9,aa,ab,ac,O⟩;have ae:=JZ a9;have af:=JZ aa;obtain⟨A5,n5,k5,rfl,_⟩:=jN.shape;obtain⟨A6,n6,k6,rfl,_⟩:=jD.shape;obtain⟨W5,au,t,v,bn⟩:=boxes w5 (.bool N'.neg) (.slice A5 n5 k5) (.bool D'.neg) (.slice A6 n6 k6);have j:=Za O bn O.size;have p:=bN.later j;have r:=bD.later j;have s:=E.later j;have K:=Za I j I.size;have ag:=a2.below j;have ah:=a3.below j;have ai:=jN.below bn;have aj:=jD.below bn;clear a9 aa a0 E I a1 O j bn jN jD r1 r2 r3 r4 bN bD a2 a3 hs2;obtain⟨x0,x1,_,_⟩:=p.two;obtain⟨y0,y1,_,_⟩:=r.two;obtain⟨av,aw,_,_⟩:=t.two;obtain⟨ax,ay,_,_⟩:=v.two;have ak:w3.heap.size≠w.heap.size+1+1:=(p.ne_of s Ql);have al:w3.heap.size+1≠w.heap.size+1+1:=(r.ne_of s Ql);have am:w5.heap.size≠w.heap.size+1+1:=(t.ne_of s Ql);have an:w5.heap.size+1≠w.heap.size+1+1:=(v.ne_of s Ql);have a4:True:=trivial;go_wp2_with fail;clear au
  go_region_held3(λw'=>(w'.cell? ⟨w3.heap.size,0,none⟩=some (.bool N.neg)/\w'.cell? ⟨w3.heap.size,1,none⟩=some (.slice A3 n3 k3))/\(w'.cell? ⟨w3.heap.size+1,0,none⟩=some (.bool D.neg)/\w'.cell? ⟨w3.heap.size+1,1,none⟩=some (.slice A4 n4 k4))/\(w'.cell? ⟨w5.heap.size,0,none⟩=some (.bool N'.neg)/\w'.cell? ⟨w5.heap.size,1,none⟩=some (.slice A5 n5 k5))/\(w'.cell? ⟨w5.heap.size+1,0,none⟩=some (.bool D'.neg)/\w'.cell? ⟨w5.heap.size+1,1,none⟩=some (.slice A6 n6 k6)))
   (first|with_reducible exact⟨p.pair,r.pair,t.pair,v.pair⟩|with_reducible exact⟨p.drew.pair,r.drew.pair,t.drew.pair,v.drew.pair⟩|with_reducible exact⟨(p.drew.later g).pair,(r.drew.later g).pair,(t.drew.later g).pair,(v.drew.later g).pair⟩|with_reducible exact⟨((p.drew.later g).later h).pair,((r.drew.later g).later h).pair,((t.drew.later g).later h).pair,((v.drew.later g).later h).pair⟩|with_reducible exact⟨(((p.drew.later g).later h).later i).pair,(((r.drew.later g).later h).later i).pair,(((t.drew.later g).later h).later i).pair,(((v.drew.later g).later h).later i).pair⟩|with_reducible exact⟨((((p.drew.later g).later h).later i).far4 ak _ _ _ _).pair,((((r.drew.later g).later h).later i).far4 al _ _ _ _).pair,((((t.drew.later g).later h).later i).far4 am _ _ _ _).pair,((((v.drew.later g).later h).later i).far4 an _ _ _ _).pair⟩)
   (first
    |(go_at_call 109;have _t:=a4;refine(XK _ _ N N' _ (ag.keep (ZI.drew _)) (ai.keep (ZI.drew _)) (RI.Sm.two sN ab)).mono ?_;clear a4 _t;rintro e w6 ⟨v6,rfl,e6,g⟩)
    |(go_at_call 109;refine(XK _ _ D D' _ ((ah.keep (ZI.drew _)).below g) ((aj.keep (ZI.drew _)).below g) (RI.Sm.two sD ac)).mono ?_;rintro e w7 ⟨v7,rfl,e7,h⟩)
    |(go_at_call 108;refine(Wp _ _ (canI (N.z*N'.z)) (canI (D.z*D'.z)) _ (e6.below h) e7 (JW (RI.Sm.mul sN ab) Ql) (JW (RI.Sm.mul sD ac) Ql) (pos_ne HD.out ae.out)).mono ?_;rw[ZM,ZM,<-gW,ad.out,af.out];rintro e w8 ⟨v8,rfl,e8,i⟩;obtain⟨C,l,f,C',l',f',rfl,_,_⟩:=id e8;obtain⟨c0,c1,c2,c3⟩:=(((s.drew.later g).later h).later i).four;obtain⟨f0,f1,f2,f3⟩:=(((s.drew.later g).later h).later i).fourF))
  go_wp2;refine Zq results67 underlying49 Qm rfl ((((s.drew.later g).later h).later i).set4 _ _ _ _) rfl ?_;have a5:=Za K.drew g K.size;have a6:=Za a5 h a5.size;have ao:=Za a6 i a6.size;exact YA (((s.drew.later g).later h).later i) e8 ao Qk
 ·obtain⟨⟨b1,b2⟩,⟨b3,b4⟩,L⟩:=Zrt (HQ.out rfl).1 (HQ.out rfl).2;have HV:=JZ L;obtain⟨q0,q1,_,_⟩:=bW.two;obtain⟨s0,s1,_,_⟩:=bV.two;clear L HQ;have t1:IntKind.i64.wrap (x*z)=x*z:=by simp only[IntKind.wrap,IntKind.bits,IntKind.signed];simp;omega
  have t2:IntKind.i64.wrap (y*u)=y*u:=by simp only[IntKind.wrap,IntKind.bits,IntKind.signed];simp;omega
  go_wp2_with fail;clear a7;refine(Xo (x*z) (y*u) _ b1 b2 b3 b4).mono ?_;rw[HV.out];rintro e w3 ⟨v3,rfl,e3,G⟩;have E:=M.later G;obtain⟨C,l,f,C',l',f',rfl,_,_⟩:=id e3;obtain⟨c0,c1,c2,c3⟩:=E.four;obtain⟨f0,f1,f2,f3⟩:=E.fourF;go_wp2;refine Zq results67 underlying49 Qm rfl (E.set4 _ _ _ _) rfl ?_;exact YA E e3 (Za k G k.size) Qk
namespace Pl
def Yav{n d m k:Int}{p q:Rat}(h:okq n d p)(g:okq m k q):(-9223372036854775807<=n*k+m*d/\n*k+m*d<=9223372036854775807)/\(0<d*k/\d*k<=9223372036854775807)/\((-4611686018427387904<=n*k/\n*k<=4611686018427387904)/\(-4611686018427387904<=m*d/\m*d<=4611686018427387904))/\Rat.divInt (n*k+m*d) (d*k)=p+q:=by
 obtain⟨⟨a1,a2⟩,a3,a4,rfl⟩:=h;obtain⟨⟨b1,b2⟩,b3,b4,rfl⟩:=g;have e1:=prod_bd1 (x:=n) (y:=k) Qk Qk Qk Qk;have e2:=prod_bd1 (x:=m) (y:=d) Qk Qk Qk Qk;have e3:=prod_bd1 (x:=d) (y:=k) Qk Qk Qk Qk;refine⟨⟨Qk,Qk⟩,⟨aD a3 b3,Qk⟩,⟨⟨Qk,Qk⟩,⟨Qk,Qk⟩⟩,?_⟩;rw[gX _ _ Qk Qk]
 where
  prod_bd1 {x y:Int} (h1: -2147483647<=x) (h2:x<=2147483647) (h3: -2147483647<=y) (h4:y<=2147483647): -4611686014132420609<=x*y/\x*y<=4611686014132420609:=by
   have e:(x*y).natAbs<=2147483647*2147483647:=(by rw[kD];exact gL Qk Qk);omega
def Zcm{x y:Int}{k:Nat}(h1:(Zp x.natAbs).length<=k)(h2:(Zp y.natAbs).length<=k):(Zp (x+y).natAbs).length<=k+1:=
 JW (Zu (Int.natAbs_add_le x y)) (Yau _ _ _ h1 h2)
def RI.Sm.add{a b:RI}(h1:a.Sm)(h2:b.Sm):(Zp (val (canI (a.z+b.z)).ds)).length<=549755813888:=by
 unfold RI.Sm at h1 h2;rw[YM];rw[<-ZT]at h1 h2;exact JW (Zcm h1 h2) Qk
def RI.Sm.adds{a b c d:RI}(h1:a.Sm)(h2:b.Sm)(h3:c.Sm)(h4:d.Sm):(Zp (val (canI ((canI (a.z*b.z)).z+(canI (c.z*d.z)).z)).ds)).length<=549755813888:=by
 have e1:=RI.Sm.mul h1 h2;have e2:=RI.Sm.mul h3 h4;rw[YM]at e1 e2⊢;rw[ZM,ZM];exact JW (Zcm e1 e2) Qk
def Un{z:Int}:sgn z=0↔z=0:=by
 unfold sgn;split;omega;split <;> omega
def Zug{n m d:Int}(h:d≠0):Rat.divInt n d+Rat.divInt m d=Rat.divInt (n+m) d:=by
 rw[gX _ _ h h,<-iH,Rat.divInt_mul_right h]
end Pl
def Zgi(v1 v2:Value)(a b:RF)(w:World)(h1:Zx w v1 a)(h2:Zx w v2 b)(hs:a.Sm)(hs2:b.Sm):
 Calls prog 69 #[v1,v2] w λe w'=>∃v',e= .returned v'/\Zx w' v' (canF (a.q+b.q))/\Below w.heap.size w w':=by
 obtain⟨A,n,c,A',n',c',rfl,hd,bp⟩:=id h1;obtain⟨B,m,d,B',m',d',rfl,ke,bq⟩:=id h2;obtain⟨W,hW,hX,hY,hR,U⟩:=Zru w (.bool a.num.neg) (.slice A n c) (.bool a.den.neg) (.slice A' n' c') (.bool b.num.neg) (.slice B m d) (.bool b.den.neg) (.slice B' m' d');have e1:=h1.below U;have e2:=h2.below U;obtain⟨p1,p2,p3,p4⟩:=hX.four;obtain⟨r1,r2,r3,r4⟩:=hY.four;clear h1 h2 hd bp ke bq;go_enter func69,ntmps69;go_wp2_with fail;clear hW;refine(UR _ _ a b _ e1 e2).mono ?_;rintro e w1 ⟨x,y,z,u,ok,rfl,hq,J⟩;have HQ:=JZ hq;have ad:=hX.later J;have ae:=hY.later J;have af:=hR.later J;have O:=Za U J U.size;have P:=e1.below J;have ag:=e2.below J;clear hq hX hY hR U e1 e2 J p1 p2 p3 p4 r1 r2 r3 r4;obtain⟨W2,bd,bW,bV,bn⟩:=Zoi w1 x y z u;have ah:=ad.later bn;have ai:=ae.later bn;have a8:=af.later bn;have F:=Za O bn O.size;have aj:=P.below bn;have ak:=ag.below bn;clear ad ae af O P ag bn
 cases ok
 ·obtain⟨p1,p2,p3,p4⟩:=ah.four;clear HQ;go_wp2_with fail;clear bd;refine(XB _ a _ aj hs).mono ?_;rintro e w3 ⟨v1,v2,N,D,rfl,iN,iD,hD,bi,sN,sD,M⟩;have HD:=JZ hD;have al:=JZ bi;obtain⟨A3,n3,k3,rfl,_⟩:=iN.shape;obtain⟨A4,n4,k4,rfl,_⟩:=iD.shape;obtain⟨W3,br,bN,bD,bn⟩:=boxes w3 (.bool N.neg) (.slice A3 n3 k3) (.bool D.neg) (.slice A4 n4 k4);have G:=Za M bn M.size;have am:=ai.later G;have I:=a8.later G;have R:=Za F G F.size;have an:=ak.below G;have ao:=iN.below bn;have ap:=iD.below bn;clear hD bi ah ai a8 F aj ak M G bn iN iD p1 p2 p3 p4 bW bV hs;obtain⟨r1,r2,r3,r4⟩:=am.four;go_wp2_with fail;clear br;refine(XB _ b _ an hs2).mono ?_;rintro e w5 ⟨v1,v2,N',D',rfl,jN,jD,bj,bk,V,X,ac⟩;have aq:=JZ bj;have ar:=JZ bk;obtain⟨A5,n5,k5,rfl,_⟩:=jN.shape;obtain⟨A6,n6,k6,rfl,_⟩:=jD.shape;obtain⟨W5,bs,a3,a4,bn⟩:=boxes w5 (.bool N'.neg) (.slice A5 n5 k5) (.bool D'.neg) (.slice A6 n6 k6);have v:=Za ac bn ac.size;have Z:=bN.later v;have a0:=bD.later v;have L:=I.later v;have S:=Za R v R.size;have au:=ao.below v;have a9:=ap.below v;have av:=jN.below bn;have aa:=jD.below bn;clear bj bk am I R an ac v bn jN jD r1 r2 r3 r4 bN bD ao ap hs2;obtain⟨x0,x1,_,_⟩:=Z.two;obtain⟨y0,y1,_,_⟩:=a0.two;obtain⟨be,bf,_,_⟩:=a3.two;obtain⟨bg,bh,_,_⟩:=a4.two;have aw:w3.heap.size≠w.heap.size+1+1:=(Z.ne_of L Ql);have ax:w3.heap.size+1≠w.heap.size+1+1:=(a0.ne_of L Ql);have ay:w5.heap.size≠w.heap.size+1+1:=(a3.ne_of L Ql);have az:w5.heap.size+1≠w.heap.size+1+1:=(a4.ne_of L Ql);go_wp2_with fail;clear bs;refine(UO _ _ D D' _ a9 aa).mono ?_;rintro e w6 ⟨rfl,E⟩;have s:=Z.later E;have t:=a0.later E;have o:=a3.later E;have p:=a4.later E;have H:=L.later E;have K:=Za S E S.size;have b0:=au.below E;have ab:=a9.below E;have b9:=av.below E;have ba:=aa.below E;clear Z a0 a3 a4 L S au a9 av aa E x0 x1 y0 y1 be bf bg bh;have a5:True:=trivial;have a6:True:=trivial;obtain⟨x0,x1,_,_⟩:=s.two;obtain⟨y0,y1,_,_⟩:=t.two;obtain⟨be,bf,_,_⟩:=o.two;obtain⟨bg,bh,_,_⟩:=p.two;by_cases Y:D.z=D'.z
  ·have a1:sgn (D.z - D'.z)=0:=(by rw[Y];simp[sgn]);rw[a1];have bl:=JZ Y;clear a1 Y;go_wp2_with fail
   go_region_held3(λw'=>(w'.cell? ⟨w3.heap.size,0,none⟩=some (.bool N.neg)/\w'.cell? ⟨w3.heap.size,1,none⟩=some (.slice A3 n3 k3))/\(w'.cell? ⟨w3.heap.size+1,0,none⟩=some (.bool D.neg)/\w'.cell? ⟨w3.heap.size+1,1,none⟩=some (.slice A4 n4 k4))/\(w'.cell? ⟨w5.heap.size,0,none⟩=some (.bool N'.neg)/\w'.cell? ⟨w5.heap.size,1,none⟩=some (.slice A5 n5 k5))/\(w'.cell? ⟨w5.heap.size+1,0,none⟩=some (.bool D'.neg)/\w'.cell? ⟨w5.heap.size+1,1,none⟩=some (.slice A6 n6 k6)))
    (first|with_reducible exact⟨s.pair,t.pair,o.pair,p.pair⟩|with_reducible exact⟨s.drew.pair,t.drew.pair,o.drew.pair,p.drew.pair⟩|with_reducible exact⟨(s.drew.later g).pair,(t.drew.later g).pair,(o.drew.later g).pair,(p.drew.later g).pair⟩|with_reducible exact⟨((s.drew.later g).later i).pair,((t.drew.later g).later i).pair,((o.drew.later g).later i).pair,((p.drew.later g).later i).pair⟩|with_reducible exact⟨(((s.drew.later g).later i).far4 aw _ _ _ _).pair,(((t.drew.later g).later i).far4 ax _ _ _ _).pair,(((o.drew.later g).later i).far4 ay _ _ _ _).pair,(((p.drew.later g).later i).far4 az _ _ _ _).pair⟩)
    (first
     |(go_at_call 112;refine(Zuf _ _ N N' _ (b0.keep (ZI.drew _)) (b9.keep (ZI.drew _)) (JW sN Ql) (JW V Ql)).mono ?_;rintro e w7 ⟨v7,rfl,e7,g⟩)
     |(go_at_call 108;refine(Wp _ _ (canI (N.z+N'.z)) D _ e7 ((ab.keep (ZI.drew _)).below g) (RI.Sm.add sN V) (JW sD Ql) (bM HD.out)).mono ?_;rw[ZM,<-Zug (bM HD.out),al.out,bl.out,ar.out];rintro e w8 ⟨v8,rfl,e8,i⟩;obtain⟨C,l,f,C',l',f',rfl,_,_⟩:=id e8;obtain⟨c0,c1,c2,c3⟩:=((H.drew.later g).later i).four;obtain⟨f0,f1,f2,f3⟩:=((H.drew.later g).later i).fourF))
   go_wp2;refine Zq results69 underlying49 Qm rfl (((H.drew.later g).later i).set4 _ _ _ _) rfl ?_;have T:=Za K.drew g K.size;have a2:=Za T i T.size;exact YA ((H.drew.later g).later i) e8 a2 Qk
  ·have a1:(sgn (D.z - D'.z)==0)=false:=by
    have:sgn (D.z - D'.z)≠0:=λh=>Y (by have:=Un.1 h;omega)
    simpa using this
   have bm:=Zoh (D.z - D'.z);generalize sgn (D.z - D'.z)=sg at *;clear Y;go_wp2_with fail;clear a1 bm
   go_region_held3(λw'=>(w'.cell? ⟨w3.heap.size,0,none⟩=some (.bool N.neg)/\w'.cell? ⟨w3.heap.size,1,none⟩=some (.slice A3 n3 k3))/\(w'.cell? ⟨w3.heap.size+1,0,none⟩=some (.bool D.neg)/\w'.cell? ⟨w3.heap.size+1,1,none⟩=some (.slice A4 n4 k4))/\(w'.cell? ⟨w5.heap.size,0,none⟩=some (.bool N'.neg)/\w'.cell? ⟨w5.heap.size,1,none⟩=some (.slice A5 n5 k5))/\(w'.cell? ⟨w5.heap.size+1,0,none⟩=some (.bool D'.neg)/\w'.cell? ⟨w5.heap.size+1,1,none⟩=some (.slice A6 n6 k6)))
    (first|with_reducible exact⟨s.pair,t.pair,o.pair,p.pair⟩|with_reducible exact⟨s.drew.pair,t.drew.pair,o.drew.pair,p.drew.pair⟩|with_reducible exact⟨(s.drew.later g).pair,(t.drew.later g).pair,(o.drew.later g).pair,(p.drew.later g).pair⟩|with_reducible exact⟨((s.drew.later g).later i).pair,((t.drew.later g).later i).pair,((o.drew.later g).later i).pair,((p.drew.later g).later i).pair⟩|with_reducible exact⟨(((s.drew.later g).later i).later k).pair,(((t.drew.later g).later i).later k).pair,(((o.drew.later g).later i).later k).pair,(((p.drew.later g).later i).later k).pair⟩|with_reducible exact⟨((((s.drew.later g).later i).later k).later j).pair,((((t.drew.later g).later i).later k).later j).pair,((((o.drew.later g).later i).later k).later j).pair,((((p.drew.later g).later i).later k).later j).pair⟩|with_reducible exact⟨(((((s.drew.later g).later i).later k).later j).later r).pair,(((((t.drew.later g).later i).later k).later j).later r).pair,(((((o.drew.later g).later i).later k).later j).later r).pair,(((((p.drew.later g).later i).later k).later j).later r).pair⟩|with_reducible exact⟨((((((s.drew.later g).later i).later k).later j).later r).far4 aw _ _ _ _).pair,((((((t.drew.later g).later i).later k).later j).later r).far4 ax _ _ _ _).pair,((((((o.drew.later g).later i).later k).later j).later r).far4 ay _ _ _ _).pair,((((((p.drew.later g).later i).later k).later j).later r).far4 az _ _ _ _).pair⟩)
    (first
     |(go_at_call 109;have _t:=a5;refine(XK _ _ N D' _ (b0.keep (ZI.drew _)) (ba.keep (ZI.drew _)) (RI.Sm.two sN X)).mono ?_;clear a5 _t;rintro e w7 ⟨v7,rfl,e7,g⟩)
     |(go_at_call 109;have _t:=a6;refine(XK _ _ N' D _ ((b9.keep (ZI.drew _)).below g) ((ab.keep (ZI.drew _)).below g) (RI.Sm.two V sD)).mono ?_;clear a6 _t;rintro e w8 ⟨v8,rfl,e8,i⟩)
     |(go_at_call 112;refine(Zuf _ _ (canI (N.z*D'.z)) (canI (N'.z*D.z)) _ (e7.below i) e8 (JW (RI.Sm.mul sN X) Ql) (JW (RI.Sm.mul V sD) Ql)).mono ?_;rintro e w9 ⟨v9,rfl,e9,k⟩)
     |(go_at_call 109;refine(XK _ _ D D' _ ((((ab.keep (ZI.drew _)).below g).below i).below k) ((((ba.keep (ZI.drew _)).below g).below i).below k) (RI.Sm.two sD X)).mono ?_;rintro e bu ⟨bv,rfl,bt,j⟩)
     |(go_at_call 108;refine(Wp _ _ (canI ((canI (N.z*D'.z)).z+(canI (N'.z*D.z)).z)) (canI (D.z*D'.z)) _ (e9.below j) bt (RI.Sm.adds sN X V sD) (JW (RI.Sm.mul sD X) Ql) (pos_ne HD.out aq.out)).mono ?_;rw[ZM,ZM,ZM,ZM,<-gX _ _ (bM HD.out) (bM aq.out),al.out,ar.out];rintro e bw ⟨bx,rfl,P,r⟩;obtain⟨C,l,f,C',l',f',rfl,_,_⟩:=id P;obtain⟨c0,c1,c2,c3⟩:=(((((H.drew.later g).later i).later k).later j).later r).four;obtain⟨f0,f1,f2,f3⟩:=(((((H.drew.later g).later i).later k).later j).later r).fourF))
   go_wp2;refine Zq results69 underlying49 Qm rfl ((((((H.drew.later g).later i).later k).later j).later r).set4 _ _ _ _) rfl ?_;have T:=Za K.drew g K.size;have a2:=Za T i T.size;have bb:=Za a2 k a2.size;have bc:=Za bb j bb.size;have bo:=Za bc r bc.size;exact YA (((((H.drew.later g).later i).later k).later j).later r) P bo Qk
 ·obtain⟨⟨b1,b2⟩,⟨b3,b4⟩,⟨⟨b5,b6⟩,⟨b7,b8⟩⟩,a7⟩:=Yav (HQ.out rfl).1 (HQ.out rfl).2;have HV:=JZ a7;obtain⟨q0,q1,_,_⟩:=bW.two;obtain⟨s0,s1,_,_⟩:=bV.two;clear a7 HQ;have t1:IntKind.i64.wrap (x*u+z*y)=x*u+z*y:=by simp only[IntKind.wrap,IntKind.bits,IntKind.signed];simp;omega
  have t2:IntKind.i64.wrap (y*u)=y*u:=by simp only[IntKind.wrap,IntKind.bits,IntKind.signed];simp;omega
  have t3:IntKind.i64.wrap (x*u)=x*u:=by simp only[IntKind.wrap,IntKind.bits,IntKind.signed];simp;omega
  have t4:IntKind.i64.wrap (z*y)=z*y:=by simp only[IntKind.wrap,IntKind.bits,IntKind.signed];simp;omega
  go_wp2_with fail;clear bd;refine(Xo (x*u+z*y) (y*u) _ b1 b2 b3 b4).mono ?_;rw[HV.out];rintro e w3 ⟨v3,rfl,e3,M⟩;have I:=a8.later M;obtain⟨C,l,f,C',l',f',rfl,_,_⟩:=id e3;obtain⟨c0,c1,c2,c3⟩:=I.four;obtain⟨f0,f1,f2,f3⟩:=I.fourF;go_wp2;refine Zq results69 underlying49 Qm rfl (I.set4 _ _ _ _) rfl ?_;exact YA I e3 (Za F M F.size) Qk
namespace Pl
def Ylb{n d m k:Int}(hd:0<d)(hk:0<k):qs (Rat.divInt n d - Rat.divInt m k)=sgn (n*k - m*d):=by
 rw[Rat.divInt_sub_divInt _ _ Qk Qk,Zog,Uk (aD hd hk),Int.mul_one]
def Yms{n d m k:Int}{p q:Rat}(h:okq n d p)(g:okq m k q):((-9223372036854775807<=n*k/\n*k<=9223372036854775807)/\(-9223372036854775807<=m*d/\m*d<=9223372036854775807))/\qs (p - q)=sgn (n*k - m*d):=by
 obtain⟨⟨a1,a2⟩,a3,a4,rfl⟩:=h;obtain⟨⟨b1,b2⟩,b3,b4,rfl⟩:=g;exact⟨⟨Zrt.prod_bd Qk Qk Qk Qk,Zrt.prod_bd Qk Qk Qk Qk⟩,Ylb a3 b3⟩
end Pl
def UT(v1 v2:Value)(a b:RF)(w:World)(h1:Zx w v1 a)(h2:Zx w v2 b)(hs:a.Sm)(hs2:b.Sm):
 Calls prog 85 #[v1,v2] w λe w'=>e= .returned (.int .i64 (qs (a.q - b.q)))/\Below w.heap.size w w':=by
 obtain⟨A,n,c,A',n',c',rfl,hd,ac⟩:=id h1;obtain⟨B,m,d,B',m',d',rfl,ke,ad⟩:=id h2;obtain⟨W,hW,ai,hX,hY,v⟩:=Zoe w (.bool a.num.neg) (.slice A n c) (.bool a.den.neg) (.slice A' n' c') (.bool b.num.neg) (.slice B m d) (.bool b.den.neg) (.slice B' m' d');have e1:=h1.below v;have e2:=h2.below v;obtain⟨p1,p2,p3,p4⟩:=hX.four;obtain⟨r1,r2,r3,r4⟩:=hY.four;clear h1 h2 hd ac ke ad;go_enter func85,ntmps85;go_wp2_with fail;clear hW;refine(UR _ _ a b _ e1 e2).mono ?_;rintro e w1 ⟨x,y,z,u,ok,rfl,hq,r⟩;have HQ:=JZ hq;have J:=hX.later r;have K:=hY.later r;have s:=Za v r v.size;have L:=e1.below r;have M:=e2.below r;clear hq hX hY v e1 e2 r p1 p2 p3 p4 r1 r2 r3 r4;obtain⟨W2,E,bW,bV,bn⟩:=Zoi w1 x y z u;have O:=J.later bn;have P:=K.later bn;have g:=Za s bn s.size;have R:=L.below bn;have S:=M.below bn;clear J K s L M bn
 cases ok
 ·obtain⟨p1,p2,p3,p4⟩:=O.four;clear HQ;go_wp2_with fail;clear E;refine(XB _ a _ R hs).mono ?_;rintro e w3 ⟨v1,v2,N,D,rfl,iN,iD,hD,a1,sN,sD,H⟩;have HD:=JZ hD;have a4:=JZ a1;obtain⟨A3,n3,k3,rfl,_⟩:=iN.shape;obtain⟨A4,n4,k4,rfl,_⟩:=iD.shape;obtain⟨W3,ae,bN,bD,bn⟩:=boxes w3 (.bool N.neg) (.slice A3 n3 k3) (.bool D.neg) (.slice A4 n4 k4);have j:=Za H bn H.size;have T:=P.later j;have t:=Za g j g.size;have U:=S.below j;have V:=iN.below bn;have X:=iD.below bn;clear hD a1 O P g R S H j bn iN iD p1 p2 p3 p4 bW bV hs;obtain⟨r1,r2,r3,r4⟩:=T.four;go_wp2_with fail;clear ae;refine(XB _ b _ U hs2).mono ?_;rintro e w5 ⟨v1,v2,N',D',rfl,jN,jD,a2,a3,ag,ah,I⟩;have a5:=JZ a2;have a6:=JZ a3;obtain⟨A5,n5,k5,rfl,_⟩:=jN.shape;obtain⟨A6,n6,k6,rfl,_⟩:=jD.shape;obtain⟨W5,af,o,p,bn⟩:=boxes w5 (.bool N'.neg) (.slice A5 n5 k5) (.bool D'.neg) (.slice A6 n6 k6);have i:=Za I bn I.size;have k:=bN.later i;have l:=bD.later i;have F:=Za t i t.size;have a7:=V.below i;have a8:=X.below i;have a9:=jN.below bn;have aa:=jD.below bn;clear a2 a3 T t U I i bn jN jD r1 r2 r3 r4 bN bD V X hs2;obtain⟨x0,x1,_,_⟩:=k.two;obtain⟨y0,y1,_,_⟩:=l.two;obtain⟨aj,ak,_,_⟩:=o.two;obtain⟨al,am,_,_⟩:=p.two;have Y:True:=trivial;go_wp2_with fail;clear af
  go_region_held3(λw'=>(w'.cell? ⟨w3.heap.size,0,none⟩=some (.bool N.neg)/\w'.cell? ⟨w3.heap.size,1,none⟩=some (.slice A3 n3 k3))/\(w'.cell? ⟨w3.heap.size+1,0,none⟩=some (.bool D.neg)/\w'.cell? ⟨w3.heap.size+1,1,none⟩=some (.slice A4 n4 k4))/\(w'.cell? ⟨w5.heap.size,0,none⟩=some (.bool N'.neg)/\w'.cell? ⟨w5.heap.size,1,none⟩=some (.slice A5 n5 k5))/\(w'.cell? ⟨w5.heap.size+1,0,none⟩=some (.bool D'.neg)/\w'.cell? ⟨w5.heap.size+1,1,none⟩=some (.slice A6 n6 k6)))
   (first|with_reducible exact⟨k.pair,l.pair,o.pair,p.pair⟩|with_reducible exact⟨k.drew.pair,l.drew.pair,o.drew.pair,p.drew.pair⟩|with_reducible exact⟨(k.drew.later f).pair,(l.drew.later f).pair,(o.drew.later f).pair,(p.drew.later f).pair⟩|with_reducible exact⟨((k.drew.later f).later h).pair,((l.drew.later f).later h).pair,((o.drew.later f).later h).pair,((p.drew.later f).later h).pair⟩|with_reducible exact⟨(((k.drew.later f).later h).later C).pair,(((l.drew.later f).later h).later C).pair,(((o.drew.later f).later h).later C).pair,(((p.drew.later f).later h).later C).pair⟩)
   (first
    |(go_at_call 109;have _t:=Y;refine(XK _ _ N D' _ (a7.keep (ZI.drew _)) (aa.keep (ZI.drew _)) (RI.Sm.two sN ah)).mono ?_;clear Y _t;rintro e w6 ⟨v6,rfl,e6,f⟩)
    |(go_at_call 109;refine(XK _ _ N' D _ ((a9.keep (ZI.drew _)).below f) ((a8.keep (ZI.drew _)).below f) (RI.Sm.two ag sD)).mono ?_;rintro e w7 ⟨v7,rfl,e7,h⟩)
    |(go_at_call 110;refine(UO _ _ (canI (N.z*D'.z)) (canI (N'.z*D.z)) _ (e6.below h) e7).mono ?_;rintro e w8 ⟨rfl,C⟩))
  go_wp2;go_ret;have Z:=Za F.drew f F.size;have a0:=Za Z h Z.size;refine⟨?_,Za a0 C a0.size⟩;rw[<-a4.out,<-a6.out,Ylb HD.out a5.out,ZM,ZM];rfl
 ·obtain⟨⟨⟨b1,b2⟩,⟨b3,b4⟩⟩,G⟩:=Yms (HQ.out rfl).1 (HQ.out rfl).2;have HV:=JZ G;obtain⟨q0,q1,_,_⟩:=bW.two;obtain⟨s0,s1,_,_⟩:=bV.two;clear G HQ;have t1:IntKind.i64.wrap (x*u)=x*u:=by simp only[IntKind.wrap,IntKind.bits,IntKind.signed];simp;omega
  have t2:IntKind.i64.wrap (z*y)=z*y:=by simp only[IntKind.wrap,IntKind.bits,IntKind.signed];simp;omega
  rcases jm (x*u) (z*y)with hlt|heq|hgt
  ·go_wp2;clear E
   go_quiet (fail)
   go_wp2;go_ret;exact⟨by rw[HV.out,UM Qk];rfl,Za g (below_drewN' _ _) g.size⟩
  ·have t3:decide (x*u<z*y)=false:=(by simp;omega);have t4:decide (z*y<x*u)=false:=(by simp;omega);have ab:=JZ heq;clear heq;go_wp2;clear E
   go_quiet (fail)
   go_wp2;go_ret;exact⟨by rw[HV.out,ab.out,Int.sub_self,sgn_zero];rfl,Za g (below_drewN' _ _) g.size⟩
  ·have t3:decide (x*u<z*y)=false:=(by simp;omega);go_wp2;clear E
   go_quiet (fail)
   go_wp2;go_ret;exact⟨by rw[HV.out,Uk Qk];rfl,Za g (below_drewN' _ _) g.size⟩
def Zoj{w:World}{A:Option Addr}{n c k:Nat}{ds:List Nat}(h:ZP w (.slice A n c) ds)(hk:k<=n)(hz:∀i,k<=i->dg ds i=0)(hl:k=0\/dg ds (k - 1)≠0):
 ZP w (.slice A k c) (Zp (val ds)):=by
 obtain⟨h1,h2,h3,h4⟩:=h.len;rw[Znw h.ok Qk hz hl];exact h.take hk Qk (by unfold maxLen;omega)
def Zgj(A:Option Addr)(n c:Nat)(ds:List Nat)(w:World)(h:ZP w (.slice A n c) ds):
 Calls prog 115 #[.slice A n c] w λe w'=>∃k,e= .returned (.slice A k c)/\ZP w (.slice A k c) (Zp (val ds))/\w=w':=by
 obtain⟨hl,f,g,hc⟩:=h.len;go_enter func115,ntmps115;go_wp2
 go_loop [3] (λx=>∃k:Nat,k<=n/\x= .int .i64 k/\∀i,k<=i->dg ds i=0) (λx=>(intOf x).toNat)
 case atStart=>exact⟨n,JY _,rfl,λi hi=>VU Qk⟩
 case round=>
  obtain⟨k,hk,rfl,hz⟩:=hrel;have HZ:=JZ hz;clear hz;rcases JV k with h0|h0
  ·subst h0;go_wp2;go_ret;exact⟨_,rfl,Zoj h hk HZ.out (.inl rfl),rfl⟩
  ·obtain⟨j,rfl⟩:∃j,k=j+1:=⟨k - 1,Qk⟩;obtain⟨b,l,rfl,_,a⟩:=h.at_ Qk;have d:=a j Qk;clear a;by_cases hd:dg ds j=0
   ·have hb:=Zbl hd;have HD:=JZ hd;clear hd;go_wp2
    go_round
    case rel=>exact⟨j,Qk,by go_num,λi hi=>by
     rcases kH hi with e|e
     ·exact e▸HD.out
     ·exact HZ.out i e⟩
    case measure=>simp[intOf]
   ·have hb:=UJ hd;have HD:=JZ hd;clear hd;go_wp2;go_ret;exact⟨_,rfl,Zoj h hk HZ.out (.inr (by simpa using HD.out)),rfl⟩
def YN(v:Value)(ds:List Nat)(w:World)(h:ZP w v ds):
 Calls prog 115 #[v] w λe w'=>∃v',e= .returned v'/\ZP w v' (Zp (val ds))/\w=w':=by
 obtain⟨A,n,c,rfl⟩:=h.shape;exact(Zgj A n c ds w h).mono λ_ _ ⟨_,h1,h2,h3⟩=>⟨_,h1,h2,h3⟩
def Zcn(neg:Bool)(v:Value)(ds:List Nat)(w:World)(h:ZP w v ds)(hs:(Zp (val ds)).length<=549755813888):
 Calls prog 80 #[.bool neg,v] w λe w'=>∃v',e= .returned v'/\Yp w' v' (canI (sm neg (val ds)))/\Below w.heap.size w w':=by
 have hR:=Bk.new w 47 [.bool false,.slice none 0 0];have d:=Ze w (.cells [.bool false,.slice none 0 0].toArray 47);have h':=h.below d;obtain⟨i0,hi,p,q,r⟩:=kL info_u32;have HI:=JZ hi;have t:=JZ p;have u:=JZ q;have x:=JZ r;clear hi p q r;go_enter func80,ntmps80;go_wp2_with fail;generalize w.alloc _=W at *;refine(YN _ ds _ h').mono ?_;rintro e w1 ⟨v1,rfl,h1,rfl⟩;obtain⟨A,n,c,rfl⟩:=h1.shape;obtain⟨kl,s,y,kc⟩:=h1.len;obtain⟨c0,c1,f0,f1⟩:=hR.two;rcases JV n with h0|h0
 ·have hv:val ds=0:=WT Qk;subst h0;have HV:=JZ hv;clear hv kl s hs;go_wp2;refine Zq results80 underlying47 Qm rfl (hR.set2 _ _) rfl ?_;exact⟨_,rfl,by rw[HV.out,Zek];exact Yp.zero _,Yf d (JY _) _ _⟩
 ·have hv:val ds≠0:=UN Qk;have HV:=JZ hv;have HS:=JZ hs;obtain⟨b,z,rfl,B,f⟩:=h1.at_ h0;clear hv f hs c0 c1 f0 f1;have l:(Zp (val ds)).length=n:=Qk
  have i:=JZ l;clear l kl s kc y;go_wp2_with(at_builtin;refine eD _ rfl (.const (.slice none 0 0)) (.tmp 12) _ rfl w.heap.size 71 i0 _ 1 4 underlying45 HI.out t.out u.out x.out rfl Ql (.slice none 0 0) 0 [] rfl ?c0 ⟨b,z,none⟩ n c ((Zp (val ds)).map uc) rfl ?c1 ?c2 (Zai _) ?c3 ?c4 ?c5 ?_)
  case c0=>exact kY _ _ _ _
  case c1=>simp;exact i.out
  case c2=>exact h1.news
  case c3=>have:=HS.out;have:=i.out;unfold maxLen;omega
  case c4=>have:=HS.out;have:=i.out;omega
  case c5=>exact d.size
  ·intro v' w1 g a _ _;have m:=VX (by simpa using g) (Z8 (val ds));have j:=hR.grown a (by simp[Value.ownBlock]);have o:Below w.heap.size w w1:=d.grown a d.size (λk hk=>by simp[Value.ownBlock]at hk);obtain⟨A1,n1,k1,rfl⟩:=m.shape;obtain⟨c0,c1,f0,f1⟩:=j.two;clear g a;go_wp2;refine Zq results80 underlying47 Qm rfl (j.set2 _ _) rfl ?_;rw[Zrs _ _ HV.out];exact YX j ⟨_,rfl,m⟩ o (JY _)
def Uo(neg:Bool)(v:Value)(n:Nat)(w:World)(h:ZP w v (Zp n))(hs:(Zp n).length<=549755813888):
 Calls prog 80 #[.bool neg,v] w λe w'=>∃v',e= .returned v'/\Yp w' v' (canI (sm neg n))/\Below w.heap.size w w':=by
 have:=Zcn neg v (Zp n) w h (by rwa[Zn])
 rwa[Zn]at this
def Zam(v:Value)(a:RI)(w:World)(h:Yp w v a)(hs:(Zp (val a.ds)).length<=549755813888):
 Calls prog 79 #[v] w λe w'=>∃v',e= .returned v'/\Yp w' v' (canI a.z)/\Below w.heap.size w w':=by
 obtain⟨A,n,c,rfl,hd⟩:=h.shape;obtain⟨W,hW,hX,hR,d⟩:=Ysn w (.bool a.neg) (.slice A n c);have g:=hd.below d;obtain⟨x0,x1,y0,y1⟩:=hX.two;go_enter func79,ntmps79;go_wp2_with fail;clear hW;refine(Zcn _ _ a.ds _ g hs).mono ?_;rw[<-RI.z_eq];rintro e w1 ⟨v1,rfl,e1,f⟩;obtain⟨A1,n1,k1,rfl,_⟩:=e1.shape;have b:=hR.later f;obtain⟨c0,c1,f0,f1⟩:=b.two;go_wp2;refine Zq results79 underlying47 Qm rfl (b.set2 _ _) rfl ?_;exact YX b e1 (Za d f d.size) Qk
def Zbo(v:Value)(a:RI)(w:World)(h:Yp w v a)(hs:(Zp (val a.ds)).length<=549755813888):
 Calls prog 76 #[v] w λe w'=>∃v',e= .returned v'/\Yp w' v' (canI (- a.z))/\Below w.heap.size w w':=by
 obtain⟨A,n,c,rfl,hd⟩:=h.shape;obtain⟨W,hW,hX,hR,d⟩:=Ysn w (.bool a.neg) (.slice A n c);have g:=hd.below d;obtain⟨x0,x1,y0,y1⟩:=hX.two;go_enter func76,ntmps76;go_wp2_with fail;clear hW;refine(Zcn _ _ a.ds _ g hs).mono ?_;rw[Yky,<-RI.z_eq];rintro e w1 ⟨v1,rfl,e1,f⟩;obtain⟨A1,n1,k1,rfl,_⟩:=e1.shape;have b:=hR.later f;obtain⟨c0,c1,f0,f1⟩:=b.two;go_wp2;refine Zq results76 underlying47 Qm rfl (b.set2 _ _) rfl ?_;exact YX b e1 (Za d f d.size) Qk
def Wq(v:Value)(ds:List Nat)(k:Nat)(w:World)(h:ZP w v ds)(hk:(k:Int)<=9223372036854775807):
 Calls prog 167 #[v,.int .i64 k] w λe w'=>e= .returned (.int .u64 (di ds k))/\w=w':=by
 obtain⟨A,n,c,rfl⟩:=h.shape;obtain⟨hl,d,f,hc⟩:=h.len;rcases JX k n with hlt|hge
 ·obtain⟨b,g,rfl,i,a⟩:=h.at_ Qk;have hx:=a k hlt;have x0:=Zr ds k;have x1:=Yl h.ok k;clear a;go_enter func167,ntmps167;go_wp2;go_ret;exact⟨rfl,rfl⟩
 ·have hz:di ds k=0:=by rw[Yx,VU Qk];rfl
  have HZ:=JZ hz;clear hz hl d;go_enter func167,ntmps167;go_wp2;go_ret;exact⟨by rw[HZ.out];rfl,rfl⟩
def Zuh(w:World)(z:Int)(h:0<=z)(h2:z<=18446744073709551615):
 ∃ds,ZP (w.alloc (.cells #[.int .u32 (z%4294967296),.int .u32 (z/4294967296)] 71)) (.slice (some ⟨w.heap.size,0,none⟩) 2 2) ds/\val ds=z.toNat:=by
 obtain⟨n,rfl⟩:=JT h;refine⟨[n%B32,n/B32],?_,?_⟩
 ·have:=YU.dig (YU.new w [n%B32,n/B32]) (by simp[okD,B32];omega) (c:=2) (by simp) (by simp[maxLen]);simpa[uc,B32]using this
 ·simp only[val,B32,JP];omega
def VZ(z:Int)(w:World)(h0: -9223372036854775808<=z)(h1:z<=9223372036854775807):
 Calls prog 41 #[.int .i64 z] w λe w'=>∃v',e= .returned v'/\Yp w' v' (canI z)/\Below w.heap.size w w':=by
 have hR:=Bk.new w 47 [.bool false,.slice none 0 0];have f:=Ze w (.cells [.bool false,.slice none 0 0].toArray 47);rcases jR z 0 with hn|hn
 ·have e1:IntKind.u64.wrap z=z+18446744073709551616:=by simp[IntKind.wrap,IntKind.bits,IntKind.signed];omega
  have e2:IntKind.u64.wrap (-(z+18446744073709551616))= -z:=by simp[IntKind.wrap,IntKind.bits,IntKind.signed];omega
  obtain⟨y,hy⟩:∃y,y= -z:=⟨_,rfl⟩;have y0:0<=y:=Qk
  have y1:y<=18446744073709551615:=Qk
  rw[<-hy]at e2;have HY:=JZ hy;clear hy;go_enter func41,ntmps41;obtain⟨ds,g,hv⟩:=Zuh (w.alloc (.cells #[.bool false,.slice none 0 0] 47)) y Qk Qk;rw[size_alloc]at g;have HV:=JZ hv;have b:=Ze (w.alloc (.cells #[.bool false,.slice none 0 0] 47)) (.cells #[.int .u32 (y%4294967296),.int .u32 (y/4294967296)] 71);have i:=hR.later b;have a:=Za f b f.size;clear hv b f hR;go_wp2_with fail;generalize(w.alloc _).alloc _=W at *;refine(Zcn _ _ ds _ g (by rw[HV.out];exact JW (Xd (k:=2) (by unfold B32;omega)) Ql)).mono ?_;rw[HV.out,show sm true (y).toNat=z from by have:=HY.out;simp[sm];omega];rintro e w2 ⟨v2,rfl,d2,h⟩;obtain⟨A,n,c,rfl,_⟩:=d2.shape;have d:=i.later h;obtain⟨c0,c1,f0,f1⟩:=d.two;go_wp2;refine Zq results41 underlying47 Qm rfl (d.set2 _ _) rfl ?_;exact YX d d2 (Za a h a.size) (JY _)
 ·have e1:IntKind.u64.wrap z=z:=u64_in _ hn Qk;go_enter func41,ntmps41;obtain⟨ds,g,hv⟩:=Zuh (w.alloc (.cells #[.bool false,.slice none 0 0] 47)) z Qk Qk;rw[size_alloc]at g;have HV:=JZ hv;have b:=Ze (w.alloc (.cells #[.bool false,.slice none 0 0] 47)) (.cells #[.int .u32 (z%4294967296),.int .u32 (z/4294967296)] 71);have i:=hR.later b;have a:=Za f b f.size;clear hv b f hR;go_wp2_with fail;generalize(w.alloc _).alloc _=W at *;refine(Zcn _ _ ds _ g (by rw[HV.out];exact JW (Xd (k:=2) (by unfold B32;omega)) Ql)).mono ?_;rw[HV.out,show sm (decide (z<0)) (z).toNat=z from by rw[kw Qk];simp[sm];omega];rintro e w2 ⟨v2,rfl,d2,h⟩;obtain⟨A,n,c,rfl,_⟩:=d2.shape;have d:=i.later h;obtain⟨c0,c1,f0,f1⟩:=d.two;go_wp2;refine Zq results41 underlying47 Qm rfl (d.set2 _ _) rfl ?_;exact YX d d2 (Za a h a.size) (JY _)
def YO(v1 v2:Value)(xs ys:List Nat)(w:World)(h1:ZP w v1 xs)(h2:ZP w v2 ys):
 Calls prog 144 #[v1,v2] w λe w'=>e= .returned (.int .i64 (cmpN (val xs) (val ys)))/\Below w.heap.size w w':=by
 go_enter func144,ntmps144;go_wp2_with fail;refine(YN _ xs _ h1).mono ?_;rintro e w1 ⟨u1,rfl,g1,rfl⟩;go_wp2_with fail;refine(YN _ ys _ h2).mono ?_;rintro e w1 ⟨u2,rfl,g2,rfl⟩;clear h1 h2;obtain⟨a,ha⟩:∃a,a=val xs:=⟨_,rfl⟩;obtain⟨b,hb⟩:∃b,b=val ys:=⟨_,rfl⟩;rw[<-ha]at g1;rw[<-hb]at g2;have HA:=JZ ha;have HB:=JZ hb;clear ha hb;obtain⟨A,l,c,rfl⟩:=g1.shape;obtain⟨hl,p,r,hc⟩:=g1.len;obtain⟨A2,l2,c2,rfl⟩:=g2.shape;obtain⟨kl,s,t,kc⟩:=g2.len;rcases kF l l2 with hlt|heq|hgt
 ·have e:cmpN a b= -1:=UL (Zce Qk);have HE:=JZ e;clear e;go_wp2;go_ret;exact⟨by rw[<-HA.out,<-HB.out,HE.out];rfl,JR _ _⟩
 ·subst heq;go_wp2
  go_loopw [5] (λx wr=>∃(z:Int) (q:Nat),-1<=z/\z<l/\x= .int .i64 z/\wr=w.drewN q/\∀i:Nat,z<i->dg (Zp a) i=dg (Zp b) i) (λx _=>(intOf x+1).toNat)
  case atStart=>exact⟨(l:Int) - 1,0,Qk,Qk,rfl,rfl,λi hi=>by rw[VU Qk,VU Qk]⟩
  case round=>
   obtain⟨z,q,h,hk,rfl,rfl,hz⟩:=hrel;have HZ:=JZ hz;clear hz;rcases jR z 0 with h0|h0
   ·go_wp2;go_ret;exact⟨by rw[<-HA.out,<-HB.out,<-Zzs (l:=l) Qk Qk h h0 HZ.out];rfl,below_drewN' _ _⟩
   ·obtain⟨j,rfl⟩:=JT h0;obtain⟨b1,k,rfl,_,d⟩:=g1.at_ Qk;obtain⟨b2,m,rfl,_,f⟩:=g2.at_ Qk;have n:=d j Qk;have o:=f j Qk;clear d f;rcases kF (dg (Zp a) j) (dg (Zp b) j)with g|g|g
    ·have t2:decide (di (Zp a) j<di (Zp b) j)=true:=(by simp[di];omega);have HG:=JZ g;clear g;go_wp2
     go_quiet (fail)
     go_wp2;go_ret;exact⟨by rw[<-HA.out,<-HB.out,Ztw (l:=l) Qk Qk HZ.out HG.out];rfl,by simp only[vN];exact below_drewN' _ _⟩
    ·have t1:decide (di (Zp a) j<di (Zp b) j)=false:=(by simp[di];omega);have t2:decide (di (Zp b) j<di (Zp a) j)=false:=(by simp[di];omega);have HG:=JZ g;clear g;go_wp2
     go_quiet (fail)
     go_wp2
     go_quiet (fail)
     go_wp2;go_roundw
     case rel=>exact⟨(j:Int) - 1,_,Qk,Qk,rfl,rfl,λi hi=>by
      rcases kH (show j<=i by omega)with e|e
      ·exact e▸HG.out
      ·exact HZ.out i Qk⟩
     case measure=>simp[intOf]
    ·have t1:decide (di (Zp a) j<di (Zp b) j)=false:=(by simp[di];omega);have t2:decide (di (Zp b) j<di (Zp a) j)=true:=(by simp[di];omega);have HG:=JZ g;clear g;go_wp2
     go_quiet (fail)
     go_wp2
     go_quiet (fail)
     go_wp2;go_ret;exact⟨by rw[<-HA.out,<-HB.out,Ztx (l:=l) Qk Qk HZ.out HG.out];rfl,by simp only[vN];exact below_drewN' _ _⟩
 ·have e:cmpN a b=1:=Zha (Zce Qk);have HE:=JZ e;clear e;go_wp2;go_ret;exact⟨by rw[<-HA.out,<-HB.out,HE.out];rfl,JR _ _⟩
namespace Pl
def bl(n:Nat):Nat:=if n=0 then 0 else n.log2+1
def bl_zero:bl 0=0:=rfl
def Ygk(n:Nat):n<2^bl n:=by
 unfold bl;split
 ·subst_vars;decide
 ·rename_i h;exact(Nat.log2_lt h).1 (aT _)
def Zxg{n:Nat}(h:n≠0):0<bl n/\2^(bl n - 1)<=n:=by
 unfold bl;rw[jA h];exact⟨Qk,by simpa using(Nat.le_log2 h).1 (JY _)⟩
def Zhi{n k:Nat}(h:n<2^k)(h2:k=0\/2^(k - 1)<=n):bl n=k:=by
 rcases JV n with h0|h0
 ·subst h0;rcases h2 with rfl|h2
  ·rfl
  ·have:=jg (n:=k - 1) (show 0<2 by decide);omega
 ·have h1:n≠0:=Qk
  have hk:k≠0:=by rintro rfl;simp at h;omega
  rcases h2 with h2|h2
  ·exact absurd h2 hk
  ·have a:=(Nat.log2_lt h1).2 h;have b:=(Nat.le_log2 h1).2 h2;unfold bl;rw[jA h1];omega
def Ymt{n:Nat}(h:n≠0):bl n=bl (n/2)+1:=by
 have h1:=Ygk (n/2);have e:2^(bl (n/2)+1)=2*2^bl (n/2):=by rw[jf,jQ]
 apply Zhi
 ·omega
 ·right;rw[BR];rcases JV (n/2)with h0|h0
  ·rw[h0,bl_zero];omega
  ·obtain⟨p,q⟩:=Zxg (n:=n/2) Qk;have e2:2^bl (n/2)=2*2^(bl (n/2) - 1):=by
    rw[show bl (n/2)=(bl (n/2) - 1)+1 by omega,jf,jQ,BR]
   omega
def Zel(k:Nat):B32^k=2^(32*k):=by rw[Nat.pow_mul];rfl
def Ymu{a r k:Nat}(ha:a≠0)(hr:r<2^k):bl (r+a*2^k)=k+bl a:=by
 apply Zhi
 ·rw[iG];have h:(a+1)*2^k<=2^bl a*2^k:=JS _ (Ygk a);rw[kV,vv]at h;rw[jQ (2^k)];omega
 ·right;obtain⟨p,q⟩:=Zxg ha;rw[show k+bl a - 1=(bl a - 1)+k by omega,iG];have:=JS (2^k) q;omega
def Ymv{n l:Nat}(hl:(Zp n).length=l+1):bl n=32*l+bl (dg (Zp n) l):=by
 have hv:n=vt (Zp n) (l+1):=by rw[XU Qk,Zn]
 have h0:dg (Zp n) l≠0:=by
  have hp:0<n:=by
   rcases JV n with h|h
   ·subst h;rw[digs_zero]at hl;simp at hl
   ·exact h
  have:=UK hp
  rwa[hl,BR]at this
 have hr:=Zaw (Z8 n) l;rw[Y4]at hv;rw[Zel]at hv hr;have:=Ymu h0 hr;rw[<-hv]at this;exact this
def Yaw{a b:Nat}(h:a<=b):bl a<=bl b:=by
 rcases JX (bl b) (bl a)with hlt|hge
 ·exfalso;have ha:a≠0:=by rintro rfl;simp[bl]at hlt
  obtain⟨p,q⟩:=Zxg ha;have h1:=Ygk b;have h2:2^bl b<=2^(bl a - 1):=jS Ql Qk;omega
 ·exact hge
def Ylc{n:Nat}:bl n<=32* (Zp n).length:=by
 rcases JX (32* (Zp n).length) (bl n)with h|h
 ·exfalso;have hn:n≠0:=by rintro rfl;simp[bl]at h
  obtain⟨p,q⟩:=Zxg hn;have h1:=Yu n;rw[Zel]at h1;have h2:2^(32* (Zp n).length)<=2^(bl n - 1):=jS Ql Qk;omega
 ·exact h
def Zok{a b:Nat}(h:bl a<bl b):a<b:=by
 rcases JX a b with g|g
 ·exact g
 ·have:=Yaw g;omega
def Ygl{a b:Nat}(h:bl b<=bl a)(hb:b≠0):a<b*2^(bl a - bl b+1):=by
 obtain⟨p,q⟩:=Zxg hb;have h1:=Ygk a;have h2:=JS (2^(bl a - bl b+1)) q;rw[<-iG,show bl b - 1+(bl a - bl b+1)=bl a by omega]at h2;omega
def or_bit{a s:Nat}(h:2^(s+1)∣a):a ||| 2^s=a+2^s:=by
 obtain⟨m,rfl⟩:=h;have:=kU (i:=s+1) (b:=2^s) (by rw[jf];have:=jg (n:=s) (show 0<2 by decide);omega) m;rw[il,jQ m]at this;exact this.symm
def Ymw{Q:List Nat}{i:Nat}(ok:okD Q)(h:2^(i+1)∣val Q):2^(i%32+1)∣dg Q (i/32):=by
 have hs:=Zcf Q (i/32);have hl:=Zaw ok (i/32);have hd:=Zzp ok (i/32);rw[Zel]at hs hl;have hi:i+1=32* (i/32)+(i%32+1):=Qk
 rw[hi,iG]at h;have hB:2^(i%32+1)∣B32:=⟨2^(32 - (i%32+1)),by rw[<-iG,show i%32+1+(32 - (i%32+1))=32 by omega];rfl⟩;generalize val (Q.drop (i/32+1))=H at *;have h0:vt Q (i/32)=0:=by
  have a:2^(32* (i/32))∣val Q:=Bi (Bd _ _) h;have b:2^(32* (i/32))∣vt Q (i/32):=by
   rw[hs]at a;exact(dC (Bd _ _)).1 a
  exact Nat.eq_zero_of_dvd_of_lt b hl
 rw[h0,ji]at hs;rw[hs]at h;have h3:=Nat.dvd_of_mul_dvd_mul_left (jg Ql) h;exact(dC (Bi hB (Bd _ _))).1 h3
def Ymx{Q:List Nat}{i:Nat}(hi:i/32<Q.length):val (Q.set (i/32) (dg Q (i/32)+2^(i%32)))=val Q+2^i:=by
 have h:=Zhb (ds:=Q) (i:=i/32) (z:=((dg Q (i/32)+2^(i%32):Nat):Int)) hi (Int.natCast_nonneg _);rw[JP]at h;have e:2^i=2^(i%32)*B32^(i/32):=by
  rw[Zel,<-iG,show i%32+32* (i/32)=i by omega]
 rw[e];have e2:((dg Q (i/32)+2^(i%32):Nat):Int) - di Q (i/32)=((2^(i%32):Nat):Int):=by unfold di;omega
 rw[e2,<-jF]at h;omega
def Ygm{d s:Nat}(hs:s<32)(hd:d<B32)(h:2^(s+1)∣d):d+2^s<B32:=by
 obtain⟨m,rfl⟩:=h;have hB:B32=2^(s+1)*2^(32 - (s+1)):=by rw[<-iG,show s+1+(32 - (s+1))=32 by omega];rfl
 rw[hB]at hd⊢;have hm:=Nat.lt_of_mul_lt_mul_left hd;have h2:2^(s+1)* (m+1)<=2^(s+1)*2^(32 - (s+1)):=ku _ hm;have h3:2^s<2^(s+1):=vK Ql Qk;rw[iY]at h2;omega
def Ygn{X b Q R j:Nat}(hX:X=Q*b+R)(hR:R<b*2^(j+1))(hle:b*2^j<=R)(hd:2^(j+1)∣Q):X=(Q+2^j)*b+(R - b*2^j)/\R - b*2^j<b*2^j/\2^j∣Q+2^j:=by
 rw[jf,<-kG]at hR;refine⟨?_,Qk,Nat.dvd_add (Bi ⟨2,by rw[jf]⟩ hd) (Nat.dvd_refl _)⟩;rw[kV,jQ (2^j) b];omega
def Ygo{Q j:Nat}(hd:2^(j+1)∣Q):2^j∣Q:=Bi ⟨2,by rw[jf]⟩ hd
def Zuj(b j:Nat):b*2^(j+1)/2=b*2^j:=by rw[jf,<-kG,Nat.mul_div_cancel _ Ql]
def Ymy{X b Q R:Nat}(hX:X=Q*b+R)(hR:R<b):Q=X/b/\R=X%b:=by
 have h:X/b=Q/\X%b=R:=by
  rw[hX,jQ,gZ Qk,ik hR,Nat.mul_add_mod,ig hR];exact⟨rfl,rfl⟩
 exact⟨h.1.symm,h.2.symm⟩
def Yax{S xs:List Nat}{k q s:Nat}{hi lo:Int}(hk:k+q+1<S.length)(h0:dg S (k+q+1)=0)(hlo:0<=lo)(hhi:0<=hi)(e:di xs k*2^s=lo+4294967296*hi)
 (h:(val S:Int)=vt xs k*2^(32*q+s)):
 ((val ((S.set (k+q) (di S (k+q)+lo).toNat).set (k+q+1) hi.toNat):Nat):Int)=vt xs (k+1)*2^(32*q+s):=by
 have hd:=Zr S (k+q);rw[Zhb (by simpa using hk) hhi,Zhb Qk Qk,Yx (S.set _ _),Yk Qk,h0,Z4,YL,h];have e1:((B32^(k+q):Nat):Int)=((B32^k:Nat):Int)*2^(32*q):=by
  rw[iG,Zel q,jF,Int.natCast_pow 2];rfl
 rw[e1,Int.pow_add];generalize((B32^k:Nat):Int)=P at *;generalize(2:Int)^(32*q)=T at *;generalize(2:Int)^s=U at *;generalize(vt xs k:Int)=V at *;generalize di S (k+q)=D at *;generalize di xs k=x at *;simp only[Int.natCast_zero,Int.sub_zero];grind
def Ygp{O xs:List Nat}{k:Nat}(hx:xs.length<=k)(hO:O.length<=k)(h:2* (vt O k:Int)+di xs 0%2=(vt xs k:Int)+(di xs k%2)* ((B32^k:Nat):Int)):val O=val xs/2:=by
 rw[XU hx,XU hO,Yx xs k,VU hx]at h;have e2:di xs 0%2=((dg xs 0%2:Nat):Int):=by rw[vX];rfl
 rw[e2]at h;have:((0:Nat):Int)%2* ((B32^k:Nat):Int)=0:=by simp
 omega
end Pl
def Zhj(v:Value)(ds:List Nat)(w:World)(h:ZP w v ds)(hs:(Zp (val ds)).length<=549755813888):
 Calls prog 147 #[v] w λe w'=>e= .returned (.int .i64 (bl (val ds):Int))/\w=w':=by
 generalize hX:val ds=X at *;have HX:=JZ hX;clear hX;go_enter func147,ntmps147;go_wp2_with fail;refine(YN _ ds _ h).mono ?_;rw[HX.out];rintro e w1 ⟨u1,rfl,g1,rfl⟩;clear h;obtain⟨A,l,c,rfl⟩:=g1.shape;obtain⟨hl,f,q,hc⟩:=g1.len;rcases JV l with h0|h0
 ·have hv:X=0:=WT Qk;subst h0;have HV:=JZ hv;clear hv hl f hs;go_wp2;go_ret;exact⟨by rw[HV.out,bl_zero];rfl,rfl⟩
 ·obtain⟨j,rfl⟩:∃j,l=j+1:=⟨l - 1,Qk⟩;have d:bl X=32*j+bl (dg (Zp X) j):=Ymv Qk;obtain⟨b,r,rfl,_,a⟩:=g1.at_ Qk;have o:=a j Qk;have x0:=Zr (Zp X) j;have x1:=Yl (Z8 X) j;have HB:=JZ d;have p:(j:Int)<=549755813888:=Qk
  clear a d hl f hs;go_wp2
  go_loop [3,4] (λn x=>∃(m:Nat) (y:Nat),n= .int .i64 (m:Int)/\x= .int .u32 (y:Int)/\y<4294967296/\m+bl y=32*j+bl (dg (Zp X) j)/\m<=32*j+32) (λ_ x=>(intOf x).toNat)
  case atStart=>exact⟨32*j,dg (Zp X) j,by go_num,rfl,by unfold di at x1;omega,rfl,Qk⟩
  case round=>
   obtain⟨m,y,rfl,rfl,hy,hm,s⟩:=hrel;have HM:=JZ hm;clear hm;rcases JV y with hy0|hy0
   ·subst hy0;go_wp2;go_ret;exact⟨VW (by have:=HB.out;have:=HM.out;rw[bl_zero]at this;omega),rfl⟩
   ·have hh:=Ymt (n:=y) Qk;have g:=Zxg (n:=dg (Zp X) j);have i:bl (dg (Zp X) j)<=32:=by
     have h1:bl (dg (Zp X) j)<=bl 4294967295:=Yaw (by unfold di at x1;omega);have h2:bl 4294967295=32:=Zhi Ql (.inr Ql);omega
    have k:m+1<=32*j+32:=(by have:=HM.out;omega);have HH:=JZ hh;clear hh g i;go_wp2
    go_round
    case rel=>exact⟨m+1,y/2,by go_num,by go_num,Qk,by have:=HM.out;have:=HH.out;omega,k⟩
    case measure=>exact Qn
def Ygq{z y:Int}{s:Nat}(hs:s<=31)(z0:0<=z)(z1:z<2^s)(y0:0<=y)(y1:y<=4294967295):bits .or .u32 z (y*2^s%4294967296)=z+y*2^s%4294967296/\z+y*2^s%4294967296<=4294967295:=by
 obtain⟨a,rfl⟩:=JT z0;obtain⟨b,rfl⟩:=JT y0;have hB:2^s*2^(32 - s)=4294967296:=by rw[<-iG,show s+(32 - s)=32 from Qk]
 have d:=jg (n:=s) (show 0<2 by decide);have f:2^s<=2^31:=jS Ql hs;rw[Yo]at *;have e:((b:Int)* ((2^s:Nat):Int))%4294967296=(((b%2^(32 - s))*2^s:Nat):Int):=by
  have:(b*2^s)%4294967296=(b%2^(32 - s))*2^s:=by rw[<-hB,jQ (2^s),Nat.mul_mod_mul_right]
  rw[<-this];omega
 rw[e];have c:=iC b (jg (n:=32 - s) (show 0<2 by decide));generalize b%2^(32 - s)=m at *;have hm:(m+1)*2^s<=4294967296:=by
  rw[<-hB,jQ (2^s)];exact JS _ c
 rw[kV,vv]at hm;refine⟨?_,Qk⟩;rw[u32_or_nat _ _ Qk Qk,Nat.or_comm,<-il,<-kU Qk,il];omega
def Zxh(v:Value)(ds:List Nat)(q s:Nat)(w:World)(h:ZP w v ds)(hs:s<=31)(hl0:ds.length+q<=549755813888):
 Calls prog 148 #[v,.int .i64 ((32*q+s:Nat):Int)] w λe w'=>∃k l,e= .returned (.slice (some ⟨w.heap.size,0,none⟩) k l)/\ZP w' (.slice (some ⟨w.heap.size,0,none⟩) k l) (Zp (val ds*2^(32*q+s)))/\Below w.heap.size w w':=by
 obtain⟨A,l,c,rfl⟩:=h.shape;obtain⟨hl,C,Y,hc⟩:=h.len;have r:=Vl hs;have G:(1:Int)<=2^s:=Wz s;have f:=YV (l+q+1) Qk
 push_cast at f
 have HX:Hid (ds.length<=l):=JZ Qk;have H:(q:Int)<=549755813888:=Qk
 have I:(l:Int)+q<=549755813888:=Qk
 have t:=h.ok;generalize hN:((32*q+s:Nat):Int)=N;have J:0<=N:=Qk
 have K:N<=17592186044447:=Qk
 have L:N/32=(q:Int):=Qk
 have M:N%32=(s:Int):=Qk
 clear hl C hl0 hN;go_enter func148,ntmps148;go_wp2;clear f
 go_loopw [6] (λi wr=>∃(k:Nat) (O:List Nat),k<=l/\i= .int .i64 k/\l+q+1<=O.length/\O.length<=l+q+1/\YU wr w.heap.size O/\okD O/\Below w.heap.size w wr/\
  (val O:Int)=vt ds k*2^(32*q+s)/\di O (k+q)<2^s/\∀j,k+q<j->dg O j=0) (λi _=>l - (intOf i).toNat)
 case atStart=>exact⟨0,List.replicate (l+q+1) 0,Qk,rfl,by simp,by simp,YU.zeros w _,ZJ _,(JR _ _).alloc (JY _) _,by simp[Y3,XY],by rw[Yx,VG];simp;omega,λj _=>VG _ _⟩
 case round=>
  obtain⟨k,O,hk,rfl,hO,m,hB,ok,d,n,o,hz⟩:=hrel;have HE:=JZ n;have HZ:=JZ hz;clear n hz;rcases JX k l with hkl|hkl
  ·obtain⟨b1,F,rfl,D,b⟩:=h.at_ Qk;have hx:=XZ d D b hkl;have x0:=Zr ds k;have x1:=Yl t k;have z0:=Zr O (k+q);obtain⟨p,E⟩:=Ygq hs z0 o x0 x1;have ho:=hB.cell (k:=k+q) Qk;have hf:=hB.frozen (k+q);have m0:0<=di ds k*2^s%4294967296:=kv _ Ql;have a:=hB.setI (k+q) (z:=di O (k+q)+di ds k*2^s%4294967296) Qk;have u:=a.cell (k:=k+q+1) (by simp;omega);have x:=a.frozen (k+q+1);have P:(k:Int)+q< (l:Int)+q+1:=Qk;have R:(k:Int)+q+1< (l:Int)+q+1:=Qk;have S:((k:Int)+q).toNat=k+q:=Qk;have U:((k:Int)+q+1).toNat=k+q+1:=Qk;have p0:0<=di ds k*2^s:=jY x0 Qk;have p1:di ds k*2^s<=4294967295*2147483648:=kK x1 r Qk Qk;have y:di ds k*2^s/4294967296<2^s:=by
    have:di ds k*2^s<4294967296*2^s:=Int.mul_lt_mul_of_pos_right Qk Qk;exact Int.ediv_lt_of_lt_mul Ql (by rw[kR (2^s)];exact this)
   have g:∀T:Int,T=di ds k*2^s->((val ((O.set (k+q) (di O (k+q)+T%4294967296).toNat).set (k+q+1) (T/4294967296).toNat):Nat):Int)=vt ds (k+1)*2^(32*q+s):=by
    rintro T rfl;exact Yax Qk (HZ.out _ Qk) m0 Qk Qk HE.out
   obtain⟨T,hT⟩:∃T,T=di ds k*2^s:=⟨_,rfl⟩;have B:=JZ (g T hT);rw[<-hT]at p E m0 a u x p0 p1 y;have V:=hT.symm;clear hT g;have X:bits .or .u32 (di O (k+q)) (T%4294967296)=di O (k+q)+T%4294967296:=p;go_wp2;go_roundw
   case rel=>exact⟨k+1,(O.set (k+q) (di O (k+q)+T%4294967296).toNat).set (k+q+1) (T/4294967296).toNat,Qk,by go_num,by simpa using hO,by simpa using m,a.setI _ Qk,ZK (ZK ok _ (by unfold B32;omega)) _ (by unfold B32;omega),(d.setCell (JY _) _).setCell (JY _) _,B.out,by rw[show k+1+q=k+q+1 by omega,Yx,UI (by simp;omega)];omega,λj hj=>by rw[Yk Qk,Yk Qk];exact HZ.out j Qk⟩
   case measure=>exact Qn
  ·obtain rfl:k=l:=Qk
   go_wp2_with fail;refine(Zgj _ _ _ O _ ?_).mono ?_
   ·have:=hB.dig ok (c:=k+q+1) m (by unfold maxLen;omega)
    rwa[show O.length=k+q+1 from Qk]at this
   rintro e w1 ⟨k',rfl,hv,rfl⟩;go_wp2_with fail;go_ret;refine⟨_,_,rfl,?_,d⟩;have:=HE.out;rw[XU HX.out,Yo,<-jF]at this
   rwa[Int.natCast_inj.1 this]at hv
def cell_far{w:World}{b o g:Nat}{v:Value}(hne:b≠g)(h:w.cell? ⟨b,o,none⟩=some v)(k:Nat)(u:Value):(w.setCell ⟨g,k,none⟩ u).drew.cell? ⟨b,o,none⟩=some v:=
 (World.cell?_setCell_other w ⟨g,k,none⟩ ⟨b,o,none⟩ u (λe=>hne (by injection e with e1;exact e1.symm))).trans h
def Ymz{x y:Int}(x0:0<=x)(x1:x<=4294967295)(y0:0<=y)(y1:y<=4294967295):bits .or .u32 (x/2) (y*2147483648%4294967296)=x/2+2147483648* (y%2):=by
 have e:y*2147483648%4294967296=((2147483648* (y.toNat%2):Nat):Int):=Qk
 have e1:x/2=((x.toNat/2:Nat):Int):=Qk
 rw[e,e1,u32_or_nat _ _ Qk Qk];have h:2147483648* (y.toNat%2)|||(x.toNat/2)=2147483648* (y.toNat%2)+x.toNat/2:=by
  have:=kU (i:=31) (b:=x.toNat/2) Qk (y.toNat%2);rw[il,show(2:Nat)^31=2147483648 from rfl,jQ]at this;exact this.symm
 rw[Nat.or_comm,h];omega
def Zol(v:Value)(ds:List Nat)(w:World)(h:ZP w v ds)(hl0:ds.length<=549755813888):
 Calls prog 149 #[v] w λe w'=>∃k l,e= .returned (.slice (some ⟨w.heap.size,0,none⟩) k l)/\ZP w' (.slice (some ⟨w.heap.size,0,none⟩) k l) (Zp (val ds/2))/\Below w.heap.size w w':=by
 obtain⟨A,l,c,rfl⟩:=h.shape;obtain⟨hl,p,t,hc⟩:=h.len;have m:=YV l Qk;have HX:Hid (ds.length<=l):=JZ Qk;have r:(l:Int)<=549755813888:=Qk
 have g:=h.ok;clear hl p hl0;go_enter func149,ntmps149;go_wp2;clear m
 go_loopw [4] (λi wr=>∃(k:Nat) (O:List Nat),k<=l/\i= .int .i64 k/\l<=O.length/\O.length<=l/\YU wr w.heap.size O/\okD O/\Below w.heap.size w wr/\
  2* (vt O k:Int)+di ds 0%2=(vt ds k:Int)+(di ds k%2)* ((B32^k:Nat):Int)) (λi _=>l - (intOf i).toNat)
 case atStart=>exact⟨0,List.replicate l 0,Qk,rfl,by simp,by simp,YU.zeros w _,ZJ _,(JR _ _).alloc (JY _) _,by simp[Y3]⟩
 case round=>
  obtain⟨k,O,hk,rfl,hO,f,hB,ok,b,j⟩:=hrel;have HE:=JZ j;clear j;rcases JX k l with hkl|hkl
  ·obtain⟨b1,d,rfl,q,a⟩:=h.at_ Qk;have hx:=XZ b q a hkl;have x0:=Zr ds k;have x1:=Yl g k;have y0:=Zr ds (k+1);have y1:=Yl g (k+1);have ho:=hB.cell (k:=k) Qk;have hf:=hB.frozen k;clear a;have s:=Ymz x0 x1 y0 y1;have g1:IntKind.i64.wrap ((k:Int)+1)=((k+1:Nat):Int):=(by simp only[IntKind.wrap,IntKind.bits,IntKind.signed];simp;omega);have g2:IntKind.u64.wrap (di ds (k+1)*2147483648)=di ds (k+1)*2147483648:=u64_in _ Qk Qk;have g3:IntKind.u32.wrap (di ds (k+1)*2147483648)=di ds (k+1)*2147483648%4294967296:=(by simp only[IntKind.wrap,IntKind.bits,IntKind.signed];simp);have hd:=Wq (.slice (some ⟨b1,d,none⟩) l c) ds (k+1) wr.drew ((h.below b).keep (ZI.drew _)) Qk;have n:Hid (2* (vt (O.set k (di ds k/2+2147483648* (di ds (k+1)%2)).toNat) (k+1):Int)+di ds 0%2=(vt ds (k+1):Int)+(di ds (k+1)%2)* ((B32^(k+1):Nat):Int)):=JZ (Zlo Qk Qk Qk HE.out);go_wp2;have o:b1≠w.heap.size:=Qk
   go_region_held3(λw'=>w'.cell? ⟨b1,d+k,none⟩=some (.int .u32 (di ds k)))
    (first|exact hx|exact cell_far o hx _ _)
    ((go_at_call 167;refine hd.mono ?_;rintro e w1 ⟨rfl,rfl⟩))
   go_wp2;go_roundw
   case rel=>exact⟨k+1,O.set k (di ds k/2+2147483648* (di ds (k+1)%2)).toNat,Qk,by go_num,by simpa using hO,by simpa using f,hB.setI k Qk,ZK ok _ (by unfold B32;omega),(b.setCell (JY _) _).drew,n.out⟩
   case measure=>exact Qn
  ·obtain rfl:k=l:=Qk
   go_wp2_with fail;refine(Zgj _ _ _ O _ ?_).mono ?_
   ·have:=hB.dig ok (c:=k) f (by unfold maxLen;omega)
    rwa[show O.length=k from Qk]at this
   rintro e w1 ⟨k',rfl,hv,rfl⟩;go_wp2_with fail;go_ret;refine⟨_,_,rfl,?_,b⟩
   rwa[Ygp HX.out f HE.out]at hv
def canI_neg(z:Int):(canI z).neg=decide (z<0):=rfl
namespace Pl
def Yqj{x y:Int}(hx:x<0)(hy:y<0):cmpN y.natAbs x.natAbs=sgn (x - y):=by unfold cmpN sgn;split <;> split <;> (try split) <;> (try split) <;> omega
def Yqk{x y:Int}(hx:¬x<0)(hy:¬y<0):cmpN x.natAbs y.natAbs=sgn (x - y):=by unfold cmpN sgn;split <;> split <;> (try split) <;> (try split) <;> omega
end Pl
def Yql(x y:Int)(w:World)(wx:World)(A A':Option Addr)(n c n' c':Nat):Prop:=
 Bk wx w.heap.size 47 [.bool (decide (x<0)),.slice A n c]/\Bk wx (w.heap.size+1) 47 [.bool (decide (y<0)),.slice A' n' c']/\ZP wx (.slice A n c) (Zp x.natAbs)/\ZP wx (.slice A' n' c') (Zp y.natAbs)/\Below w.heap.size w wx
def Yp.dig{w:World}{b:Bool}{A:Option Addr}{n c:Nat}{a:RI}(h:Yp w (.agg #[.bool b,.slice A n c]) a):ZP w (.slice A n c) a.ds/\b=a.neg:=by
 obtain⟨s,e,d⟩:=h;simp at e;obtain⟨rfl,rfl⟩:=e;exact⟨d,rfl⟩
def Yna(w:World)(x y x' y':Value):∃W,(w.alloc (.cells #[x,y] 47)).alloc (.cells #[x',y'] 47)=W/\Bk W w.heap.size 47 [x,y]/\Bk W (w.heap.size+1) 47 [x',y']/\Below w.heap.size w W:=boxes w x y x' y'
def Zom(v1 v2:Value)(a b:RI)(w:World)(h1:Yp w v1 a)(h2:Yp w v2 b)(hs:(Zp (val a.ds)).length<=549755813888)(hs2:(Zp (val b.ds)).length<=549755813888):
 Calls prog 113 #[v1,v2] w λe w'=>e= .returned (.int .i64 (sgn (a.z - b.z)))/\Below w.heap.size w w':=by
 obtain⟨A,n,c,rfl,hd⟩:=h1.shape;obtain⟨A',n',c',rfl,l⟩:=h2.shape;obtain⟨W,hW,hX,hY,g⟩:=Yna w (.bool a.neg) (.slice A n c) (.bool b.neg) (.slice A' n' c');have i1:=h1.below g;have i2:=h2.below g;have k:w.heap.size≠w.heap.size+1:=Qk
 have j:True:=trivial;obtain⟨x0,x1,f0,f1⟩:=hX.two;obtain⟨y0,y1,k0,k1⟩:=hY.two;go_enter func113,ntmps113;go_wp2_with fail;clear hW
 go_upto_region 1 with(fail)
 go_cut [] (λwx=>∃(A A':Option Addr) (n c n' c':Nat),Yql a.z b.z w wx A A' n c n' c')
 case first=>
  go_region_with (first
   |(go_at_call 79;have _t:=j;refine(Zam _ a _ (i1.keep (ZI.drew _)) hs).mono ?_;clear j _t;rintro e w6 ⟨v6,rfl,e6,f⟩;obtain⟨A6,n6,k6,rfl,_⟩:=e6.shape;obtain⟨o,p,_,_⟩:=(hY.drew.later f).two)
   |(go_at_call 79;refine(Zam _ b _ ((i2.keep (ZI.drew _)).below f) hs2).mono ?_;rintro e w7 ⟨v7,rfl,e7,h⟩;obtain⟨A7,n7,k7,rfl,_⟩:=e7.shape;obtain⟨c0,c1,r0,r1⟩:=((hX.drew.later f).later h).two;obtain⟨q,r,s,t⟩:=((hY.drew.later f).later h).two))
  all_goals
   go_wp2_with fail
   go_meet
   obtain⟨a1,a2,a3,a4,a5⟩:=Xg ((hX.drew.later f).later h) ((hY.drew.later f).later h) k (e6.below h) e7 (Za (Za g.drew f g.size) h (JW g.size f.size)) Qk Qk;exact⟨A6,A7,n6,k6,n7,k7,a1,a2,a3.dig.1,a4.dig.1,a5⟩
 case rest=>
  obtain⟨B,B',m,d,m',d',bX,bY,dX,dY,be⟩:=hcut;clear x0 x1 f0 f1 y0 y1 k0 k1 hX hY g i1 i2 h1 h2 hd l;obtain⟨x0,x1,_,_⟩:=bX.two;obtain⟨y0,y1,_,_⟩:=bY.two;by_cases hx:a.z<0
  ·by_cases hy:b.z<0
   ·have HC:=JZ (Yqj hx hy);rw[kE hx]at x0;rw[kE hy]at y0;clear hx hy;go_wp2_with fail;refine(YO _ _ _ _ _ dY dX).mono ?_;rw[Zn,Zn,HC.out];rintro e w3 ⟨rfl,i⟩;go_wp2;go_ret;exact⟨rfl,Za be i be.size⟩
   ·have HC:Hid (sgn (a.z - b.z)= -1):=JZ (UM Qk);rw[kE hx]at x0;rw[kw hy]at y0;clear hx hy;go_wp2;go_ret;exact⟨by rw[HC.out];rfl,be⟩
  ·by_cases hy:b.z<0
   ·have HC:Hid (sgn (a.z - b.z)=1):=JZ (Uk Qk);rw[kw hx]at x0;rw[kE hy]at y0;clear hx hy;go_wp2;go_ret;exact⟨by rw[HC.out];rfl,be⟩
   ·have HC:=JZ (Yqk hx hy);rw[kw hx]at x0;rw[kw hy]at y0;clear hx hy;go_wp2_with fail;refine(YO _ _ _ _ _ dX dY).mono ?_;rw[Zn,Zn,HC.out];rintro e w3 ⟨rfl,i⟩;go_wp2;go_ret;exact⟨rfl,Za be i be.size⟩
def Zcq(v:Value)(a:RI)(w:World)(h:Yp w v a)(hs:(Zp (val a.ds)).length<=549755813888):
 Calls prog 72 #[v] w λe w'=>e= .returned (.int .i64 (sgn a.z))/\Below w.heap.size w w':=by
 obtain⟨A,n,c,rfl,hd⟩:=h.shape;have hX:=Bk.new w 47 [.bool a.neg,.slice A n c];have b:=Ze w (.cells [.bool a.neg,.slice A n c].toArray 47);have h':=h.below b;obtain⟨x0,x1,_,_⟩:=hX.two;go_enter func72,ntmps72;go_wp2_with fail;generalize w.alloc _=W at *;refine(Zom _ _ a (canI 0) _ h' (Yp.zero _) hs (by rw[YM,Int.natAbs_zero,digs_zero];decide)).mono ?_;rw[ZM,Int.sub_zero];rintro e w1 ⟨rfl,d⟩;go_wp2;go_ret;exact⟨rfl,Za b d b.size⟩
def Zul{w w':World}{base:Nat}{v:Value}{n:Nat}{xs:List Value}(h:w.ownsRow base 71 1 v n xs)(hk:ZI w w'):w'.ownsRow base 71 1 v n xs:=by
 refine⟨h.1,?_⟩;rcases h.2 with hn|⟨g,cap,cur,rfl,hb,hgg,rest⟩
 ·exact .inl hn
 ·exact .inr ⟨g,cap,cur,rfl,hb,hk g _ _ hgg,rest⟩
def Zum{w:World}{base base':Nat}{v:Value}{n:Nat}{xs:List Value}(h:w.ownsRow base 71 1 v n xs)(hb:base'<=base):w.ownsRow base' 71 1 v n xs:=by
 refine⟨h.1,?_⟩;rcases h.2 with hn|⟨g,cap,cur,rfl,hb',rest⟩
 ·exact .inl hn
 ·exact .inr ⟨g,cap,cur,rfl,JW hb hb',rest⟩
def Zjk(base:Nat)(w:World)(v:Value)(a:RI):Prop:=∃s,v= .agg #[.bool a.neg,s]/\w.ownsRow base 71 1 s a.ds.length (a.ds.map uc)/\okD a.ds
def Zjk.int{base:Nat}{w:World}{v:Value}{a:RI}(h:Zjk base w v a):Yp w v a:=by
 obtain⟨s,h1,h2,h3⟩:=h;exact⟨s,h1,VX h2 h3⟩
def Zjk.keep{base:Nat}{w w':World}{v:Value}{a:RI}(h:Zjk base w v a)(hk:ZI w w'):Zjk base w' v a:=by
 obtain⟨s,h1,h2,h3⟩:=h;exact⟨s,h1,Zul h2 hk,h3⟩
def Zjk.below{base:Nat}{w w':World}{v:Value}{a:RI}(h:Zjk base w v a)(hb:Below w.heap.size w w'):Zjk base w' v a:=h.keep (ZI.of_below hb)
def Zjk.mono{base base':Nat}{w:World}{v:Value}{a:RI}(h:Zjk base w v a)(hb:base'<=base):Zjk base' w v a:=by
 obtain⟨s,h1,h2,h3⟩:=h;exact⟨s,h1,Zum h2 hb,h3⟩
def Zjk.zero(base:Nat)(w:World):Zjk base w (.agg #[.bool false,.slice none 0 0]) (canI 0):=by
 rw[canI_zero];exact⟨_,rfl,kY _ _ _ _,okD_nil⟩
def Zjk.shape{base:Nat}{w:World}{v:Value}{a:RI}(h:Zjk base w v a):∃A n c,v= .agg #[.bool a.neg,.slice A n c]:=by
 obtain⟨A,n,c,hv,_⟩:=h.int.shape;exact⟨A,n,c,hv⟩
def Zun{w w2:World}{base m g:Nat}{x y b s:Value}{a:RI}(hR:Bk w2 g 47 [x,y])(d:Zjk base w2 (.agg #[b,s]) a)(hbe:Below m w w2)(hg:m<=g):
 ∃v',Ending.returned (.agg [b,s].toArray)= .returned v'/\Zjk base ((w2.setCell ⟨g,0,none⟩ b).setCell ⟨g,1,none⟩ s) v' a/\Below m w ((w2.setCell ⟨g,0,none⟩ b).setCell ⟨g,1,none⟩ s):=
 ⟨_,rfl,d.keep (hR.keep2 Ql _ _),Yf hbe hg _ _⟩
def Ygv(neg:Bool)(v:Value)(ds:List Nat)(w:World)(h:ZP w v ds)(hs:(Zp (val ds)).length<=549755813888):
 Calls prog 80 #[.bool neg,v] w λe w'=>∃v',e= .returned v'/\Zjk w.heap.size w' v' (canI (sm neg (val ds)))/\Below w.heap.size w w':=by
 have hR:=Bk.new w 47 [.bool false,.slice none 0 0];have d:=Ze w (.cells [.bool false,.slice none 0 0].toArray 47);have h':=h.below d;obtain⟨i0,hi,p,q,r⟩:=kL info_u32;have HI:=JZ hi;have t:=JZ p;have u:=JZ q;have x:=JZ r;clear hi p q r;go_enter func80,ntmps80;go_wp2_with fail;generalize w.alloc _=W at *;refine(YN _ ds _ h').mono ?_;rintro e w1 ⟨v1,rfl,h1,rfl⟩;obtain⟨A,n,c,rfl⟩:=h1.shape;obtain⟨kl,s,z,kc⟩:=h1.len;obtain⟨c0,c1,f0,f1⟩:=hR.two;rcases JV n with h0|h0
 ·have hv:val ds=0:=WT Qk;subst h0;have HV:=JZ hv;clear hv kl s hs;go_wp2;refine Zq results80 underlying47 Qm rfl (hR.set2 _ _) rfl ?_;exact⟨_,rfl,by rw[HV.out,Zek];exact Zjk.zero _ _,Yf d (JY _) _ _⟩
 ·have hv:val ds≠0:=UN Qk;have HV:=JZ hv;have HS:=JZ hs;obtain⟨b,B,rfl,C,i⟩:=h1.at_ h0;clear hv i hs c0 c1 f0 f1;have m:(Zp (val ds)).length=n:=Qk
  have g:=JZ m;clear m kl s kc z;go_wp2_with(at_builtin;refine eD _ rfl (.const (.slice none 0 0)) (.tmp 12) _ rfl w.heap.size 71 i0 _ 1 4 underlying45 HI.out t.out u.out x.out rfl Ql (.slice none 0 0) 0 [] rfl ?c0 ⟨b,B,none⟩ n c ((Zp (val ds)).map uc) rfl ?c1 ?c2 (Zai _) ?c3 ?c4 ?c5 ?_)
  case c0=>exact kY _ _ _ _
  case c1=>simp;exact g.out
  case c2=>exact h1.news
  case c3=>have:=HS.out;have:=g.out;unfold maxLen;omega
  case c4=>have:=HS.out;have:=g.out;omega
  case c5=>exact d.size
  ·intro v' w1 j a _ _;have f:w1.ownsRow w.heap.size 71 1 v' (Zp (val ds)).length ((Zp (val ds)).map uc):=(by have:=g.out;simpa[this]using j);have y:=VX f (Z8 (val ds));have l:=hR.grown a (by simp[Value.ownBlock]);have o:Below w.heap.size w w1:=d.grown a d.size (λk hk=>by simp[Value.ownBlock]at hk);obtain⟨A1,n1,k1,rfl⟩:=y.shape;obtain⟨c0,c1,f0,f1⟩:=l.two;clear j a;go_wp2;refine Zq results80 underlying47 Qm rfl (l.set2 _ _) rfl ?_;rw[Zrs _ _ HV.out];exact Zun l ⟨_,rfl,f,Z8 _⟩ o (JY _)
def Zkc(v:Value)(a:RI)(w:World)(h:Yp w v a)(hs:(Zp (val a.ds)).length<=549755813888):
 Calls prog 79 #[v] w λe w'=>∃v',e= .returned v'/\Zjk w.heap.size w' v' (canI a.z)/\Below w.heap.size w w':=by
 obtain⟨A,n,c,rfl,hd⟩:=h.shape;obtain⟨W,hW,hX,hR,b⟩:=Ysn w (.bool a.neg) (.slice A n c);have g:=hd.below b;obtain⟨x0,x1,y0,y1⟩:=hX.two;go_enter func79,ntmps79;go_wp2_with fail;clear hW;refine(Ygv _ _ a.ds _ g hs).mono ?_;rw[<-RI.z_eq];rintro e w1 ⟨v1,rfl,e1,f⟩;obtain⟨A1,n1,k1,rfl⟩:=e1.shape;have d:=hR.later f;obtain⟨c0,c1,f0,f1⟩:=d.two;go_wp2;refine Zq results79 underlying47 Qm rfl (d.set2 _ _) rfl ?_;exact Zun d (e1.mono b.size) (Za b f b.size) Qk
namespace Pl
def RI.z_flip(n:Bool)(ds:List Nat):(RI.mk (!n) ds).z= -(RI.mk n ds).z:=by cases n <;> simp[RI.z,sm]
def Yny{n d m k:Int}{p q:Rat}(h:okq n d p)(g:okq m k q):(-9223372036854775807<=n*k - m*d/\n*k - m*d<=9223372036854775807)/\(0<d*k/\d*k<=9223372036854775807)/\((-4611686018427387904<=n*k/\n*k<=4611686018427387904)/\(-4611686018427387904<=m*d/\m*d<=4611686018427387904))/\Rat.divInt (n*k - m*d) (d*k)=p - q:=by
 have g':okq (-m) k (-q):=by
  obtain⟨⟨b1,b2⟩,b3,b4,rfl⟩:=g;exact⟨⟨Qk,Qk⟩,b3,b4,by rw[BS]⟩
 obtain⟨⟨a1,a2⟩,a3,⟨a4,a5,a6⟩,a7⟩:=Yav h g';rw[aC]at a1 a2 a5 a6 a7;refine⟨⟨Qk,Qk⟩,a3,⟨a4,Qk,Qk⟩,?_⟩;rw[fP,a7];grind
def Zvq{x y:Int}{k:Nat}(h1:(Zp x.natAbs).length<=k)(h2:(Zp y.natAbs).length<=k):(Zp (x - y).natAbs).length<=k+1:=by
 rw[fP];exact Zcm h1 (by rw[gN];exact h2)
def RI.Sm.sub{a b:RI}(h1:a.Sm)(h2:b.Sm):(Zp (val (canI (a.z - b.z)).ds)).length<=549755813888:=by
 unfold RI.Sm at h1 h2;rw[YM];rw[<-ZT]at h1 h2;exact JW (Zvq h1 h2) Qk
def RI.Sm.subs{a b c d:RI}(h1:a.Sm)(h2:b.Sm)(h3:c.Sm)(h4:d.Sm):(Zp (val (canI ((canI (a.z*b.z)).z - (canI (c.z*d.z)).z)).ds)).length<=549755813888:=by
 have e1:=RI.Sm.mul h1 h2;have e2:=RI.Sm.mul h3 h4;rw[YM]at e1 e2⊢;rw[ZM,ZM];exact JW (Zvq e1 e2) Qk
def Yit{n m d:Int}(h:d≠0):Rat.divInt n d - Rat.divInt m d=Rat.divInt (n - m) d:=by
 rw[fQ,BS,Zug h,fP]
def Ynz{n d m k:Int}(hd:d≠0)(hk:k≠0):Rat.divInt n d - Rat.divInt m k=Rat.divInt (n*k - m*d) (d*k):=by
 rw[fQ,BS,gX _ _ hd hk,aC,fP]
end Pl
def Zvr(v1 v2:Value)(a b:RI)(w:World)(h1:Yp w v1 a)(h2:Yp w v2 b)(hs:(Zp (val a.ds)).length<=549755813888)(hs2:(Zp (val b.ds)).length<=549755813888):
 Calls prog 111 #[v1,v2] w λe w'=>∃v',e= .returned v'/\Yp w' v' (canI (a.z - b.z))/\Below w.heap.size w w':=by
 obtain⟨A,n,c,rfl,hd⟩:=h1.shape;obtain⟨A',n',c',rfl,m⟩:=h2.shape;obtain⟨g,ds⟩:=a;obtain⟨d,i⟩:=b;simp only at hd hs m hs2⊢;obtain⟨W,hW,hX,j,hR,h⟩:=Ykx w (.bool g) (.slice A n c) (.bool d) (.slice A' n' c');have o:=hd.below h;have k:=m.below h;have l:True:=trivial;go_enter func111,ntmps111;go_wp2_with fail;clear hW
 go_region_held3(λw'=>(w'.cell? ⟨w.heap.size,0,none⟩=some (.bool g)/\w'.cell? ⟨w.heap.size,1,none⟩=some (.slice A n c))/\(w'.cell? ⟨w.heap.size+1,0,none⟩=some (.bool d)/\w'.cell? ⟨w.heap.size+1,1,none⟩=some (.slice A' n' c')))
  (first|exact⟨hX.pair,j.pair⟩|exact⟨(hX.drew.later f).pair,(j.drew.later f).pair⟩|exact⟨(hX.drew.later f).two_far Qk _ _,(j.drew.later f).two_far Qk _ _⟩)
  (first
   |(go_at_call 134;have _t:=l;refine(Z7 _ ds _ (o.keep (ZI.drew _))).mono ?_;clear l _t;rintro e w1 ⟨v1,rfl,e1,rfl⟩)
   |(go_at_call 134;refine(Z7 _ i _ (k.keep (ZI.drew _))).mono ?_;rintro e w1 ⟨v2,rfl,e2,rfl⟩)
   |(go_at_call 143;refine(Zck g (!d) _ _ _ _ _ e1 e2 hs hs2).mono ?_;rintro e w3 ⟨v3,rfl,h3,f⟩;obtain⟨A3,n3,k3,rfl,_⟩:=h3.shape;obtain⟨c0,c1,f0,f1⟩:=(hR.drew.later f).two))
 go_wp2;refine Zq results111 underlying47 Qm rfl ((hR.drew.later f).set2 _ _) rfl ?_;rw[show canI (RI.z ⟨g,ds⟩ - RI.z ⟨d,i⟩)=canI (RI.z ⟨g,ds⟩+RI.z ⟨!d,i⟩) by rw[RI.z_flip];rfl];exact YX (hR.drew.later f) h3 (Za h.drew f h.size) Qk
def VN(v1 v2:Value)(a b:RF)(w:World)(h1:Zx w v1 a)(h2:Zx w v2 b)(hs:a.Sm)(hs2:b.Sm):
 Calls prog 66 #[v1,v2] w λe w'=>∃v',e= .returned v'/\Zx w' v' (canF (a.q - b.q))/\Below w.heap.size w w':=by
 obtain⟨A,n,c,A',n',c',rfl,hd,bp⟩:=id h1;obtain⟨B,m,d,B',m',d',rfl,ke,bq⟩:=id h2;obtain⟨W,hW,hX,hY,hR,U⟩:=Zru w (.bool a.num.neg) (.slice A n c) (.bool a.den.neg) (.slice A' n' c') (.bool b.num.neg) (.slice B m d) (.bool b.den.neg) (.slice B' m' d');have e1:=h1.below U;have e2:=h2.below U;obtain⟨p1,p2,p3,p4⟩:=hX.four;obtain⟨r1,r2,r3,r4⟩:=hY.four;clear h1 h2 hd bp ke bq;go_enter func66,ntmps66;go_wp2_with fail;clear hW;refine(UR _ _ a b _ e1 e2).mono ?_;rintro e w1 ⟨x,y,z,u,ok,rfl,hq,J⟩;have HQ:=JZ hq;have ad:=hX.later J;have ae:=hY.later J;have af:=hR.later J;have O:=Za U J U.size;have P:=e1.below J;have ag:=e2.below J;clear hq hX hY hR U e1 e2 J p1 p2 p3 p4 r1 r2 r3 r4;obtain⟨W2,bd,bW,bV,bn⟩:=Zoi w1 x y z u;have ah:=ad.later bn;have ai:=ae.later bn;have a8:=af.later bn;have F:=Za O bn O.size;have aj:=P.below bn;have ak:=ag.below bn;clear ad ae af O P ag bn
 cases ok
 ·obtain⟨p1,p2,p3,p4⟩:=ah.four;clear HQ;go_wp2_with fail;clear bd;refine(XB _ a _ aj hs).mono ?_;rintro e w3 ⟨v1,v2,N,D,rfl,iN,iD,hD,bi,sN,sD,M⟩;have HD:=JZ hD;have al:=JZ bi;obtain⟨A3,n3,k3,rfl,_⟩:=iN.shape;obtain⟨A4,n4,k4,rfl,_⟩:=iD.shape;obtain⟨W3,br,bN,bD,bn⟩:=boxes w3 (.bool N.neg) (.slice A3 n3 k3) (.bool D.neg) (.slice A4 n4 k4);have G:=Za M bn M.size;have am:=ai.later G;have I:=a8.later G;have R:=Za F G F.size;have an:=ak.below G;have ao:=iN.below bn;have ap:=iD.below bn;clear hD bi ah ai a8 F aj ak M G bn iN iD p1 p2 p3 p4 bW bV hs;obtain⟨r1,r2,r3,r4⟩:=am.four;go_wp2_with fail;clear br;refine(XB _ b _ an hs2).mono ?_;rintro e w5 ⟨v1,v2,N',D',rfl,jN,jD,bj,bk,V,X,ac⟩;have aq:=JZ bj;have ar:=JZ bk;obtain⟨A5,n5,k5,rfl,_⟩:=jN.shape;obtain⟨A6,n6,k6,rfl,_⟩:=jD.shape;obtain⟨W5,bs,a3,a4,bn⟩:=boxes w5 (.bool N'.neg) (.slice A5 n5 k5) (.bool D'.neg) (.slice A6 n6 k6);have v:=Za ac bn ac.size;have Z:=bN.later v;have a0:=bD.later v;have L:=I.later v;have S:=Za R v R.size;have au:=ao.below v;have a9:=ap.below v;have av:=jN.below bn;have aa:=jD.below bn;clear bj bk am I R an ac v bn jN jD r1 r2 r3 r4 bN bD ao ap hs2;obtain⟨x0,x1,_,_⟩:=Z.two;obtain⟨y0,y1,_,_⟩:=a0.two;obtain⟨be,bf,_,_⟩:=a3.two;obtain⟨bg,bh,_,_⟩:=a4.two;have aw:w3.heap.size≠w.heap.size+1+1:=(Z.ne_of L Ql);have ax:w3.heap.size+1≠w.heap.size+1+1:=(a0.ne_of L Ql);have ay:w5.heap.size≠w.heap.size+1+1:=(a3.ne_of L Ql);have az:w5.heap.size+1≠w.heap.size+1+1:=(a4.ne_of L Ql);go_wp2_with fail;clear bs;refine(UO _ _ D D' _ a9 aa).mono ?_;rintro e w6 ⟨rfl,E⟩;have s:=Z.later E;have t:=a0.later E;have o:=a3.later E;have p:=a4.later E;have H:=L.later E;have K:=Za S E S.size;have b0:=au.below E;have ab:=a9.below E;have b9:=av.below E;have ba:=aa.below E;clear Z a0 a3 a4 L S au a9 av aa E x0 x1 y0 y1 be bf bg bh;have a5:True:=trivial;have a6:True:=trivial;obtain⟨x0,x1,_,_⟩:=s.two;obtain⟨y0,y1,_,_⟩:=t.two;obtain⟨be,bf,_,_⟩:=o.two;obtain⟨bg,bh,_,_⟩:=p.two;by_cases Y:D.z=D'.z
  ·have a1:sgn (D.z - D'.z)=0:=(by rw[Y];simp[sgn]);rw[a1];have bl:=JZ Y;clear a1 Y;go_wp2_with fail
   go_region_held3(λw'=>(w'.cell? ⟨w3.heap.size,0,none⟩=some (.bool N.neg)/\w'.cell? ⟨w3.heap.size,1,none⟩=some (.slice A3 n3 k3))/\(w'.cell? ⟨w3.heap.size+1,0,none⟩=some (.bool D.neg)/\w'.cell? ⟨w3.heap.size+1,1,none⟩=some (.slice A4 n4 k4))/\(w'.cell? ⟨w5.heap.size,0,none⟩=some (.bool N'.neg)/\w'.cell? ⟨w5.heap.size,1,none⟩=some (.slice A5 n5 k5))/\(w'.cell? ⟨w5.heap.size+1,0,none⟩=some (.bool D'.neg)/\w'.cell? ⟨w5.heap.size+1,1,none⟩=some (.slice A6 n6 k6)))
    (first|with_reducible exact⟨s.pair,t.pair,o.pair,p.pair⟩|with_reducible exact⟨s.drew.pair,t.drew.pair,o.drew.pair,p.drew.pair⟩|with_reducible exact⟨(s.drew.later g).pair,(t.drew.later g).pair,(o.drew.later g).pair,(p.drew.later g).pair⟩|with_reducible exact⟨((s.drew.later g).later i).pair,((t.drew.later g).later i).pair,((o.drew.later g).later i).pair,((p.drew.later g).later i).pair⟩|with_reducible exact⟨(((s.drew.later g).later i).far4 aw _ _ _ _).pair,(((t.drew.later g).later i).far4 ax _ _ _ _).pair,(((o.drew.later g).later i).far4 ay _ _ _ _).pair,(((p.drew.later g).later i).far4 az _ _ _ _).pair⟩)
    (first
     |(go_at_call 111;refine(Zvr _ _ N N' _ (b0.keep (ZI.drew _)) (b9.keep (ZI.drew _)) (JW sN Ql) (JW V Ql)).mono ?_;rintro e w7 ⟨v7,rfl,e7,g⟩)
     |(go_at_call 108;refine(Wp _ _ (canI (N.z - N'.z)) D _ e7 ((ab.keep (ZI.drew _)).below g) (RI.Sm.sub sN V) (JW sD Ql) (bM HD.out)).mono ?_;rw[ZM,<-Yit (bM HD.out),al.out,bl.out,ar.out];rintro e w8 ⟨v8,rfl,e8,i⟩;obtain⟨C,l,f,C',l',f',rfl,_,_⟩:=id e8;obtain⟨c0,c1,c2,c3⟩:=((H.drew.later g).later i).four;obtain⟨f0,f1,f2,f3⟩:=((H.drew.later g).later i).fourF))
   go_wp2;refine Zq results66 underlying49 Qm rfl (((H.drew.later g).later i).set4 _ _ _ _) rfl ?_;have T:=Za K.drew g K.size;have a2:=Za T i T.size;exact YA ((H.drew.later g).later i) e8 a2 Qk
  ·have a1:(sgn (D.z - D'.z)==0)=false:=by
    have:sgn (D.z - D'.z)≠0:=λh=>Y (by have:=Un.1 h;omega)
    simpa using this
   have bm:=Zoh (D.z - D'.z);generalize sgn (D.z - D'.z)=sg at *;clear Y;go_wp2_with fail;clear a1 bm
   go_region_held3(λw'=>(w'.cell? ⟨w3.heap.size,0,none⟩=some (.bool N.neg)/\w'.cell? ⟨w3.heap.size,1,none⟩=some (.slice A3 n3 k3))/\(w'.cell? ⟨w3.heap.size+1,0,none⟩=some (.bool D.neg)/\w'.cell? ⟨w3.heap.size+1,1,none⟩=some (.slice A4 n4 k4))/\(w'.cell? ⟨w5.heap.size,0,none⟩=some (.bool N'.neg)/\w'.cell? ⟨w5.heap.size,1,none⟩=some (.slice A5 n5 k5))/\(w'.cell? ⟨w5.heap.size+1,0,none⟩=some (.bool D'.neg)/\w'.cell? ⟨w5.heap.size+1,1,none⟩=some (.slice A6 n6 k6)))
    (first|with_reducible exact⟨s.pair,t.pair,o.pair,p.pair⟩|with_reducible exact⟨s.drew.pair,t.drew.pair,o.drew.pair,p.drew.pair⟩|with_reducible exact⟨(s.drew.later g).pair,(t.drew.later g).pair,(o.drew.later g).pair,(p.drew.later g).pair⟩|with_reducible exact⟨((s.drew.later g).later i).pair,((t.drew.later g).later i).pair,((o.drew.later g).later i).pair,((p.drew.later g).later i).pair⟩|with_reducible exact⟨(((s.drew.later g).later i).later k).pair,(((t.drew.later g).later i).later k).pair,(((o.drew.later g).later i).later k).pair,(((p.drew.later g).later i).later k).pair⟩|with_reducible exact⟨((((s.drew.later g).later i).later k).later j).pair,((((t.drew.later g).later i).later k).later j).pair,((((o.drew.later g).later i).later k).later j).pair,((((p.drew.later g).later i).later k).later j).pair⟩|with_reducible exact⟨(((((s.drew.later g).later i).later k).later j).later r).pair,(((((t.drew.later g).later i).later k).later j).later r).pair,(((((o.drew.later g).later i).later k).later j).later r).pair,(((((p.drew.later g).later i).later k).later j).later r).pair⟩|with_reducible exact⟨((((((s.drew.later g).later i).later k).later j).later r).far4 aw _ _ _ _).pair,((((((t.drew.later g).later i).later k).later j).later r).far4 ax _ _ _ _).pair,((((((o.drew.later g).later i).later k).later j).later r).far4 ay _ _ _ _).pair,((((((p.drew.later g).later i).later k).later j).later r).far4 az _ _ _ _).pair⟩)
    (first
     |(go_at_call 109;have _t:=a5;refine(XK _ _ N D' _ (b0.keep (ZI.drew _)) (ba.keep (ZI.drew _)) (RI.Sm.two sN X)).mono ?_;clear a5 _t;rintro e w7 ⟨v7,rfl,e7,g⟩)
     |(go_at_call 109;have _t:=a6;refine(XK _ _ N' D _ ((b9.keep (ZI.drew _)).below g) ((ab.keep (ZI.drew _)).below g) (RI.Sm.two V sD)).mono ?_;clear a6 _t;rintro e w8 ⟨v8,rfl,e8,i⟩)
     |(go_at_call 111;refine(Zvr _ _ (canI (N.z*D'.z)) (canI (N'.z*D.z)) _ (e7.below i) e8 (JW (RI.Sm.mul sN X) Ql) (JW (RI.Sm.mul V sD) Ql)).mono ?_;rintro e w9 ⟨v9,rfl,e9,k⟩)
     |(go_at_call 109;refine(XK _ _ D D' _ ((((ab.keep (ZI.drew _)).below g).below i).below k) ((((ba.keep (ZI.drew _)).below g).below i).below k) (RI.Sm.two sD X)).mono ?_;rintro e bu ⟨bv,rfl,bt,j⟩)
     |(go_at_call 108;refine(Wp _ _ (canI ((canI (N.z*D'.z)).z - (canI (N'.z*D.z)).z)) (canI (D.z*D'.z)) _ (e9.below j) bt (RI.Sm.subs sN X V sD) (JW (RI.Sm.mul sD X) Ql) (pos_ne HD.out aq.out)).mono ?_;rw[ZM,ZM,ZM,ZM,<-Ynz (bM HD.out) (bM aq.out),al.out,ar.out];rintro e bw ⟨bx,rfl,P,r⟩;obtain⟨C,l,f,C',l',f',rfl,_,_⟩:=id P;obtain⟨c0,c1,c2,c3⟩:=(((((H.drew.later g).later i).later k).later j).later r).four;obtain⟨f0,f1,f2,f3⟩:=(((((H.drew.later g).later i).later k).later j).later r).fourF))
   go_wp2;refine Zq results66 underlying49 Qm rfl ((((((H.drew.later g).later i).later k).later j).later r).set4 _ _ _ _) rfl ?_;have T:=Za K.drew g K.size;have a2:=Za T i T.size;have bb:=Za a2 k a2.size;have bc:=Za bb j bb.size;have bo:=Za bc r bc.size;exact YA (((((H.drew.later g).later i).later k).later j).later r) P bo Qk
 ·obtain⟨⟨b1,b2⟩,⟨b3,b4⟩,⟨⟨b5,b6⟩,⟨b7,b8⟩⟩,a7⟩:=Yny (HQ.out rfl).1 (HQ.out rfl).2;have HV:=JZ a7;obtain⟨q0,q1,_,_⟩:=bW.two;obtain⟨s0,s1,_,_⟩:=bV.two;clear a7 HQ;have t1:IntKind.i64.wrap (x*u - z*y)=x*u - z*y:=by simp only[IntKind.wrap,IntKind.bits,IntKind.signed];simp;omega
  have t2:IntKind.i64.wrap (y*u)=y*u:=by simp only[IntKind.wrap,IntKind.bits,IntKind.signed];simp;omega
  have t3:IntKind.i64.wrap (x*u)=x*u:=by simp only[IntKind.wrap,IntKind.bits,IntKind.signed];simp;omega
  have t4:IntKind.i64.wrap (z*y)=z*y:=by simp only[IntKind.wrap,IntKind.bits,IntKind.signed];simp;omega
  go_wp2_with fail;clear bd;refine(Xo (x*u - z*y) (y*u) _ b1 b2 b3 b4).mono ?_;rw[HV.out];rintro e w3 ⟨v3,rfl,e3,M⟩;have I:=a8.later M;obtain⟨C,l,f,C',l',f',rfl,_,_⟩:=id e3;obtain⟨c0,c1,c2,c3⟩:=I.four;obtain⟨f0,f1,f2,f3⟩:=I.fourF;go_wp2;refine Zq results66 underlying49 Qm rfl (I.set4 _ _ _ _) rfl ?_;exact YA I e3 (Za F M F.size) Qk
end Go.Proofs.YtobadipflggkiaaGreat
