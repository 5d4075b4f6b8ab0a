/- Lemmas of the claim; no condition. -/
import Derived.Test.YtobadipflggkiaaGreatW8
set_option linter.all false
set_option maxRecDepth 100000
set_option maxHeartbeats 40000000
namespace Go.Proofs.YtobadipflggkiaaGreat
open Go.RowKit
open Pl Tryz
attribute [local go_sem ↓] Go.wp_at_zero Go.wp_at_succ
def info_rowT:(prog.info? 34).map (λi=>(i.zero,i.size,i.bytes))=some (some (.slice none 0 0),1,24):=Qm
namespace Pl
def Yiu{q:Rat}:qs q=0↔q=0:=by
 unfold qs;rw[Un];exact BC
def Ydi{n d m k:Int}(hk:k≠0):Rat.divInt (n*k) (d*m)=Rat.divInt n d/Rat.divInt m k:=by
 rw[vE,Rat.inv_divInt,gW]
def Yoa{n d m k:Int}{p q:Rat}(h:okq n d p)(g:okq m k q)(hq:q≠0):(-4611686018427387904<=n*k/\n*k<=4611686018427387904)/\(-4611686018427387904<=d*m/\d*m<=4611686018427387904)/\((0<m/\0<d*m)\/(m<0/\d*m<0))/\Rat.divInt (n*k) (d*m)=p/q/\Rat.divInt (-(n*k)) (-(d*m))=p/q:=by
 obtain⟨⟨a1,a2⟩,a3,a4,rfl⟩:=h;obtain⟨⟨b1,b2⟩,b3,b4,rfl⟩:=g;have hm:m≠0:=λe=>hq (by rw[e,bH])
 have e1:Rat.divInt (n*k) (d*m)=Rat.divInt n d/Rat.divInt m k:=Ydi Qk;refine⟨prod_bd1 Qk Qk Qk Qk,prod_bd1 Qk Qk Qk Qk,?_,e1,?_⟩
 ·rcases jR m 0 with c|c
  ·right;exact⟨c,fD a3 c⟩
  ·left;exact⟨Qk,aD a3 Qk⟩
 ·rw[<-e1,dM]
 where
  prod_bd1 {x y:Int} (h1: -2147483648<=x) (h2:x<=2147483648) (h3: -2147483648<=y) (h4:y<=2147483648): -4611686018427387904<=x*y/\x*y<=4611686018427387904:=by
   have e:(x*y).natAbs<=2147483648*2147483648:=(by rw[kD];exact gL Qk Qk);omega
end Pl
def Zsr{w w2:World}{m g:Nat}{x y z u b s b' s' er:Value}{a:RF}(hR:Bk w2 g 49 [x,y,z,u])(d:Zx w2 (.agg #[b,s,b',s']) a)(hbe:Below m w w2)(hg:m<=g):
 ∃v',Ending.returned (.tuple #[.agg [b,s,b',s'].toArray,er])= .returned (.tuple #[v',er])/\Zx ((((w2.setCell ⟨g,0,none⟩ b).setCell ⟨g,1,none⟩ s).setCell ⟨g,2,none⟩ b').setCell ⟨g,3,none⟩ s') v' a/\Below m w ((((w2.setCell ⟨g,0,none⟩ b).setCell ⟨g,1,none⟩ s).setCell ⟨g,2,none⟩ b').setCell ⟨g,3,none⟩ s'):=
 ⟨_,rfl,d.keep (hR.keep4 Ql _ _ _ _),ZE hbe hg _ _ _ _⟩
def XN(v1 v2:Value)(a b:RF)(w:World)(h1:Zx w v1 a)(h2:Zx w v2 b)(hs:a.Sm)(hs2:b.Sm)(hb0:b.q≠0):
 Calls prog 65 #[v1,v2] w λe w'=>∃v',e= .returned (.tuple #[v',.int .i64 0])/\Zx w' v' (canF (a.q/b.q))/\Below w.heap.size w w':=by
 obtain⟨A,n,c,A',n',c',rfl,hd,aw⟩:=id h1;obtain⟨B,m,d,B',m',d',rfl,ke,ax⟩:=id h2;obtain⟨W,hW,hX,hY,hR,p⟩:=Zru w (.bool a.num.neg) (.slice A n c) (.bool a.den.neg) (.slice A' n' c') (.bool b.num.neg) (.slice B m d) (.bool b.den.neg) (.slice B' m' d');have e1:=h1.below p;have e2:=h2.below p;obtain⟨p1,p2,p3,p4⟩:=hX.four;obtain⟨r1,r2,r3,r4⟩:=hY.four;have S:=JZ hb0;have aj:(qs b.q==0)=false:=by simpa using λe=>hb0 (Yiu.1 e)
 clear h1 h2 hd aw ke ax hb0;go_enter func65,ntmps65;go_wp2_with fail;clear hW;refine(Zy _ b _ e2).mono ?_;rintro e w0 ⟨rfl,hb0⟩;replace hX:=hX.later hb0;replace hY:=hY.later hb0;replace hR:=hR.later hb0;replace p:=Za p hb0 p.size;replace e1:=e1.below hb0;replace e2:=e2.below hb0;clear p1 p2 p3 p4 r1 r2 r3 r4 hb0;obtain⟨p1,p2,p3,p4⟩:=hX.four;obtain⟨r1,r2,r3,r4⟩:=hY.four;go_wp2_with fail;refine(UR _ _ a b _ e1 e2).mono ?_;rintro e w1 ⟨x,y,z,u,ok,rfl,hq,t⟩;have HQ:=JZ hq;have T:=hX.later t;have U:=hY.later t;have V:=hR.later t;have E:=Za p t p.size;have X:=e1.below t;have Y:=e2.below t;clear hq hX hY hR p e1 e2 t p1 p2 p3 p4 r1 r2 r3 r4 aj;obtain⟨W2,M,bW,bV,bn⟩:=Zoi w1 x y z u;have Z:=T.later bn;have a0:=U.later bn;have r:=V.later bn;have h:=Za E bn E.size;have a1:=X.below bn;have a2:=Y.below bn;clear T U V E X Y bn
 cases ok
 ·obtain⟨p1,p2,p3,p4⟩:=Z.four;clear HQ;go_wp2_with fail;clear M;refine(XB _ a _ a1 hs).mono ?_;rintro e w3 ⟨v1,v2,N,D,rfl,iN,iD,hD,ad,sN,sD,k⟩;have HD:=JZ hD;have ak:=JZ ad;obtain⟨A3,n3,k3,rfl,_⟩:=iN.shape;obtain⟨A4,n4,k4,rfl,_⟩:=iD.shape;obtain⟨W3,ay,bN,bD,bn⟩:=boxes w3 (.bool N.neg) (.slice A3 n3 k3) (.bool D.neg) (.slice A4 n4 k4);have s:=Za k bn k.size;have a3:=a0.later s;have i:=r.later s;have F:=Za h s h.size;have a4:=a2.below s;have a5:=iN.below bn;have a6:=iD.below bn;clear hD ad Z a0 r h a1 a2 k s bn iN iD p1 p2 p3 p4 bW bV hs;obtain⟨r1,r2,r3,r4⟩:=a3.four;go_wp2_with fail;clear ay;refine(XB _ b _ a4 hs2).mono ?_;rintro e w5 ⟨v1,v2,N',D',rfl,jN,jD,ae,af,ag,ah,R⟩;have al:=JZ ae;have a7:=JZ af;obtain⟨A5,n5,k5,rfl,_⟩:=jN.shape;obtain⟨A6,n6,k6,rfl,_⟩:=jD.shape;obtain⟨W5,az,b0,b5,bn⟩:=boxes w5 (.bool N'.neg) (.slice A5 n5 k5) (.bool D'.neg) (.slice A6 n6 k6);have j:=Za R bn R.size;have am:=bN.later j;have an:=bD.later j;have ao:=i.later j;have J:=Za F j F.size;have ap:=a5.below j;have aq:=a6.below j;have ar:=jN.below bn;have au:=jD.below bn;clear ae af a3 i F a4 R j bn jN jD r1 r2 r3 r4 bN bD a5 a6 hs2;obtain⟨x0,x1,_,_⟩:=am.two;obtain⟨y0,y1,_,_⟩:=an.two;obtain⟨a9,aa,_,_⟩:=b0.two;obtain⟨ab,ac,_,_⟩:=b5.two;have av:Hid ((canI (D.z*N'.z)).z≠0):=JZ (by
   rw[ZM];intro e;rcases Int.mul_eq_zero.1 e with g|g
   ·have:=HD.out;omega
   ·exact S.out (by rw[<-a7.out,g,bH]))
  go_upto_region 11 with(fail)
  clear az;have C0:=Zm x0;have C1:=Zm x1;have C2:=Zm y0;have C3:=Zm y1;have D0:=Zm a9;have D1:=Zm aa;have D2:=Zm ab;have D3:=Zm ac;have H:Below W5.heap.size W5 W5.drew:=(JR _ _).drew;clear x0 x1 y0 y1 a9 aa ab ac;refine Zj 7 [0,1,3,4,2,5,6,7,8] Qm Qm ?_;refine Qb ?_
  refine Qo λ_ kq=>?_;with_reducible refine(XK _ _ N D' _ (ap.below H) (au.below H) (RI.Sm.two sN ah)).mono ?_
  rintro _ w6 ⟨v6,rfl,e6,b6⟩;have G:=Za H b6 H.size;refine kq.out _ _ (.inr G) (Qc ?_);clear kq
  refine Qo λ_ kq=>?_;with_reducible refine(XK _ _ D N' _ (aq.below G) (ar.below G) (RI.Sm.two sD ag)).mono ?_
  rintro _ w7 ⟨v7,rfl,e7,ai⟩;have K:=Za G ai G.size;refine kq.out _ _ (.inr K) (Qc ?_);clear kq
  refine Qo λ_ kq=>?_;with_reducible refine(Wp _ _ (canI (N.z*D'.z)) (canI (D.z*N'.z)) _ (e6.below ai) e7 (JW (RI.Sm.mul sN ah) Ql) (JW (RI.Sm.mul sD ag) Ql) av.out).mono ?_
  rw[ZM,ZM,Ydi (bM al.out),ak.out,a7.out];rintro _ w8 ⟨v8,rfl,e8,b7⟩;have L:=Za K b7 K.size;obtain⟨C,l,f,C',l',f',rfl,_,_⟩:=id e8;have I:=ao.later L;obtain⟨c0,c1,c2,c3⟩:=I.four;obtain⟨f0,f1,f2,f3⟩:=I.fourF;refine kq.out _ _ (.inr L) (Qj ?_);clear kq;refine Qh ?_;refine Qh ?_;refine Zl ?_;clear C0 C1 C2 C3 D0 D1 D2 D3;have a8:=Za J L J.size;go_wp2;refine Xb results65 underlying49 Qm rfl (I.set4 _ _ _ _) rfl ?_;exact Zsr I e8 a8 Qk
 ·obtain⟨⟨b1,b2⟩,⟨b3,b4⟩,hz,O,P⟩:=Yoa (HQ.out rfl).1 (HQ.out rfl).2 S.out;obtain⟨q0,q1,_,_⟩:=bW.two;obtain⟨s0,s1,_,_⟩:=bV.two;clear HQ;rcases hz with⟨hz,hz2⟩|⟨hz,hz2⟩
  ·have HV:=JZ O;clear O P;have t1:IntKind.i64.wrap (x*u)=x*u:=(by simp only[IntKind.wrap,IntKind.bits,IntKind.signed];simp;omega);have t2:IntKind.i64.wrap (y*z)=y*z:=by simp only[IntKind.wrap,IntKind.bits,IntKind.signed];simp;omega
   go_upto_region 5 with(fail)
   clear M;have C0:=Zm q0;have C1:=Zm q1;have D0:=Zm s0;have D1:=Zm s1;clear q0 q1 s0 s1;refine Zj 12 [0,1,2,3,4,5,6,7,8,9,10,11] Qm Qm ?_;refine Qb ?_
   refine Zl ?_;clear C0 C1 D0 D1;replace r:=r.drew;replace h:=h.drew;generalize W2.drew=W3 at *;go_wp2_with fail;refine(Xo (x*u) (y*z) _ Qk Qk Qk Qk).mono ?_;rw[HV.out];rintro e w3 ⟨v3,rfl,e3,k⟩;have i:=r.later k;obtain⟨C,l,f,C',l',f',rfl,_,_⟩:=id e3;obtain⟨c0,c1,c2,c3⟩:=i.four;obtain⟨f0,f1,f2,f3⟩:=i.fourF;go_wp2;refine Xb results65 underlying49 Qm rfl (i.set4 _ _ _ _) rfl ?_;exact Zsr i e3 (Za h k h.size) Qk
  ·have HV:=JZ P;clear O P;have t1:IntKind.i64.wrap (x*u)=x*u:=(by simp only[IntKind.wrap,IntKind.bits,IntKind.signed];simp;omega);have t2:IntKind.i64.wrap (y*z)=y*z:=(by simp only[IntKind.wrap,IntKind.bits,IntKind.signed];simp;omega);have t3:IntKind.i64.wrap (-(x*u))= -(x*u):=(by simp only[IntKind.wrap,IntKind.bits,IntKind.signed];simp;omega);have t4:IntKind.i64.wrap (-(y*z))= -(y*z):=by simp only[IntKind.wrap,IntKind.bits,IntKind.signed];simp;omega
   go_upto_region 5 with(fail)
   clear M;have C0:=Zm q0;have C1:=Zm q1;have D0:=Zm s0;have D1:=Zm s1;clear q0 q1 s0 s1;refine Zj 12 [0,1,2,3,4,5,6,7,8,9,10,11] Qm Qm ?_;refine Qb ?_
   refine Zl ?_;clear C0 C1 D0 D1;replace r:=r.drew;replace h:=h.drew;generalize W2.drew=W3 at *;go_wp2_with fail;refine(Xo (-(x*u)) (-(y*z)) _ Qk Qk Qk Qk).mono ?_;rw[HV.out];rintro e w3 ⟨v3,rfl,e3,k⟩;have i:=r.later k;obtain⟨C,l,f,C',l',f',rfl,_,_⟩:=id e3;obtain⟨c0,c1,c2,c3⟩:=i.four;obtain⟨f0,f1,f2,f3⟩:=i.fourF;go_wp2;refine Xb results65 underlying49 Qm rfl (i.set4 _ _ _ _) rfl ?_;exact Zsr i e3 (Za h k h.size) Qk
def Ym.at_{base:Nat}{w:World}{g n c:Nat}{cols:List (List En)}(h:Ym base w (.slice (some ⟨g,0,none⟩) n c) cols){k:Nat}{es:List En}(he:cols[k]? =some es):
 ∃u,w.cell? ⟨g,k,none⟩=some u/\w.frozen? ⟨g,k,none⟩=false/\Ur w u es:=by
 obtain⟨cs,h1,h2⟩:=h;have hn:n=cols.length:=(VC.of_own h1).len;subst hn;obtain⟨u,c0,hm⟩:=h2 k es he;exact⟨u,(ZN h1 c0).1,(ZN h1 c0).2,hm⟩
def Ym.set_{base:Nat}{w:World}{g n c:Nat}{cols:List (List En)}(h:Ym base w (.slice (some ⟨g,0,none⟩) n c) cols){k:Nat}(hk:k<cols.length){u:Value}{es:List En}(hu:Ur w u es):
 Ym base (w.setCell ⟨g,k,none⟩ u) (.slice (some ⟨g,0,none⟩) n c) (cols.set k es)/\Zf 88 w (w.setCell ⟨g,k,none⟩ u):=by
 obtain⟨cs,h1,h2⟩:=h;have hn:n=cols.length:=(VC.of_own h1).len;subst hn;have hl:cs.length=cols.length*1:=h1.1;have o1:=Xh h1 k u Qk;obtain⟨_,b0,_⟩:=Z0 h1;have kp:=Zf.setCell b0 k u;refine⟨⟨cs.set k u,by rw[jd];exact o1,λj d hd=>?_⟩,kp⟩;rw[iV]at hd;by_cases c:k=j
 ·subst c;rw[jB rfl,jB hk]at hd;injection hd with hd;subst hd;exact⟨u,jM Qk,hu.but kp Ql Ql⟩
 ·rw[jA c]at hd;obtain⟨u',hc,hm⟩:=h2 j d hd;exact⟨u',by rw[jE c];exact hc,hm.but kp Ql Ql⟩
def zvc(n:Nat):Array Value:=madeCells (Value.cells (.slice none 0 0)) (n*1)
def Ylr{n k:Nat}(hk:k<n):(zvc n)[k]? =some (.slice none 0 0):=by
 have a:k<n*1:=Qk
 unfold zvc madeCells;simp[hk,Value.cells,Nat.mod_one]
def Ym.zeros(w:World)(n:Nat)(hn:n<=maxLen):Ym w.heap.size (w.alloc (.cells (zvc n) 88)) (.slice (some ⟨w.heap.size,0,none⟩) n n) (List.replicate n []):=by
 have a:(zvc n).size=n*1:=eF _ _;refine⟨(zvc n).toList,⟨by simp[a],.inr ⟨w.heap.size,n,zvc n,by simp,JY _,vo w _,by simp,hn,a,?_⟩⟩,λk f hf=>?_⟩
 ·rw[kC (by simp[a])]
 ·rw[kT]at hf;split at hf
  ·rename_i hk
   injection hf with hf;subst hf;exact⟨_,by have:=Ylr hk;simpa using this,(VK.nil 0 _).vec⟩
  ·cases hf
def Zit(n:Nat)(hn:n<=1099511627776)(w:World):
 (Instr.makeSlice 35 (.int .i64 (n:Int)) (.int .i64 (n:Int))).run prog w= .ok (.slice (some ⟨w.heap.size,0,none⟩) n n) (w.alloc (.cells (zvc n) 88)):=by
 obtain⟨i0,hi,a,b,c⟩:=kL info_vector;have hb:(i0.bytes:Int)* (n:Int)<=281474976710656:=by rw[c];omega
 have hr:=BN (P:=prog) w 35 88 i0 _ underlying35 hi a .i64 .i64 n n Qk Qk hb Qk;simp only[JP,b]at hr;exact hr
namespace Pl
def Zpx(n:Nat)(R:Nat->Nat):List Int:=(List.range n).map λi=>(R i:Int)
def Ziu(n:Nat)(R:Nat->Nat):(Zpx n R).length=n:=by simp[Zpx]
def Zgt{n i:Nat}{R:Nat->Nat}(h:i<n):(Zpx n R)[i]? =some (R i:Int):=by simp[Zpx,h]
def vcL(n:Nat)(L:Mx):List (List En):=(List.range n).map λt=>spV (L t) n
def Wt(n:Nat)(L:Mx):(vcL n L).length=n:=by simp[vcL]
def Zaa{n i:Nat}{L:Mx}(h:i<n):(vcL n L)[i]? =some (spV (L i) n):=by simp[vcL,h]
def Zpy{f:Nat->Rat}{m:Nat}:∀{d:Nat},(∀s,m<=s->s<m+d->f s=0)->spV f (m+d)=spV f m
 |0,_=>rfl
 |d+1,h=>by rw[<-ve,XM (h _ Qk Qk)];exact Zpy λs h1 h2=>h s h1 Qk
def Zvv{f:Nat->Rat}{n k:Nat}(hk:k<n)(h:f k≠0)(h0:∀s,k<s->s<n->f s=0):(spV f n)[(spV f n).length - 1]? =some ⟨(k:Int),canF (f k)⟩:=by
 have e:spV f n=spV f k++[⟨(k:Int),canF (f k)⟩]:=by
  rw[<-Wh h];have:=Zpy (f:=f) (m:=k+1) (d:=n - (k+1)) λs h1 h2=>h0 s Qk Qk
  rwa[show k+1+(n - (k+1))=n by omega]at this
 rw[e];simp
end Pl
def Z6.cap{w:World}{A:Option Addr}{n c:Nat}{zs:List Int}(h:Z6 w (.slice A n c) zs):n<=c/\c<=9223372036854775807:=by
 obtain⟨_,_,e,h1,h2⟩:=h.shape;injection e with _ e1 e2;omega
def VE.cap{w:World}{A:Option Addr}{n c:Nat}{cols:List (List En)}(h:VE w (.slice A n c) cols):n<=c/\c<=9223372036854775807:=by
 obtain⟨_,_,e,h1,h2⟩:=h.shape;injection e with _ e1 e2;omega
def Ypw(w:World)(g off n:Nat)(R C:Nat->Nat)(L U:Mx):Prop:=
 ∃A0 c0 A1 c1 A2 c2 A3 c3,(w.cell? ⟨g,off,none⟩=some (.slice A0 n c0)/\w.cell? ⟨g,off+1,none⟩=some (.slice A1 n c1)/\w.cell? ⟨g,off+2,none⟩=some (.slice A2 n c2)/\w.cell? ⟨g,off+3,none⟩=some (.slice A3 n c3))/\
  Z6 w (.slice A0 n c0) (Zpx n R)/\Z6 w (.slice A1 n c1) (Zpx n C)/\VE w (.slice A2 n c2) (vcL n L)/\VE w (.slice A3 n c3) (vcL n U)
def Ypw.below{w w':World}{g off n:Nat}{R C:Nat->Nat}{L U:Mx}(h:Ypw w g off n R C L U)(hb:Below w.heap.size w w'):Ypw w' g off n R C L U:=by
 obtain⟨A0,c0,A1,c1,A2,c2,A3,c3,⟨k0,k1,k2,k3⟩,i0,i1,i2,i3⟩:=h;exact⟨A0,c0,A1,c1,A2,c2,A3,c3,⟨Zi hb k0,Zi hb k1,Zi hb k2,Zi hb k3⟩,i0.below hb,i1.below hb,i2.below hb,i3.below hb⟩
def Z6.nat{w wr:World}{a:Option Addr}{n cap:Nat}{R:Nat->Nat}(h:Z6 w (.slice a n cap) (Zpx n R))(hb:Below w.heap.size w wr){i:Nat}(hi:i<n):
 ∃b o,a=some ⟨b,o,none⟩/\wr.cell? ⟨b,o+i,none⟩=some (.int .i64 (R i:Int)):=by
 obtain⟨b,o,z,e,hc,hz,_,_⟩:=h.at_ hi;rw[Zgt hi]at hz;injection hz with hz;subst hz;exact⟨b,o,e,Zi hb hc⟩
def VE.vc{w wr:World}{a:Option Addr}{n cap:Nat}{L:Mx}(h:VE w (.slice a n cap) (vcL n L))(hb:Below w.heap.size w wr){i:Nat}(hi:i<n):
 ∃b o A1 c1,a=some ⟨b,o,none⟩/\wr.cell? ⟨b,o+i,none⟩=some (.slice A1 (spV (L i) n).length c1)/\Ur wr (.slice A1 (spV (L i) n).length c1) (spV (L i) n):=by
 obtain⟨b,o,A1,c1,e,_,hc,hv⟩:=h.elem hb (Zaa hi);exact⟨b,o,A1,c1,e,hc,hv⟩
def Zge.congr{base:Nat}{v:Value}{n:Nat}{g g':Nat->Rat}{w w':World}(h:Zge base v n g w w')(e:∀i,i<n->g i=g' i):Zge base v n g' w w':=by
 unfold Zge at *;rw[<-Yc e];exact h
namespace Pl
def Zpz{n k J:Nat}{f g:Nat->Rat}{G:Nat->Rat}(hg:∀i,i<n->Sz J (g i))(hG:∀i,i<n->Sz J (G i))(e:∀i,i<n->(if i<n/\i≠k then g i - f i*g k else g i)=G i):
 ∀t i,t<=(spV f n).length->i<n->Sz J (Zbz (spV f n) (k:Int) (g k) g t i):=λt i ht hi=>by
 rcases Zvt f k (g k) g i n t ht with h|⟨h1,h2,h3⟩
 ·rw[h];exact hg i hi
 ·have:=e i hi
  rw[jB ⟨h1,h2⟩]at this
  rw[h3,this];exact hG i hi
def Ydp{n k:Nat}{f g:Nat->Rat}{G:Nat->Rat}(e:∀i,i<n->(if i<n/\i≠k then g i - f i*g k else g i)=G i):
 ∀i,i<n->Zbz (spV f n) (k:Int) (g k) g (spV f n).length i=G i:=λi hi=>by
 rw[Zna];exact e i hi
end Pl
def Zqa(gp off:Nat)(vc:Value)(n E J:Nat)(A:Mx)(R C:Nat->Nat)(L U:Mx)(b:Nat->Rat)(w:World)(hF:Ypw w gp off n R C L U)(h2:UY w vc (Yn n b))(S:Zsu n E A R C L U)(hb:∀i,i<n->Sz J (b i))(hJ:J<=30*E)(hX:∀i,i<n->Sz E (solQ n R C L U b i)):
 Calls prog 136 #[.pointer (some ⟨gp,off,none⟩),vc] w λo w'=>∃v',o= .returned v'/\Yy w.heap.size w' v' (Yn n (solQ n R C L U b))/\Below w.heap.size w w':=by
 obtain⟨A0,c0,A1,c1,A2,c2,A3,c3,⟨k0,k1,k2,k3⟩,i0,i1,i2,i3⟩:=hF;obtain⟨Ac,cc,rfl,az,bu⟩:=h2.shape;rw[Zo]at h2 az⊢;obtain⟨bv,bw⟩:=i0.cap;obtain⟨bx,ca⟩:=i1.cap;obtain⟨cb,cd⟩:=i2.cap;obtain⟨ce,cf⟩:=i3.cap;have K0:=JZ k0;have K1:=JZ k1;have K2:=JZ k2;have K3:=JZ k3;have I0:=JZ i0;have I1:=JZ i1;have I2:=JZ i2;have I3:=JZ i3;have H2:=JZ h2;have HS:=JZ S;have cg:=S.n7;have ch:=S.e1;have cj:=S.e2;obtain⟨z0,G⟩:∃z0,z0=λp=>b (R p):=⟨_,rfl⟩
 obtain⟨FW,r⟩:∃FW,FW=Zbx L z0:=⟨_,rfl⟩;obtain⟨BW,u⟩:∃BW,BW=Zcc n U (FW n):=⟨_,rfl⟩;have bf:Hid (FW 0=z0):=JZ (by rw[r];rfl);have bg:Hid (BW 0=FW n):=JZ (by rw[u];rfl);have ak:Hid (∀j,j<n->∀i,i<n->(if i<n/\i≠j then FW j i - L j i*FW j j else FW j i)=FW (j+1) i):=JZ λj hj i hi=>by rw[r];exact Yoi S.fac.l0 hj hi
 have bh:Hid (∀j k,k+1+j=n->∀i,i<n->(if i<n/\i≠k then Znc (BW j) k (U k k) i - U k i*Znc (BW j) k (U k k) k else Znc (BW j) k (U k k) i)=BW (j+1) i):=JZ λj k hk i hi=>by rw[u];exact Yoj S.fac.u0 hk hi
 have al:Hid (∀j i,j<=n->i<n->Sz (256*E) (FW j i)):=JZ λj i hj hi=>by rw[r,G];exact(S.fB hb hX j i hj hi).mono Qk
 have M:Hid (∀j i,j<=n->i<n->Sz (59*E) (BW j i)):=JZ λj i hj hi=>by rw[u,r,G];exact S.bB hX j i hj hi
 have bi:Hid (∀j k,k+1+j=n->BW (j+1) k=BW n k):=JZ λj k hk=>by rw[u];exact(Zfa (show k<n by omega) Qk Qk).trans (Zfa (show k<n by omega) Qk (JY n)).symm
 have am:Hid (Yn n (solQ n R C L U b)=UH n n C (BW n)):=JZ (by rw[Zpt S.fac.ci,u,r,G];rfl);have bj:Hid (∀p,b (R p)=z0 p):=JZ λp=>by rw[G]
 rw[am.out];have bk:Hid (∀t,t<n->∀(k:Nat) (e:En),(spV (L t) n)[k]? =some e->e.f.Rs (2*E)):=JZ λt ht=>Zfu λi hi=>S.lB t i ht hi
 have bl:Hid (∀t,t<n->∀(k:Nat) (e:En),(spV (U t) n)[k]? =some e->e.f.Rs (2*E)):=JZ λt ht=>Zfu λi hi=>S.uB t i ht hi
 have bm:Hid (∀k,k<n->Sz (2*E) (U k k)/\U k k≠0/\(spV (U k) n)[(spV (U k) n).length - 1]? =some ⟨(k:Int),canF (U k k)⟩):=JZ λk hk=>⟨S.uB k k hk hk,S.fac.u1 k hk,Zvv hk (S.fac.u1 k hk) λs h1 h2=>S.fac.u0 k s hk h2 h1⟩
 have cl:=Vo n Qk;have a7:=Yy.zeros w n (by unfold maxLen;omega);have N:=Ze w (.cells (zfc n) 49);rw[<-Zir (w:=z0)]at a7;have y0:=Zi N k0;have bn:=k0;clear i0 i1 i2 i3 h2 S G r u hb hX am k0 k1 k2 k3;go_enter func136,ntmps136;go_wp2;have O:=N.size;clear y0 bn;generalize w.alloc (.cells (zfc n) 49)=W at *
 go_loopw [24] (λi wr=>∃k:Nat,k<=n/\i= .int .i64 k/\Yy w.heap.size wr (.slice (some ⟨w.heap.size,0,none⟩) n n) (Y8 n k z0)/\Below w.heap.size w wr) (λi _=>n - (intOf i).toNat)
 case atStart=>exact⟨0,Qk,rfl,a7,N⟩
 case round=>
  clear a7 N O;obtain⟨k,hk,rfl,hO,a⟩:=hrel;rcases JX k n with c|c
  ·obtain⟨b0,o0,rfl,x0⟩:=I0.out.nat a c;have bo:R k<n:=HS.out.fac.ri.1 k c;obtain⟨bc,oc,A4,n4,c4,A5,n5,c5,rfl,_,⟨u0,u1,u2,u3⟩,hm⟩:=H2.out.elem a (ZG bo);rw[bj.out]at u0 u2 hm;have P:=JZ (Zis (w:=z0) c);have Y:(Y8 n k z0)[k]? =some zeroF:=(by unfold Y8;rw[YE c,jA Qk]);obtain⟨_,_,_,_,⟨t0,t1,t2,t3⟩,⟨f0,f1,f2,f3⟩,_⟩:=hO.at_ Y;obtain⟨b5,cq⟩:=hO.set_ (k:=k) (by rw[Vd];exact c) hm;rw[P.out]at b5;have an:=ZC a (JY _) (k*4) (k*4+1) (k*4+2) (k*4+3);have bp:(k:Int)<n:=Qk;generalize R k=rk at *;have cm:(rk:Int)<n:=Qk;clear hO a Y hm P;go_wp2;go_roundw
   case rel=>exact⟨k+1,Qk,by go_num,b5,an _ _ _ _⟩
   case measure=>exact Qn
  ·obtain rfl:n=k:=Qk
   rw[Zkz,<-bf.out]at hO;go_wp2
   go_loopw [38] (λi wr=>∃j:Nat,j<=n/\i= .int .i64 j/\Yy w.heap.size wr (.slice (some ⟨w.heap.size,0,none⟩) n n) (Yn n (FW j))/\Below w.heap.size w wr) (λi _=>n - (intOf i).toNat)
   case atStart=>exact⟨0,Qk,rfl,hO,a⟩
   case round=>
    clear hO a;obtain⟨j,hj,rfl,hO,a⟩:=hrel;rcases JX j n with hjl|hjl
    ·obtain⟨b2,o2,A4,c4,rfl,x0,hL⟩:=I2.out.vc a hjl;have y2:=Zi a K2.out;have a8:=JZ (Zpz (J:=256*E) (λi hi=>al.out j i Qk hi) (λi hi=>al.out (j+1) i Qk hi) (ak.out j hjl));have a9:=JZ (Ydp (ak.out j hjl));have HR:=JZ (bk.out j hjl);have aa:=JZ (Zii (L j) n);have cn:(j:Int)<n:=Qk;go_wp2_with fail;refine(Zfx _ _ n (FW j) (spV (L j) n) j (2*E) (256*E) w.heap.size _ hO hL hjl aa.out HR.out a8.out Qk Qk Qk).mono ?_;rintro _ w1 ⟨rfl,hs⟩;obtain⟨T,_,bs,a0⟩:=hs.congr a9.out;have ao:=a.trans a0;clear hO a hL x0 y2 hs a0 bs;go_wp2;go_roundw
     case rel=>exact⟨j+1,Qk,by go_num,T,ao⟩
     case measure=>exact Qn
    ·obtain rfl:n=j:=Qk
     rw[<-bg.out]at hO;have ab:=Yy.zeros wr n (by unfold maxLen;omega);have ac:=Ze wr (.cells (zfc n) 49);rw[<-Zkx (X:=BW n) HS.out.fac.ci]at ab;have T:=hO.below ac;have bq:0<n->w.heap.size<wr.heap.size:=λhp=>by
      obtain⟨g,_,e,_,h,_⟩:=hO.shape (by rw[Zo];exact hp);injection e with e;injection e with e;injection e with e;omega
     have Z:=Za a ac a.size;have br:=a.size;clear hO a;go_wp2;generalize wr.heap.size=gx at *;generalize wr.alloc (.cells (zfc n) 49)=W2 at *
     go_loopw [11] (λi wx=>∃(j:Nat) (kz:Int),j<=n/\kz=(n:Int) - 1 - j/\i= .int .i64 kz/\Yy w.heap.size wx (.slice (some ⟨w.heap.size,0,none⟩) n n) (Yn n (BW j))/\Yy gx wx (.slice (some ⟨gx,0,none⟩) n n) (UH n j C (BW n))/\Below w.heap.size w wx) (λi _=>(intOf i+1).toNat)
     case atStart=>exact⟨0,(n:Int) - 1,Qk,Qk,rfl,T,ab,Z⟩
     case round=>
      clear T ab Z ac;obtain⟨j,kz,hj,b6,rfl,hO,hx,a⟩:=hrel;rcases jR kz 0 with hneg|hpos
      ·obtain rfl:n=j:=Qk
       go_wp2;go_ret;exact⟨_,rfl,hx.monoB br,a⟩
      ·obtain⟨k,rfl⟩:=JT hpos;have x:k+1+j=n:=Qk;have c:k<n:=Qk;have co:=bq Qk;obtain⟨b3,o3,A4,c4,rfl,x0,H⟩:=I3.out.vc a c;have y3:=Zi a K3.out;obtain⟨ah,a1,I⟩:=bm.out k c;have y:=JZ I;obtain⟨D,hD⟩:∃D,D=Znc (BW j) k (U k k):=⟨_,rfl⟩;have ap:Hid ((Yn n (BW j)).set k (canF (BW j k/U k k))=Yn n D):=JZ (by rw[Us c,hD];rfl);have V:=bh.out j k x;rw[<-hD]at V;have aq:∀i,i<n->Sz (61*E) (D i):=λi hi=>by
        rw[hD];unfold Znc;split
        ·exact(Zbf (M.out j k Qk c) ah).mono Qk
        ·exact(M.out j i Qk hi).mono Qk
       have a8:=JZ (Zpz (J:=61*E) aq (λi hi=>(M.out (j+1) i Qk hi).mono Qk) V);have a9:=JZ (Ydp V);have HR:=JZ (bl.out k c);have aa:=JZ (Zii (U k) n);have O:(canF (BW j k)).Sm:=(M.out j k Qk c).rs.sm Qk;have ar:(canF (U k k)).Sm:=ah.rs.sm Qk;have au:(canF (U k k)).q≠0:=(by rw[Zv];exact a1);have ad:(Yn n (BW j))[k]? =some (canF (BW j k)):=ZG c;have P:Hid ((UH n j C (BW n)).set (C k) (canF (BW (j+1) k))=UH n (j+1) C (BW n)):=JZ (by rw[bi.out j k x];exact Zky HS.out.fac.ci x);have av:C k<n:=HS.out.fac.ci.1 k c;have bp:(k:Int)<n:=Qk;have cp:=JZ b6;have aw:=JZ x;clear b6 x;obtain⟨bz,oz,A5,n5,c5,A6,n6,c6,hA,_,⟨t0,t1,t2,t3⟩,K⟩:=hO.frs.elem (JR _ _) ad;injection hA with hA;injection hA with hA1 hA2;subst hA1;subst hA2;simp only[ji]at t0 t1 t2 t3;generalize BW j k=zk at *;generalize U k k=uk at *;clear V aq hD I ah a1 hpos
       go_upto_region 17 with(fail)
       have C0:=Zm t0;have C1:=Zm t1;have C2:=Zm t2;have C3:=Zm t3;have D0:=Zm x0;have D1:=Zm y3;have z:=Zc wr;clear t0 t1 t2 t3 x0 y3;refine Zj 19 [0,1,2,3,4,5,6,7,8,9,10,11,12,13,14,15,16,17,18,19] Qm Qm ?_;refine Qb ?_
       refine Qo λ_ kq=>?_;(with_reducible refine(Zfw _ _ ⟨(k:Int),canF uk⟩ _ (H.below z) y.out).mono ?_);rintro _ w6 ⟨v6,rfl,e6,bd⟩;have B:=Za z bd z.size;refine kq.out _ _ (.inr B) (Qc ?_);clear kq
       refine Qo λ_ kq=>?_;(with_reducible refine(XN _ _ (canF zk) (canF uk) _ (K.below B) e6 O ar au).mono ?_);rw[Zv,Zv];rintro _ w7 ⟨v7,rfl,e7,be⟩;have F:=Za B be B.size;obtain⟨B9,l9,k9,b7,b8,b9,rfl,_,_⟩:=id e7;have ae:=hO.below F;obtain⟨_,_,_,_,⟨c0,c1,c2,c3⟩,⟨f0,f1,f2,f3⟩,_⟩:=ae.at_ ad;refine kq.out _ _ (.inr F) (Qc ?_);clear kq
       refine Qh ?_;refine Zl ?_;clear C0 C1 C2 C3 D0 D1;obtain⟨ai,ba⟩:=ae.set_ (k:=k) (by rw[Zo];exact c) e7;rw[ap.out]at ai;have ax:=(hx.below F).others Yw (ba.keep Ql) (λb hb e=>by simp[Value.ownBlock]at hb;injection e with e;omega);have m:=ZC (Za a F a.size) (JY _) (k*4) (k*4+1) (k*4+2) (k*4+3) (.bool (canF (zk/uk)).num.neg) (.slice B9 l9 k9) (.bool (canF (zk/uk)).den.neg) (.slice b7 b8 b9);clear hO ae hx a z B F e6 e7 bd be c0 c1 c2 c3 f0 f1 f2 f3 K ba H ad O ar au ap y;generalize((((w7.setCell ⟨w.heap.size,k*4,none⟩ (.bool (canF (zk/uk)).num.neg)).setCell ⟨w.heap.size,k*4+1,none⟩ (.slice B9 l9 k9)).setCell ⟨w.heap.size,k*4+2,none⟩ (.bool (canF (zk/uk)).den.neg)).setCell ⟨w.heap.size,k*4+3,none⟩ (.slice b7 b8 b9))=W8 at *;obtain⟨b4,o4,A7,c7,hA,x0,H⟩:=I3.out.vc m c;injection hA with hA;injection hA with hA1 hA2;subst hA1;subst hA2;have y3:=Zi m K3.out;go_wp2_with fail;refine(Zfx _ _ n D (spV (U k) n) k (2*E) (61*E) w.heap.size _ ai H c aa.out HR.out a8.out Qk Qk Qk).mono ?_;rintro _ w9 ⟨rfl,hs⟩;obtain⟨aj,a2,a3,a4⟩:=hs.congr a9.out;have af:=ax.others a3 (a2.keep Ql) (λb hb e=>by simp[Value.ownBlock]at hb e;omega);have d:=m.trans a4;clear ai H hs x0 y3 ax m a2 a3 a4;obtain⟨b1,o1,rfl,x1⟩:=I1.out.nat d c;have y1:=Zi d K1.out;obtain⟨bz,oz,A8,n8,c8,A9,n9,c9,hA,_,⟨t0,t1,t2,t3⟩,K⟩:=aj.frs.elem (JR _ _) (ZG c);injection hA with hA;injection hA with hA1 hA2;subst hA1;subst hA2;simp only[ji]at t0 t1 t2 t3;obtain⟨rf,bb⟩:=YJ (fs:=UH n j C (BW n)) (i:=C k) (by rw[VO];exact av);obtain⟨a5,a6⟩:=af.set_ (k:=C k) (by rw[VO];exact av) K;rw[P.out]at a5;have ay:=aj.others (g:=some gx) Yw (a6.keep Ql) (λb hb e=>by simp[Value.ownBlock]at hb;injection e with e;omega);have ag:=ZC d (show w.heap.size<=gx by omega) (C k*4) (C k*4+1) (C k*4+2) (C k*4+3);obtain⟨_,_,_,_,⟨c0,c1,c2,c3⟩,⟨f0,f1,f2,f3⟩,_⟩:=af.at_ bb;generalize C k=ck at *;have bt:(ck:Int)<n:=Qk;generalize BW (j+1) k=cr at *;clear bb af aj d K a6
       go_upto_region 19 with(fail)
       have C0:=Zm t0;have C1:=Zm t1;have C2:=Zm t2;have C3:=Zm t3;have D0:=Zm x1;have D1:=Zm y1;have z:=Zc w9;clear t0 t1 t2 t3 x1 y1;refine Zj 13 [0,1,2,3,4,5,6,7,8,9,10,11,12,13] Qm Qm ?_;refine Qb ?_
       refine Qh ?_;refine Zl ?_;clear C0 C1 C2 C3 D0 D1;go_wp2;go_roundw
       case rel=>exact⟨j+1,(k:Int) - 1,by have:=aw.out;omega,by have:=aw.out;omega,rfl,ay,a5,(ag _ _ _ _).drew⟩
       case measure=>simp[intOf] <;> omega
namespace Pl
def Yok{n k:Nat}{U:Mx}{d:Nat->Rat}(hk:k<n):utN U d n k=(d k - ZF (λs=>U k s*utN U d n s) k)/U k k:=by
 rw[Zil hk,Zmy,jB rfl,Zk (f:=λs=>U k s*utN U d k s) (g:=λs=>U k s*utN U d n s) λs hs=>by rw[Zil (show s<k by omega),Zil (show s<n by omega)]]
def Yol{n k:Nat}{U:Mx}{w:Nat->Rat}{q:Rat}(hk:k<n):Zjn (spV (U k) n) (qAt (Y8 n k w)) (k:Int) q (spV (U k) n).length=q - ZF (λs=>U k s*w s) k:=by
 rw[Znb,WX (n:=k) (m:=n) Qk λi h1 h2=>by
  by_cases e:i=k
  ·rw[jB e]
  ·rw[jA e,Zvu h2,jA Qk];grind]
 congr 1
 exact Zk λs hs=>by rw[jA Qk,Zvu Qk,jB hs]
def Yom{n k j:Nat}{L:Mx}{w:Nat->Rat}(hk:k+1+j=n):Zjn (spV (L k) n) (qAt (Yn n (ltN n L w j))) (k:Int) (ltN n L w j k) (spV (L k) n).length=ltN n L w (j+1) k:=by
 rw[Znb,Zds,jB (show k=n - 1 - j by omega)]
 congr 1
 exact Zk λs hs=>by
  by_cases e:s=k
  ·rw[jB e,jB e]
  ·rw[jA e,jA e,YB hs]
def Yrt{n k j:Nat}{L:Mx}{w:Nat->Rat}(hk:k+1+j=n):(Yn n (ltN n L w j)).set k (canF (ltN n L w (j+1) k))=Yn n (ltN n L w (j+1)):=by
 rw[Us Qk];exact Yc λi hi=>by
  by_cases e:i=k
  ·rw[jB e,e]
  ·rw[jA e,Zds,jA Qk]
def Ydq{n k K:Nat}{w:Nat->Rat}(h:∀i,i<n->Sz K (w i)):RsL K (Y8 n k w):=λi f hf=>by
 have hi:i<n:=by have:=(JO.1 hf).1;rw[Vd]at this;exact this
 have hp:=Zkd (h i hi)
 unfold Y8 at hf
 rw[YE hi]at hf
 injection hf with hf
 subst hf
 split
 ·exact(h i hi).rs
 ·exact(Ut 1).mono hp
end Pl
def Zqb(V:World)(q:Rat)(s8:Value)(wx:World):Prop:=
 ∃(g:Nat) (f:RF) (A:Option Addr) (n c:Nat) (A':Option Addr) (n' c':Nat),s8= .pointer (some ⟨g,0,none⟩)/\V.heap.size<=g/\Bk wx g 49 [.bool f.num.neg,.slice A n c,.bool f.den.neg,.slice A' n' c']/\Zx wx (.agg #[.bool f.num.neg,.slice A n c,.bool f.den.neg,.slice A' n' c']) f/\f.q=q/\f.Sm/\Below V.heap.size V wx
def Zqb.mk{V w:World}{g:Nat}{f:RF}{q:Rat}{x y z u:Value}{A A':Option Addr}{n c n' c':Nat}(hB:Bk w g 49 [x,y,z,u])(hm:Zx w (.agg #[.bool f.num.neg,.slice A n c,.bool f.den.neg,.slice A' n' c']) f)(hq:f.q=q)(hs:f.Sm)(hb:Below V.heap.size V w)(hg:V.heap.size<=g):
 Zqb V q (.pointer (some ⟨g,0,none⟩)) ((((w.setCell ⟨g,0,none⟩ (.bool f.num.neg)).setCell ⟨g,1,none⟩ (.slice A n c)).setCell ⟨g,2,none⟩ (.bool f.den.neg)).setCell ⟨g,3,none⟩ (.slice A' n' c')):=
 ⟨g,f,A,n,c,A',n',c',rfl,hg,hB.set4 _ _ _ _,hm.keep (hB.keep4 Ql _ _ _ _),hq,hs,ZE hb hg _ _ _ _⟩
def Zne(gp off:Nat)(vc:Value)(n E:Nat)(A:Mx)(R C:Nat->Nat)(L U:Mx)(d:Nat->Rat)(w:World)(hF:Ypw w gp off n R C L U)(h2:UY w vc (Yn n d))(S:Zsu n E A R C L U)(hb:∀i,i<n->Sz (30*E) (d i))(hX:∀i,i<n->Sz E (solT n R C L U d i)):
 Calls prog 135 #[.pointer (some ⟨gp,off,none⟩),vc] w λo w'=>∃v',o= .returned v'/\Yy w.heap.size w' v' (Yn n (solT n R C L U d))/\Below w.heap.size w w':=by
 obtain⟨A0,c0,A1,c1,A2,c2,A3,c3,⟨k0,k1,k2,k3⟩,i0,i1,i2,i3⟩:=hF;obtain⟨Ac,cc,rfl,bb,ct⟩:=h2.shape;rw[Zo]at h2 bb⊢;obtain⟨cu,cv⟩:=i0.cap;obtain⟨cw,cx⟩:=i1.cap;obtain⟨cy,cz⟩:=i2.cap;obtain⟨d0,d1⟩:=i3.cap;have K0:=JZ k0;have K1:=JZ k1;have K2:=JZ k2;have K3:=JZ k3;have I0:=JZ i0;have I1:=JZ i1;have I2:=JZ i2;have I3:=JZ i3;have H2:=JZ h2;have HS:=JZ S;have bj:=S.n7;have d2:=S.e1;have d3:=S.e2;obtain⟨WW,Y⟩:∃WW,WW=utN U (λk=>d (C k)) n:=⟨_,rfl⟩;obtain⟨LT,z⟩:∃LT,LT=ltN n L WW:=⟨_,rfl⟩;have bk:Hid (LT 0=WW):=JZ (by rw[z];rfl);have bl:Hid (∀k,k<n->WW k=(d (C k) - ZF (λs=>U k s*WW s) k)/U k k):=JZ λk hk=>by rw[Y];exact Yok hk
 have bm:Hid (∀i,i<n->Sz (29*E) (WW i)):=JZ λi hi=>by rw[Y];exact S.wB hX i hi
 have aw:Hid (∀j i,j<=n->i<n->Sz (29*E) (LT j i)):=JZ λj i hj hi=>by rw[z,Y];exact S.tB hX j i hj hi
 have bn:Hid (∀j k,k+1+j=n->(Yn n (LT j)).set k (canF (LT (j+1) k))=Yn n (LT (j+1))):=JZ λj k hk=>by rw[z];exact Yrt hk
 have bo:Hid (∀j k,k+1+j=n->Zjn (spV (L k) n) (qAt (Yn n (LT j))) (k:Int) (LT j k) (spV (L k) n).length=LT (j+1) k):=JZ λj k hk=>by rw[z];exact Yom hk
 have bp:Hid (∀j k,k+1+j=n->LT (j+1) k=LT n k):=JZ λj k hk=>by rw[z];exact(Zfv (show k<n by omega) Qk Qk).trans (Zfv (show k<n by omega) Qk (JY n)).symm
 have ax:Hid (Yn n (solT n R C L U d)=UH n n R (LT n)):=JZ (by rw[Zpt S.fac.ri,z,Y];rfl);rw[ax.out];have bq:=JZ hb;have ay:Hid (∀t,t<n->∀(k:Nat) (e:En),(spV (L t) n)[k]? =some e->e.f.Rs (29*E)):=JZ λt ht=>Zfu λi hi=>(S.lB t i ht hi).mono Qk
 have br:Hid (∀t,t<n->∀(k:Nat) (e:En),(spV (U t) n)[k]? =some e->e.f.Rs (29*E)):=JZ λt ht=>Zfu λi hi=>(S.uB t i ht hi).mono Qk
 have bs:Hid (∀k,k<n->Sz (2*E) (U k k)/\U k k≠0/\(spV (U k) n)[(spV (U k) n).length - 1]? =some ⟨(k:Int),canF (U k k)⟩):=JZ λk hk=>⟨S.uB k k hk hk,S.fac.u1 k hk,Zvv hk (S.fac.u1 k hk) λs h1 h2=>S.fac.u0 k s hk h2 h1⟩
 have a9:Hid (∀(M:Mx) (k J:Nat),J<=30*E->J+(spV (M k) n).length* (2* (29*E)+1)<=34359738368):=JZ λM k J hJ=>by
  have h1:=JS (2* (29*E)+1) (JW (Vh (f:=M k) n) bj);omega
 have d4:=Vo n Qk;have af:=Yy.zeros w n (by unfold maxLen;omega);have az:=Ze w (.cells (zfc n) 49);rw[<-Zir (w:=WW)]at af;have bt:=k0;clear i0 i1 i2 i3 h2 S Y z hb hX ax k0 k1 k2 k3;go_enter func135,ntmps135;go_wp2;clear bt;generalize w.alloc (.cells (zfc n) 49)=W at *
 go_loopw [19] (λi wr=>∃k:Nat,k<=n/\i= .int .i64 k/\Yy w.heap.size wr (.slice (some ⟨w.heap.size,0,none⟩) n n) (Y8 n k WW)/\Below w.heap.size w wr) (λi _=>n - (intOf i).toNat)
 case atStart=>exact⟨0,Qk,rfl,af,az⟩
 case round=>
  clear af az;obtain⟨k,hk,rfl,hO,l⟩:=hrel;rcases JX k n with a|a
  ·obtain⟨b1,o1,rfl,x1⟩:=I1.out.nat l a;have P:C k<n:=HS.out.fac.ci.1 k a;obtain⟨bc,oc,A4,n4,c4,A5,n5,c5,rfl,_,⟨u0,u1,u2,u3⟩,ao⟩:=H2.out.elem l (ZG P);obtain⟨b3,o3,A7,c7,rfl,x3,Z⟩:=I3.out.vc l a;have y1:=Zi l K1.out;have y3:=Zi l K3.out;obtain⟨bd,ac,a0⟩:=bs.out k a;have ag:=JZ a0;have a2:Hid (inR (Y8 n k WW).length (spV (U k) n)):=JZ (by rw[Vd];exact Zii (U k) n);have a3:Hid ((canF (d (C k))).Rs (30*E)):=JZ (bq.out _ P).rs;have b0:=JZ (br.out k a);have a4:Hid (RsL (29*E) (Y8 n k WW)):=JZ (Ydq bm.out);have G:=JZ (a9.out U k (30*E) (JY _));have F:Hid (Zjn (spV (U k) n) (qAt (Y8 n k WW)) (k:Int) (d (C k)) (spV (U k) n).length=d (C k) - ZF (λs=>U k s*WW s) k):=JZ (Yol a);have bu:Hid ((d (C k) - ZF (λs=>U k s*WW s) k)/U k k=WW k):=JZ (bl.out k a).symm;have ah:=JZ (Zis (w:=WW) a);have bv:(canF (U k k)).Sm:=bd.rs.sm Qk;have bw:(canF (U k k)).q≠0:=(by rw[Zv];exact ac);have b5:(Y8 n k WW)[k]? =some zeroF:=(by unfold Y8;rw[YE a,jA Qk]);have bx:(k:Int)<n:=Qk;have ca:k< (Y8 n k WW).length:=(by rw[Vd];exact a);have b6:(C k:Int)<n:=Qk;generalize cq:d (C k)=dk at *;generalize U k k=uk at *;generalize C k=ck at *;generalize cs:dk - ZF (λs=>U k s*WW s) k=rq at *;clear bd ac a0 cq cs
   go_upto_region 6 with(fail)
   go_cut [8] (λs8 wx=>Zqb wr rq s8 wx)
   case first=>
    have C0:=Zm u0;have C1:=Zm u1;have C2:=Zm u2;have C3:=Zm u3;have D0:=Zm x1;have D1:=Zm x3;have D2:=Zm y1;have D3:=Zm y3;have c:=Zc wr;clear u0 u1 u2 u3 x1 x3 y1 y3;refine Xk 21 (.go 0 (.go 1 (.go 2 (.go 3 (.go 4 (.go 5 (.go 6 (.go 7 (.go 8 (.go 9 (.go 10 (.go 11 (.go 12 (.go 13 (.go 14 (.go 15 (.go 16 (.go 17 (.go 18 (.fork 19 (.go 20 (.go 21 .done)) 20 (.go 19 (.go 21 .done)))))))))))))))))))))) Qm Qm ?_;refine Qf ?_
    refine Uc rfl rfl (λ_ kq=>?_) (λ_ kq=>?_)
    ·go_simp;(with_reducible refine(Uz _ _ _ (canF dk) (spV (U k) n) (k:Int) (Y8 n k WW) (29*E) (30*E) _ (ao.below c) (Z.below c) (hO.below c).frs a2.out a3.out Qk b0.out a4.out Qk G.out Qk).mono ?_);rw[Zv];rintro _ wA ⟨vA,fA,rfl,eA,p,N,D,a7⟩;rw[F.out]at p;have T:fA.Sm:=D.sm G.out;have y:=Za c a7 c.size;obtain⟨A6,n6,c6,B6,m6,d6,rfl,_,_⟩:=id eA;refine kq.out _ _ (.inr y) (Qj ?_);clear kq N D;obtain⟨WG,ap,K,a6⟩:=Xp wA (.bool false) (.slice none 0 0) (.bool false) (.slice none 0 0);refine Qp λ_ kq=>?_;have ai:=y.size;have r:=Za y a6 y.size;refine kq.out _ _ (.inr r) (Qj ?_);clear kq ap;have cb:=eA.below a6;obtain⟨t0,t1,t2,t3⟩:=K.four;obtain⟨f0,f1,f2,f3⟩:=K.fourF;refine Qi ?_;refine YQ ?_;go_wp2_with fail
     go_meet
     exact Zqb.mk K cb p T r ai
    ·obtain⟨WG,ap,K,a6⟩:=Xp wr.drew (.bool false) (.slice none 0 0) (.bool false) (.slice none 0 0);go_simp;have ai:=c.size;have r:=Za c a6 c.size;refine kq.out _ _ (.inr r) (Qj ?_);clear kq ap
     change Bk WG wr.heap.size 49 _ at K
     refine Qp λ_ kq=>?_;(with_reducible refine(Uz _ _ _ (canF dk) (spV (U k) n) (k:Int) (Y8 n k WW) (29*E) (30*E) _ (ao.below r) (Z.below r) (hO.below r).frs a2.out a3.out Qk b0.out a4.out Qk G.out Qk).mono ?_);rw[Zv];rintro _ wA ⟨vA,fA,rfl,eA,p,N,D,a7⟩;rw[F.out]at p;have T:fA.Sm:=D.sm G.out;have y:=Za r a7 r.size;obtain⟨A6,n6,c6,B6,m6,d6,rfl,_,_⟩:=id eA;refine kq.out _ _ (.inr y) (Qj ?_);clear kq N D;have hG:=K.later a7;obtain⟨t0,t1,t2,t3⟩:=hG.four;obtain⟨f0,f1,f2,f3⟩:=hG.fourF;refine Qi ?_;refine YQ ?_;go_wp2_with fail
     go_meet
     exact Zqb.mk hG eA p T y ai
   case rest=>
    obtain⟨gr,fr,Ar,nr,cr,d8,d9,da,rfl,db,hB,cm,cn,co,be⟩:=hcut;obtain rfl:=cn;have cd:=hO.below be;have V:=Za l be l.size;have aa:=V;clear Z x1 x3 y1 y3 u0 u1 u2 u3 ao hO l;obtain⟨b4,o4,A8,c8,hA,x3,Z⟩:=I3.out.vc V a;injection hA with hA;injection hA with hA1 hA2;subst hA1;subst hA2;have y3:=Zi V K3.out;obtain⟨t0,t1,t2,t3⟩:=hB.four
    go_upto_region 7 with(fail)
    have C0:=Zm t0;have C1:=Zm t1;have C2:=Zm t2;have C3:=Zm t3;have D0:=Zm x3;have D1:=Zm y3;have c:=Zc wc;clear t0 t1 t2 t3 x3 y3;refine Zj 16 [0,1,2,3,4,5,6,7,8,9,10,11,12,13,14,15,16] Qm Qm ?_;refine Qb ?_
    refine Qo λ_ kq=>?_;(with_reducible refine(Zfw _ _ ⟨(k:Int),canF uk⟩ _ (Z.below c) ag.out).mono ?_);rintro _ w6 ⟨v6,rfl,e6,cp⟩;have a5:=Za c cp c.size;refine kq.out _ _ (.inr a5) (Qc ?_);clear kq
    refine Qo λ_ kq=>?_;(with_reducible refine(XN _ _ fr (canF uk) _ (cm.below a5) e6 co bv bw).mono ?_);rw[Zv,bu.out];rintro _ w7 ⟨v7,rfl,e7,a8⟩;have u:=Za a5 a8 a5.size;obtain⟨B9,l9,k9,aq,ar,au,rfl,_,_⟩:=id e7;have H:=cd.below u;obtain⟨_,_,_,_,⟨c0,c1,c2,c3⟩,⟨f0,f1,f2,f3⟩,_⟩:=H.at_ b5;refine kq.out _ _ (.inr u) (Qc ?_);clear kq
    refine Qh ?_;refine Zl ?_;clear C0 C1 C2 C3 D0 D1;obtain⟨B,av⟩:=H.set_ (k:=k) ca e7;rw[ah.out]at B;have x:=ZC (Za aa u aa.size) (JY _) (k*4) (k*4+1) (k*4+2) (k*4+3);go_wp2;go_roundw
    case rel=>exact⟨k+1,Qk,by go_num,B,x _ _ _ _⟩
    case measure=>exact Qn
  ·obtain rfl:n=k:=Qk
   rw[Zkz,<-bk.out]at hO;have aj:=Yy.zeros wr n (by unfold maxLen;omega);have ak:=Ze wr (.cells (zfc n) 49);rw[<-Zkx (X:=LT n) HS.out.fac.ri]at aj;have b7:=hO.below ak;have ce:0<n->w.heap.size<wr.heap.size:=λhp=>by
    obtain⟨g,_,e,_,h,_⟩:=hO.shape (by rw[Zo];exact hp);injection e with e;injection e with e;injection e with e;omega
   have ab:=Za l ak l.size;have cf:=l.size;clear hO l;go_wp2;generalize wr.heap.size=gx at *;generalize wr.alloc (.cells (zfc n) 49)=W2 at *
   go_loopw [10] (λi wx=>∃(j:Nat) (kz:Int),j<=n/\kz=(n:Int) - 1 - j/\i= .int .i64 kz/\Yy w.heap.size wx (.slice (some ⟨w.heap.size,0,none⟩) n n) (Yn n (LT j))/\Yy gx wx (.slice (some ⟨gx,0,none⟩) n n) (UH n j R (LT n))/\Below w.heap.size w wx) (λi _=>(intOf i+1).toNat)
   case atStart=>exact⟨0,(n:Int) - 1,Qk,Qk,rfl,b7,aj,ab⟩
   case round=>
    clear b7 aj ab ak;obtain⟨j,kz,hj,bf,rfl,hO,hx,l⟩:=hrel;rcases jR kz 0 with hneg|hpos
    ·obtain rfl:n=j:=Qk
     go_wp2;go_ret;exact⟨_,rfl,hx.monoB cf,l⟩
    ·obtain⟨k,rfl⟩:=JT hpos;have I:k+1+j=n:=Qk;have a:k<n:=Qk;have d5:=ce Qk;obtain⟨b2,o2,A4,c4,rfl,x0,bg⟩:=I2.out.vc l a;have y2:=Zi l K2.out;have a2:Hid (inR (Yn n (LT j)).length (spV (L k) n)):=JZ (by rw[Zo];exact Zii (L k) n);have a3:Hid ((canF (LT j k)).Rs (29*E)):=JZ (aw.out j k hj a).rs;have cg:=JZ (ay.out k a);have a4:Hid (RsL (29*E) (Yn n (LT j))):=JZ (Zlz λi hi=>aw.out j i hj hi);have G:=JZ (a9.out L k (29*E) Qk);have F:=JZ (bo.out j k I);have ch:=JZ (bn.out j k I);have al:(Yn n (LT j))[k]? =some (canF (LT j k)):=ZG a;have ah:Hid ((UH n j R (LT n)).set (R k) (canF (LT (j+1) k))=UH n (j+1) R (LT n)):=JZ (by rw[bp.out j k I];exact Zky HS.out.fac.ri I);have P:R k<n:=HS.out.fac.ri.1 k a;have bx:(k:Int)<n:=Qk;have d7:=JZ bf;have b8:=JZ I;clear bf I;obtain⟨bz,oz,A5,n5,c5,A6,n6,c6,hA,_,⟨t0,t1,t2,t3⟩,a1⟩:=hO.frs.elem (JR _ _) al;injection hA with hA;injection hA with hA1 hA2;subst hA1;subst hA2;simp only[ji]at t0 t1 t2 t3;generalize LT j k=zk at *;generalize bi:LT (j+1) k=O at *;have cj:=JZ bi;clear hpos bi
     go_upto_region 13 with(fail)
     have C0:=Zm t0;have C1:=Zm t1;have C2:=Zm t2;have C3:=Zm t3;have D0:=Zm x0;have D1:=Zm y2;have c:=Zc wr;clear t0 t1 t2 t3 x0 y2;refine Zj 17 [0,1,2,3,4,5,6,7,8,9,10,11,12,13,14,15,16,17] Qm Qm ?_;refine Qb ?_
     refine Qo λ_ kq=>?_;(with_reducible refine(Uz _ _ _ (canF zk) (spV (L k) n) (k:Int) (Yn n (LT j)) (29*E) (29*E) _ (a1.below c) (bg.below c) (hO.below c).frs a2.out a3.out Qk cg.out a4.out Qk G.out Qk).mono ?_);rw[Zv];rintro _ w7 ⟨v7,fA,rfl,e7,p,N,D,a8⟩;have u:=Za c a8 c.size;rw[F.out]at p;have cl:fA=canF O:=(by rcases N with h|h;rotate_left;exact h.trans (by rw[p]);rw[h,Zv]at p;rw[h,p]);subst cl;obtain⟨B9,l9,k9,aq,ar,au,rfl,_,_⟩:=id e7;have H:=hO.below u;obtain⟨_,_,_,_,⟨c0,c1,c2,c3⟩,⟨f0,f1,f2,f3⟩,_⟩:=H.at_ al;clear p N D;refine kq.out _ _ (.inr u) (Qc ?_);clear kq
     refine Qh ?_;refine Zl ?_;clear C0 C1 C2 C3 D0 D1;obtain⟨B,av⟩:=H.set_ (k:=k) (by rw[Zo];exact a) e7;rw[ch.out]at B;have am:=(hx.below u).others Yw (av.keep Ql) (λb hb e=>by simp[Value.ownBlock]at hb;injection e with e;omega);have x:=ZC (Za l u l.size) (JY _) (k*4) (k*4+1) (k*4+2) (k*4+3) (.bool (canF O).num.neg) (.slice B9 l9 k9) (.bool (canF O).den.neg) (.slice aq ar au);have b9:(Yn n (LT (j+1)))[k]? =some (canF O):=(by rw[<-cj.out];exact ZG a);clear hO H hx l c u e7 a8 c0 c1 c2 c3 f0 f1 f2 f3 a1 av bg al;generalize((((w7.setCell ⟨w.heap.size,k*4,none⟩ (.bool (canF O).num.neg)).setCell ⟨w.heap.size,k*4+1,none⟩ (.slice B9 l9 k9)).setCell ⟨w.heap.size,k*4+2,none⟩ (.bool (canF O).den.neg)).setCell ⟨w.heap.size,k*4+3,none⟩ (.slice aq ar au))=W8 at *;obtain⟨b1,o1,rfl,x1⟩:=I0.out.nat x a;have y1:=Zi x K0.out;obtain⟨bz,oz,A8,n8,c8,A9,n9,c9,hA,_,⟨t0,t1,t2,t3⟩,a1⟩:=B.frs.elem (JR _ _) b9;injection hA with hA;injection hA with hA1 hA2;subst hA1;subst hA2;simp only[ji]at t0 t1 t2 t3;obtain⟨rf,bh⟩:=YJ (fs:=UH n j R (LT n)) (i:=R k) (by rw[VO];exact P);obtain⟨ad,ae⟩:=am.set_ (k:=R k) (by rw[VO];exact P) a1;rw[ah.out]at ad;have ba:=B.others (g:=some gx) Yw (ae.keep Ql) (λb hb e=>by simp[Value.ownBlock]at hb;injection e with e;omega);have an:=ZC x (show w.heap.size<=gx by omega) (R k*4) (R k*4+1) (R k*4+2) (R k*4+3);obtain⟨_,_,_,_,⟨c0,c1,c2,c3⟩,⟨f0,f1,f2,f3⟩,_⟩:=am.at_ bh;generalize R k=ck at *;have b6:(ck:Int)<n:=Qk;clear bh am B a1 ae
     go_upto_region 14 with(fail)
     have C0:=Zm t0;have C1:=Zm t1;have C2:=Zm t2;have C3:=Zm t3;have D0:=Zm x1;have D1:=Zm y1;have c:=Zc W8;clear t0 t1 t2 t3 x1 y1;refine Zj 13 [0,1,2,3,4,5,6,7,8,9,10,11,12,13] Qm Qm ?_;refine Qb ?_
     refine Qh ?_;refine Zl ?_;clear C0 C1 C2 C3 D0 D1;go_wp2;go_roundw
     case rel=>exact⟨j+1,(k:Int) - 1,by have:=b8.out;omega,by have:=b8.out;omega,rfl,ba,ad,(an _ _ _ _).drew⟩
     case measure=>simp[intOf] <;> omega
def Zt.shape{base:Nat}{w:World}{v:Value}{zs:List Int}(h:Zt base w v zs)(hp:0<zs.length):∃g c,v= .slice (some ⟨g,0,none⟩) zs.length c/\base<=g/\g<w.heap.size/\zs.length<=c/\c<=9223372036854775807:=by
 rcases h.1.2 with⟨rfl,e⟩|⟨g,cap,cur,rfl,hb,hg,hnc,hcm,hcs,htake⟩
 ·omega
 ·unfold maxLen at hcm;exact⟨g,cap,rfl,hb,ZU hg,hnc,Qk⟩
def Zt.len{base:Nat}{w:World}{A:Option Addr}{n c:Nat}{zs:List Int}(h:Zt base w (.slice A n c) zs):n=zs.length:=(VC.of_own h.1).len
def Zt.at_{base:Nat}{w:World}{g n c:Nat}{zs:List Int}(h:Zt base w (.slice (some ⟨g,0,none⟩) n c) zs){k:Nat}{z:Int}(hz:zs[k]? =some z):
 w.cell? ⟨g,k,none⟩=some (.int .i64 z)/\w.frozen? ⟨g,k,none⟩=false/\ -9223372036854775808<=z/\z<=9223372036854775807:=by
 have hn:=h.len;obtain⟨h1,h2⟩:=h;subst hn;obtain⟨c1,c2⟩:=ZN h1 (j:=k) (u:= .int .i64 z) (by simp[hz]);exact⟨c1,c2,h2 z (jC hz)⟩
def Zt.base{base:Nat}{w:World}{g n c:Nat}{zs:List Int}(h:Zt base w (.slice (some ⟨g,0,none⟩) n c) zs):base<=g:=by
 have hn:=h.len;obtain⟨h1,h2⟩:=h;subst hn;obtain⟨_,_,h3⟩:=Z0 h1;exact h3
def Zt.set_{base:Nat}{w:World}{g n c:Nat}{zs:List Int}(h:Zt base w (.slice (some ⟨g,0,none⟩) n c) zs){k:Nat}(hk:k<zs.length){z:Int}(h0: -9223372036854775808<=z)(h1:z<=9223372036854775807):
 Zt base (w.setCell ⟨g,k,none⟩ (.int .i64 z)) (.slice (some ⟨g,0,none⟩) n c) (zs.set k z)/\Zf 3 w (w.setCell ⟨g,k,none⟩ (.int .i64 z)):=by
 have hn:=h.len;obtain⟨g1,g2⟩:=h;subst hn;have o1:=Xh g1 k (.int .i64 z) (by simpa using hk);obtain⟨_,b0,_⟩:=Z0 g1;refine⟨⟨by rw[jd,List.map_set];exact o1,λy hy=>?_⟩,Zf.setCell b0 k _⟩;rcases iq hy with hy|rfl
 ·exact g2 y hy
 ·exact⟨h0,h1⟩
def Zt.others{base:Nat}{w w':World}{g:Option Nat}{v:Value}{zs:List Int}(h:Zt base w v zs)(ho:ZA g w w')(hne:∀b,v.ownBlock=some b->some b≠g):Zt base w' v zs:=by
 refine⟨⟨h.1.1,?_⟩,h.2⟩;rcases h.1.2 with hn|⟨b,cap,cur,rfl,hb',hgg,rest⟩
 ·exact .inl hn
 ·exact .inr ⟨b,cap,cur,rfl,hb',(ho.2 b (ZU hgg) (hne b rfl)).trans hgg,rest⟩
def zic(n:Nat):Array Value:=madeCells (Value.cells (.int .i64 0)) (n*1)
def Yru{n k:Nat}(hk:k<n):(zic n)[k]? =some (.int .i64 0):=by
 unfold zic madeCells;simp[hk,Value.cells,Nat.mod_one]
def Zt.zeros(w:World)(n:Nat)(hn:n<=maxLen):Zt w.heap.size (w.alloc (.cells (zic n) 3)) (.slice (some ⟨w.heap.size,0,none⟩) n n) (List.replicate n 0):=by
 have a:(zic n).size=n*1:=eF _ _;refine⟨⟨by simp,.inr ⟨w.heap.size,n,zic n,by simp,JY _,vo w _,by simp,hn,by simpa using a,?_⟩⟩,λz hz=>?_⟩
 ·refine jV λi=>?_
  rcases JX i n with e|e
  ·have:=Yru e;simp[iZ,e,this]
  ·rw[JU (by simp[a];omega),JU (by simp;omega)]
 ·have:=bT hz;omega
def Zab(n:Nat)(hn:n<=1099511627776)(w:World):
 (Instr.makeSlice 22 (.int .i64 (n:Int)) (.int .i64 (n:Int))).run prog w= .ok (.slice (some ⟨w.heap.size,0,none⟩) n n) (w.alloc (.cells (zic n) 3)):=by
 obtain⟨i0,hi,a,b,c⟩:=kL info_intT;have hb:(i0.bytes:Int)* (n:Int)<=281474976710656:=by rw[c];omega
 have hr:=BN (P:=prog) w 22 3 i0 _ underlying22 hi a .i64 .i64 n n Qk Qk hb Qk;simp only[JP,b]at hr;exact hr
def ElM(base:Nat)(w:World)(ge n:Nat)(va vr vc:Value)(M:Nat->Nat->RF)(G D:Nat->Nat)(rp cp:List Int):Prop:=
 Bk w ge 196 [.int .i64 (n:Int),va,vr,vc]/\Zgs base w va n n M G D/\Zt base w vr rp/\Zt base w vc cp/\rp.length=n/\cp.length=n
def ElM.below{base:Nat}{w w':World}{ge n:Nat}{va vr vc:Value}{M:Nat->Nat->RF}{G D:Nat->Nat}{rp cp:List Int}(h:ElM base w ge n va vr vc M G D rp cp)(hb:Below w.heap.size w w'):ElM base w' ge n va vr vc M G D rp cp:=
 ⟨h.1.later hb,h.2.1.below hb,h.2.2.1.below hb,h.2.2.2.1.below hb,h.2.2.2.2⟩
def Zx.numLen{w:World}{b b':Bool}{A A':Option Addr}{n c n' c':Nat}{f:RF}(h:Zx w (.agg #[.bool b,.slice A n c,.bool b',.slice A' n' c']) f):n=f.num.ds.length:=by
 obtain⟨_,_,_,_,_,_,hv,h1,h2⟩:=h;simp at hv;obtain⟨_,⟨rfl,rfl,rfl⟩,_,rfl,rfl,rfl⟩:=hv;obtain⟨e1,e2,_,_⟩:=h1.len;omega
namespace Pl
def Zyj(rp cp:List Int)(M:Nat->Nat->RF)(i j:Nat):Bool:=decide (rp.getD i 0<0) && (decide (cp.getD j 0<0) && decide (0< (M i j).num.ds.length))
def Ziv{l:List Int}{i:Nat}{z:Int}(h:l[i]? =some z):l.getD i 0=z:=by simp[List.getD,h]
def XI{l:List Int}{i:Nat}(h:i<l.length):∃z,l[i]? =some z:=⟨l[i],JQ h⟩
def Yrv{x y:Int}(h1: -100<=x)(h2:x<=100)(h3: -100<=y)(h4:y<=100): -10000<=x*y/\x*y<=10000:=by
 have a:=jY (show 0<=100 - x by omega) (show 0<=100 - y by omega);have b:=jY (show 0<=100 - x by omega) (show 0<=100+y by omega);have c:=jY (show 0<=100+x by omega) (show 0<=100 - y by omega);have d:=jY (show 0<=100+x by omega) (show 0<=100+y by omega);constructor <;> grind
end Pl
def Zla(base ge n:Nat)(va vr vc:Value)(M:Nat->Nat->RF)(G D:Nat->Nat)(rp cp:List Int)(i j:Nat)(w:World)(h:ElM base w ge n va vr vc M G D rp cp)(hi:i<n)(hj:j<n):
 Calls prog 157 #[.pointer (some ⟨ge,0,none⟩),.int .i64 (i:Int),.int .i64 (j:Int)] w λo w'=>o= .returned (.bool (Zyj rp cp M i j))/\Below w.heap.size w w':=by
 obtain⟨hB,hM,hR,hC,f,g⟩:=h;obtain⟨go,co,rfl,_,_,p,q,a⟩:=hM.outer Qk;obtain⟨m1,m2⟩:=a i hi;obtain⟨A1,n1,c1,A2,n2,c2,⟨x0,x1,x2,x3⟩,hf⟩:=hM.at_ hi hj;obtain⟨l1,l2,l3,l4⟩:=hM.lt hi Qk;have e:=hf.numLen;obtain⟨gr,cr,rfl,_,_,k,x⟩:=hR.shape Qk;obtain⟨gc,cc,rfl,_,_,m,y⟩:=hC.shape Qk;obtain⟨zi,c⟩:=XI (l:=rp) (i:=i) Qk;obtain⟨zj,d⟩:=XI (l:=cp) (i:=j) Qk;obtain⟨r0,_,_,_⟩:=hR.at_ c;obtain⟨k0,_,_,_⟩:=hC.at_ d;obtain⟨b0,b1,b2,b3⟩:=hB.four;have b:Zyj rp cp M i j=(decide (zi<0) && (decide (zj<0) && decide (0<n1))):=by unfold Zyj;rw[Ziv c,Ziv d,e]
 rw[b];unfold Zcz at m1;have r:(i:Int)<n:=Qk
 have s:(j:Int)<n:=Qk
 rw[f]at b2 k;rw[g]at b3 m;clear b e c d hf a hM hR hC hB m2 f g;generalize G i=gi at *;generalize D i=di at *;by_cases c1':zi<0
 ·by_cases c2':zj<0
  ·by_cases c3':0<n1
   ·have t:(0:Int)<n1:=Qk;go_enter func157,ntmps157;go_wp2;go_ret;exact⟨by simp[c1',c2',c3'],JR _ _⟩
   ·obtain rfl:n1=0:=Qk
    go_enter func157,ntmps157;go_wp2;go_ret;exact⟨by simp,JR _ _⟩
  ·have u:0<=zj:=Qk;go_enter func157,ntmps157;go_wp2;go_ret;exact⟨by simp;intro h;omega,JR _ _⟩
 ·have v:0<=zi:=Qk
  go_enter func157,ntmps157;go_wp2;go_ret;exact⟨by simp;intro h;omega,JR _ _⟩
def Yte(V:World)(n:Nat)(s5 s6:Value)(wx:World):Prop:=
 ∃g5 g6,s5= .slice (some ⟨g5,0,none⟩) n n/\s6= .slice (some ⟨g6,0,none⟩) n n/\g5≠g6/\Zt V.heap.size wx (.slice (some ⟨g5,0,none⟩) n n) (List.replicate n 0)/\Zt V.heap.size wx (.slice (some ⟨g6,0,none⟩) n n) (List.replicate n 0)/\Below V.heap.size V wx
def Zfb(w:World)(n g5 g6:Nat)(N:Int)(wr:World):Prop:=
 ∃zs ys:List Int,zs.length=n/\ys.length=n/\(∀z∈zs,0<=z/\z<=N)/\(∀z∈ys,0<=z/\z<=N)/\Zt w.heap.size wr (.slice (some ⟨g5,0,none⟩) n n) zs/\Zt w.heap.size wr (.slice (some ⟨g6,0,none⟩) n n) ys/\Below w.heap.size w wr
def Zfb.mono{w wr:World}{n g5 g6:Nat}{N N':Int}(h:Zfb w n g5 g6 N wr)(hn:N<=N'):Zfb w n g5 g6 N' wr:=by
 obtain⟨zs,ys,h1,h2,h3,h4,h5⟩:=h;exact⟨zs,ys,h1,h2,λz hz=>⟨(h3 z hz).1,by have:=(h3 z hz).2;omega⟩,λz hz=>⟨(h4 z hz).1,by have:=(h4 z hz).2;omega⟩,h5⟩
def Zfb.below{w wr w':World}{n g5 g6:Nat}{N:Int}(h:Zfb w n g5 g6 N wr)(hb:Below wr.heap.size wr w'):Zfb w n g5 g6 N w':=by
 obtain⟨zs,ys,h1,h2,h3,h4,h5,h6,h7⟩:=h;exact⟨zs,ys,h1,h2,h3,h4,h5.below hb,h6.below hb,Za h7 hb h7.size⟩
def Xy(n:Nat)(rp cp:List Int)(M:Nat->Nat->RF)(i j:Nat)(s2 s3 s4 s9:Value):Prop:=
 ∃(r c b:Int) (ok:Bool),s2= .int .i64 r/\s3= .int .i64 c/\s4= .bool ok/\s9= .int .i64 b/\(ok=true->∃r' c':Nat,r=r'/\c=c'/\r'<n/\c'<n/\Zyj rp cp M r' c'=true)/\
  (ok=false->∀i' j',j'<n->(i'<i\/(i'=i/\j'<j))->Zyj rp cp M i' j'=false)
def Xy.skip{n i j:Nat}{rp cp:List Int}{M:Nat->Nat->RF}{s2 s3 s4 s9:Value}(h:Xy n rp cp M i j s2 s3 s4 s9)(ha:Zyj rp cp M i j=false):Xy n rp cp M i (j+1) s2 s3 s4 s9:=by
 obtain⟨r,c,b,ok,e2,e3,e4,e9,h1,h2⟩:=h;refine⟨r,c,b,ok,e2,e3,e4,e9,h1,λho i' j' hj hl=>?_⟩;by_cases e:i'=i/\j'=j
 ·rw[e.1,e.2];exact ha
 ·exact h2 ho i' j' hj Qk
def Xy.skipT{n i j:Nat}{rp cp:List Int}{M:Nat->Nat->RF}{r c b:Int}{ok:Bool}(h:Xy n rp cp M i j (.int .i64 r) (.int .i64 c) (.bool ok) (.int .i64 b)):ok=true->Xy n rp cp M i (j+1) (.int .i64 r) (.int .i64 c) (.bool ok) (.int .i64 b):=by
 intro ht;obtain⟨r',c',b',a,e2,e3,e4,e9,h1,h2⟩:=h;injection e4 with e4;subst e4;exact⟨r',c',b',ok,e2,e3,rfl,e9,h1,λho=>by rw[ht]at ho;cases ho⟩
def Xy.take{n i j:Nat}{rp cp:List Int}{M:Nat->Nat->RF}{m:Int}(hi:i<n)(hj:j<n)(ha:Zyj rp cp M i j=true):Xy n rp cp M i (j+1) (.int .i64 i) (.int .i64 j) (.bool true) (.int .i64 m):=
 ⟨_,_,_,_,rfl,rfl,rfl,rfl,λ_=>⟨i,j,rfl,rfl,hi,hj,ha⟩,λho=>by cases ho⟩
def Xy.row{n i:Nat}{rp cp:List Int}{M:Nat->Nat->RF}{s2 s3 s4 s9:Value}(h:Xy n rp cp M i n s2 s3 s4 s9):Xy n rp cp M (i+1) 0 s2 s3 s4 s9:=by
 obtain⟨r,c,b,ok,e2,e3,e4,e9,h1,h2⟩:=h;exact⟨r,c,b,ok,e2,e3,e4,e9,h1,λho i' j' hj hl=>h2 ho i' j' hj Qk⟩
def Zyk(n:Nat)(rp cp:List Int)(M:Nat->Nat->RF)(w:World)(o:Ending)(w':World):Prop:=
 ∃(r c:Int) (ok:Bool),o= .returned (.tuple #[.int .i64 r,.int .i64 c,.bool ok])/\(ok=true->∃r' c':Nat,r=r'/\c=c'/\r'<n/\c'<n/\Zyj rp cp M r' c'=true)/\
  (ok=false->∀i' j',i'<n->j'<n->Zyj rp cp M i' j'=false)/\Below w.heap.size w w'
def Zyl(base ge n:Nat)(va vr vc:Value)(M:Nat->Nat->RF)(G D:Nat->Nat)(rp cp:List Int)(w:World)(h:ElM base w ge n va vr vc M G D rp cp)(hn:n<=7):
 Calls prog 132 #[.pointer (some ⟨ge,0,none⟩)] w (Zyk n rp cp M w):=by
 have HE:=JZ h;have HB:=JZ h.1;have ai:=Zab n Qk;obtain⟨b0,b1,b2,b3⟩:=h.1.four;clear h b1 b2 b3;go_enter func132,ntmps132
 go_upto_region 1 with(fail)
 go_cut [5,6] (λs5 s6 wx=>Yte w n s5 s6 wx)
 case first=>
  have C0:=Zm b0;have C:=Zc w;clear b0;refine Xk 12 (.go 0 (.go 1 (.go 2 (.go 3 (.go 5 (.go 6 (.go 7 (.go 8 (.fork 4 (.go 10 (.go 9 (.go 11 .done))) 9 (.go 4 (.go 10 (.go 11 .done)))))))))))) Qm Qm ?_;refine Qf ?_
  refine Uc rfl rfl (λ_ kq=>?_) (λ_ kq=>?_)
  ·have a:=Zt.zeros w.drew n (by unfold maxLen;omega);have s:=Ze w.drew (.cells (zic n) 3);obtain⟨W5,H⟩:∃W5,w.drew.alloc (.cells (zic n) 3)=W5:=⟨_,rfl⟩;have V:W5.heap.size=w.drew.heap.size+1:=(by rw[<-H];simp);rw[H]at a s;have E:=Za C s C.size;have L:=C.size;go_simp;refine kq.out _ _ (.inr E) (Qj ?_);clear kq H;replace a:=a.monoB L;refine Qf ?_
   have d:=Zt.zeros W5 n (by unfold maxLen;omega);have t:=Ze W5 (.cells (zic n) 3);obtain⟨W6,I⟩:∃W6,W5.alloc (.cells (zic n) 3)=W6:=⟨_,rfl⟩;have X:W6.heap.size=W5.heap.size+1:=(by rw[<-I];simp);rw[I]at d t;have F:=Za E t E.size;have N:=E.size;refine Qp λ_ kq=>?_;refine kq.out _ _ (.inr F) (Qj ?_);clear kq I;replace a:=a.below t;replace d:=d.monoB N;rw[V]at d;refine Qf ?_
   refine YQ ?_;go_wp2_with fail
   go_meet
   exact⟨_,_,rfl,rfl,by first|omega|(simp at *;omega),a,d,F⟩
  ·have d:=Zt.zeros w.drew n (by unfold maxLen;omega);have t:=Ze w.drew (.cells (zic n) 3);obtain⟨W6,I⟩:∃W6,w.drew.alloc (.cells (zic n) 3)=W6:=⟨_,rfl⟩;have X:W6.heap.size=w.drew.heap.size+1:=(by rw[<-I];simp);rw[I]at d t;have F:=Za C t C.size;have N:=C.size;go_simp;refine kq.out _ _ (.inr F) (Qj ?_);clear kq I;replace d:=d.monoB N;have a:=Zt.zeros W6 n (by unfold maxLen;omega);have s:=Ze W6 (.cells (zic n) 3);obtain⟨W5,H⟩:∃W5,W6.alloc (.cells (zic n) 3)=W5:=⟨_,rfl⟩;have V:W5.heap.size=W6.heap.size+1:=(by rw[<-H];simp);rw[H]at a s;have E:=Za F s F.size;have L:=F.size;refine Qp λ_ kq=>?_;refine kq.out _ _ (.inr E) (Qj ?_);clear kq H;replace d:=d.below s;replace a:=a.monoB L;rw[X]at a;refine Qf ?_
   refine YQ ?_;go_wp2_with fail
   go_meet
   exact⟨_,_,rfl,rfl,by first|omega|(simp at *;omega),a,d,E⟩
 case rest=>
  clear ai b0;obtain⟨g5,g6,rfl,rfl,aq,a,d,hb⟩:=hcut;have a5:Zfb w n g5 g6 0 wc:=⟨_,_,by simp,by simp,λz hz=>by have:=bT hz;omega,λz hz=>by have:=bT hz;omega,a,d,hb⟩;obtain⟨b0,_,_,_⟩:=(HB.out.later hb).four;clear a d hb;go_wp2;clear b0
  go_loopw [27] (λx wr=>∃i:Nat,i<=n/\x= .int .i64 i/\Zfb w n g5 g6 (8*i) wr) (λx _=>n - (intOf x).toNat)
  case atStart=>exact⟨0,Qk,rfl,a5⟩
  case round=>
   clear a5;obtain⟨i,hi,rfl,hc⟩:=hrel;rcases JX i n with hil|hil
   ·have aj:(i:Int)<n:=Qk;have f:Below w.heap.size w wr:=(by obtain⟨_,_,_,_,_,_,_,_,h⟩:=hc;exact h);obtain⟨b0,_,_,_⟩:=(HB.out.later f).four;clear f;go_wp2;clear b0
    go_loopw [34] (λx wr=>∃j:Nat,j<=n/\x= .int .i64 j/\Zfb w n g5 g6 (8*i+j) wr) (λx _=>n - (intOf x).toNat)
    case atStart=>exact⟨0,Qk,rfl,by simpa using hc⟩
    case round=>
     clear hc;obtain⟨j,hj,rfl,hc⟩:=hrel;rcases JX j n with hjl|hjl
     ·have ak:(j:Int)<n:=Qk;have f:Below w.heap.size w wr:=(by obtain⟨_,_,_,_,_,_,_,_,h⟩:=hc;exact h);have O:=HE.out.below f;clear f;go_wp2_with fail;refine(Zla base ge n va vr vc M G D rp cp i j _ O hil hjl).mono ?_;rintro _ w1 ⟨rfl,T⟩;have o:=hc.below T;clear hc T O
      cases hact:Zyj rp cp M i j
      ·clear hact;go_wp2;go_roundw
       case rel=>exact⟨j+1,Qk,by go_num,o.mono Qk⟩
       case measure=>exact Qn
      ·clear hact;obtain⟨zs,ys,ag,ah,J,K,a,d,f⟩:=o;obtain⟨z,hz⟩:=XI (l:=zs) (i:=i) Qk;obtain⟨y,hy⟩:=XI (l:=ys) (i:=j) Qk;obtain⟨x0,f0,_,_⟩:=a.at_ hz;have P:=J z (jC hz);have R:=K y (jC hy);obtain⟨Z,_⟩:=a.set_ (k:=i) (z:=z+1) Qk Qk Qk;have S:=d.others (ZA.of_set (g:=g5) (i:=i) (v:= .int .i64 (z+1)) (w:=w1)) (λb hb e=>by simp[Value.ownBlock]at hb;injection e with e;omega);have al:=a.base;have am:=d.base;have Y:=f.setCell (p:=⟨g5,i,none⟩) al (.int .i64 (z+1));clear a d f;have a6:=P.1;have a7:=P.2;have a8:=R.1;have a9:=R.2;have aa:∀x∈zs.set i (z+1),0<=x/\x<=8* (i:Int)+((j+1:Nat):Int):=λx hx=>by
        rcases iq hx with hx|rfl
        ·have:=J x hx;omega
        ·omega
       have ab:∀x∈ys.set j (y+1),0<=x/\x<=8* (i:Int)+((j+1:Nat):Int):=λx hx=>by
        rcases iq hx with hx|rfl
        ·have:=K x hx;omega
        ·omega
       have an:=JZ aa;have ao:=JZ ab;clear J K aa ab P R
       go_upto_region 10 with(fail)
       clear x0 f0;generalize w1.setCell ⟨g5,i,none⟩ (.int .i64 (z+1))=W9 at *;obtain⟨x0,f0,_,_⟩:=S.at_ hy;obtain⟨a4,_⟩:=S.set_ (k:=j) (z:=y+1) Qk Qk Qk;have a0:=Z.others (ZA.of_set (g:=g6) (i:=j) (v:= .int .i64 (y+1)) (w:=W9)) (λb hb e=>by simp[Value.ownBlock]at hb;injection e with e;omega);have a1:=Y.setCell (p:=⟨g6,j,none⟩) am (.int .i64 (y+1));clear Z S Y;go_wp2;go_roundw
       case rel=>exact⟨j+1,Qk,by go_num,_,_,by rw[jd];exact ag,by rw[jd];exact ah,an.out,ao.out,a0,a4,a1⟩
       case measure=>exact Qn
     ·obtain rfl:n=j:=Qk
      have o:Zfb w n g5 g6 (8* ((i+1:Nat):Int)) wr:=hc.mono Qk;clear hc;go_wp2;go_roundw
      case rel=>exact⟨i+1,Qk,by go_num,o⟩
      case measure=>exact Qn
   ·obtain rfl:n=i:=Qk
    have o:Zfb w n g5 g6 100 wr:=hc.mono Qk;have f:Below w.heap.size w wr:=(by obtain⟨_,_,_,_,_,_,_,_,h⟩:=hc;exact h);obtain⟨b0,_,_,_⟩:=(HB.out.later f).four;clear f hc;have q:Xy n rp cp M 0 0 (.int .i64 0) (.int .i64 0) (.bool false) (.int .i64 0):=⟨0,0,0,false,rfl,rfl,rfl,rfl,(λh=>by cases h),λ_ i' j' _ h=>Qk⟩;go_wp2;clear b0
    go_loopw [2,3,4,9,59] (λs2 s3 s4 s9 x wr=>∃i:Nat,i<=n/\x= .int .i64 i/\Xy n rp cp M i 0 s2 s3 s4 s9/\Zfb w n g5 g6 100 wr) (λ_ _ _ _ x _=>n - (intOf x).toNat)
    case atStart=>exact⟨0,Qk,rfl,q,o⟩
    case round=>
     clear o q;obtain⟨i,hi,rfl,q,hc⟩:=hrel;rcases JX i n with hil|hil
     ·have aj:(i:Int)<n:=Qk;have f:Below w.heap.size w wr:=(by obtain⟨_,_,_,_,_,_,_,_,h⟩:=hc;exact h);obtain⟨b0,_,_,_⟩:=(HB.out.later f).four;clear f;go_wp2;clear b0
      go_loopw [2,3,4,9,66] (λs2 s3 s4 s9 x wr=>∃j:Nat,j<=n/\x= .int .i64 j/\Xy n rp cp M i j s2 s3 s4 s9/\Zfb w n g5 g6 100 wr) (λ_ _ _ _ x _=>n - (intOf x).toNat)
      case atStart=>exact⟨0,Qk,rfl,q,hc⟩
      case round=>
       clear hc q;obtain⟨j,hj,rfl,q,hc⟩:=hrel;rcases JX j n with hjl|hjl
       ·have ak:(j:Int)<n:=Qk;have f:Below w.heap.size w wr:=(by obtain⟨_,_,_,_,_,_,_,_,h⟩:=hc;exact h);have O:=HE.out.below f;have ac:=JZ q;obtain⟨r,c,b,ok,rfl,rfl,rfl,rfl,A,B⟩:=q;have ad:=JZ A;have ae:=JZ B;clear f A B;go_wp2_with fail;refine(Zla base ge n va vr vc M G D rp cp i j _ O hil hjl).mono ?_;rintro _ w1 ⟨rfl,T⟩;have o:=hc.below T;clear hc T O
        cases hact:Zyj rp cp M i j
        ·have U:Xy n rp cp M i (j+1) (.int .i64 r) (.int .i64 c) (.bool ok) (.int .i64 b):=Xy.skip ac.out hact;have a2:=JZ U;clear hact U;go_wp2;go_roundw
         case rel=>exact⟨j+1,Qk,by go_num,a2.out,o⟩
         case measure=>exact Qn
        ·have ap:=JZ (Xy.skipT ac.out);have af:Hid (∀m,Xy n rp cp M i (j+1) (.int .i64 i) (.int .i64 j) (.bool true) (.int .i64 m)):=JZ λm=>Xy.take hil hjl hact
         clear hact;have a3:=JZ o;obtain⟨zs,ys,ag,ah,J,K,a,d,f⟩:=o;obtain⟨z,hz⟩:=XI (l:=zs) (i:=i) Qk;obtain⟨y,hy⟩:=XI (l:=ys) (i:=j) Qk;obtain⟨x0,_,_,_⟩:=a.at_ hz;obtain⟨y0,_,_,_⟩:=d.at_ hy;have P:=J z (jC hz);have R:=K y (jC hy);obtain⟨a6,a7⟩:=P;obtain⟨a8,a9⟩:=R;obtain⟨ar,au⟩:=Yrv (x:=z - 1) (y:=y - 1) Qk Qk Qk Qk;clear a d f J K hz hy
         go_upto_region 21 with(fail)
         have C0:=Zm x0;have C1:=Zm y0;have C:=Zc w1;clear x0 y0;refine Zj 12 [0,1,2,3,4,5,6,7,8,9,10,11] Qm Qm ?_;refine Qb ?_
         refine Zl ?_;clear C0 C1;generalize(z - 1)* (y - 1)=mm at *
         cases ok
         ·go_wp2;go_roundw
          case rel=>exact⟨j+1,Qk,by go_num,af.out _,a3.out.below (Zc _)⟩
          case measure=>exact Qn
         ·by_cases av:mm<b
          ·go_wp2;go_roundw
           case rel=>exact⟨j+1,Qk,by go_num,af.out _,a3.out.below (Zc _)⟩
           case measure=>exact Qn
          ·go_wp2;go_roundw
           case rel=>exact⟨j+1,Qk,by go_num,ap.out rfl,a3.out.below (Zc _)⟩
           case measure=>exact Qn
       ·obtain rfl:n=j:=Qk
        have U:=Xy.row q;clear q;obtain⟨r,c,b,ok,rfl,rfl,rfl,rfl,A,B⟩:=U;have a2:Hid (Xy n rp cp M (i+1) 0 (.int .i64 r) (.int .i64 c) (.bool ok) (.int .i64 b)):=JZ ⟨r,c,b,ok,rfl,rfl,rfl,rfl,A,B⟩;clear A B;go_wp2;go_roundw
        case rel=>exact⟨i+1,Qk,by go_num,a2.out,hc⟩
        case measure=>exact Qn
     ·obtain rfl:n=i:=Qk
      obtain⟨r,c,b,ok,rfl,rfl,rfl,rfl,A,B⟩:=q;have ad:=JZ A;have ae:=JZ B;have f:Below w.heap.size w wr:=(by obtain⟨_,_,_,_,_,_,_,_,h⟩:=hc;exact h);clear A B hc;go_wp2;(try simp only[Exit.inBlock,Exit.then]);refine iP (fC rfl _ _ _) rfl ?_;exact⟨r,c,ok,rfl,ad.out,λh i' j' h1 h2=>ae.out h i' j' h2 (.inl h1),f⟩
def Zvw(T:TypeId)(w:World)(n:Nat)(hn:n<=maxLen):(w.alloc (.cells (zvc n) T)).ownsRow w.heap.size T 1 (.slice (some ⟨w.heap.size,0,none⟩) n n) n (List.replicate n (.slice none 0 0)):=by
 have a:(zvc n).size=n*1:=eF _ _;refine⟨by simp,.inr ⟨w.heap.size,n,zvc n,by simp,JY _,vo w _,by simp,hn,by simpa using a,?_⟩⟩;refine jV λi=>?_
 rcases JX i n with e|e
 ·have:=Ylr e;simp[iZ,e,this]
 ·rw[JU (by simp[a];omega),JU (by simp;omega)]
def Ydr(n:Nat)(hn:n<=1099511627776)(w:World):
 (Instr.makeSlice 194 (.int .i64 (n:Int)) (.int .i64 (n:Int))).run prog w= .ok (.slice (some ⟨w.heap.size,0,none⟩) n n) (w.alloc (.cells (zvc n) 34)):=by
 obtain⟨i0,hi,a,b,c⟩:=kL info_rowT;have hb:(i0.bytes:Int)* (n:Int)<=281474976710656:=by rw[c];omega
 have hr:=BN (P:=prog) w 194 34 i0 _ underlying194 hi a .i64 .i64 n n Qk Qk hb Qk;simp only[JP,b]at hr;exact hr
def MkR(U:World)(n:Nat)(D:Nat->Prop)(s29 s31 s33 s34 s5:Value)(w:World):Prop:=
 Below U.heap.size U w/\(D 2->∃g,s29= .slice (some ⟨g,0,none⟩) n n/\w.ownsRow U.heap.size 34 1 (.slice (some ⟨g,0,none⟩) n n) n (List.replicate n (.slice none 0 0)))/\
  (D 4->∃g,s31= .slice (some ⟨g,0,none⟩) n n/\g<w.heap.size/\Zt U.heap.size w (.slice (some ⟨g,0,none⟩) n n) (List.replicate n 0))/\
  (D 6->∃g,s33= .slice (some ⟨g,0,none⟩) n n/\g<w.heap.size/\Zt U.heap.size w (.slice (some ⟨g,0,none⟩) n n) (List.replicate n 0))/\
  (D 7->(D 2/\D 4/\D 6)/\s34= .agg #[.int .i64 (n:Int),s29,s31,s33])/\(D 8->∃g,s5= .pointer (some ⟨g,0,none⟩)/\U.heap.size<=g/\Bk w g 196 [.int .i64 0,.slice none 0 0,.slice none 0 0,.slice none 0 0])/\(D 4->D 6->s31≠s33)
def MkR.later{U w w':World}{n:Nat}{D:Nat->Prop}{s1 s2 s3 s4 s5:Value}(h:MkR U n D s1 s2 s3 s4 s5 w)(hb:Below w.heap.size w w'):MkR U n D s1 s2 s3 s4 s5 w':=by
 obtain⟨h0,h1,h2,h3,h4,h5,h6⟩:=h;have hs:=hb.size;refine⟨Za h0 hb h0.size,λd=>?_,λd=>?_,λd=>?_,h4,λd=>?_,h6⟩
 ·obtain⟨g,e,k⟩:=h1 d;exact⟨g,e,own_below k hb⟩
 ·obtain⟨g,e,k,l⟩:=h2 d;exact⟨g,e,Qk,l.below hb⟩
 ·obtain⟨g,e,k,l⟩:=h3 d;exact⟨g,e,Qk,l.below hb⟩
 ·obtain⟨g,e,k,l⟩:=h5 d;exact⟨g,e,k,l.later hb⟩
def MkR.set2{U w:World}{n:Nat}{D:Nat->Prop}{s1 s2 s3 s4 s5:Value}(h:MkR U n D s1 s2 s3 s4 s5 w)(hn:n<=maxLen)(hd:¬D 2):MkR U n (λk=>D k\/k=2) (.slice (some ⟨w.heap.size,0,none⟩) n n) s2 s3 s4 s5 (w.alloc (.cells (zvc n) 34)):=by
 have hz:=Zvw 34 w n hn;obtain⟨h0,h1,h2,h3,h4,h5,h6⟩:=h.later (Ze w (.cells (zvc n) 34));exact⟨h0,λ_=>⟨_,rfl,VJ hz h.1.size⟩,λd=>h2 (d.resolve_right Ql),λd=>h3 (d.resolve_right Ql),λd=>absurd (d.resolve_right Ql) (λh7=>hd (h4 h7).1.1),λd=>h5 (d.resolve_right Ql),λd e=>h6 (d.resolve_right Ql) (e.resolve_right Ql)⟩
def MkR.set4{U w:World}{n:Nat}{D:Nat->Prop}{s1 s2 s3 s4 s5:Value}(h:MkR U n D s1 s2 s3 s4 s5 w)(hn:n<=maxLen)(hd:¬D 4):MkR U n (λk=>D k\/k=4) s1 (.slice (some ⟨w.heap.size,0,none⟩) n n) s3 s4 s5 (w.alloc (.cells (zic n) 3)):=by
 have hz:=Zt.zeros w n hn;obtain⟨h0,h1,h2,h3,h4,h5,h6⟩:=h.later (Ze w (.cells (zic n) 3));exact⟨h0,λd=>h1 (d.resolve_right Ql),λ_=>⟨_,rfl,by simp,hz.monoB h.1.size⟩,λd=>h3 (d.resolve_right Ql),λd=>absurd (d.resolve_right Ql) λh7=>hd (h4 h7).1.2.1,λd=>h5 (d.resolve_right Ql),λ_ e he=>by
  obtain⟨g,e1,e2,_⟩:=h.2.2.2.1 (e.resolve_right Ql);rw[e1]at he;injection he with he;injection he with he;injection he with he;omega⟩
def MkR.set6{U w:World}{n:Nat}{D:Nat->Prop}{s1 s2 s3 s4 s5:Value}(h:MkR U n D s1 s2 s3 s4 s5 w)(hn:n<=maxLen)(hd:¬D 6):MkR U n (λk=>D k\/k=6) s1 s2 (.slice (some ⟨w.heap.size,0,none⟩) n n) s4 s5 (w.alloc (.cells (zic n) 3)):=by
 have hz:=Zt.zeros w n hn;obtain⟨h0,h1,h2,h3,h4,h5,h6⟩:=h.later (Ze w (.cells (zic n) 3));exact⟨h0,λd=>h1 (d.resolve_right Ql),λd=>h2 (d.resolve_right Ql),λ_=>⟨_,rfl,by simp,hz.monoB h.1.size⟩,λd=>absurd (d.resolve_right Ql) λh7=>hd (h4 h7).1.2.2,λd=>h5 (d.resolve_right Ql),λe _ he=>by
  obtain⟨g,e1,e2,_⟩:=h.2.2.1 (e.resolve_right Ql);rw[e1]at he;injection he with he;injection he with he;injection he with he;omega⟩
def MkR.set8{U w:World}{n:Nat}{D:Nat->Prop}{s1 s2 s3 s4 s5:Value}(h:MkR U n D s1 s2 s3 s4 s5 w):MkR U n (λk=>D k\/k=8) s1 s2 s3 s4 (.pointer (some ⟨w.heap.size,0,none⟩)) (w.alloc (.cells #[.int .i64 0,.slice none 0 0,.slice none 0 0,.slice none 0 0] 196)):=by
 have hz:=Bk.new w 196 [.int .i64 0,.slice none 0 0,.slice none 0 0,.slice none 0 0];obtain⟨h0,h1,h2,h3,h4,h5,h6⟩:=h.later (Ze w (.cells #[.int .i64 0,.slice none 0 0,.slice none 0 0,.slice none 0 0] 196));exact⟨h0,λd=>h1 (d.resolve_right Ql),λd=>h2 (d.resolve_right Ql),λd=>h3 (d.resolve_right Ql),λd=>by
  obtain⟨⟨a,b,c⟩,e⟩:=h4 (d.resolve_right Ql);exact⟨⟨.inl a,.inl b,.inl c⟩,e⟩,λ_=>⟨_,rfl,h.1.size,hz⟩,λd e=>h6 (d.resolve_right Ql) (e.resolve_right Ql)⟩
def MkR.set7{U w:World}{n:Nat}{D:Nat->Prop}{s1 s2 s3 s4 s5:Value}(h:MkR U n D s1 s2 s3 s4 s5 w)(d2:D 2)(d4:D 4)(d6:D 6):MkR U n (λk=>D k\/k=7) s1 s2 s3 (.agg #[.int .i64 (n:Int),s1,s2,s3]) s5 w:=by
 obtain⟨h0,h1,h2,h3,h4,h5,h6⟩:=h;exact⟨h0,λd=>h1 (d.resolve_right Ql),λd=>h2 (d.resolve_right Ql),λd=>h3 (d.resolve_right Ql),λ_=>⟨⟨.inl d2,.inl d4,.inl d6⟩,rfl⟩,λd=>h5 (d.resolve_right Ql),λd e=>h6 (d.resolve_right Ql) (e.resolve_right Ql)⟩
def Bk.but4{w:World}{g:Nat}{t:TypeId}{a b c d:Value}(h:Bk w g t [a,b,c,d])(x y z u:Value):Zf t w ((((w.setCell ⟨g,0,none⟩ x).setCell ⟨g,1,none⟩ y).setCell ⟨g,2,none⟩ z).setCell ⟨g,3,none⟩ u):=
 (((Zf.setCell h 0 x).trans (Zf.setCell (h.set_ 0 x) 1 y)).trans (Zf.setCell ((h.set_ 0 x).set_ 1 y) 2 z)).trans (Zf.setCell (((h.set_ 0 x).set_ 1 y).set_ 2 z) 3 u)
def Yrw(U:World)(n:Nat)(s5:Value)(wx:World):Prop:=
 ∃ge ga gr gc,s5= .pointer (some ⟨ge,0,none⟩)/\gr≠gc/\Bk wx ge 196 [.int .i64 (n:Int),.slice (some ⟨ga,0,none⟩) n n,.slice (some ⟨gr,0,none⟩) n n,.slice (some ⟨gc,0,none⟩) n n]/\
  wx.ownsRow U.heap.size 34 1 (.slice (some ⟨ga,0,none⟩) n n) n (List.replicate n (.slice none 0 0))/\Zt U.heap.size wx (.slice (some ⟨gr,0,none⟩) n n) (List.replicate n 0)/\Zt U.heap.size wx (.slice (some ⟨gc,0,none⟩) n n) (List.replicate n 0)/\Below U.heap.size U wx/\U.heap.size<=ge
namespace Pl
def Zrb(n i:Nat)(G D:Nat->Nat):List Value:=(List.range n).map λr=>if r<i then Zcz n G D r else .slice none 0 0
def Zqd{n:Nat}{G D:Nat->Nat}:Zrb n 0 G D=List.replicate n (.slice none 0 0):=by
 refine jV λr=>?_
 rcases JX r n with e|e
 ·simp[Zrb,e]
 ·rw[JU (by simp[Zrb];exact e),JU (by simp;exact e)]
def Wu{n i:Nat}{G D:Nat->Nat}:(Zrb n i G D).length=n:=by simp[Zrb]
def Zvx{n:Nat}{G D:Nat->Nat}:Zrb n n G D=Zxu n n G D:=by
 refine jV λr=>?_
 rcases JX r n with e|e
 ·rw[Zda e];simp[Zrb,e]
 ·rw[JU (by rw[Wu];exact e),JU (by rw[Zoy];exact e)]
def Zvy{n i:Nat}{G D:Nat->Nat}(h:i<n):(Zrb n i G D)[i]? =some (.slice none 0 0):=by simp[Zrb,h]
def Zvz{n i g d:Nat}{G D:Nat->Nat}(h:i<n):(Zrb n i G D).set i (.slice (some ⟨g,0,none⟩) n d)=Zrb n (i+1) (Vu G i g) (Vu D i d):=by
 refine jV λr=>?_
 rcases JX r n with e|e
 ·rw[iV];by_cases g:i=r
  ·subst g;rw[jB rfl,jB (by rw[Wu];exact e)];simp[Zrb,e,Zcz,Vu]
  ·rw[jA g];by_cases e2:r<i
   ·simp[Zrb,e,e2,show r<i+1 by omega,Zcz,Vu,show r≠i by omega]
   ·simp[Zrb,e,e2,show¬r<i+1 by omega]
 ·rw[JU (by rw[jd,Wu];exact e),JU (by rw[Wu];exact e)]
def Zsw(n i:Nat):List Int:=(List.range n).map λs=>if s<i then -1 else 0
def XR{n i:Nat}:(Zsw n i).length=n:=by simp[Zsw]
def Znf{n i:Nat}(h:i<n):(Zsw n i)[i]? =some 0:=by simp[Zsw,h]
def Zqe{n:Nat}:Zsw n 0=List.replicate n 0:=by
 refine jV λr=>?_
 rcases JX r n with e|e
 ·simp[Zsw,e]
 ·rw[JU (by rw[XR];exact e),JU (by simp;exact e)]
def Yiy{n i:Nat}(h:i<n):(Zsw n i).set i (-1)=Zsw n (i+1):=by
 refine jV λr=>?_
 rcases JX r n with e|e
 ·rw[iV];by_cases g:i=r
  ·subst g;rw[jB rfl,jB (by rw[XR];exact e)];simp[Zsw,e]
  ·rw[jA g];by_cases e2:r<i
   ·simp[Zsw,e,e2,show r<i+1 by omega]
   ·simp[Zsw,e,e2,show¬r<i+1 by omega]
 ·rw[JU (by rw[jd,XR];exact e),JU (by rw[XR];exact e)]
def Yiz{n:Nat}:Zsw n n=List.replicate n (-1):=by
 refine jV λr=>?_
 rcases JX r n with e|e
 ·simp[Zsw,e]
 ·rw[JU (by rw[XR];exact e),JU (by simp;exact e)]
def Zdt{n:Nat}:List.replicate n zeroF=rfL n λ_=>zeroF:=by
 refine jV λi=>?_
 rcases JX i n with e|e
 ·rw[YE e];simp[e]
 ·rw[JU (by simp;exact e),JU (by rw[Zw];exact e)]
end Pl
def Yon(U:World)(ge ga gr gc n i:Nat)(wr:World):Prop:=
 ∃G D:Nat->Nat,Bk wr ge 196 [.int .i64 (n:Int),.slice (some ⟨ga,0,none⟩) n n,.slice (some ⟨gr,0,none⟩) n n,.slice (some ⟨gc,0,none⟩) n n]/\wr.ownsRow U.heap.size 34 1 (.slice (some ⟨ga,0,none⟩) n n) n (Zrb n i G D)/\
  (∀r,r<i->Yy U.heap.size wr (Zcz n G D r) (rfL n λ_=>zeroF))/\(∀r s,r<i->s<i->G r=G s->r=s)/\Zt U.heap.size wr (.slice (some ⟨gr,0,none⟩) n n) (Zsw n i)/\Zt U.heap.size wr (.slice (some ⟨gc,0,none⟩) n n) (Zsw n i)/\Below U.heap.size U wr
end Go.Proofs.YtobadipflggkiaaGreat
