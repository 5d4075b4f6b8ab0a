/- Lemmas of the claim; no condition. -/
import Derived.Test.YtobadipflggkiaaGreatW4
set_option linter.all false
set_option maxRecDepth 100000
set_option maxHeartbeats 40000000
namespace Go.Proofs.YtobadipflggkiaaGreat
open Go.RowKit
open Pl Tryz
attribute [local go_sem ↓] Go.wp_at_zero Go.wp_at_succ
def Zbc(v1 v2:Value)(xs ys:List Nat)(w:World)(h1:ZP w v1 xs)(h2:ZP w v2 ys)(hle:val ys<=val xs)(hlen:ys.length<=xs.length)(hs:xs.length<=549755813888):
 Calls prog 146 #[v1,v2] w λe w'=>∃k l,e= .returned (.slice (some ⟨w.heap.size,0,none⟩) k l)/\ZP w' (.slice (some ⟨w.heap.size,0,none⟩) k l) (Zp (val xs - val ys))/\Below w.heap.size w w':=by
 have HL:=JZ hle;clear hle;obtain⟨A,l,c,rfl⟩:=h1.shape;obtain⟨hl,m,o,hc⟩:=h1.len;have f:=YV l Qk;have HX:Hid (xs.length<=l):=JZ Qk;have HY:Hid (ys.length<=l):=JZ Qk;have n:(l:Int)<=549755813888:=Qk
 have g:=h1.ok;have h:=h2.ok;clear hl m hlen hs;go_enter func146,ntmps146;go_wp2;clear f
 go_loopw [6,7] (λcy i wr=>∃(k:Nat) (O:List Nat) (z:Int),k<=l/\i= .int .i64 k/\cy= .int .u64 z/\0<=z/\z<=1/\l<=O.length/\O.length<=l/\YU wr w.heap.size O/\okD O/\Below w.heap.size w wr/\
  (vt O k:Int) - z* ((B32^k:Nat):Int)=vt xs k - vt ys k) (λ_ i _=>l - (intOf i).toNat)
 case atStart=>exact⟨0,List.replicate l 0,0,Qk,rfl,rfl,Qk,Qk,by simp,by simp,YU.zeros w _,ZJ _,(JR _ _).alloc (JY _) _,by simp[Y3]⟩
 case round=>
  obtain⟨k,O,z,hk,rfl,rfl,z0,z1,hO,b,hB,ok,a,d⟩:=hrel;have HE:=JZ d;clear d;rcases JX k l with hkl|hkl
  ·have x0:=Zr xs k;have x1:=Yl g k;have y0:=Zr ys k;have y1:=Yl h k;have ho:=hB.cell (k:=k) Qk;have hf:=hB.frozen k;go_wp2_with fail;refine(Wq _ xs k _ (h1.below a) Qk).mono ?_;rintro e w1 ⟨rfl,rfl⟩;go_wp2_with fail;refine(Wq _ ys k _ (h2.below a) Qk).mono ?_;rintro e w1 ⟨rfl,rfl⟩;obtain⟨x,hx⟩:∃x,x=di xs k+4294967296 - di ys k - z:=⟨_,rfl⟩;have j:=JZ hx;have q1:IntKind.u64.wrap (di xs k+4294967296)=di xs k+4294967296:=u64_in _ Qk Qk;have q2:IntKind.u64.wrap (di xs k+4294967296 - di ys k)=di xs k+4294967296 - di ys k:=u64_in _ Qk Qk;have q3:IntKind.u64.wrap (di xs k+4294967296 - di ys k - z)=x:=(by rw[hx];exact u64_in _ Qk Qk);have r0:0<=x:=Qk;have r1:x<=8589934591:=Qk;clear hx;have q4:IntKind.u64.wrap (1 - x/4294967296)=1 - x/4294967296:=u64_in _ Qk Qk;go_wp2;go_roundw
   case rel=>exact⟨k+1,O.set k (x%4294967296).toNat,1 - x/4294967296,Qk,by go_num,rfl,Qk,Qk,by simpa using hO,by simpa using b,hB.setI k Qk,ZK ok k (by unfold B32;omega),a.setCell (JY _) _,Zcd Qk rfl Qk (by have:=j.out;omega) HE.out⟩
   case measure=>exact Qn
  ·obtain rfl:k=l:=Qk
   go_wp2_with fail;refine(Zgj _ _ _ O _ ?_).mono ?_
   ·have:=hB.dig ok (c:=k) b (by unfold maxLen;omega)
    rwa[show O.length=k from Qk]at this
   rintro e w1 ⟨k',rfl,hv,rfl⟩;go_wp2_with fail;go_ret;refine⟨_,_,rfl,?_,a⟩
   rwa[Zzr (show O.length=k by omega) ok z0 HX.out HY.out HL.out HE.out]at hv
def Zbd(v1 v2:Value)(xs ys:List Nat)(w:World)(h1:ZP w v1 xs)(h2:ZP w v2 ys)(hle:val ys<=val xs)(hlen:ys.length<=xs.length)(hs:xs.length<=549755813888):
 Calls prog 146 #[v1,v2] w λe w'=>∃v',e= .returned v'/\ZP w' v' (Zp (val xs - val ys))/\Below w.heap.size w w':=
 (Zbc v1 v2 xs ys w h1 h2 hle hlen hs).mono λ_ _ ⟨_,_,h1,h2,h3⟩=>⟨_,h1,h2,h3⟩
def Zjq(v1 v2:Value)(xs ys:List Nat)(w:World)(h1:ZP w v1 xs)(h2:ZP w v2 ys)(hs:xs.length+ys.length<=1099511627776):
 Calls prog 118 #[v1,v2] w λe w'=>∃v',e= .returned v'/\ZP w' v' (Zp (val xs*val ys))/\Below w.heap.size w w':=by
 obtain⟨A,l,c,rfl⟩:=h1.shape;obtain⟨hl,B,J,hc⟩:=h1.len;obtain⟨A2,l2,c2,rfl⟩:=h2.shape;obtain⟨kl,C,K,kc⟩:=h2.len;have v:=h1.ok;have x:=h2.ok;have p:=YV (l+l2) Qk
 push_cast at p
 have I:(l:Int)+(l2:Int)<=1099511627776:=Qk
 have HX:Hid (xs.length<=l):=JZ Qk;have HY:Hid (ys.length=l2):=JZ Qk;clear hl B kl C hs;go_enter func118,ntmps118;go_wp2;clear p
 go_loopw [6] (λi wr=>∃(k:Nat) (O:List Nat),k<=l/\i= .int .i64 k/\l+l2<=O.length/\O.length<=l+l2/\YU wr w.heap.size O/\okD O/\Below w.heap.size w wr/\
  (val O:Int)=(vt xs k:Int)*val ys/\(∀j,k+l2<=j->dg O j=0)) (λi _=>l - (intOf i).toNat)
 case atStart=>exact⟨0,List.replicate (l+l2) 0,Qk,rfl,by simp,by simp,YU.zeros w _,ZJ _,(JR _ _).alloc (JY _) _,by simp[Y3,XY],λj _=>VG _ _⟩
 case round=>
  obtain⟨k,O,hk,rfl,hO,r,hB,ok,n,s,t⟩:=hrel;have HE:=JZ s;have HZ:=JZ t;clear s t;rcases JX k l with hkl|hkl
  ·obtain⟨b1,G,rfl,D,a⟩:=h1.at_ Qk;have y:=JZ a;clear a;have x0:=Zr xs k;have x1:=Yl v k;obtain⟨wo,E⟩:∃wo:World,wo=wr:=⟨_,rfl⟩;subst E;go_wp2
   go_loopw [7,8] (λcy i wr=>∃(j:Nat) (O':List Nat) (z:Int),j<=l2/\i= .int .i64 j/\cy= .int .u64 z/\0<=z/\z<=4294967295/\l+l2<=O'.length/\O'.length<=l+l2/\YU wr w.heap.size O'/\okD O'/\Below w.heap.size w wr/\
    (val O':Int)+z* ((B32^(k+j):Nat):Int)=(val O:Int)+di xs k* ((B32^k:Nat):Int)*vt ys j/\(∀i,k+l2<=i->dg O' i=0)) (λ_ i _=>l2 - (intOf i).toNat)
   case atStart=>exact⟨0,O,0,Qk,rfl,rfl,Qk,Qk,hO,r,hB,ok,n,by simp[Y3],HZ.out⟩
   case round=>
    clear n hB;obtain⟨j,O',z,hj,rfl,rfl,z0,z1,hP,u,f,o,b,g,h⟩:=hrel;have q:=JZ g;have m:=JZ h;clear g h;rcases JX j l2 with hjl|hjl
    ·obtain⟨b2,H,rfl,F,d⟩:=h2.at_ Qk;have hx:=XZ b D y.out hkl;have hy:=XZ b F d hjl;clear d;have y0:=Zr ys j;have y1:=Yl x j;have p0:0<=di xs k*di ys j:=jY x0 y0;have p1:di xs k*di ys j<=4294967295*4294967295:=kK x1 y1 y0 Qk;have ho:=f.cell (k:=k+j) Qk;have hf:=f.frozen (k+j);have o0:=Zr O' (k+j);have o1:=Yl o (k+j);have g1:IntKind.u64.wrap (di O' (k+j))=di O' (k+j):=u64_in _ o0 Qk;have g2:IntKind.u64.wrap (z+di O' (k+j))=z+di O' (k+j):=u64_in _ Qk Qk;have g3:IntKind.u64.wrap (di xs k)=di xs k:=u64_in _ x0 Qk;have g4:IntKind.u64.wrap (di ys j)=di ys j:=u64_in _ y0 Qk;have g5:IntKind.u64.wrap (di xs k*di ys j)=di xs k*di ys j:=u64_in _ p0 Qk;have g6:IntKind.u64.wrap (z+di O' (k+j)+di xs k*di ys j)=z+di O' (k+j)+di xs k*di ys j:=u64_in _ Qk Qk;have g7:IntKind.i64.wrap ((k:Int)+j)=(k:Int)+j:=(by simp only[IntKind.wrap,IntKind.bits,IntKind.signed];simp;omega);have g8:((k:Int)+j).toNat=k+j:=Qk;have g9:(k:Int)+j< (l:Int)+l2:=Qk;go_wp2
     go_quiet (fail)
     obtain⟨T,hT⟩:∃T,T=z+di O' (k+j)+di xs k*di ys j:=⟨_,rfl⟩;have T0:0<=T:=Qk;have T1:T<=18446744073709551615:=Qk;rw[<-hT];have HT:=JZ hT;clear hT g1 g2 g3 g4 g5 g6 p0 p1;go_wp2;go_roundw
     case rel=>exact⟨j+1,O'.set (k+j) (T%4294967296).toNat,T/4294967296,Qk,by go_num,rfl,Qk,Qk,by simpa using hP,by simpa using u,(show YU (wr.drewN nq) w.heap.size O' from f).setI _ Qk,ZK o _ (by unfold B32;omega),(aB b nq).setCell (JY _) _,Zty Qk Qk (by have:=HT.out;omega) q.out,λi hi=>by rw[Yk Qk];exact m.out i hi⟩
     case measure=>exact Qn
    ·obtain rfl:j=l2:=Qk
     have ho:=f.cell (k:=k+j) Qk;have hf:=f.frozen (k+j);go_wp2;go_roundw
     case rel=>exact⟨k+1,O'.set (k+j) z.toNat,Qk,by go_num,by simpa using hP,by simpa using u,f.setI _ Qk,ZK o _ (by unfold B32;omega),b.setCell (JY _) _,Zhc HE.out (Zjz HY.out Qk z0 (m.out _ (JY _)) q.out),λi hi=>by rw[Yk Qk];exact m.out i Qk⟩
     case measure=>exact Qn
  ·obtain rfl:k=l:=Qk
   go_wp2_with fail;refine(YN _ O _ ?_).mono ?_
   ·have:=hB.dig ok (c:=k+l2) r (by unfold maxLen;omega)
    rwa[show O.length=k+l2 from Qk]at this
   rintro e w1 ⟨v',rfl,hv,rfl⟩;go_wp2_with fail;go_ret;refine⟨_,rfl,?_,n⟩
   rwa[Zzz HX.out HE.out]at hv
def Zjr(ty:TypeId)(w:World)(A:Option Addr)(n c:Nat)(ds:List Nat)(h:ZP w (.slice A n c) ds)(hs:ds.length<=549755813888):
 ∃v' w',(Builtin.append_ #[45,45] ty #[.slice none 0 0,.slice A n c]).run prog w= .ok v' w'/\w'.ownsRow w.heap.size 71 1 v' ds.length (ds.map uc)/\Below w.heap.size w w':=by
 obtain⟨i0,hi,d,e,f⟩:=kL info_u32;obtain⟨hl,g,i,hc⟩:=h.len;obtain rfl:n=ds.length:=Qk
 rcases A with _|ad
 ·have hn:ds=[]:=by
   rcases JV ds.length with h0|h0
   ·exact iX.1 h0
   ·obtain⟨b,j,hA,_⟩:=h.at_ h0
    cases hA
  subst hn;refine⟨.slice none 0 0,w,?_,kY _ _ _ _,JR _ _⟩;simp[Builtin.append_,BU underlying45,sizeOf,typeInfo,hi,Builtin.lenOf,Builtin.firstCells]
 ·obtain⟨v',w',a,h2,h3,_,_⟩:=aM (P:=prog) w w.heap.size 45 ty 71 i0 _ 1 4 underlying45 hi d e f rfl Ql (.slice none 0 0) 0 [] (kY _ _ _ _) ad ds.length c (ds.map uc) (by simp) h.news (Zai _) (by unfold maxLen;omega) Qk (JY _);exact⟨v',w',a,by simpa using h2,(JR _ _).grown h3 (JY _) (λk hk=>by simp[Value.ownBlock]at hk)⟩
def Zco{o:Oper}{a:Act}{K:Act->World->Prop}{Q:Exit->Act->World->Prop}(x:Operand)
 (ho:o.op= .call { callee:= .builtin .append,args:=#[.const (.slice none 0 0),x],argTypes:=#[45,45] })
 (w:World) (A:Option Addr) (n c:Nat) (ds:List Nat) (hx:a.eval x= .slice A n c) (h:ZP w (.slice A n c) ds) (hs:ds.length<=549755813888)
 (hK:∀v' w',w'.ownsRow w.heap.size 71 1 v' ds.length (ds.map uc)->Below w.heap.size w w'->K (a.put o.dst v') w'):o.wp prog a w K Q:=by
 obtain⟨v',w',b,h2,h3⟩:=Zjr o.type w A n c ds h hs;have hc:a.eval (.const (.slice none 0 0))= .slice none 0 0:=rfl;unfold Oper.wp execOp;simp only[ho,resolve,invoke,builtin,vP,bP,vD,vL,kM,gG,hc,hx,b];exact hK v' w' h2 h3
def Zem{ops:Array Oper}{rest:List Oper}{o:Oper}{a:Act}{Q:Exit->Act->World->Prop}(hgd:o.guard=none)(x:Operand)
 (ho:o.op= .call { callee:= .builtin .append,args:=#[.const (.slice none 0 0),x],argTypes:=#[45,45] })
 (w:World) (A:Option Addr) (n c:Nat) (ds:List Nat) (hx:a.eval x= .slice A n c) (h:ZP w (.slice A n c) ds) (hs:ds.length<=549755813888)
 (hK:∀v' w',w'.ownsRow w.heap.size 71 1 v' ds.length (ds.map uc)->Below w.heap.size w w'->wpList prog ops Q rest (a.put o.dst v') w'):wpList prog ops Q (o::rest) a w:=
 eP hgd λ_ hk=>Zco x ho w A n c ds hx h hs λv' w' h2 h3=>hk _ _ (hK v' w' h2 h3)
def Ygr{d s:Nat}(hs:s<=31)(hd:d<B32)(h:2^(s+1)∣d):bits .or .u32 (d:Int) (2^s)=((d+2^s:Nat):Int):=by
 have h2:2^s<=2^31:=jS Ql hs;rw[Yo,u32_or_nat _ _ (by unfold B32 at hd;omega) Qk,or_bit h]
def Off(g:Nat)(v:Value):Prop:=∀a n c,v= .slice (some a) n c->a.block≠g
def Off.mk{g b o n c:Nat}(h:b≠g):Off g (.slice (some ⟨b,o,none⟩) n c):=λa n' c' e=>by
 injection e with e1
 injection e1 with e1
 subst e1
 exact h
def Off.own{w:World}{base e size n g:Nat}{v:Value}{xs:List Value}(h:w.ownsRow base e size v n xs)(hg:w.heap.size<=g):Off g v:=λa n' c' he=>by
 rcases h.2 with⟨rfl,_⟩|⟨k,cap,cur,rfl,_,hh,_⟩
 ·injection he with e1;cases e1
 ·injection he with e1
  injection e1 with e1
  subst e1
  have:=ZU hh
  show k≠g
  omega
def ZP.far{w:World}{v:Value}{ds:List Nat}{g:Nat}(h:ZP w v ds)(ho:Off g v)(k:Nat)(u:Value):ZP (w.setCell ⟨g,k,none⟩ u) v ds:=by
 obtain⟨A,c,hv,h1,h2,h3,h4⟩:=h;refine⟨A,c,hv,h1,h2,h3,λhp=>?_⟩;obtain⟨b,d,cs,fz,hA,hb,hc⟩:=h4 hp;have a:b≠g:=by subst hA;exact ho _ _ _ hv
 exact⟨b,d,cs,fz,hA,by rw[vH w _ _ _ a];exact hb,hc⟩
def Ysu(X Y q g:Nat)(w:World)(r d:Value)(z:Int)(wr:World)(Q:List Nat)(R D:Nat):Prop:=
 ZP wr r (Zp R)/\ZP wr d (Zp D)/\D=Y*2^(z+1).toNat/2/\R<Y*2^(z+1).toNat/\X=val Q*Y+R/\2^(z+1).toNat∣val Q/\YU wr g Q/\okD Q/\q+1<=Q.length/\Q.length<=q+1/\Below w.heap.size w wr/\(Zp R).length<=137438953472/\(Zp D).length<=549755813888/\Off g r/\Off g d
def Zxi(X Y:Nat)(w:World)(e:Ending)(w':World):Prop:=
 ∃v1 v2,e= .returned (.tuple #[v1,v2])/\ZP w' v1 (Zp (X/Y))/\ZP w' v2 (Zp (X%Y))/\Below w.heap.size w w'
def Zbe(v1 v2:Value)(xs ys:List Nat)(w:World)(h1:ZP w v1 xs)(h2:ZP w v2 ys)(hy:val ys≠0)(hs1:(Zp (val xs)).length<=137438953472)(hs2:ys.length<=137438953472):
 Calls prog 116 #[v1,v2] w (Zxi (val xs) (val ys) w):=by
 have ac:(Zp (val ys)).length<=137438953472:=JW (Vj h2.ok) hs2;generalize hX:val xs=X at *;generalize hY:val ys=Y at *;have HX:=JZ hX;have HY:=JZ hY;have ad:=JZ hy;clear hX hY hy;go_enter func116,ntmps116;go_wp2_with fail;refine(YN _ xs _ h1).mono ?_;rw[HX.out];rintro e w1 ⟨u1,rfl,g1,rfl⟩;obtain⟨A,l,c,rfl⟩:=g1.shape;go_wp2_with(at_builtin;refine Zem rfl (.tmp 12) rfl _ A l c (Zp X) rfl g1 Qk ?_);intro v' w1 C b;have d1:=VX C (Z8 X);have o1:=Off.own C (JY _);clear C;go_wp2_with fail;refine(Zhj _ xs _ (h1.below b) (by rw[HX.out];omega)).mono ?_;rw[HX.out];rintro e w2 ⟨rfl,rfl⟩;go_wp2_with fail;refine(Zhj _ ys _ (h2.below b) (by rw[HY.out];omega)).mono ?_;rw[HY.out];rintro e w2 ⟨rfl,rfl⟩;have b1:=@Ylc X;have b2:=@Ylc Y;rcases JX (bl X) (bl Y)with hlt|hge
 ·have hq:X/Y=0/\X%Y=X:=⟨ik (Zok hlt),ig (Zok hlt)⟩;have HQ:=JZ hq;have ht:(bl X:Int) - bl Y<0:=Qk
  clear hq;go_wp2;go_ret2;exact⟨_,_,rfl,by rw[HQ.out.1,digs_zero];exact ZP.nil _ _ _ (by simp),by rw[HQ.out.2];exact d1,b⟩
 ·have g:=Ygl hge ad.out;obtain⟨n,hn⟩:∃n:Nat,n=bl X - bl Y:=⟨_,rfl⟩;have am:(bl X:Int) - bl Y=(n:Int):=Qk
  rw[<-hn]at g;have ae:=JZ g;obtain⟨q,s,a9,hs⟩:∃q s,n=32*q+s/\s<=31:=⟨n/32,n%32,Qk,Qk⟩;have an:(n:Int)<=4398046511104:=Qk
  have ao:q<=137438953472:=Qk
  have hq:(n:Int)/32=(q:Int):=Qk
  have HN:=JZ a9;have a1:=YV (q+1) Qk
  push_cast at a1
  clear g hn b1 b2 a9;go_wp2_with fail;clear a1;obtain⟨W,hW⟩:∃W,W=w1.alloc (.cells (zc (q+1)) 71):=⟨_,rfl⟩;have O:Below w1.heap.size w1 W:=hW▸Ze _ _;have hB:YU W w1.heap.size (List.replicate (q+1) 0):=hW▸YU.zeros w1 _;rw[<-hW];clear hW;have m:=Za b O b.size;have hc:=Zxh v2 ys q s W (h2.below m) hs Qk;rw[<-HN.out,HY.out]at hc;refine hc.mono ?_;clear hc;rintro e w2 ⟨kd,ld,rfl,d2,H⟩;have o2:Off w1.heap.size (.slice (some ⟨W.heap.size,0,none⟩) kd ld):=Off.mk (by have:=hB.lt;omega);have a2:=hB.below H hB.lt;have a:=Za m H m.size;have d3:=(d1.below O).below H;have af:w.heap.size<=w1.heap.size:=b.size;clear hB b m d1 O H g1 h1 h2;have a3:(Zp (Y*2^n)).length<=549755813888:=by
   refine JW (XP Y (2^n)) ?_;have:(Zp (2^n)).length<=q+1:=Xd (by rw[Zel];exact vK Ql (by have:=HN.out;omega));omega
  have ag:=JZ a3;have ah:Hid ((Zp X).length<=137438953472):=JZ hs1;have ap:¬(n:Int)<0:=Qk
  clear a3 hs1 ac hge;go_wp2
  go_loopw [6,9,10] (λr d i wr=>∃(z:Int) (Q:List Nat) (R D:Nat),-1<=z/\z<=n/\i= .int .i64 z/\Ysu X Y q w1.heap.size w r d z wr Q R D) (λ_ _ i _=>(intOf i+1).toNat)
  case atStart=>exact⟨n,List.replicate (q+1) 0,X,Y*2^n,Qk,Qk,rfl,d3,d2,by rw[show((n:Int)+1).toNat=n+1 by omega,Zuj],by rw[show((n:Int)+1).toNat=n+1 by omega];exact ae.out,by rw[XY];simp,by rw[XY];exact⟨0,rfl⟩,a2,ZJ _,by simp,by simp,a,ah.out,ag.out,o1,o2⟩
  case round=>
   obtain⟨z,Q,R,D,az,b0,rfl,dr,dd,hD,hR,aa,t,hB,v,hQ,Z,b,ab,F,oR,oD⟩:=hrel;have HD:=JZ hD;have HR:=JZ hR;have P:=JZ aa;have a4:=JZ t;clear hD hR aa t d2 d3 a2 a;rcases jR z 0 with hz|hz
   ·obtain rfl:z= -1:=Qk
    have e0:((-1:Int)+1).toNat=0:=rfl;have:=HR.out;rw[e0,Nat.pow_zero,BZ]at this;have HE:=JZ (Ymy P.out this);clear this e0;go_wp2_with fail;refine(YN _ Q _ ?_).mono ?_
    ·have:=hB.dig v (c:=q+1) Z (by unfold maxLen;omega)
     rwa[show Q.length=q+1 from Qk]at this
    rintro e w3 ⟨v3,rfl,h3,rfl⟩;go_wp2;go_ret2;exact⟨_,_,rfl,by rw[<-HE.out.1];exact h3,by rw[<-HE.out.2];exact dr,b⟩
   ·obtain⟨i,rfl⟩:=JT hz;have e1:((i:Int)+1).toNat=i+1:=Qk;have hR:=HR.out;have hD:=HD.out;have t:=a4.out;rw[e1]at hR hD t;rw[Zuj]at hD;have ai:=JZ hR;have u:=JZ hD;have x:=JZ t;have aq:i<=n:=Qk;clear hR hD t HR HD a4 e1;obtain⟨I,hI⟩:∃I,I=i/32:=⟨_,rfl⟩;obtain⟨J,hJ⟩:∃J,J=i%32:=⟨_,rfl⟩;have ar:(i:Int)/32=(I:Int):=Qk;have au:(i:Int)%32=(J:Int):=Qk;have av:I<=q:=(by have:=HN.out;omega);have K:J<=31:=Qk;have S:=Ymw v x.out;have o:=λh=>Ymx (Q:=Q) (i:=i) h
    rw[<-hI]at o;rw[<-hJ]at o;rw[<-hI,<-hJ]at S;have L:=JZ o;have a5:=JZ S;clear hI hJ o S;go_wp2_with fail;refine(YO _ _ _ _ _ dr dd).mono ?_;rw[Zn,Zn];rintro e w3 ⟨rfl,B⟩;have T:=dr.below B;have E:=dd.below B;have j:=hB.below B hB.lt;have a:=Za b B b.size;clear dr dd hB b B;rcases JX R D with hlt|hge
    ·have hc:cmpN R D= -1:=UL hlt;have aj:=JZ hlt;rw[hc];clear hc hlt;go_wp2_with fail;refine(Zol _ _ _ E F).mono ?_;rw[Zn];rintro e w4 ⟨k4,l4,rfl,d4,f⟩;go_wp2;go_roundw
     case rel=>exact⟨(i:Int) - 1,Q,R,D/2,Qk,Qk,rfl,T.below f,d4,by rw[show((i:Int) - 1+1).toNat=i by omega,<-u.out],by rw[show((i:Int) - 1+1).toNat=i by omega,<-u.out];exact aj.out,P.out,by rw[show((i:Int) - 1+1).toNat=i by omega];exact Ygo x.out,j.below f j.lt,v,hQ,Z,Za a f a.size,ab,JW (Zu (dO _ _)) F,oR,Off.mk (by have:=j.lt;omega)⟩
     case measure=>simp[intOf]
    ·have hc:0<=cmpN R D:=(by unfold cmpN;split;omega;split <;> omega);have aw:=Zrg R D;have g:=Ygn P.out ai.out (by rw[<-u.out];exact hge) x.out;rw[<-u.out]at g;have y:=JZ g;have M:=JZ hge;have ax:=Ygr K (Zzp v I) a5.out;have a6:=JZ (Ygm (show J<32 by omega) (Zzp v I) a5.out);have ay:=Vl K;have al:=Wz J;generalize cmpN R D=cc at *;clear g hge;go_wp2_with fail;refine(Zbc _ _ _ _ _ T E (by rw[Zn,Zn];exact M.out) (Zu M.out) Qk).mono ?_;rw[Zn,Zn];rintro e w4 ⟨k4,l4,rfl,d4,f⟩;have o4:Off w1.heap.size (.slice (some ⟨w3.heap.size,0,none⟩) k4 l4):=Off.mk (by have:=j.lt;omega);have U:=j.below f j.lt;have a7:=E.below f;have a8:=Za a f a.size;clear T E j a f;have ho:=U.cell (k:=I) Qk;have hf:=U.frozen I;rw[Yx]at ho;have V:=U.set_ I (dg Q I+2^J);have d5:=d4.far o4 I (.int .u32 ((dg Q I+2^J:Nat):Int));have ak:=a7.far oD I (.int .u32 ((dg Q I+2^J:Nat):Int));have N:=a8.setCell (p:=⟨w1.heap.size,I,none⟩) af (.int .u32 ((dg Q I+2^J:Nat):Int));generalize((dg Q I+2^J:Nat):Int)=G at *;clear a7 d4;go_wp2_with fail;refine(Zol _ _ _ ak F).mono ?_;rw[Zn];rintro e w6 ⟨k6,l6,rfl,d6,a0⟩;rw[World.size_setCell]at d6;go_wp2;go_roundw
     case rel=>exact⟨(i:Int) - 1,Q.set I (dg Q I+2^J),R - D,D/2,Qk,Qk,rfl,d5.below a0,d6,by rw[show((i:Int) - 1+1).toNat=i by omega,<-u.out],by rw[show((i:Int) - 1+1).toNat=i by omega,<-u.out];exact y.out.2.1,by rw[L.out Qk];exact y.out.1,by rw[show((i:Int) - 1+1).toNat=i by omega,L.out Qk];exact y.out.2.2,V.below a0 V.lt,ZK v _ a6.out,by simpa using hQ,by simpa using Z,Za N a0 N.size,JW (Zu (Nat.sub_le _ _)) ab,JW (Zu (dO _ _)) F,o4,Off.mk (by have:=V.lt;rw[World.size_setCell]at this;omega)⟩
     case measure=>simp[intOf]
def UV{ops:Array Oper}{o:Oper}{a:Act}{K:Act->World->Prop}{Q:Exit->Act->World->Prop}{E:Prop}(hgd:o.guard=none)(x:Operand)
 (ho:o.op= .call { callee:= .builtin .append,args:=#[.const (.slice none 0 0),x],argTypes:=#[45,45] })
 (w:World) (A:Option Addr) (n c:Nat) (ds:List Nat) (hx:a.eval x= .slice A n c) (h:ZP w (.slice A n c) ds) (hs:ds.length<=549755813888)
 (hK:∀v' w',w'.ownsRow w.heap.size 71 1 v' ds.length (ds.map uc)->Below w.heap.size w w'->K (a.put o.dst v') w'):
 if Region.wanted o (yielded ops a.tmps)=true then Oper.wp prog o a w K Q else E:=by
 have hw:Region.wanted o (yielded ops a.tmps)=true:=by simp[Region.wanted,hgd]
 rw[jB hw];exact Zco x ho w A n c ds hx h hs hK
def Bk.snd{w:World}{g:Nat}{t:TypeId}{a b:Value}(h:Bk w g t [a,b]):w.cell? ⟨g,1,none⟩=some b:=h.two.2.1
def Yqm(G:Nat)(w:World)(Y:Nat)(s t:Value)(wr:World):Prop:=
 ∃X,ZP wr s (Zp X)/\ZP wr t (Zp Y)/\Nat.gcd X Y=G/\(Zp X).length<=137438953472/\(Zp Y).length<=137438953472/\Below w.heap.size w wr/\Bk wr (w.heap.size+1+1) 47 [.bool false,.slice none 0 0]
def Ygt(v1 v2:Value)(a b:RI)(w:World)(h1:Yp w v1 a)(h2:Yp w v2 b)(hs:(Zp (val a.ds)).length<=137438953472)(hs2:(Zp (val b.ds)).length<=137438953472):
 Calls prog 77 #[v1,v2] w λe w'=>∃v',e= .returned v'/\Yp w' v' (canI (Nat.gcd (val a.ds) (val b.ds):Nat))/\Below w.heap.size w w':=by
 obtain⟨A,n,c,rfl,hd⟩:=h1.shape;obtain⟨A',n',c',rfl,v⟩:=h2.shape;obtain⟨W,hW,hX,hY,hR,d⟩:=Ykx w (.bool a.neg) (.slice A n c) (.bool b.neg) (.slice A' n' c');have d1:=hd.below d;have d2:=v.below d;obtain⟨G,hG⟩:∃G,G=Nat.gcd (val a.ds) (val b.ds):=⟨_,rfl⟩;rw[<-hG];have HG:=JZ hG;clear hG;have p:True:=trivial;go_enter func77,ntmps77;go_wp2_with fail;clear hW
 go_region_held3(λw'=>w'.cell? ⟨w.heap.size,1,none⟩=some (.slice A n c)/\w'.cell? ⟨w.heap.size+1,1,none⟩=some (.slice A' n' c'))
  (first|with_reducible exact⟨hX.drew.snd,hY.drew.snd⟩|with_reducible exact⟨(hX.drew.later f).snd,(hY.drew.later f).snd⟩|with_reducible exact⟨((hX.drew.later f).later h).snd,((hY.drew.later f).later h).snd⟩)
  (first
   |(go_at_call 115;have _t:=p;refine(YN _ a.ds _ (d1.keep (ZI.drew _))).mono ?_;clear p _t;rintro e w3 ⟨v3,rfl,e3,rfl⟩;obtain⟨A3,n3,k3,rfl⟩:=e3.shape)
   |(go_at_call 115;refine(YN _ b.ds _ ((d2.keep (ZI.drew _)).below f)).mono ?_;rintro e w3 ⟨v4,rfl,e4,rfl⟩;obtain⟨A4,n4,k4,rfl⟩:=e4.shape)
   |(refine UV rfl (.tmp 15) rfl _ A4 n4 k4 (Zp (val b.ds)) rfl e4 Qk ?_;intro v2 w2 o2 h)
   |(refine UV rfl (.tmp 11) rfl _ A3 n3 k3 (Zp (val a.ds)) rfl e3 Qk ?_;intro v1 w1 o1 f))
 have dx:=(VX o1 (Z8 _)).below h;have dy:=VX o2 (Z8 _);have q:=(hR.drew.later f).later h;have l:=Za d.drew f d.size;have i:=Za l h l.size;clear o1 o2 l f h e3 e4 d1 d2 hd v h1 h2 hX hY hR d;go_wp2
 go_loopg [5,6] (val b.ds) (λk s t wr=>Yqm G w k s t wr)
 case atStart=>exact⟨_,dx,dy,HG.out.symm,hs,hs2,i,q⟩
 case round=>
  obtain⟨X,dX,dY,j,y,o,d,hR⟩:=hrel;have r:=JZ j;clear j dx dy i q;obtain⟨A3,n3,k3,rfl⟩:=dY.shape;obtain⟨kl,x,z,kc⟩:=dY.len;rcases JV n3 with h0|h0
  ·have hv:gk=0:=WT Qk;have HV:=JZ hv;subst h0;clear hv kl x;go_wp2_with fail;refine(Uo false _ X _ dX Qk).mono ?_;rw[show sm false X=(G:Int) by have:=r.out;rw[HV.out,Nat.gcd_zero_right]at this;rw[this];rfl];rintro e w3 ⟨v3,rfl,e3,g⟩;obtain⟨A1,n1,k1,rfl,_⟩:=e3.shape;have m:=hR.later g;obtain⟨c0,c1,f0,f1⟩:=m.two;go_wp2;refine Zq results77 underlying47 Qm rfl (m.set2 _ _) rfl ?_;exact YX m e3 (Za d g d.size) Qk
  ·have hv:gk≠0:=UN Qk;have HV:=JZ hv;clear hv kl x;go_wp2_with fail;have hc:=Zbe _ _ (Zp X) (Zp gk) _ dX dY (by rw[Zn];exact HV.out) (by rw[Zn];exact y) o;rw[Zn,Zn]at hc;refine hc.mono ?_;clear hc;rintro e w3 ⟨v3,v4,rfl,d3,d4,g⟩;have u:=iC X (vI HV.out);go_wp2
   go_roundg (X%gk)
   case measure=>exact u
   case rel=>exact⟨gk,dY.below g,d4,by rw[<-r.out,bK X gk,Bb gk X,bK],o,JW (Zu (jZ u)) o,Za d g d.size,hR.later g⟩
def Yay(z:Int)(w:World)(e:Ending)(w':World):Prop:=∃q r,e= .returned (.tuple #[q,r,.int .i64 0])/\Yp w' q (canI z)/\Yp w' r (canI 0)/\Below w.heap.size w w'
def YP{a b:Bool}(h:b=a):Ending.returned (.bool a)= .returned (.bool b):=by rw[h]
namespace Pl
def Ygu{x y:Int}(hy:y≠0)(h:y∣x):sm (decide (x<0) !=decide (y<0)) (x.natAbs/y.natAbs)=x/y/\x.natAbs%y.natAbs=0:=by
 obtain⟨k,rfl⟩:=h;rw[kD,Nat.mul_div_cancel_left _ Qk,vF _ hy,Nat.mul_mod_right];refine⟨?_,rfl⟩;rcases BV hy with h|h <;> rcases jm k 0 with g|g|g
 ·have:=Int.mul_pos_of_neg_of_neg h g;rw[kw Qk,kE h];simp[sm];omega
 ·subst g;simp[sm]
 ·have:=Int.mul_neg_of_neg_of_pos h g;rw[kE this,kE h];simp[sm];omega
 ·have:=fD h g;rw[kE this,kw Qk];simp[sm];omega
 ·subst g;simp[sm]
 ·have:=aD h g;rw[kw Qk,kw Qk];simp[sm];omega
end Pl
def Yqn(x y:Int)(w:World)(wx:World)(A A':Option Addr)(n c n' c':Nat):Prop:=
 Yql x y w wx A A' n c n' c'/\Bk wx (w.heap.size+1+1) 47 [.bool false,.slice none 0 0]/\Bk wx (w.heap.size+1+1+1) 47 [.bool false,.slice none 0 0]
def Yp.zero_len{w:World}{b:Bool}{A:Option Addr}{n c:Nat}(h:Yp w (.agg #[.bool b,.slice A n c]) (canI 0)):n=0:=by
 obtain⟨d,_⟩:=h.dig;have:=d.len;rw[canI_zero]at this;simp at this;omega
def size_drew(w:World):w.drew.heap.size=w.heap.size:=rfl
def Vm{w w':World}(h:Below w.heap.size w w')(o:Obj):Below w.heap.size w (w'.alloc o):=h.alloc h.size o
def Xc{w w1 w2:World}(h:Below w.heap.size w w1)(h2:Below w1.heap.size w1 w2):Below w.heap.size w w2:=Za h h2 h.size
def Uq{w w':World}(h:Below w.heap.size w w'):Below w.heap.size w w'.drew:=h.drew
def Zrv{w w':World}(h:Below w.heap.size w w'){g:Nat}(hg:w.heap.size<=g)(k:Nat)(u:Value):Below w.heap.size w (w'.setCell ⟨g,k,none⟩ u):=h.setCell hg u
def Zkb{w w':World}(h:ZI w w')(o:Obj):ZI w (w'.alloc o):=h.trans (ZI.alloc _ _)
def Zon{w w1 w2:World}(h:ZI w w1)(h2:Below w1.heap.size w1 w2):ZI w w2:=h.trans (ZI.of_below h2)
def Zoo{w w':World}{g:Nat}{t:TypeId}{x y:Value}(h:ZI w w')(hb:Bk w' g t [x,y])(ht:t≠71)(c d:Value):ZI w ((w'.setCell ⟨g,0,none⟩ c).setCell ⟨g,1,none⟩ d):=h.trans (hb.keep2 ht c d)
def Zlu(w:World)(a b:Addr)(u v:Value):w.heap.size=((w.setCell a u).setCell b v).heap.size:=by simp
def Bk.made{w:World}{g:Nat}{t:TypeId}{cs:List Value}(h:g=w.heap.size):Bk (w.alloc (.cells cs.toArray t)) g t cs:=by subst h;exact Bk.new w t cs
def Bk.on{w w':World}{g:Nat}{t:TypeId}{cs:List Value}(h:Bk w g t cs)(hb:Below w.heap.size w w'):Bk w' g t cs:=h.later hb
def Zcr(v1 v2:Value)(a b:RI)(w:World)(h1:Yp w v1 a)(h2:Yp w v2 b)(hs:(Zp (val a.ds)).length<=137438953472)(hs2:(Zp (val b.ds)).length<=137438953472)(hz:b.z≠0)(hdv:b.z∣a.z):
 Calls prog 78 #[v1,v2] w (Yay (a.z/b.z) w):=by
 obtain⟨A,n,c,rfl,hd⟩:=h1.shape;obtain⟨A',n',c',rfl,a7⟩:=h2.shape;obtain⟨W,hW,hX,hY,hR,F,i⟩:=Yla w (.bool a.neg) (.slice A n c) (.bool b.neg) (.slice A' n' c');have i1:=h1.below i;have i2:=h2.below i;have I:w.heap.size≠w.heap.size+1:=Qk
 have J:w.heap.size+1+1≠w.heap.size:=Qk
 have K:w.heap.size+1+1≠w.heap.size+1:=Qk
 have L:w.heap.size+1+1+1≠w.heap.size:=Qk
 have M:w.heap.size+1+1+1≠w.heap.size+1:=Qk
 have l:True:=trivial;have HS:=JZ (Ygu hz hdv);have u:=JZ hz;have la:(Zp a.z.natAbs).length<=137438953472:=by rw[ZT];exact hs
 have lb:(Zp b.z.natAbs).length<=137438953472:=by rw[ZT];exact hs2
 obtain⟨x0,x1,f0,f1⟩:=hX.two;obtain⟨y0,y1,k0,k1⟩:=hY.two;clear hz hdv;go_enter func78,ntmps78;go_wp2_with fail;clear hW
 go_upto_region 1 with(fail)
 go_cut [] (λwx=>∃(A A':Option Addr) (n c n' c':Nat),Yqn a.z b.z w wx A A' n c n' c')
 case first=>
  go_region_with (first
   |(go_at_call 79;have _t:=l;refine(Zam _ a _ (i1.keep (ZI.drew _)) Qk).mono ?_;clear l _t;rintro e w6 ⟨v6,rfl,e6,f⟩;obtain⟨A6,n6,k6,rfl,_⟩:=e6.shape;obtain⟨b6,b7,_,_⟩:=(hY.drew.later f).two)
   |(go_at_call 79;refine(Zam _ b _ ((i2.keep (ZI.drew _)).below f) Qk).mono ?_;rintro e w7 ⟨v7,rfl,e7,g⟩;obtain⟨A7,n7,k7,rfl,_⟩:=e7.shape;obtain⟨c0,c1,r0,r1⟩:=((hX.drew.later f).later g).two;obtain⟨a8,a9,b8,b9⟩:=((hY.drew.later f).later g).two))
  all_goals
   go_wp2_with fail
   go_meet
   obtain⟨a1,a2,a3,a4,a5⟩:=Xg ((hX.drew.later f).later g) ((hY.drew.later f).later g) I (e6.below g) e7 (Za (Za i.drew f i.size) g (JW i.size f.size)) Qk Qk;exact⟨A6,A7,n6,k6,n7,k7,⟨a1,a2,a3.dig.1,a4.dig.1,a5⟩,(((hR.drew.later f).later g).far2 J _ _).far2 K _ _,(((F.drew.later f).later g).far2 L _ _).far2 M _ _⟩
 case rest=>
  obtain⟨B,B',m,d,m',d',⟨bX,bY,dX,dY,be⟩,bR,G⟩:=hcut;clear x0 x1 f0 f1 y0 y1 k0 k1 hX hY i i1 i2 h1 h2 hd a7 hR F hs hs2;obtain⟨x0,x1,_,_⟩:=bX.two;obtain⟨y0,y1,_,_⟩:=bY.two;obtain⟨kl,aa,ab,kc⟩:=dY.len;have b3:0<m':=by
   have:=Xe (n:=b.z.natAbs) (by have:=u.out;omega);omega
  have N:((m':Int)==0)=false:=by simp;omega
  clear kl aa ab kc;go_wp2_with fail;have hc:=Zbe _ _ _ _ _ dX dY (by rw[Zn];have:=u.out;omega) (by rw[Zn];exact la) lb;rw[Zn,Zn]at hc;refine hc.mono ?_;clear hc;rintro e w3 ⟨v3,v4,rfl,d3,d4,j⟩;rw[HS.out.2]at d4;have q:=bX.later j;have r:=bY.later j;have v:=bR.later j;have k:=G.later j;have s:=Za be j be.size;have lq:(Zp (a.z.natAbs/b.z.natAbs)).length<=549755813888:=JW (Zu (dO _ _)) Qk;have l0:(Zp 0).length<=549755813888:=by rw[digs_zero];decide
  clear bX bY bR G be dX dY j x0 x1 y0 y1 N;go_wp2_with fail
  go_upto_region 5 with(fail)
  go_cut [9,10] (λs9 s10 wx=>∃(g9 h:Nat) (A6 A7:Option Addr) (n6 k6 n7 k7:Nat) (nb o:Bool),s9= .pointer (some ⟨g9,0,none⟩)/\s10= .pointer (some ⟨h,0,none⟩)/\Bk wx g9 47 [.bool nb,.slice A6 n6 k6]/\Bk wx h 47 [.bool o,.slice A7 n7 k7]/\Yp wx (.agg #[.bool nb,.slice A6 n6 k6]) (canI (a.z/b.z))/\Yp wx (.agg #[.bool o,.slice A7 n7 k7]) (canI 0)/\Below w3.heap.size w3 wx/\w3.heap.size<=g9/\w3.heap.size<=h)
  case first=>
   go_region_held3(λw'=>w'.cell? ⟨w.heap.size,0,none⟩=some (.bool (decide (a.z<0)))/\w'.cell? ⟨w.heap.size+1,0,none⟩=some (.bool (decide (b.z<0))))
    (exact⟨(q.later (by(repeat(first|(with_reducible exact JR _ _)|(with_reducible refine Vm ?_ _)|(with_reducible refine Uq ?_)|(with_reducible refine Xc ?_ g)|(with_reducible refine Xc ?_ f)|(with_reducible refine Zrv ?_ (by first|omega|(simp;omega)) _ _))))).two.1,(r.later (by(repeat(first|(with_reducible exact JR _ _)|(with_reducible refine Vm ?_ _)|(with_reducible refine Uq ?_)|(with_reducible refine Xc ?_ g)|(with_reducible refine Xc ?_ f)|(with_reducible refine Zrv ?_ (by first|omega|(simp;omega)) _ _))))).two.1⟩)
    (first
     |(go_at_call 80;have _t:=l;refine(Uo _ _ _ _ (d3.below (by(repeat(first|(with_reducible exact JR _ _)|(with_reducible refine Vm ?_ _)|(with_reducible refine Uq ?_)|(with_reducible refine Xc ?_ g)|(with_reducible refine Xc ?_ f))))) lq).mono ?_;clear l _t;rintro e w6 ⟨v6,rfl,e6,f⟩;obtain⟨A6,n6,k6,rfl,_⟩:=e6.shape;have s6:w3.heap.size<=w6.heap.size:=(by have:=f.size;first|exact this|omega|(simp at this;omega));(try((first|(with_reducible have bA:=Bk.on (Bk.made (cs:=[.bool false,.slice none 0 0]) rfl) f)|(with_reducible have bA:=Bk.on (Bk.drew (Bk.made (cs:=[.bool false,.slice none 0 0]) rfl)) f));obtain⟨ac,ad,ae,af⟩:=bA.two;have O:=bA.lt;(try simp only[size_alloc,size_drew]at ac ad ae af O)));(try((first|(with_reducible have bB:=Bk.on (Bk.alloc (Bk.made (cs:=[.bool false,.slice none 0 0]) rfl) _) f)|(with_reducible have bB:=Bk.on (Bk.drew (Bk.alloc (Bk.made (cs:=[.bool false,.slice none 0 0]) rfl) _)) f));obtain⟨ag,ah,ai,aj⟩:=bB.two;have P:=bB.lt;(try simp only[size_alloc,size_drew]at ag ah ai aj P))))
     |(go_at_call 80;refine(Uo _ _ _ _ (d4.below (by(repeat(first|(with_reducible exact JR _ _)|(with_reducible refine Vm ?_ _)|(with_reducible refine Uq ?_)|(with_reducible refine Xc ?_ g)|(with_reducible refine Xc ?_ f))))) l0).mono ?_;rw[Zek];rintro e w7 ⟨v7,rfl,e7,g⟩;obtain⟨A7,n7,k7,rfl,_⟩:=e7.shape;have s7:w6.heap.size<=w7.heap.size:=(by have:=g.size;first|exact this|omega|(simp at this;omega));(try((with_reducible have bC:=Bk.on (Bk.made (cs:=[.bool false,.slice none 0 0]) rfl) g);obtain⟨ak,al,am,an⟩:=bC.two;have R:=bC.lt;(try simp only[size_alloc,size_drew]at ak al am an R)));(try((with_reducible have bD:=Bk.on (Bk.alloc (Bk.made (cs:=[.bool false,.slice none 0 0]) rfl) _) g);obtain⟨ao,ap,aq,ar⟩:=bD.two;have S:=bD.lt;(try simp only[size_alloc,size_drew]at ao ap aq ar S)));(try(have bE:=bA.on (show Below w6.heap.size w6 w7 from by(repeat(first|(with_reducible exact JR _ _)|(with_reducible refine Vm ?_ _)|(with_reducible refine Uq ?_)|(with_reducible refine Xc ?_ g)|(with_reducible refine Xc ?_ f))));obtain⟨au,av,aw,ax⟩:=bE.two;have T:=bE.lt;(try simp only[size_alloc,size_drew]at au av aw ax T)));(try(have bF:=bB.on (show Below w6.heap.size w6 w7 from by(repeat(first|(with_reducible exact JR _ _)|(with_reducible refine Vm ?_ _)|(with_reducible refine Uq ?_)|(with_reducible refine Xc ?_ g)|(with_reducible refine Xc ?_ f))));obtain⟨ay,az,b0,b1⟩:=bF.two;have U:=bF.lt;(try simp only[size_alloc,size_drew]at ay az b0 b1 U)))))
   all_goals
    go_wp2_with fail
    go_meet
    have hq:canI (a.z/b.z)=canI (sm (!decide (a.z<0)==decide (b.z<0)) (a.z.natAbs/b.z.natAbs)):=(by rw[<-HS.out.1];rfl);rw[hq];clear hq;refine⟨_,_,A6,A7,n6,k6,n7,k7,_,_,rfl,rfl,?_,?_,e6.keep ?_,e7.keep ?_,?_,Qk,Qk⟩
    ·(repeat(first|(with_reducible exact Bk.made rfl)|(with_reducible exact Bk.made (size_alloc _ _).symm)|(with_reducible exact Bk.made (Zlu _ _ _ _ _))|(with_reducible refine Bk.set2 (a:= .bool false) (b:= .slice none 0 0) ?_ _ _)|(with_reducible refine Bk.far2 ?_ (by first|omega|(simp;omega)) _ _)|(with_reducible refine Bk.alloc ?_ _)|(with_reducible refine Bk.drew ?_)|(with_reducible refine Bk.on ?_ g)|(with_reducible refine Bk.on ?_ f)))
    ·(repeat(first|(with_reducible exact Bk.made rfl)|(with_reducible exact Bk.made (size_alloc _ _).symm)|(with_reducible exact Bk.made (Zlu _ _ _ _ _))|(with_reducible refine Bk.set2 (a:= .bool false) (b:= .slice none 0 0) ?_ _ _)|(with_reducible refine Bk.far2 ?_ (by first|omega|(simp;omega)) _ _)|(with_reducible refine Bk.alloc ?_ _)|(with_reducible refine Bk.drew ?_)|(with_reducible refine Bk.on ?_ g)|(with_reducible refine Bk.on ?_ f)))
    ·(repeat(first|(with_reducible exact ZI.refl _)|(with_reducible refine Zkb ?_ _)|(with_reducible refine Zon ?_ g)|with_reducible refine Zoo (t:=47) (x:= .bool false) (y:= .slice none 0 0) ?_ (by(repeat(first|(with_reducible exact Bk.made rfl)|(with_reducible exact Bk.made (size_alloc _ _).symm)|(with_reducible exact Bk.made (Zlu _ _ _ _ _))|(with_reducible refine Bk.set2 (a:= .bool false) (b:= .slice none 0 0) ?_ _ _)|(with_reducible refine Bk.far2 ?_ (by first|omega|(simp;omega)) _ _)|(with_reducible refine Bk.alloc ?_ _)|(with_reducible refine Bk.drew ?_)|(with_reducible refine Bk.on ?_ g)|(with_reducible refine Bk.on ?_ f)))) Ql _ _))
    ·(repeat(first|(with_reducible exact ZI.refl _)|(with_reducible refine Zkb ?_ _)|(with_reducible refine Zon ?_ g)|with_reducible refine Zoo (t:=47) (x:= .bool false) (y:= .slice none 0 0) ?_ (by(repeat(first|(with_reducible exact Bk.made rfl)|(with_reducible exact Bk.made (size_alloc _ _).symm)|(with_reducible exact Bk.made (Zlu _ _ _ _ _))|(with_reducible refine Bk.set2 (a:= .bool false) (b:= .slice none 0 0) ?_ _ _)|(with_reducible refine Bk.far2 ?_ (by first|omega|(simp;omega)) _ _)|(with_reducible refine Bk.alloc ?_ _)|(with_reducible refine Bk.drew ?_)|(with_reducible refine Bk.on ?_ g)|(with_reducible refine Bk.on ?_ f)))) Ql _ _))
    ·(repeat(first|(with_reducible exact JR _ _)|(with_reducible refine Vm ?_ _)|(with_reducible refine Uq ?_)|(with_reducible refine Xc ?_ g)|(with_reducible refine Xc ?_ f)|(with_reducible refine Zrv ?_ (by first|omega|(simp;omega)) _ _)))
  case rest=>
   obtain⟨g9,h,A6,A7,n6,k6,n7,k7,nb,o,rfl,rfl,bQ,bE,iQ,iE,f,b2,H⟩:=hcut;have V:=k.lt;have X:=iE.zero_len;subst X;have b4:=q.later f;have b5:=r.later f;have C:=v.later f;have p:=k.later f;have Y:=Za s f s.size;clear q r v k s f d3 d4 HS;obtain⟨q0,q1,_,_⟩:=bQ.two;obtain⟨r0,r1,_,_⟩:=bE.two;obtain⟨c0,c1,f0,f1⟩:=C.two;obtain⟨a8,a9,ba,bb⟩:=p.two;have D:w.heap.size+1+1≠g9:=Qk;have E:w.heap.size+1+1≠h:=Qk;have Z:w.heap.size+1+1+1≠g9:=Qk;have a0:w.heap.size+1+1+1≠h:=Qk;have a6:w.heap.size+1+1≠w.heap.size+1+1+1:=Qk;clear V b2 H;go_wp2
   go_region_held3(λw'=>(w'.cell? ⟨g9,0,none⟩=some (.bool nb)/\w'.cell? ⟨g9,1,none⟩=some (.slice A6 n6 k6))/\(w'.cell? ⟨h,0,none⟩=some (.bool o)/\w'.cell? ⟨h,1,none⟩=some (.slice A7 0 k7)))
    (first|with_reducible exact⟨bQ.drew.pair,bE.drew.pair⟩|with_reducible exact⟨(bQ.far2 (bL D) _ _).drew.pair,(bE.far2 (bL E) _ _).drew.pair⟩|with_reducible exact⟨((bQ.far2 (bL D) _ _).far2 (bL Z) _ _).drew.pair,((bE.far2 (bL E) _ _).far2 (bL a0) _ _).drew.pair⟩)
    (fail)
   go_wp2;obtain⟨a1,a2,a3,a4,a5⟩:=Xg C.drew p.drew a6 (iQ.keep (ZI.drew _)) (iE.keep (ZI.drew _)) Y.drew Qk Qk;refine WL results78 underlying47 underlying47 Qm Qm rfl rfl a1 a2 rfl ?_;exact⟨_,_,rfl,a3,a4,a5⟩
def WM(base:Nat)(w:World)(v:Value)(f:RF):Prop:=Zx w v f/\∃b s b' s',v= .agg #[b,s,b',s']/\w.ownsRow base 71 1 s f.num.ds.length (f.num.ds.map uc)
def WM.keep{base:Nat}{w w':World}{v:Value}{f:RF}(h:WM base w v f)(hk:ZI w w'):WM base w' v f:=by
 obtain⟨h0,b,s,b',s',h1,h2⟩:=h;exact⟨h0.keep hk,b,s,b',s',h1,Zul h2 hk⟩
def WM.below{base:Nat}{w w':World}{v:Value}{f:RF}(h:WM base w v f)(hb:Below w.heap.size w w'):WM base w' v f:=h.keep (ZI.of_below hb)
def WM.mono{base base':Nat}{w:World}{v:Value}{f:RF}(h:WM base w v f)(hb:base'<=base):WM base' w v f:=by
 obtain⟨h0,b,s,b',s',h1,h2⟩:=h;exact⟨h0,b,s,b',s',h1,Zum h2 hb⟩
def WM.mk{base:Nat}{w:World}{b b' s s':Value}{x y:RI}(h1:Zjk base w (.agg #[b,s]) x)(h2:Yp w (.agg #[b',s']) y):WM base w (.agg #[b,s,b',s']) ⟨x,y⟩:=by
 obtain⟨A,n,c,e,d⟩:=h1.int.shape;obtain⟨A',n',c',e',d'⟩:=h2.shape;simp at e e';obtain⟨rfl,rfl⟩:=e;obtain⟨rfl,rfl⟩:=e';obtain⟨t,e,o,_⟩:=h1;simp at e;subst e;exact⟨⟨_,_,_,_,_,_,rfl,d,d'⟩,_,_,_,_,rfl,o⟩
def WB{w w2:World}{base m g:Nat}{x y z u b s b' s':Value}{a:RF}(hR:Bk w2 g 49 [x,y,z,u])(d:WM base w2 (.agg #[b,s,b',s']) a)(hbe:Below m w w2)(hg:m<=g):
 ∃v',Ending.returned (.agg [b,s,b',s'].toArray)= .returned v'/\WM base ((((w2.setCell ⟨g,0,none⟩ b).setCell ⟨g,1,none⟩ s).setCell ⟨g,2,none⟩ b').setCell ⟨g,3,none⟩ s') v' a/\Below m w ((((w2.setCell ⟨g,0,none⟩ b).setCell ⟨g,1,none⟩ s).setCell ⟨g,2,none⟩ b').setCell ⟨g,3,none⟩ s'):=
 ⟨_,rfl,d.keep (hR.keep4 Ql _ _ _ _),ZE hbe hg _ _ _ _⟩
namespace Pl
def canF_zero:canF 0=⟨canI 0,canI 1⟩:=by
 unfold canF;rfl
def Ysv(x y:RI):Nat.gcd (val x.ds) (val y.ds)=Int.gcd x.z y.z:=by
 unfold Int.gcd;rw[ZT,ZT]
end Pl
def NewAt(a b:RI)(w:World)(x y:RI)(wx:World)(B B':Option Addr)(m d m' d':Nat):Prop:=
 Bk wx w.heap.size 47 [.bool x.neg,.slice B m d]/\Bk wx (w.heap.size+1) 47 [.bool y.neg,.slice B' m' d']/\Bk wx (w.heap.size+1+1) 49 [.bool false,.slice none 0 0,.bool false,.slice none 0 0]/\Below w.heap.size w wx/\
 Yp wx (.agg #[.bool x.neg,.slice B m d]) x/\Yp wx (.agg #[.bool y.neg,.slice B' m' d']) y/\0<y.z/\Rat.divInt x.z y.z=Rat.divInt a.z b.z/\(Zp (val x.ds)).length<=137438953472/\(Zp (val y.ds)).length<=137438953472
def Zcs(v1 v2:Value)(a b:RI)(w:World)(h1:Yp w v1 a)(h2:Yp w v2 b)(hs:(Zp (val a.ds)).length<=137438953472)(hs2:(Zp (val b.ds)).length<=137438953472):
 Calls prog 40 #[v1,v2] w λe w'=>∃v',e= .returned v'/\WM w.heap.size w' v' (canF (Rat.divInt a.z b.z))/\Below w.heap.size w w':=by
 obtain⟨A,n,c,rfl,hd⟩:=h1.shape;obtain⟨A',n',c',rfl,bt⟩:=h2.shape;obtain⟨W,hW,hX,bb,hR,N⟩:=Yss w (.bool a.neg) (.slice A n c) (.bool b.neg) (.slice A' n' c');have e1:=h1.below N;have e2:=h2.below N;clear hd bt h1 h2;go_enter func40,ntmps40;go_wp2_with fail;clear hW;refine(VZ 1 _ Qk Qk).mono ?_;rintro e w0 ⟨v0,rfl,iO,aq⟩;obtain⟨A0,n0,k0,rfl,_⟩:=iO.shape;have bO:=Bk.new w0 47 [.bool (canI 1).neg,.slice A0 n0 k0];have bn:=Ze w0 (.cells [.bool (canI 1).neg,.slice A0 n0 k0].toArray 47);have h:=Za aq bn aq.size;have ar:=hX.later h;have H:=bb.later h;have au:=hR.later h;have I:=Za N h N.size;have av:=e1.below h;have Z:=e2.below h;have aw:=iO.below bn;obtain⟨y0,y1,_,_⟩:=H.two;clear hX bb hR N e1 e2 aq h bn iO;generalize bh:canI 1=T at *;have V:=JZ bh;clear bh;go_wp2_with fail;generalize w0.alloc _=W0 at *;refine(Zcq _ b _ Z Qk).mono ?_;rintro e w1 ⟨rfl,k⟩;have a0:=ar.later k;have X:=H.later k;have C:=au.later k;have a6:=bO.later k;have a7:=aw.below k;have u:=Za I k I.size;have a8:=av.below k;have ax:=Z.below k;clear ar H au I av Z k y0 y1 bO aw;have i:∀(W:World),Bk W (w.heap.size+1+1) 49 [.bool false,.slice none 0 0,.bool false,.slice none 0 0]->Yp W (.agg #[.bool T.neg,.slice A0 n0 k0]) T->Below w.heap.size w W->Rat.divInt a.z b.z=0->
  ∃v',Ending.returned (.agg [.bool false,.slice none 0 0,.bool T.neg,.slice A0 n0 k0].toArray)= .returned v'/\WM w.heap.size ((((W.setCell ⟨w.heap.size+1+1,0,none⟩ (.bool false)).setCell ⟨w.heap.size+1+1,1,none⟩ (.slice none 0 0)).setCell ⟨w.heap.size+1+1,2,none⟩ (.bool T.neg)).setCell ⟨w.heap.size+1+1,3,none⟩ (.slice A0 n0 k0)) v' (canF (Rat.divInt a.z b.z))/\Below w.heap.size w ((((W.setCell ⟨w.heap.size+1+1,0,none⟩ (.bool false)).setCell ⟨w.heap.size+1+1,1,none⟩ (.slice none 0 0)).setCell ⟨w.heap.size+1+1,2,none⟩ (.bool T.neg)).setCell ⟨w.heap.size+1+1,3,none⟩ (.slice A0 n0 k0)):=by
  intro W hR hI hb hz;refine WB hR ?_ hb Qk;rw[hz,canF_zero,V.out];exact WM.mk (Zjk.zero _ _) hI
 have a9:=JZ i;clear i;by_cases R:b.z=0
 ·have ay:sgn b.z=0:=by rw[R,sgn_zero]
  have HZ:Hid (Rat.divInt a.z b.z=0):=JZ (by rw[R,BA]);clear R;obtain⟨o0,o1,_,_⟩:=a6.two;obtain⟨c0,c1,c2,c3⟩:=C.four;obtain⟨f0,f1,f2,f3⟩:=C.fourF;go_wp2;refine Zq results40 underlying49 Qm rfl (C.set4 _ _ _ _) rfl ?_;exact a9.out _ C a7 u HZ.out
 ·have ay:(sgn b.z==0)=false:=by unfold sgn;split;rfl;rfl
  have HB:=JZ R;clear R;obtain⟨x0,x1,_,_⟩:=a0.two;go_wp2_with fail;refine(Zcq _ a _ a8 Qk).mono ?_;rintro e w2 ⟨rfl,l⟩;have az:=a0.later l;have J:=X.later l;have D:=C.later l;have b0:=a6.later l;have b1:=a7.below l;have v:=Za u l u.size;have b2:=a8.below l;have aa:=ax.below l;clear a0 X C u a8 ax l a6 a7 x0 x1;by_cases S:a.z=0
  ·have b3:sgn a.z=0:=(by rw[S,sgn_zero]);have HZ:Hid (Rat.divInt a.z b.z=0):=JZ (by rw[S,bH]);clear S;obtain⟨o0,o1,_,_⟩:=b0.two;obtain⟨c0,c1,c2,c3⟩:=D.four;obtain⟨f0,f1,f2,f3⟩:=D.fourF;go_wp2;refine Zq results40 underlying49 Qm rfl (D.set4 _ _ _ _) rfl ?_;exact a9.out _ D b1 v HZ.out
  ·have b3:(sgn a.z==0)=false:=(by unfold sgn;split;rfl;rfl);have HA:=JZ S;clear S b0 b1 a9 V;obtain⟨y0,y1,_,_⟩:=J.two;go_wp2_with fail;refine(Zcq _ b _ aa Qk).mono ?_;rintro e w3 ⟨rfl,t⟩;have K:=az.later t;have j:=J.later t;have ab:=D.later t;have o:=Za v t v.size;have ac:=b2.below t;have ad:=aa.below t;clear az J D v b2 aa t y0 y1 ay b3;have E:True:=trivial
   go_upto_if 26 with(fail)
   go_cut [2,3] (λs2 s3 wx=>s2= .pointer (some ⟨w.heap.size,0,none⟩)/\s3= .pointer (some ⟨w.heap.size+1,0,none⟩)/\∃(x y:RI) (B B':Option Addr) (m d m' d':Nat),NewAt a b w x y wx B B' m d m' d')
   case first=>
    rcases jR b.z 0 with hz|hz
    ·have HN:=JZ hz;have b4:sgn b.z= -1:=UM hz;have bk:w.heap.size≠w.heap.size+1:=Qk;have bl:w.heap.size+1+1≠w.heap.size:=Qk;have bm:w.heap.size+1+1≠w.heap.size+1:=Qk;clear hz;obtain⟨x0,x1,f0,f1⟩:=K.two;obtain⟨y0,y1,k0,k1⟩:=j.two;go_wp2_with fail;clear b4
     go_region_with (first
      |(go_at_call 76;have _t:=E;refine(Zbo _ a _ (ac.keep (ZI.drew _)) Qk).mono ?_;clear E _t;rintro e w6 ⟨v6,rfl,e6,f⟩;obtain⟨A6,n6,k6,rfl,_⟩:=e6.shape;obtain⟨bw,bx,_,_⟩:=(j.drew.later f).two)
      |(go_at_call 76;refine(Zbo _ b _ ((ad.keep (ZI.drew _)).below f) Qk).mono ?_;rintro e w7 ⟨v7,rfl,e7,g⟩;obtain⟨A7,n7,k7,rfl,_⟩:=e7.shape;obtain⟨c0,c1,r0,r1⟩:=((K.drew.later f).later g).two;obtain⟨bz,c4,c5,c6⟩:=((j.drew.later f).later g).two))
     all_goals
      go_wp2_with fail
      go_meet
      obtain⟨a1,a2,a3,a4,a5⟩:=Xg ((K.drew.later f).later g) ((j.drew.later f).later g) bk (e6.below g) e7 (Za (Za o.drew f o.size) g (JW o.size f.size)) Qk Qk;refine⟨rfl,rfl,_,_,A6,A7,n6,k6,n7,k7,a1,a2,((((ab.drew.later f).later g).far2 bl _ _).far2 bm _ _),a5,a3,a4,?_,?_,?_,?_⟩
      ·rw[ZM];have:=HN.out;omega
      ·rw[ZM,ZM,dM]
      ·simp only[canI,Zn,gN,ZT];exact hs
      ·simp only[canI,Zn,gN,ZT];exact hs2
    ·have ae:0<b.z:=(by have:=HB.out;omega);have b4:sgn b.z=1:=Uk ae;have HZ:=JZ ae;clear hz ae;go_wp2_with fail
     go_meet
     exact⟨rfl,rfl,a,b,A,A',n,c,n',c',K,j,ab,o,ac,ad,HZ.out,rfl,hs,hs2⟩
   case rest=>
    obtain⟨rfl,rfl,x,y,B,B',m,d,m',d',aj,O,bc,P,ak,al,hy,bd,am,U⟩:=hcut;have HZ:=JZ hy;have bo:=JZ bd;clear hy bd K j ab o ac ad hs hs2 E;obtain⟨x0,x1,_,_⟩:=aj.two;obtain⟨y0,y1,_,_⟩:=O.two;go_wp2_with fail;refine(Ygt _ _ x y _ ak al am U).mono ?_;rw[Ysv];rintro e w6 ⟨v6,rfl,e6,f⟩;obtain⟨A6,n6,k6,rfl,_⟩:=e6.shape;have bX:=aj.later f;have bY:=O.later f;have bR:=bc.later f;have af:=Za P f P.size;have i1:=ak.below f;have i2:=al.below f;clear aj O bc P ak al f x0 x1 y0 y1;have gz:(canI (Int.gcd (RI.z x) (RI.z y):Nat)).z=(Int.gcd (RI.z x) (RI.z y):Nat):=ZM _;have gs:(Zp (val (canI (Int.gcd (RI.z x) (RI.z y):Nat)).ds)).length<=137438953472:=by
     rw[show val (canI (Int.gcd (RI.z x) (RI.z y):Nat)).ds=Int.gcd (RI.z x) (RI.z y)from by simp[canI,Zn]];refine JW (Zu (Nat.le_of_dvd ?_ (show Int.gcd (RI.z x) (RI.z y)∣val (RI.ds y)from by rw[<-ZT];exact Int.gcd_dvd_natAbs_right ..))) U;have:=HZ.out;have:=ZT y;omega
    generalize canI (Int.gcd (RI.z x) (RI.z y):Nat)=G at *;have GZ:=JZ gz;clear gz;have b5:G.z≠0:=by
     rw[GZ.out];have:=Int.gcd_pos_of_ne_zero_right (RI.z x) (show RI.z y≠0 by have:=HZ.out;omega);omega
    have b6:=JZ b5;clear b5;have bG:=Bk.new w6 47 [.bool G.neg,.slice A6 n6 k6];have bn:=Ze w6 (.cells [.bool G.neg,.slice A6 n6 k6].toArray 47);have cX:=bX.later bn;have cY:=bY.later bn;have cR:=bR.later bn;have ag:=Za af bn af.size;have j1:=i1.below bn;have j2:=i2.below bn;have j3:=e6.below bn;obtain⟨x0,x1,_,_⟩:=cX.two;obtain⟨y0,y1,_,_⟩:=cY.two;obtain⟨g0,g1,_,_⟩:=bG.two;clear bX bY bR af i1 i2 e6 bn;go_wp2_with fail;generalize w6.alloc _=W7 at *;refine(Zcr _ _ x G _ j1 j3 am gs b6.out (by rw[GZ.out];exact Bl ..)).mono ?_;rintro e w8 ⟨q,r,rfl,dq,dr,p⟩;obtain⟨A8,n8,k8,rfl,_⟩:=dq.shape;obtain⟨A9,n9,k9,rfl,_⟩:=dr.shape;have bX:=cX.later p;have bY:=cY.later p;have bR:=cR.later p;have b7:=bG.later p;have ah:=Za ag p ag.size;have i2:=j2.below p;have i3:=j3.below p;clear cX cY cR ag j1 j2 j3 bG p x0 x1 y0 y1 g0 g1;have bu:(Zp (val (canI (RI.z x/G.z)).ds)).length<=137438953472:=by
     rw[YM];refine JW (Zu (fE ..)) ?_;rw[ZT];exact am
    generalize canI 0=R1 at *;generalize bi:canI ((RI.z x)/G.z)=Q1 at *;have b8:=JZ bi;clear bi;have bQ:=(Bk.new w8 47 [.bool Q1.neg,.slice A8 n8 k8]).alloc (.cells #[.bool R1.neg,.slice A9 n9 k9] 47);have bn:=(Ze w8 (.cells [.bool Q1.neg,.slice A8 n8 k8].toArray 47)).alloc (by simp) (.cells #[.bool R1.neg,.slice A9 n9 k9] 47);have cX:=bX.later bn;have cY:=bY.later bn;have cR:=bR.later bn;have cG:=b7.later bn;have ai:=Za ah bn ah.size;have j2:=i2.below bn;have j3:=i3.below bn;have j4:=dq.below bn;obtain⟨y0,y1,_,_⟩:=cY.two;obtain⟨g0,g1,_,_⟩:=cG.two;obtain⟨q0,q1,_,_⟩:=bQ.two;clear bX bY bR b7 ah i2 i3 dq dr bn;go_wp2_with fail;generalize(w8.alloc _).alloc _=W9 at *;refine(Zcr _ _ y G _ j2 j3 U gs b6.out (by rw[GZ.out];exact dR ..)).mono ?_;rintro e F ⟨q',r',rfl,dq,dr,s⟩;obtain⟨an,ao,ap,rfl,_⟩:=dq.shape;obtain⟨be,bf,bg,rfl,_⟩:=dr.shape;have bR:=cR.later s;have Y:=bQ.later s;have L:=Za ai s ai.size;have i4:=j4.below s;clear cX cY cR cG ai j2 j3 j4 bQ s y0 y1 g0 g1 q0 q1;have bv:(Zp (val (canI (RI.z y/G.z)).ds)).length<=137438953472:=by
     rw[YM];refine JW (Zu (fE ..)) ?_;rw[ZT];exact U
    generalize canI 0=R2 at *;generalize bj:canI ((RI.z y)/G.z)=Q2 at *;have b9:=JZ bj;clear bj;have bD:=(Bk.new F 47 [.bool Q2.neg,.slice an ao ap]).alloc (.cells #[.bool R2.neg,.slice be bf bg] 47);have bn:=(Ze F (.cells [.bool Q2.neg,.slice an ao ap].toArray 47)).alloc (by simp) (.cells #[.bool R2.neg,.slice be bf bg] 47);have cR:=bR.later bn;have cQ:=Y.later bn;have M:=Za L bn L.size;have j4:=i4.below bn;have j5:=dq.below bn;clear bR Y L i4 dq dr bn;have bp:w8.heap.size≠w.heap.size+1+1:=cQ.ne_of cR Ql;have bq:F.heap.size≠w.heap.size+1+1:=bD.ne_of cR Ql;have E:True:=trivial;go_wp2_with fail;generalize(F.alloc _).alloc _=c7 at *
    go_region_held3(λw'=>(w'.cell? ⟨w8.heap.size,0,none⟩=some (.bool Q1.neg)/\w'.cell? ⟨w8.heap.size,1,none⟩=some (.slice A8 n8 k8))/\(w'.cell? ⟨F.heap.size,0,none⟩=some (.bool Q2.neg)/\w'.cell? ⟨F.heap.size,1,none⟩=some (.slice an ao ap)))
     (first|with_reducible exact⟨cQ.drew.pair,bD.drew.pair⟩|with_reducible exact⟨(cQ.drew.later f).pair,(bD.drew.later f).pair⟩|with_reducible exact⟨((cQ.drew.later f).later g).pair,((bD.drew.later f).later g).pair⟩|with_reducible exact⟨(((cQ.drew.later f).later g).far4 bp _ _ _ _).pair,(((bD.drew.later f).later g).far4 bq _ _ _ _).pair⟩)
     (first
      |(go_at_call 79;have _t:=E;refine(Zkc _ Q1 _ (j4.keep (ZI.drew _)) Qk).mono ?_;clear E _t;rintro e w6 ⟨v6,rfl,e6,f⟩;obtain⟨A6,n6,k6,rfl⟩:=e6.shape)
      |(go_at_call 79;refine(Zkc _ Q2 _ ((j5.keep (ZI.drew _)).below f) Qk).mono ?_;rintro e w7 ⟨v7,rfl,e7,g⟩;obtain⟨A7,n7,k7,rfl⟩:=e7.shape;obtain⟨c0,c1,c2,c3⟩:=((cR.drew.later f).later g).four;obtain⟨f0,f1,f2,f3⟩:=((cR.drew.later f).later g).fourF))
    go_wp2;refine Zq results40 underlying49 Qm rfl (((cR.drew.later f).later g).set4 _ _ _ _) rfl ?_;have ba:=Za M.drew f M.size;have br:canI (RI.z Q1)=Q1:=(by rw[<-b8.out,ZM]);have bs:canI (RI.z Q2)=Q2:=(by rw[<-b9.out,ZM]);rw[<-bo.out,Zal HZ.out,aL,<-GZ.out,b8.out,b9.out];rw[br]at e6⊢;rw[bs]at e7⊢;exact WB ((cR.drew.later f).later g) (WM.mk ((e6.below g).mono M.size) e7.int) (Za ba g ba.size) Qk
namespace Pl
def RF.Sh(f:RF):Prop:=(Zp (val f.num.ds)).length<=34359738368/\(Zp (val f.den.ds)).length<=34359738368
def Sz(k:Nat)(q:Rat):Prop:=(Zp q.num.natAbs).length<=k/\(Zp q.den).length<=k
def Sz.mono{j k:Nat}{q:Rat}(h:Sz j q)(hk:j<=k):Sz k q:=⟨JW h.1 hk,JW h.2 hk⟩
def Sz.sh{k:Nat}{q:Rat}(h:Sz k q)(hk:k<=34359738368):(canF q).Sh:=by
 unfold RF.Sh canF;simp only[YM];exact⟨JW h.1 hk,JW h.2 hk⟩
def RF.Sh.sm{f:RF}(h:f.Sh):f.Sm:=by
 unfold RF.Sh at h;unfold RF.Sm RI.Sm;omega
def V7{a b:Int}{k:Nat}(h1:(Zp a.natAbs).length<=k)(h2:(Zp b.natAbs).length<=k)(hk:1<=k):Sz k (Rat.divInt a b):=by
 unfold Sz;rw[Rat.num_divInt,Rat.den_divInt];constructor
 ·refine JW (Zu ?_) h1;refine JW (fE ..) ?_;rw[kD];have:b.sign.natAbs<=1:=by rw[Int.natAbs_sign];split <;> omega
  exact JW (JS _ this) Qk
 ·split
  ·exact JW (Xd (k:=1) (by unfold B32;omega)) hk
  ·exact JW (Zu (dO _ _)) h2
def RF.Sh.sz{f:RF}(h:f.Sh):Sz 34359738368 f.q:=V7 (by rw[ZT];exact h.1) (by rw[ZT];exact h.2) Ql
def Zkd{k:Nat}{q:Rat}(h:Sz k q):1<=k:=by
 have:=h.2;have:=Xe (n:=q.den) q.den_pos;omega
def Yld(p q:Rat):Rat.divInt (p.num*q.den) (p.den*q.num)=p/q:=by
 conv=>rhs;rw[<-vY p,<-vY q]
 rw[vE,Rat.inv_divInt,gW]
def Yqo(p q:Rat):Rat.divInt (p.num*q.num) (p.den*q.den)=p*q:=by
 conv=>rhs;rw[<-vY p,<-vY q]
 rw[gW]
def Yle(p q:Rat):Rat.divInt (p.num*q.den+q.num*p.den) (p.den*q.den)=p+q:=by
 conv=>rhs;rw[<-vY p,<-vY q]
 have h1:(p.den:Int)≠0:=by have:=p.den_pos;omega
 have h2:(q.den:Int)≠0:=by have:=q.den_pos;omega
 rw[gX _ _ h1 h2]
def Vn{j k:Nat}{p q:Rat}(h:Sz j p)(g:Sz k q):Sz (j+k) (p*q):=by
 rw[<-Yqo];refine V7 ?_ ?_ (by have:=Zkd h;omega)
 ·rw[kD];exact JW (XP _ _) (ic h.1 g.1)
 ·rw[kD];exact JW (XP _ _) (ic h.2 g.2)
def Zbf{j k:Nat}{p q:Rat}(h:Sz j p)(g:Sz k q):Sz (j+k) (p/q):=by
 rw[<-Yld];refine V7 ?_ ?_ (by have:=Zkd h;omega)
 ·rw[kD];exact JW (XP _ _) (ic h.1 g.2)
 ·rw[kD];exact JW (XP _ _) (ic h.2 g.1)
def Ylf{j k:Nat}{p q:Rat}(h:Sz j p)(g:Sz k q):Sz (j+k+1) (p+q):=by
 rw[<-Yle];refine V7 ?_ ?_ Qk
 ·refine Zcm ?_ ?_
  ·rw[kD];exact JW (XP _ _) (ic h.1 g.2)
  ·rw[kD,BJ j k];exact JW (XP _ _) (ic g.1 h.2)
 ·rw[kD];exact JW (XP _ _) (JW (ic h.2 g.2) Qk)
def Zuo{k:Nat}{q:Rat}(h:Sz k q):Sz k (-q):=by
 unfold Sz at *;rw[Rat.neg_num,Rat.neg_den,gN];exact h
def Zfm{j k:Nat}{p q:Rat}(h:Sz j p)(g:Sz k q):Sz (j+k+1) (p - q):=by
 rw[fQ];exact Ylf h (Zuo g)
def Sz_zero:Sz 1 0:=by unfold Sz;exact⟨by rw[show Int.natAbs (Rat.num 0)=0 from rfl,digs_zero];decide,Xd (by rw[show Rat.den 0=1 from rfl];decide)⟩
def Zbp(z:Int):Rat.divInt z 1=(z:Rat):=Rat.mkRat_one z
def Ynb(f:RF):Rat.divInt (-f.num.z) f.den.z= -f.q:=(BS _ _).symm
end Pl
def Zx.num{w:World}{A A':Option Addr}{n c n' c':Nat}{b b':Bool}{f:RF}(h:Zx w (.agg #[.bool b,.slice A n c,.bool b',.slice A' n' c']) f):Yp w (.agg #[.bool b,.slice A n c]) f.num/\Yp w (.agg #[.bool b',.slice A' n' c']) f.den:=by
 obtain⟨B,m,d,B',m',d',e,d1,d2⟩:=h;simp at e;obtain⟨rfl,⟨rfl,rfl,rfl⟩,rfl,rfl,rfl,rfl⟩:=e;exact⟨⟨_,rfl,d1⟩,_,rfl,d2⟩
def Ync(x y z u:Value)(w:World):(Instr.field 49 (.agg #[x,y,z,u]) 0).run prog w= .ok (.agg #[x,y]) w:=Qm
def Xp(w:World)(x1 x2 x3 x4:Value):∃W,w.alloc (.cells #[x1,x2,x3,x4] 49)=W/\Bk W w.heap.size 49 [x1,x2,x3,x4]/\Below w.heap.size w W:=
 ⟨_,rfl,Bk.new w _ [x1,x2,x3,x4],Ze w _⟩
def V8(v:Value)(a:RF)(w:World)(h:Zx w v a)(hs:a.Sh):
 Calls prog 73 #[v] w λe w'=>∃v',e= .returned v'/\WM w.heap.size w' v' (canF a.q)/\Below w.heap.size w w':=by
 obtain⟨A,n,c,A',n',c',rfl,_,_⟩:=id h;obtain⟨W,hW,i,hX,hR,f⟩:=Zoe w (.bool a.num.neg) (.slice A n c) (.bool a.den.neg) (.slice A' n' c') (.bool false) (.slice none 0 0) (.bool false) (.slice none 0 0);obtain⟨i1,i2⟩:=(h.below f).num;obtain⟨p1,p2,p3,p4⟩:=hX.four;obtain⟨j,k⟩:=hs;go_enter func73,ntmps73;go_wp2_with fail;clear hW;refine(Zcs _ _ a.num a.den _ i1 i2 Qk Qk).mono ?_;rintro e w1 ⟨v1,rfl,e1,g⟩;obtain⟨B,m,d,B',m',d',rfl,_,_⟩:=id e1.1;have b:=hR.later g;obtain⟨c0,c1,c2,c3⟩:=b.four;obtain⟨f0,f1,f2,f3⟩:=b.fourF;go_wp2;refine Zq results73 underlying49 Qm rfl (b.set4 _ _ _ _) rfl ?_;exact WB b (e1.mono f.size) (Za f g f.size) Qk
def Zlv(z:Int)(w:World)(h0: -9223372036854775808<=z)(h1:z<=9223372036854775807):
 Calls prog 15 #[.int .i64 z] w λe w'=>∃v',e= .returned v'/\WM w.heap.size w' v' (canF (z:Rat))/\Below w.heap.size w w':=by
 obtain⟨W,hW,hR,c⟩:=Xp w (.bool false) (.slice none 0 0) (.bool false) (.slice none 0 0);have l1:(Zp (val (canI z).ds)).length<=137438953472:=by rw[YM];exact JW (Xd (k:=2) (by unfold B32;omega)) Ql
 have l2:(Zp (val (canI 1).ds)).length<=137438953472:=by rw[YM];exact JW (Xd (k:=2) (by unfold B32;omega)) Ql
 go_enter func15,ntmps15;go_wp2_with fail;clear hW;refine(VZ z _ h0 h1).mono ?_;rintro e w1 ⟨v1,rfl,i1,f⟩;go_wp2_with fail;refine(VZ 1 _ Qk Qk).mono ?_;rintro e w2 ⟨v2,rfl,i2,b⟩;go_wp2_with fail;refine(Zcs _ _ (canI z) (canI 1) _ (i1.below b) i2 l1 l2).mono ?_;rw[ZM,ZM,Zbp];rintro e w3 ⟨v3,rfl,e3,g⟩;obtain⟨B,m,d,B',m',d',rfl,_,_⟩:=id e3.1;have a:=((hR.later f).later b).later g;have b1:=Za c f c.size;have b2:=Za b1 b b1.size;obtain⟨c0,c1,c2,c3⟩:=a.four;obtain⟨f0,f1,f2,f3⟩:=a.fourF;go_wp2;refine Zq results15 underlying49 Qm rfl (a.set4 _ _ _ _) rfl ?_;exact WB a (e3.mono b2.size) (Za b2 g b2.size) Qk
def Zxj(v:Value)(a:RF)(w:World)(h:Zx w v a)(hs:a.Sh):
 Calls prog 38 #[v] w λe w'=>e= .returned (.int .i64 (qs a.q))/\Below w.heap.size w w':=by
 obtain⟨A,n,c,A',n',c',rfl,_,_⟩:=id h;obtain⟨W,hW,hX,b⟩:=Xp w (.bool a.num.neg) (.slice A n c) (.bool a.den.neg) (.slice A' n' c');have h':=h.below b;obtain⟨p1,p2,p3,p4⟩:=hX.four;have hz:=hs.sz.1;go_enter func38,ntmps38;go_wp2_with fail;clear hW;refine(V8 _ a _ h' hs).mono ?_;rintro e w1 ⟨v1,rfl,e1,j⟩;obtain⟨B,m,d,B',m',d',rfl,_,_⟩:=id e1.1;have f:sgn (canF a.q).num.z=qs a.q:=by rw[show(canF a.q).num=canI a.q.num from rfl,ZM];rfl
 have g:(Zp (val (canF a.q).num.ds)).length<=549755813888:=by rw[show(canF a.q).num=canI a.q.num from rfl,YM];omega
 have i:=JZ f;clear f;generalize canF a.q=P at *;obtain⟨i1,i2⟩:=e1.1.num;have l:=λ(w:World)=>Ync (.bool P.num.neg) (.slice B m d) (.bool P.den.neg) (.slice B' m' d') w
 go_wp2_with fail;refine(Zcq _ P.num _ i1 g).mono ?_;rw[i.out];rintro e w2 ⟨rfl,k⟩;go_wp2;go_ret;have b1:=Za b j b.size;exact⟨rfl,Za b1 k b1.size⟩
def Zop(v:Value)(a:RF)(w:World)(h:Zx w v a)(hs:a.Sh):
 Calls prog 75 #[v] w λe w'=>∃v',e= .returned v'/\WM w.heap.size w' v' (canF (-a.q))/\Below w.heap.size w w':=by
 obtain⟨A,n,c,A',n',c',rfl,_,_⟩:=id h;obtain⟨W,hW,j,hX,hR,g⟩:=Zoe w (.bool a.num.neg) (.slice A n c) (.bool a.den.neg) (.slice A' n' c') (.bool false) (.slice none 0 0) (.bool false) (.slice none 0 0);obtain⟨i1,i2⟩:=(h.below g).num;obtain⟨k,l⟩:=hs;have i:w.heap.size≠w.heap.size+1:=Qk
 go_enter func75,ntmps75;go_wp2_with fail;clear hW
 go_region_held3(λw'=>w'.cell? ⟨w.heap.size,0,none⟩=some (.bool a.num.neg)/\w'.cell? ⟨w.heap.size,1,none⟩=some (.slice A n c)/\w'.cell? ⟨w.heap.size,2,none⟩=some (.bool a.den.neg)/\w'.cell? ⟨w.heap.size,3,none⟩=some (.slice A' n' c'))
  (first|with_reducible exact hX.drew.four|with_reducible exact(hX.drew.later b).four|with_reducible exact((hX.drew.later b).later f).four|with_reducible exact(((hX.drew.later b).later f).far4 i _ _ _ _).four)
  (first
   |(go_at_call 76;refine(Zbo _ a.num _ (i1.keep (ZI.drew _)) Qk).mono ?_;rintro e w6 ⟨v6,rfl,e6,b⟩)
   |(go_at_call 40;refine(Zcs _ _ (canI (-a.num.z)) a.den _ e6 ((i2.keep (ZI.drew _)).below b) (by rw[YM,gN,ZT];omega) Qk).mono ?_;rw[ZM,Ynb];rintro e w7 ⟨v7,rfl,e7,f⟩;obtain⟨B,m,d,B',m',d',rfl,_,_⟩:=id e7.1;obtain⟨c0,c1,c2,c3⟩:=((hR.drew.later b).later f).four;obtain⟨f0,f1,f2,f3⟩:=((hR.drew.later b).later f).fourF))
 go_wp2;refine Zq results75 underlying49 Qm rfl (((hR.drew.later b).later f).set4 _ _ _ _) rfl ?_;have b1:=Za g.drew b g.size;exact WB ((hR.drew.later b).later f) (e7.mono b1.size) (Za b1 f b1.size) Qk
def Yqp(p q:Rat)(w wx:World)(A A' B B':Option Addr)(n c n' c' m d m' d':Nat):Prop:=
 Bk wx w.heap.size 49 [.bool (canF p).num.neg,.slice A n c,.bool (canF p).den.neg,.slice A' n' c']/\Bk wx (w.heap.size+1) 49 [.bool (canF q).num.neg,.slice B m d,.bool (canF q).den.neg,.slice B' m' d']/\Bk wx (w.heap.size+1+1) 49 [.bool false,.slice none 0 0,.bool false,.slice none 0 0]/\
 Zx wx (.agg #[.bool (canF p).num.neg,.slice A n c,.bool (canF p).den.neg,.slice A' n' c']) (canF p)/\Zx wx (.agg #[.bool (canF q).num.neg,.slice B m d,.bool (canF q).den.neg,.slice B' m' d']) (canF q)/\Below w.heap.size w wx
def Yaz{w w4:World}{g g' h:Nat}{x y z u x' y' z' u':Value}{cs:List Value}{b1 s1 b2 s2 b3 s3 b4 s4:Value}{p q:RF}(hX:Bk w4 g 49 [x,y,z,u])(hY:Bk w4 g' 49 [x',y',z',u'])(hR:Bk w4 h 49 cs)(hne:g≠g')(hr1:h≠g)(hr2:h≠g')(dq:Zx w4 (.agg #[b1,s1,b2,s2]) p)(dr:Zx w4 (.agg #[b3,s3,b4,s4]) q){m:Nat}(hbe:Below m w w4)(hg:m<=g)(hg':m<=g'):
 ∀W,W=((((((((w4.setCell ⟨g,0,none⟩ b1).setCell ⟨g,1,none⟩ s1).setCell ⟨g,2,none⟩ b2).setCell ⟨g,3,none⟩ s2).setCell ⟨g',0,none⟩ b3).setCell ⟨g',1,none⟩ s3).setCell ⟨g',2,none⟩ b4).setCell ⟨g',3,none⟩ s4)->
 Bk W g 49 [b1,s1,b2,s2]/\Bk W g' 49 [b3,s3,b4,s4]/\Bk W h 49 cs/\Zx W (.agg #[b1,s1,b2,s2]) p/\Zx W (.agg #[b3,s3,b4,s4]) q/\Below m w W:=by
 rintro W rfl;have h1:=hX.set4 b1 s1 b2 s2;have h2:=hY.far4 (bL hne) b1 s1 b2 s2;have k1:=hX.keep4 Ql b1 s1 b2 s2;have k2:=h2.keep4 Ql b3 s3 b4 s4;exact⟨h1.far4 hne _ _ _ _,h2.set4 _ _ _ _,(hR.far4 hr1 _ _ _ _).far4 hr2 _ _ _ _,dq.keep (k1.trans k2),dr.keep (k1.trans k2),ZE (ZE hbe hg _ _ _ _) hg' _ _ _ _⟩
def szI{k:Nat}{q:Rat}(h:Sz k q):(canF q).num.ds.length<=k/\(canF q).den.ds.length<=k:=h
def szV{k:Nat}{z:Int}(h:(Zp z.natAbs).length<=k):(Zp (val (canI z).ds)).length<=k:=by rw[YM];exact h
def zN(q:Rat):(canF q).num.z=q.num:=ZM _
def zD(q:Rat):(canF q).den.z=q.den:=ZM _
namespace Pl
abbrev Mx:=Nat->Nat->Rat
def Ww(M:Mx)(c:Nat):Nat->Nat->Option Nat
 |_,0=>none
 |r,n+1=>if M r c≠0 then some r else Ww M c (r+1) n
def Zlw(M:Mx)(k m:Nat):Option Nat:=Ww M k k (m - k)
def Zhk{M:Mx}{c:Nat}:∀{n r t:Nat},Ww M c r n=some t->r<=t/\t<r+n/\M t c≠0
 |0,_,_,h=>by cases h
 |n+1,r,t,h=>by
  unfold Ww at h
  split at h
  ·injection h with h;subst h;exact⟨JY _,Qk,by assumption⟩
  ·have:=Zhk h;exact⟨Qk,Qk,this.2.2⟩
def Zct{M:Mx}{c:Nat}:∀{n r:Nat},Ww M c r n=none->∀s,r<=s->s<r+n->M s c=0
 |0,r,_,s,h1,h2=>Qk
 |n+1,r,h,s,h1,h2=>by
  unfold Ww at h
  split at h
  ·cases h
  ·rename_i h0
   rcases kH h1 with e|e
   ·subst e;simpa using h0
   ·exact Zct h s Qk Qk
def Zlx{M:Mx}{k m t:Nat}(h:Zlw M k m=some t):k<=t/\t<m/\M t k≠0:=by
 have:=Zhk h;exact⟨this.1,Qk,this.2.2⟩
def Zxk{M:Mx}{k m:Nat}(h:Zlw M k m=none):∀s,k<=s->s<m->M s k=0:=λs h1 h2=>Zct h s h1 Qk
def Zbg{A B:Mx}{c:Nat}(h:∀r,A r c=B r c):∀(n r:Nat),Ww A c r n=Ww B c r n
 |0,_=>rfl
 |n+1,r=>by unfold Ww;rw[h r,Zbg h n]
def swapM(M:Mx)(k t:Nat):Mx:=λr=>if r=k then M t else if r=t then M k else M r
def scaleTo(M:Mx)(k i:Nat)(f:Rat):Mx:=λr c=>if r=k/\k<=c/\c<i then M r c/f else M r c
def XQ(M:Mx)(k s m:Nat):Mx:=λr c=>if r≠k/\r<s/\k<=c/\c<=m then M r c - M r k*M k c else M r c
def UW(M:Mx)(k m:Nat):Option Mx:=match Zlw M k m with
 |none=>none
 |some t=>some (XQ (scaleTo (swapM M k t) k (m+1) (swapM M k t k k)) k m m)
def gj(M:Mx)(m:Nat):Nat->Option Mx
 |0=>some M
 |k+1=>match gj M m k with
  |none=>none
  |some M'=>UW M' k m
def Zns(m:Nat)(cols:Mx)(b:Nat->Rat):Mx:=λr c=>if c<m then cols c r else b r
def XC(m:Nat)(cols:Mx)(b:Nat->Rat):Option (Nat->Rat):=(gj (Zns m cols b) m m).map λM k=>M k m
def Zhl{M:Mx}{k s m:Nat}(c:Nat):XQ M k s m k c=M k c:=by
 unfold XQ;rw[jA Qk]
def MB(m n K:Nat)(M:Mx):Prop:=∀r c,r<m->c<n->Sz K (M r c)
def MB.mono{m n K K':Nat}{M:Mx}(h:MB m n K M)(hk:K<=K'):MB m n K' M:=λr c h1 h2=>(h r c h1 h2).mono hk
def MB.swap{m n K:Nat}{M:Mx}(h:MB m n K M){k t:Nat}(hk:k<m)(ht:t<m):MB m n K (swapM M k t):=λr c h1 h2=>by
 unfold swapM;split
 ·exact h t c ht h2
 ·split
  ·exact h k c hk h2
  ·exact h r c h1 h2
def MB.scale{m n K:Nat}{M:Mx}(h:MB m n K M){k i:Nat}{f:Rat}(hf:Sz K f):MB m n (2*K) (scaleTo M k i f):=λr c h1 h2=>by
 unfold scaleTo;split
 ·exact(Zbf (h r c h1 h2) hf).mono Qk
 ·exact(h r c h1 h2).mono Qk
def Zrw{m n K:Nat}{M:Mx}(h:MB m n K M){k i:Nat}{f:Rat}{r c:Nat}(hr:r<m)(hc:c<n)(hne:r≠k):Sz K (scaleTo M k i f r c):=by
 unfold scaleTo;rw[jA Qk];exact h r c hr hc
def Yba{m n K:Nat}{M:Mx}(h:MB m n K M){k i:Nat}{f:Rat}(hf:Sz K f){r c:Nat}(hr:r<m)(hc:c<n):Sz (2*K) (scaleTo M k i f r c):=h.scale hf r c hr hc
def MB.elim{m n K:Nat}{M:Mx}{k s m':Nat}(hk:k<m)(h1:∀r c,r<m->c<n->r≠k->Sz K (M r c))(h2:∀c,c<n->Sz (2*K) (M k c))(hn:k<n):MB m n (5*K) (XQ M k s m'):=λr c hr hc=>by
 unfold XQ;split
 ·rename_i h
  have a:=h1 r c hr hc h.1
  have b:=h1 r k hr hn h.1
  have:=Zkd a
  exact(Zfm a (Vn b (h2 c hc))).mono Qk
 ·by_cases e:r=k
  ·subst e;exact(h2 c hc).mono Qk
  ·exact(h1 r c hr hc e).mono Qk
def Ygw{M M':Mx}{k m K:Nat}(h:MB m (m+1) K M)(hk:k<m)(e:UW M k m=some M'):MB m (m+1) (5*K) M':=by
 unfold UW at e
 cases hf:Zlw M k m with
 |none=>rw[hf]at e;cases e
 |some t=>
  rw[hf]at e;injection e with e;subst e;obtain⟨h1,h2,_⟩:=Zlx hf;have hs:=h.swap hk h2;exact MB.elim hk (λr c hr hc hne=>Zrw hs hr hc hne) (λc hc=>Yba hs (hs k k hk Qk) hk hc) Qk
def Ytj{M:Mx}{m K:Nat}(h:MB m (m+1) K M):∀{k:Nat} {M':Mx},k<=m->gj M m k=some M'->MB m (m+1) (5^k*K) M'
 |0,M',_,e=>by unfold gj at e;injection e with e;subst e;simpa using h
 |k+1,M',hk,e=>by
  unfold gj at e
  cases hg:gj M m k with
  |none=>rw[hg]at e;cases e
  |some N=>
   rw[hg]at e
   have:=Ygw (Ytj h Qk hg) Qk e
   exact this.mono (by rw[jf];grind)
def Ysw{m K:Nat}{cols:Mx}{b:Nat->Rat}(h:∀r c,r<m->c<m->Sz K (cols c r))(hb:∀r,r<m->Sz K (b r)):MB m (m+1) K (Zns m cols b):=λr c hr hc=>by
 unfold Zns;split
 ·exact h r c hr (by assumption)
 ·exact hb r hr
def Zup{m K:Nat}{cols:Mx}{b x:Nat->Rat}(h:∀r c,r<m->c<m->Sz K (cols c r))(hb:∀r,r<m->Sz K (b r))(e:XC m cols b=some x):∀r,r<m->Sz (5^m*K) (x r):=by
 unfold XC at e
 cases hg:gj (Zns m cols b) m m with
 |none=>rw[hg]at e;cases e
 |some N=>
  rw[hg]at e;injection e with e;subst e;exact λr hr=>Ytj (Ysw h hb) (JY _) hg r m hr Qk
def UX(m:Nat)(A B:Mx):Prop:=∀r c,c<m->A r c=B r c
def UX.step{m k:Nat}{A B:Mx}(h:UX m A B)(hk:k<m):match UW A k m,UW B k m with|some A',some B'=>UX m A' B'|none,none=>True|_,_=>False:=by
 unfold UW Zlw;rw[Zbg (λr=>h r k hk)]
 cases Ww B k k (m - k)with
 |none=>trivial
 |some t=>
  have hs:UX m (swapM A k t) (swapM B k t):=λr c hc=>by
   unfold swapM;split
   ·exact h t c hc
   ·split
    ·exact h k c hc
    ·exact h r c hc
  have h2:UX m (scaleTo (swapM A k t) k (m+1) (swapM A k t k k)) (scaleTo (swapM B k t) k (m+1) (swapM B k t k k)):=λr c hc=>by
   unfold scaleTo;rw[hs r c hc,hs k k hk]
  show UX m _ _;intro r c hc;unfold XQ;rw[h2 r c hc,h2 r k hk,h2 k c hc]
def UX.gj{m:Nat}{A B:Mx}(h:UX m A B):∀(k:Nat),k<=m->match gj A m k,gj B m k with|some A',some B'=>UX m A' B'|none,none=>True|_,_=>False
 |0,_=>h
 |k+1,hk=>by
  have ih:=UX.gj h k Qk
  unfold Pl.gj
  generalize Pl.gj A m k=X at ih⊢
  generalize Pl.gj B m k=Y at ih⊢
  match X,Y,ih with
  |some A',some B',ih=>exact ih.step Qk
  |none,none,_=>trivial
def Zhm{m:Nat}{cols:Mx}(b b':Nat->Rat):(XC m cols b).isSome=(XC m cols b').isSome:=by
 have h:UX m (Zns m cols b) (Zns m cols b'):=λr c hc=>by unfold Zns;rw[jB hc,jB hc]
 have:=h.gj m (JY _);unfold XC;generalize Pl.gj (Zns m cols b) m m=X at this⊢;generalize Pl.gj (Zns m cols b') m m=Y at this⊢
 match X,Y,this with
 |some A',some B',_=>rfl
 |none,none,_=>rfl
end Pl
end Go.Proofs.YtobadipflggkiaaGreat
