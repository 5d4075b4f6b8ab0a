/- Lemmas of the claim; no condition. -/
import Derived.Test.YtobadipflggkiaaGreatW2
set_option linter.all false
set_option maxRecDepth 100000
set_option maxHeartbeats 40000000
namespace Go.Proofs.YtobadipflggkiaaGreat
open Go.RowKit
open Pl Tryz
attribute [local go_sem ↓] Go.wp_at_zero Go.wp_at_succ
namespace Pl
structure Leh (A B X Y:Nat) (a1 a2 u0 u1 u2 v0 v1 v2:Int) (ev:Bool):Prop where
 a2n:0<=a2
 a21:a2<=a1
 u0n:0<=u0
 u1n:0<=u1
 u2n:0<=u2
 v0n:0<=v0
 v1n:0<=v1
 v2n:1<=v2
 iA:v2*a1+v1*a2=A
 iB:u2*a1+u1*a2=B
 det:u1*v2 - u2*v1=if ev then -1 else 1
 uv2:u2<=v2
 uv12:u1+u2<=v1+v2
 v12:v1<=v2
 u1v2:u1<=v2
 b0:u0<=4294967295
 b1:u1<=4294967295
 b2:v0<=4294967295
 b3:v1<=4294967295
 st0:v1=0->u1=1/\u2=0/\v2=1/\v0=0/\ev=false
 st1:0<v1->(if ev then Y*v1 - X*u1 else X*u1 - Y*v1:Int)<=Y
 st2:0<v0->u0*v1 - u1*v0=(if ev then 1 else -1)/\0<=(if ev then Y*v1 - X*u1 else X*u1 - Y*v1:Int)/\
  (if ev then Y*v1 - X*u1 else X*u1 - Y*v1:Int)< (if ev then X*u0 - Y*v0 else Y*v0 - X*u0:Int)/\(if ev then X*u0 - Y*v0 else Y*v0 - X*u0:Int)<=Y
def Leh.start{A B X Y:Nat}(h:B<=A):Leh A B X Y A B 0 1 0 0 0 1 false:=
 ⟨Qk,Qk,Qk,Qk,Qk,Qk,Qk,Qk,Qk,Qk,by simp,Qk,Qk,Qk,Qk,Qk,Qk,Qk,Qk,λ_=>⟨rfl,rfl,rfl,rfl,rfl⟩,λh=>Qk,λh=>Qk⟩
def Leh.room{A B X Y:Nat}{a1 a2 u0 u1 u2 v0 v1 v2:Int}{ev:Bool}(h:Leh A B X Y a1 a2 u0 u1 u2 v0 v1 v2 ev)(c1:v2<=a2):
 v1+(a1/a2)*v2<=A/\u1+(a1/a2)*u2<=A/\0<=(a1/a2)*v2/\0<=(a1/a2)*u2/\1<=a1/a2:=by
 have h2:=h.v2n;have hq:1<=a1/a2:=by
  rw[dJ Qk];have:=h.a21;omega
 have a:a1/a2*a2<=a1:=by rw[kR];exact Int.mul_ediv_self_le Qk
 have k1:(v1+(a1/a2)*v2)*a2<=A:=by
  rw[<-h.iA,iH];have:a1/a2*v2*a2<=v2*a1:=by
   rw[dK,kR v2];exact jJ a Qk
  omega
 have n1:0<=(a1/a2)*v2:=jY Qk Qk;have n2:0<=(a1/a2)*u2:=jY Qk h.u2n;have k2:(v1+(a1/a2)*v2)*1<=(v1+(a1/a2)*v2)*a2:=jr Qk (by have:=h.v1n;omega);have k3:u1+(a1/a2)*u2<=v1+(a1/a2)*v2:=by
  have m:(a1/a2 - 1)*u2<=(a1/a2 - 1)*v2:=jr h.uv2 Qk;rw[fZ,fZ]at m;have:=h.uv12;omega
 exact⟨Qk,Qk,n1,n2,hq⟩
def Yqc{D a v u e1 e2:Int}(hD:0<D)(_he1:0<=e1)(he1':e1<D)(he2:0<=e2)(hu:0<=u)(hv:0<=v)(h:u<=a):0<=D*a+(e2*v - e1*u):=by
 have h1:e1*u<=D*u:=jJ Qk hu;have h2:0<=e2*v:=jY he2 hv;have h3:D*u<=D*a:=jr h Qk;omega
def Ykv{D a v u e1 e2:Int}(hD:0<D)(he1:0<=e1)(_he2:0<=e2)(he2':e2<D)(hu:0<=u)(hv:1<=v)(h:v<=a):0<D*a+(e1*u - e2*v):=by
 have h1:(e2+1)*v<=D*v:=jJ Qk Qk;have h2:0<=e1*u:=jY he1 hu;have h3:D*v<=D*a:=jr h Qk;rw[iH]at h1;omega
def Zob(D A B e1 e2 u v a:Int)(h:v*B - u*A=a):(B*D+e2)*v - (A*D+e1)*u=D*a+(e2*v - e1*u):=by grind
def Zoc(D A B e1 e2 u v a:Int)(h:u*A - v*B=a):(A*D+e1)*u - (B*D+e2)*v=D*a+(e1*u - e2*v):=by grind
def Yqd(A B a1 a2 u1 u2 v1 v2 d:Int)(hA:v2*a1+v1*a2=A)(hB:u2*a1+u1*a2=B)(hd:u1*v2 - u2*v1=d):u1*A - v1*B=d*a1:=by grind
def Yqe(A B a1 a2 u1 u2 v1 v2 d:Int)(hA:v2*a1+v1*a2=A)(hB:u2*a1+u1*a2=B)(hd:u1*v2 - u2*v1=d):v2*B - u2*A=d*a2:=by grind
def Leh.step{A B X Y:Nat}{D e1 e2:Int}{a1 a2 u0 u1 u2 v0 v1 v2:Int}{ev:Bool}(h:Leh A B X Y a1 a2 u0 u1 u2 v0 v1 v2 ev)(hD:0<D)(hX:(X:Int)=A*D+e1)(hY:(Y:Int)=B*D+e2)
 (he1:0<=e1) (he1':e1<D) (he2:0<=e2) (he2':e2<D) (hA:(A:Int)<=18446744073709551615) (c1:v2<=a2) (c2:v1+v2<=a1 - a2):
 Leh A B X Y a2 (a1%a2) u1 u2 (u1+(a1/a2)*u2) v1 v2 (v1+(a1/a2)*v2) (!ev):=by
 obtain⟨r1,r2,r3,r4,r5⟩:=h.room c1;have k:=h.v2n;have b:=h.u2n;have c:=h.v1n;have l:=h.u1n;have p:1<=a2:=Qk
 have hm:a1%a2=a1 - (a1/a2)*a2:=by
  have:=Int.emod_add_mul_ediv a1 a2;rw[kR]at this;omega
 have n:=kv a1 (show a2≠0 by omega);have r:=kJ a1 (show 0<a2 by omega)
 -- v2<2^32
 have hb:v2<=4294967295:=by
  rcases jR v2 4294967296 with g|g
  ·omega
  ·exfalso;have k1:v2*v2<=v2*a1:=jr Qk Qk;have k2:4294967296*4294967296<=v2*v2:=kK g g Qk Qk;have k3:0<=v1*a2:=jY c Qk;have:=h.iA;omega
 have o:0<=(if !ev then Y*v2 - X*u2 else X*u2 - Y*v2:Int)/\(if !ev then Y*v2 - X*u2 else X*u2 - Y*v2:Int)< (if ev then Y*v1 - X*u1 else X*u1 - Y*v1:Int):=by
  have d:=h.det;have i1:=Yqd A B a1 a2 u1 u2 v1 v2 _ h.iA h.iB d;have i2:=Yqe A B a1 a2 u1 u2 v1 v2 _ h.iA h.iB d;rw[hX,hY]
  cases ev with
  |false=>
   simp only[Bool.not_false,if_true,dL,Bj]at *;have e:(((B:Int)*D+e2)*v2 - ((A:Int)*D+e1)*u2)=D*a2+(e2*v2 - e1*u2):=Zob _ _ _ _ _ _ _ _ Qk;have f:((A:Int)*D+e1)* (u1+u2) - ((B:Int)*D+e2)* (v1+v2)=D* (a1 - a2)+(e1* (u1+u2) - e2* (v1+v2)):=Zoc _ _ _ _ _ _ _ _ (by rw[iH,iH];omega);have g1:=Yqc (a:=a2) hD he1 he1' he2 b Qk (v:=v2) (by have:=h.uv2;omega);have g2:=Ykv (u:=u1+u2) hD he1 he2 he2' Qk (show 1<=v1+v2 by omega) c2;rw[gI,gI]at f;omega
  |true=>
   simp only[Bool.not_true,if_true,dL,Bj]at *;have e:(((A:Int)*D+e1)*u2 - ((B:Int)*D+e2)*v2)=D*a2+(e1*u2 - e2*v2):=Zoc _ _ _ _ _ _ _ _ Qk;have f:((B:Int)*D+e2)* (v1+v2) - ((A:Int)*D+e1)* (u1+u2)=D* (a1 - a2)+(e2* (v1+v2) - e1* (u1+u2)):=Zob _ _ _ _ _ _ _ _ (by rw[iH,iH];omega);have g1:=Ykv (u:=u2) hD he1 he2 he2' b k c1;have k1:(e1+1)* (u1+u2)<=D* (u1+u2):=jJ Qk Qk;have k2:0<=e2* (v1+v2):=jY he2 Qk;have k3:D* (u1+u2)<=D* (a1 - a2):=jr (by have:=h.uv12;omega) Qk;have k4:1<=u1+u2:=by
    rcases jR 0 (u1+u2)with g|g
    ·omega
    ·have z1:u1=0:=Qk;have z2:u2=0:=Qk;rw[z1,z2]at d;simp at d
   rw[iH]at k1;rw[gI,gI]at f;omega
 obtain⟨i,j⟩:=o;have s:1*v2<=a1/a2*v2:=jJ r5 Qk;refine⟨n,Qk,l,b,Qk,c,Qk,Qk,?_,?_,?_,?_,?_,?_,?_,h.b1,by have:=h.uv2;omega,h.b3,hb,?_,?_,?_⟩
 ·rw[hm,<-h.iA,iH,Int.mul_sub];have:a1/a2*v2*a2=v2* (a1/a2*a2):=by rw[dK,kR]
  omega
 ·rw[hm,<-h.iB,iH,Int.mul_sub];have:a1/a2*u2*a2=u2* (a1/a2*a2):=by rw[dK,kR]
  omega
 ·have d:=h.det;rw[gI,iH];have:u2* (a1/a2*v2)=a1/a2*u2*v2:=by rw[<-Int.mul_assoc,kR u2]
  cases ev <;> simp at d⊢ <;> omega
 ·have m:(a1/a2 - 1)*u2<=(a1/a2 - 1)*v2:=jr h.uv2 Qk;rw[fZ,fZ]at m;have:=h.uv12;omega
 ·have m:a1/a2*u2<=a1/a2*v2:=jr h.uv2 Qk;have:=h.uv12;omega
 ·have m:1*v2<=a1/a2*v2:=jJ r5 Qk;omega
 ·have m:1*v2<=a1/a2*v2:=jJ r5 Qk;have:=h.uv2;omega
 ·intro h0;omega
 ·intro _;rcases iM c with g|g
  ·have:=h.st1 g;omega
  ·obtain⟨s1,s2,s3,s4,s5⟩:=h.st0 g.symm;rw[s2,s3,s5];simp
 ·intro g;have q:=h.st1 g;refine⟨?_,i,?_,?_⟩
  ·have d:=h.det
   cases ev <;> simp at d⊢ <;> omega
  ·cases ev <;> simpa using j
  ·cases ev <;> simpa using q
def Yai{X Y R0 R1 u0 u1 v0 v1:Nat}(hx:X=v1*R0+v0*R1)(hy:Y=u1*R0+u0*R1)(h0:R0+v0*Y=u0*X\/R0+u0*X=v0*Y)(h1:R1+v1*Y=u1*X\/R1+u1*X=v1*Y):Nat.gcd R0 R1=Nat.gcd X Y:=by
 apply Nat.dvd_antisymm
 ·have d0:=Nat.gcd_dvd_left R0 R1;have d1:=Nat.gcd_dvd_right R0 R1;refine Nat.dvd_gcd ?_ ?_
  ·rw[hx];exact Nat.dvd_add (jo d0 _) (jo d1 _)
  ·rw[hy];exact Nat.dvd_add (jo d0 _) (jo d1 _)
 ·have d0:=Nat.gcd_dvd_left X Y;have d1:=Nat.gcd_dvd_right X Y;refine Nat.dvd_gcd ?_ ?_
  ·rcases h0 with h|h
   ·exact(dC (jo d1 v0)).1 (h▸jo d0 u0)
   ·exact(dC (jo d0 u0)).1 (h▸jo d1 v0)
  ·rcases h1 with h|h
   ·exact(dC (jo d1 v1)).1 (h▸jo d0 u1)
   ·exact(dC (jo d0 u1)).1 (h▸jo d1 v1)
def Zod(X Y u0 u1 v0 v1 d:Int)(h:u0*v1 - u1*v0=d):v1* (X*u0 - Y*v0)+v0* (Y*v1 - X*u1)=d*X/\u1* (X*u0 - Y*v0)+u0* (Y*v1 - X*u1)=d*Y:=by
 constructor <;> grind
structure Cof (X Y u0 u1 v0 v1:Nat) (ev:Bool) (R0 R1:Nat):Prop where
 lt:R1<R0
 le:R0<=Y
 e0:if ev then R0+Y*v0=X*u0 else R0+X*u0=Y*v0
 e1:if ev then R1+X*u1=Y*v1 else R1+Y*v1=X*u1
 gcd:Nat.gcd R0 R1=Nat.gcd X Y
def Leh.cof{A B X Y:Nat}{a1 a2 u0 u1 u2 v0 v1 v2:Int}{ev:Bool}(h:Leh A B X Y a1 a2 u0 u1 u2 v0 v1 v2 ev)(hv0:v0≠0):∃R0 R1:Nat,Cof X Y u0.toNat u1.toNat v0.toNat v1.toNat ev R0 R1:=by
 obtain⟨d,k0,k1,k2⟩:=h.st2 (by have:=h.v0n;omega);obtain⟨a,rfl⟩:=JT h.u0n;obtain⟨b,rfl⟩:=JT h.u1n;obtain⟨c,rfl⟩:=JT h.v0n;obtain⟨e,rfl⟩:=JT h.v1n;simp only[JP];have m1:((X*a:Nat):Int)=(X:Int)*a:=jF _ _;have m2:((Y*c:Nat):Int)=(Y:Int)*c:=jF _ _;have m3:((Y*e:Nat):Int)=(Y:Int)*e:=jF _ _;have m4:((X*b:Nat):Int)=(X:Int)*b:=jF _ _
 cases ev with
 |true=>
  simp only[if_true]at *;obtain⟨z1,z2⟩:=Zod X Y a b c e 1 d;refine⟨X*a - Y*c,Y*e - X*b,Qk,Qk,?_,?_,?_⟩
  ·simp;omega
  ·simp;omega
  ·have p0:((X*a - Y*c:Nat):Int)=(X:Int)*a - Y*c:=Qk;have p1:((Y*e - X*b:Nat):Int)=(Y:Int)*e - X*b:=Qk;rw[<-p0,<-p1]at z1 z2;refine Yai (u0:=a) (u1:=b) (v0:=c) (v1:=e) ?_ ?_ (.inl ?_) (.inr ?_)
   ·have:=jF e (X*a - Y*c);have:=jF c (Y*e - X*b);omega
   ·have:=jF b (X*a - Y*c);have:=jF a (Y*e - X*b);omega
   ·rw[jQ c,jQ a];omega
   ·rw[jQ b,jQ e];omega
 |false=>
  simp only[dL,Bj]at *;obtain⟨z1,z2⟩:=Zod X Y a b c e (-1) d;refine⟨Y*c - X*a,X*b - Y*e,Qk,Qk,?_,?_,?_⟩
  ·simp;omega
  ·simp;omega
  ·have p0:((Y*c - X*a:Nat):Int)=(Y:Int)*c - X*a:=Qk;have p1:((X*b - Y*e:Nat):Int)=(X:Int)*b - Y*e:=Qk;have q0:(X:Int)*a - Y*c= -((Y*c - X*a:Nat):Int):=Qk;have q1:(Y:Int)*e - X*b= -((X*b - Y*e:Nat):Int):=Qk;rw[q0,q1,Bc,Bc]at z1 z2;refine Yai (u0:=a) (u1:=b) (v0:=c) (v1:=e) ?_ ?_ (.inr ?_) (.inl ?_)
   ·have:=jF e (Y*c - X*a);have:=jF c (X*b - Y*e);omega
   ·have:=jF b (Y*c - X*a);have:=jF a (X*b - Y*e);omega
   ·rw[jQ a,jQ c];omega
   ·rw[jQ e,jQ b];omega
end Pl
def Zbn(i:Int)(g:Nat)(A:Option Addr)(n c:Nat)(ds:List Nat)(w:World)(h:ZP w (.slice A n c) ds)(hg:w.cell? ⟨g,0,none⟩=some (.slice A n c))(i0:0<=i)(i1:i<=1099511627776):
 Calls prog 182 #[.int .i64 i,.pointer (some ⟨g,0,none⟩)] w λe w'=>e= .returned (.int .u64 (di ds i.toNat))/\w=w':=by
 obtain⟨hl,d,f,hc⟩:=h.len;obtain⟨k,rfl⟩:=JT i0;rw[JP];have x0:=Zr ds k;have x1:=Yl h.ok k;rcases JX k n with hk|hk
 ·obtain⟨b,j,rfl,hb,a⟩:=h.at_ Qk;have hx:=a k hk;clear a;go_enter func182,ntmps182;go_wp2;go_ret;exact⟨rfl,rfl⟩
 ·have e:di ds k=0:=by rw[Yx,VU Qk];rfl
  rw[e];clear e;go_enter func182,ntmps182;go_wp2;go_ret;exact⟨rfl,rfl⟩
def Yak{z x:Int}{s:Nat}(hs:s<=31)(z0:0<=z)(z1:z<2^s)(x0:0<=x)(q1:x*2^s<=18446744073709551615):bits .or .u64 (x*2^s) z=x*2^s+z:=by
 obtain⟨a,rfl⟩:=JT z0;obtain⟨b,rfl⟩:=JT x0;have c:=Vl hs;rw[Yo]at *;rw[<-jF]at *;rw[u64_or_nat _ _ Qk Qk,<-il,<-kU Qk,il];omega
def Zej{s:Nat}{x:Int}(hs:s<=31)(x0:0<=x)(x1:x<=4294967295):0<=x/2^(32 - s)/\x/2^(32 - s)<2^s:=by
 have hp:(0:Int)<2^(32 - s):=by have:=Wz (32 - s);omega
 refine⟨vV x0 Qk,?_⟩;rw[aK hp,<-Int.pow_add,show s+(32 - s)=32 from Qk];omega
def Zka(v:Value)(ds:List Nat)(m s:Nat)(w:World)(h:ZP w v ds)(hs:s<=31)(hm:(m:Int)<=549755813888)(ht:(di ds (m+2)+1)*2^s<=4294967296):
 Calls prog 178 #[v,.int .i64 ((m:Int)+3),.int .u64 (s:Int)] w λe w'=>e= .returned (.int .u64 ((di ds (m+2)*4294967296+di ds (m+1))*2^s+di ds m/2^(32 - s)))/\Below w.heap.size w w':=by
 obtain⟨A,n,c,rfl⟩:=h.shape;have d:=Zr ds (m+2);have l:=Yl h.ok (m+2);have f:=Zr ds (m+1);have g:=Yl h.ok (m+1);have i:=Zr ds m;have j:=Yl h.ok m;have hW:Below w.heap.size w (w.alloc (.cells #[.slice A n c] 45)):=(JR _ _).alloc (JY _) _;have hD:=h.below hW;have a:(w.alloc (.cells #[.slice A n c] 45)).cell? ⟨w.heap.size,0,none⟩=some (.slice A n c):=by simp
 have HD:=JZ hD;have HC:=JZ a;clear hD a;have q:=Vl hs;have r:(1:Int)<=2^s:=Wz s;have q0:0<=di ds (m+2)*2^s:=jY d Qk;have q1:di ds (m+1)*2^s<=4294967295*2^s:=jJ g Qk;have q2:0<=di ds (m+1)*2^s:=jY f Qk;have o:di ds (m+2)*2^s+2^s<=4294967296:=by rw[iH,Int.one_mul]at ht;exact ht
 have hH:(di ds (m+2)*4294967296+di ds (m+1))*2^s=di ds (m+2)*2^s*4294967296+di ds (m+1)*2^s:=by rw[iH,dK]
 have k:0<=(di ds (m+2)*4294967296+di ds (m+1))*2^s:=Qk
 have b:(di ds (m+2)*4294967296+di ds (m+1))*2^s<=18446744073709551615:=Qk
 have p:=JZ b;have r1:IntKind.u64.wrap ((di ds (m+2)*4294967296+di ds (m+1))*2^s)=(di ds (m+2)*4294967296+di ds (m+1))*2^s:=u64_in _ k b;have r4:=Zag f g d l;have R1:=JZ r1;clear hH k b ht o q0 q1 q2 r1;have t0:(0:Int)<=32 - (s:Int):=Qk
 go_enter func178,ntmps178;go_wp2_with fail;refine(Zbn _ _ A n c ds _ HD.out HC.out Qk Qk).mono ?_;rw[show((m:Int)+3 - 1).toNat=m+2 from Qk];rintro e w1 ⟨rfl,rfl⟩;go_wp2_with fail;refine(Zbn _ _ A n c ds _ HD.out HC.out Qk Qk).mono ?_;rw[show((m:Int)+3 - 2).toNat=m+1 from Qk];rintro e w1 ⟨rfl,rfl⟩;go_wp2_with fail;refine(Zbn _ _ A n c ds _ HD.out HC.out Qk Qk).mono ?_;rw[JP];rintro e w1 ⟨rfl,rfl⟩;have r1:=R1.out;go_wp2_with fail;go_ret;exact⟨VW (Yak hs (Zej hs i j).1 (Zej hs i j).2 Qk p.out),hW⟩
def Zrr{X m s:Nat}(hs:s<=31)(hl:(Zp X).length<=m+3):(di (Zp X) (m+2)*4294967296+di (Zp X) (m+1))*2^s+di (Zp X) m/2^(32 - s)=((X/ (2^(32 - s)*B32^m):Nat):Int):=by
 have hX:X=vt (Zp X) (m+3):=by rw[XU hl,Zn]
 have e:X/ (2^(32 - s)*B32^m)=(dg (Zp X) (m+2)*B32+dg (Zp X) (m+1))*2^s+dg (Zp X) m/2^(32 - s):=by
  have a:=Zaw (Z8 X) m
  conv=>lhs;rw[hX]
  rw[Zri,jQ (2^(32 - s)),<-Nat.div_div_eq_div_mul,jQ _ (B32^m),gZ (jg B32_pos),ik a,dI];have hB:B32=2^(32 - s)*2^s:=by rw[<-iG,show 32 - s+s=32 from Qk];rfl
  generalize dg (Zp X) (m+2)*B32+dg (Zp X) (m+1)=T;have hp:=jg (n:=32 - s) (show 0<2 by decide);rw[hB,show T* (2^(32 - s)*2^s)=2^(32 - s)* (T*2^s)from by rw[vw],gZ hp]
 rw[e,vG,bZ,jF,vG,jF,<-Yo,<-Yo];rfl
def Yqf{t s:Nat}(hs:s<=31)(h1:t*2^s<=4294967295):(t+1)*2^s<=4294967296:=by
 have hB:2^s*2^(32 - s)=4294967296:=by rw[<-iG,show s+(32 - s)=32 from Qk]
 have a:t*2^s<2^(32 - s)*2^s:=by rw[jQ (2^(32 - s)),hB];omega
 have b:=gK a;have c:(t+1)*2^s<=2^(32 - s)*2^s:=JS _ b
 rwa[jQ (2^(32 - s)),hB]at c
def Ykw{X m:Nat}(hl:(Zp X).length<=m+3):dg (Zp X) (m+2)=X/B32^(m+2):=by
 have hX:X=vt (Zp X) (m+3):=by rw[XU hl,Zn]
 have a:=Zaw (Z8 X) (m+2)
 conv=>rhs;rw[hX]
 rw[Y4,BJ (vt _ _),jQ (dg _ _),gZ (jg B32_pos),ik a];rfl
def Yqg{X m s:Nat}(hs:s<=31)(hl:(Zp X).length<=m+3)(ht:(di (Zp X) (m+2)+1)*2^s<=4294967296):((X/ (2^(32 - s)*B32^m):Nat):Int)<=18446744073709551615:=by
 rw[<-Zrr hs hl];have d:=Zr (Zp X) (m+1);have a:=Yl (Z8 X) (m+1);have b:=Zr (Zp X) m;have c:=Yl (Z8 X) m;have e:(1:Int)<=2^s:=Wz s;have f:=Vl hs;have q1:di (Zp X) (m+1)*2^s<=4294967295*2^s:=jJ a Qk;obtain⟨z0,z1⟩:=Zej hs b c;rw[iH,Int.one_mul]at ht;rw[iH,dK];omega
def Zlq(v1 v2:Value)(X Y m:Nat)(w:World)(h1:ZP w v1 (Zp X))(h2:ZP w v2 (Zp Y))(hl1:(Zp X).length=m+3)(hYX:Y<=X)(hm:(m:Int)<=549755813888):
 Calls prog 170 #[v1,v2] w λe w'=>∃(u0 u1 v0 v1:Int) (ev:Bool),e= .returned (.agg #[.int .u64 u0,.int .u64 u1,.int .u64 v0,.int .u64 v1,.bool ev])/\
  0<=u0/\u0<=4294967295/\0<=u1/\u1<=4294967295/\0<=v0/\v0<=4294967295/\0<=v1/\v1<=4294967295/\(v0≠0->∃R0 R1:Nat,Cof X Y u0.toNat u1.toNat v0.toNat v1.toNat ev R0 R1)/\Below w.heap.size w w':=by
 have x:(Zp Y).length<=m+3:=by have:=Zu hYX;omega
 have y:0<X:=by
  rcases JV X with e|e
  ·subst e;rw[digs_zero]at hl1;simp at hl1
  ·exact e
 have y0:1<=di (Zp X) (m+2):=by
  have:=UK y;rw[hl1]at this;rw[Yx];simp at this;omega
 have y1:=Yl (Z8 X) (m+2);have E:di (Zp Y) (m+2)<=di (Zp X) (m+2):=by
  rw[Yx,Yx,Ykw x,Ykw Qk];have:=Nat.div_le_div_right (c:=B32^(m+2)) hYX;omega
 have a4:=JZ E;have a5:=JZ x;have a6:=JZ hYX;clear E x hYX;obtain⟨A,n1,c,rfl⟩:=h1.shape;obtain⟨kl,ad,ah,kc⟩:=h1.len;obtain⟨b1,af,rfl,ai,i⟩:=h1.at_ Qk;obtain rfl:n1=m+3:=Qk
 have hx:=i (m+2) Qk;have F:=JZ hl1;clear i hl1 kl ad;go_enter func170,ntmps170;go_wp2_with fail;refine(Zoa _ _ y0 y1).mono ?_;rintro e w1 ⟨s,rfl,rfl,a,ae,a3⟩;have G:(di (Zp X) (m+2)+1)*2^s<=4294967296:=by
  have:=Yqf a (Zub a3);rw[Yx,Yo,show((dg (Zp X) (m+2):Nat):Int)+1=((dg (Zp X) (m+2)+1:Nat):Int)from Qk,<-jF];omega
 have r:(di (Zp Y) (m+2)+1)*2^s<=4294967296:=by
  have:(di (Zp Y) (m+2)+1)*2^s<=(di (Zp X) (m+2)+1)*2^s:=jJ (by have:=a4.out;omega) (by have:=Wz s;omega);omega
 have H:=JZ G;have a7:=JZ r;clear ae a3 G r;have hW:Below w.heap.size w (w.alloc (.cells #[.int .u64 0,.int .u64 0,.int .u64 0,.int .u64 0,.bool false] 226)):=(JR _ _).alloc (JY _) _;have I:=Bk.new w 226 [.int .u64 0,.int .u64 0,.int .u64 0,.int .u64 0,.bool false];have eX:=Zrr a (show(Zp X).length<=m+3 by rw[F.out];exact JY _);have eY:=Zrr a a5.out;have j:=Yqg a (show(Zp X).length<=m+3 by rw[F.out];exact JY _) H.out;have q:Y/ (2^(32 - s)*B32^m)<=X/ (2^(32 - s)*B32^m):=Nat.div_le_div_right a6.out;have d:0<2^(32 - s)*B32^m:=aA (jg Ql) (jg B32_pos);have J:=vU X (2^(32 - s)*B32^m);have K:=vU Y (2^(32 - s)*B32^m);have a8:=iC X d;have a9:=iC Y d;generalize 2^(32 - s)*B32^m=D at *;obtain⟨A0,V⟩:∃A0,A0=X/D:=⟨_,rfl⟩;obtain⟨B0,Z⟩:∃B0,B0=Y/D:=⟨_,rfl⟩;rw[<-V]at j q J eX;rw[<-Z]at q K eY;have f:=Leh.start (X:=X) (Y:=Y) q;have k:∀(a1 a2 u0 u1 u2 v0 v1 v2:Int) (ev:Bool),Leh A0 B0 X Y a1 a2 u0 u1 u2 v0 v1 v2 ev->v2<=a2->v1+v2<=a1 - a2->Leh A0 B0 X Y a2 (a1%a2) u1 u2 (u1+(a1/a2)*u2) v1 v2 (v1+(a1/a2)*v2) (!ev):=by
  intro a1 a2 u0 u1 u2 v0 v1 v2 ev hh c1 c2;refine hh.step (D:=D) (e1:=(X%D:Nat)) (e2:=(Y%D:Nat)) Qk ?_ ?_ Qk Qk Qk Qk j c1 c2
  ·have:((D*A0:Nat):Int)=(A0:Int)*D:=by rw[jF,kR]
   omega
  ·have:((D*B0:Nat):Int)=(B0:Int)*D:=by rw[jF,kR]
   omega
 have aa:=JZ k;have ab:(B0:Int)<=18446744073709551615:=Qk
 have L:(0:Int)<=A0:=Qk
 have M:(0:Int)<=B0:=Qk
 have t:(B0:Int)<=A0:=Qk
 clear k J K a8 a9 q V Z d;obtain⟨AI,B⟩:∃AI:Int,AI=(A0:Int):=⟨_,rfl⟩;obtain⟨BI,a0⟩:∃BI:Int,BI=(B0:Int):=⟨_,rfl⟩;rw[<-B]at j L eX t f;rw[<-a0]at ab M eY t f;have EX:=JZ eX;have EY:=JZ eY;have N:=JZ f;have O:=JZ B;clear B a0 eX eY f;go_wp2_with fail;refine(Zka _ (Zp X) m s _ (h1.below hW) a hm H.out).mono ?_;rw[EX.out];rintro e w2 ⟨rfl,o⟩;have P:=I.later o;have g:Below w.heap.size w w2:=hW.trans (o.mono (by simp));clear I o hW;go_wp2_with fail;refine(Zka _ (Zp Y) m s _ (h2.below g) a hm a7.out).mono ?_;rw[EY.out];rintro e w3 ⟨rfl,p⟩;have z:=P.later p;have u:Below w.heap.size w w3:=g.trans (p.mono g.size);clear P p g;go_wp2_with fail
 go_loopw [7,8,10,11] (λt1 t2 t3 t4 wr=>∃(a1 a2 u0 u1 u2 v0 v1 v2:Int) (ev:Bool),t1= .int .u64 a1/\t2= .int .u64 a2/\t3= .int .u64 u2/\t4= .int .u64 v2/\
  Bk wr w3.heap.size 226 [.int .u64 u0,.int .u64 u1,.int .u64 v0,.int .u64 v1,.bool ev]/\Bk wr w.heap.size 226 [.int .u64 0,.int .u64 0,.int .u64 0,.int .u64 0,.bool false]/\Below w.heap.size w wr/\a1<=AI/\Leh A0 B0 X Y a1 a2 u0 u1 u2 v0 v1 v2 ev) (λ_ t2 _ _ _=>(intOf t2).toNat)
 case atStart=>exact⟨AI,BI,0,1,0,0,0,1,false,rfl,rfl,rfl,rfl,Bk.new w3 _ _,z.alloc _,u.alloc u.size _,ib _,N.out⟩
 case round=>
  obtain⟨a1,a2,u0,u1,u2,v0,v1,v2,ev,rfl,rfl,rfl,rfl,hC,hR,C,aj,hL⟩:=hrel;have n1:=hL.a2n;have n2:=hL.a21;have n3:=hL.v2n;have n4:=hL.v1n;have n5:=hL.u1n;have n6:=hL.u2n;have n7:=hL.u0n;have n8:=hL.v0n;have n9:=hL.b1;have R:=hL.b3;have S:=hL.b0;have T:=hL.b2;have e0:=hC.cellAt 0 rfl;have e1:=hC.cellAt 1 rfl;have e2:=hC.cellAt 2 rfl;have e3:=hC.cellAt 3 rfl;have e4:=hC.cellAt 4 rfl;have f0:=hC.frozen 0;have f1:=hC.frozen 1;have f2:=hC.frozen 2;have f3:=hC.frozen 3;have f4:=hC.frozen 4;have HL:=JZ hL;clear hL;have U:(decide (v2<=a2)=false/\decide (v2<=a2)=false)\/(v2<=a2/\a1 - a2<v1+v2)\/(v2<=a2/\v1+v2<=a1 - a2):=by
   rcases jR a2 v2 with c1|c1
   ·left;simp;omega
   ·right;rcases jR (a1 - a2) (v1+v2)with c2|c2
    ·left;exact⟨c1,c2⟩
    ·right;exact⟨c1,c2⟩
  have v:v2<=a2->v1+v2<=18446744073709551615:=λc1=>by
   obtain⟨r1,r2,r3,r4,r5⟩:=HL.out.room c1;have:1*v2<=a1/a2*v2:=jJ r5 Qk;have:=O.out;omega
  have l:w.heap.size≠w3.heap.size:=by have:=z.lt;omega
  have b:=z.lt;rcases U with⟨c1,_⟩|⟨c1,c2⟩|⟨c1,c2⟩
  ·have g0:=hR.cellAt 0 rfl;have g1:=hR.cellAt 1 rfl;have g2:=hR.cellAt 2 rfl;have g3:=hR.cellAt 3 rfl;have g4:=hR.cellAt 4 rfl;have k0:=hR.frozen 0;have k1:=hR.frozen 1;have k2:=hR.frozen 2;have k3:=hR.frozen 3;have k4:=hR.frozen 4;go_wp2;refine Zq results170 underlying226 Qm rfl (((((hR.set_ 0 _).set_ 1 _).set_ 2 _).set_ 3 _).set_ 4 _) rfl ?_;exact⟨u0,u1,v0,v1,ev,rfl,n7,S,n5,n9,n8,T,n4,R,λh=>HL.out.cof h,((((C.setCell (JY _) _).setCell (JY _) _).setCell (JY _) _).setCell (JY _) _).setCell (JY _) _⟩
  ·have ac:=v c1;have ag:decide (v1+v2<=a1 - a2)=false:=(by simp;omega);have g0:=hR.cellAt 0 rfl;have g1:=hR.cellAt 1 rfl;have g2:=hR.cellAt 2 rfl;have g3:=hR.cellAt 3 rfl;have g4:=hR.cellAt 4 rfl;have k0:=hR.frozen 0;have k1:=hR.frozen 1;have k2:=hR.frozen 2;have k3:=hR.frozen 3;have k4:=hR.frozen 4;go_wp2;refine Zq results170 underlying226 Qm rfl (((((hR.set_ 0 _).set_ 1 _).set_ 2 _).set_ 3 _).set_ 4 _) rfl ?_;exact⟨u0,u1,v0,v1,ev,rfl,n7,S,n5,n9,n8,T,n4,R,λh=>HL.out.cof h,((((C.setCell (JY _) _).setCell (JY _) _).setCell (JY _) _).setCell (JY _) _).setCell (JY _) _⟩
  ·have ac:=v c1;obtain⟨r1,r2,r3,r4,r5⟩:=HL.out.room c1;have n:=aa.out _ _ _ _ _ _ _ _ _ HL.out c1 c2;have HN:=JZ n;have m0:=n.a2n;have m1:a1%a2<a2:=kJ _ Qk;have hA:=O.out;have d1:a1/a2<=a1:=vJ _ Qk;have q0:¬a2=0:=Qk;have q2:a1.tmod a2=a1%a2:=vO Qk;have q3:IntKind.u64.wrap (a1%a2)=a1%a2:=u64_in _ m0 Qk;rw[<-hA]at r1 r2;clear n hA;go_wp2
   go_quiet (fail)
   clear q0 q2 q3;go_wp2;go_roundw
   case rel=>
    refine⟨a2,a1%a2,u1,u2,_,v1,v2,_,!ev,rfl,rfl,rfl,rfl,?_,?_,?_,Qk,HN.out⟩
    ·exact((((((hC.drewN nq).set_ 0 _).set_ 1 _).set_ 2 _).set_ 3 _).set_ 4 _)
    ·exact((((((hR.drewN nq).far l _).far l _).far l _).far l _).far l _)
    ·have hb:=aB C nq;exact((((hb.setCell (jZ b) _).setCell (jZ b) _).setCell (jZ b) _).setCell (jZ b) _).setCell (jZ b) _
   case measure=>exact Qn
def Ygi{X Y u0 u1 v0 v1 R0 R1:Nat}(h:Cof X Y u0 u1 v0 v1 true R0 R1):(u0:Int)*X - (v0:Int)*Y=R0/\(v1:Int)*Y - (u1:Int)*X=R1:=by
 have a:=h.e0;have b:=h.e1;simp only[if_true]at a b;rw[kR (u0:Int),kR (v0:Int),kR (v1:Int),kR (u1:Int),<-jF,<-jF,<-jF,<-jF];omega
def Ymo{X Y u0 u1 v0 v1 R0 R1:Nat}(h:Cof X Y u0 u1 v0 v1 false R0 R1):(v0:Int)*Y - (u0:Int)*X=R0/\(u1:Int)*X - (v1:Int)*Y=R1:=by
 have a:=h.e0;have b:=h.e1;simp only[dL,Bj]at a b;rw[kR (u0:Int),kR (v0:Int),kR (v1:Int),kR (u1:Int),<-jF,<-jF,<-jF,<-jF];omega
def Uj(v1 v2:Value)(X Y:Nat)(u v:Int)(R:Nat)(w:World)(h1:ZP w v1 (Zp X))(h2:ZP w v2 (Zp Y))(u0:0<=u)(u1:u<=4294967295)(w0:0<=v)(w1:v<=4294967295)(hs:(Zp X).length<=549755813888)(hs2:(Zp Y).length<=549755813888)
 (hR:u*X - v*Y=(R:Int)) (hlt:R<=X\/R<=Y):
 Calls prog 171 #[v1,.int .u64 u,v2,.int .u64 v] w λe w'=>∃v',e= .returned v'/\ZP w' v' (Zp R)/\Below w.heap.size w w':=by
 have hX:=Yu X;have hY:=Yu Y;rcases JX (Zp X).length (Zp Y).length with h|h
 ·have:=jS B32_pos (jZ h);exact Zxd v1 v2 (Zp X) (Zp Y) u v R w h1 h2 h u0 u1 w0 w1 hs2 (by rw[Zn,Zn];exact hR) Qk
 ·have:=jS B32_pos h;exact Zxe v1 v2 (Zp X) (Zp Y) u v R w h1 h2 h u0 u1 w0 w1 hs (by rw[Zn,Zn];exact hR) Qk
def Yqh(G:Nat)(w:World)(Y:Nat)(v1 v2:Value)(wr:World):Prop:=
 ∃X:Nat,ZP wr v1 (Zp X)/\ZP wr v2 (Zp Y)/\Y<=X/\Nat.gcd X Y=G/\(Zp X).length<=549755813888/\Below w.heap.size w wr
def Zxf(v1 v2:Value)(X Y:Nat)(w:World)(h1:ZP w v1 (Zp X))(h2:ZP w v2 (Zp Y))(hs:(Zp X).length<=549755813888)(hs2:(Zp Y).length<=549755813888):
 Calls prog 163 #[v1,v2] w λe w'=>∃v',e= .returned v'/\ZP w' v' (Zp (Nat.gcd X Y))/\Below w.heap.size w w':=by
 generalize hG:Nat.gcd X Y=G;have HG:=JZ hG;clear hG;go_enter func163,ntmps163;go_wp2_with fail;refine(Yi _ _ X Y _ h1 h2).mono ?_;rintro e w1 ⟨rfl,q⟩;have g1:=h1.below q;have g2:=h2.below q;have start:(Y<=X/\0<=cmpN X Y)\/(X<=Y/\cmpN X Y<0):=by
  rcases kF X Y with h|h|h
  ·right;exact⟨Qk,by rw[UL h];decide⟩
  ·left;exact⟨Qk,by rw[Zrf h];decide⟩
  ·left;exact⟨Qk,by rw[Zha h];decide⟩
 generalize cmpN X Y=cc at *
 go_upto_if 15 with(fail)
 go_cut [0,1] (λs0 s1 wx=>∃n,Yqh G w n s0 s1 wx)
 case first=>
  rcases start with⟨z,hc⟩|⟨z,hc⟩
  ·go_wp2_with fail
   go_meet
   exact⟨Y,X,g1,g2,z,HG.out,hs,q⟩
  ·go_wp2_with fail
   go_meet
   exact⟨X,Y,g2,g1,z,by rw[bK];exact HG.out,hs2,q⟩
 case rest=>
  obtain⟨n0,ab⟩:=hcut;have ad:=JZ ab;clear ab h1 h2 g1 g2 start HG hs hs2 q;go_wp2_with fail
  go_loopg [0,1] n0 (λk s0 s1 wr=>Yqh G w k s0 s1 wr)
  case atStart=>exact ad.out
  case round=>
   obtain⟨X',hx,hy,z,N,o,j⟩:=hrel;have p:=JZ N;clear N;obtain⟨A,l,c,rfl⟩:=hx.shape;obtain⟨hl,aj,ak,hc⟩:=hx.len;obtain⟨A2,l2,c2,rfl⟩:=hy.shape;obtain⟨kl,al,am,kc⟩:=hy.len;have ah:=Zu z;rcases JX 2 l2 with h2|h2
   ·go_wp2_with fail;refine(Zlq _ _ X' gk (l - 3) _ hx hy Qk z Qk).mono ?_;rintro e w2 ⟨u0,u1,v0,v1,ev,rfl,a0,a1,b0,b1,c0,c1,d0,d1,O,i⟩;have B:=JZ O;clear O;have C:=hx.below i;have y:=hy.below i;have d:(Zp gk).length<=549755813888:=Qk;have I:True:=trivial;by_cases a7:v0=0
    ·subst a7;have f:0<gk:=by
      rcases JV gk with e|e
      ·subst e;rw[digs_zero]at kl;simp at kl;omega
      ·exact e
     go_wp2_with fail;refine(Zei _ _ X' gk _ (C.below ((JR _ _).alloc (JY _) _)) (y.below ((JR _ _).alloc (JY _) _)) f o d).mono ?_;rintro e w3 ⟨qv,rv,rfl,hq,hr,g⟩;have a8:Below w2.heap.size w2 w3:=((JR _ _).alloc (JY _) _).trans (g.mono (by simp));have a9:=j.trans (i.mono j.size);have ae:=a9.trans (a8.mono a9.size);have af:=y.below a8;clear g;go_wp2_with fail
     go_roundg (X'%gk)
     case measure=>exact iC _ f
     case rel=>exact⟨gk,af,hr,jZ (iC _ f),by rw[<-p.out,bK X' gk,Bb gk X',bK],d,ae⟩
    ·have ai:(v0==0)=false:=(by simpa using a7);obtain⟨R0,R1,hC⟩:=B.out a7
     cases ev with
     |true=>
      have HC:=JZ hC;obtain⟨s,t⟩:=Ygi hC;simp only[jv a0,jv b0,jv c0,jv d0]at s t;have P:=JZ s;have R:=JZ t;clear hC s t B;go_wp2_with fail;have m:=Bk.new w2 226 [.int .u64 u0,.int .u64 u1,.int .u64 v0,.int .u64 v1,.bool true];have hW:Below w2.heap.size w2 (w2.alloc (.cells #[.int .u64 u0,.int .u64 u1,.int .u64 v0,.int .u64 v1,.bool true] 226)):=(JR _ _).alloc (JY _) _;have D:=C.below hW;have r:=y.below hW;have g:=(j.trans (i.mono j.size)).trans (hW.mono (JW j.size i.size));have q0:=m.cellAt 0 rfl;have q1:=m.cellAt 1 rfl;have q2:=m.cellAt 2 rfl;have q3:=m.cellAt 3 rfl;generalize w2.heap.size=B2 at *;simp only[List.toArray]at m;generalize w2.alloc (.cells #[.int .u64 u0,.int .u64 u1,.int .u64 v0,.int .u64 v1,.bool true] 226)=W at *;clear hW m C y i
      go_region_held3(λw'=>w'.cell? ⟨B2,0,none⟩=some (.int .u64 u0)/\w'.cell? ⟨B2,1,none⟩=some (.int .u64 u1)/\w'.cell? ⟨B2,2,none⟩=some (.int .u64 v0)/\w'.cell? ⟨B2,3,none⟩=some (.int .u64 v1))
       (first|exact⟨q0,q1,q2,q3⟩|exact⟨jy a q0,jy a q1,jy a q2,jy a q3⟩|exact⟨jy b (jy a q0),jy b (jy a q1),jy b (jy a q2),jy b (jy a q3)⟩)
       (first|(go_at_call 171;have _t:=I;refine(Uj _ _ X' gk u0 v0 R0 _ (D.keep (ZI.drew _)) (r.keep (ZI.drew _)) a0 a1 c0 c1 o d P.out (.inr HC.out.le)).mono ?_;clear I _t;rintro e w4 ⟨v4,rfl,a4,a⟩)|(go_at_call 171;refine(Uj _ _ gk X' v1 u1 R1 _ (r.keep ((ZI.drew _).trans (ZI.of_below a))) (D.keep ((ZI.drew _).trans (ZI.of_below a))) d0 d1 b0 b1 d o R.out (.inl (by have:=HC.out.le;have:=HC.out.lt;omega))).mono ?_;rintro e w5 ⟨v5,rfl,a5,b⟩))
      go_wp2_with fail
      go_roundg R1
      case measure=>have:=HC.out.le;have:=HC.out.lt;omega
      case rel=>exact⟨R0,a4.below b,a5,jZ HC.out.lt,by rw[HC.out.gcd];exact p.out,JW (Zu HC.out.le) d,g.trans (((V6 a).trans (b.mono a.size)).mono g.size)⟩
     |false=>
      have HC:=JZ hC;obtain⟨s,t⟩:=Ymo hC;simp only[jv a0,jv b0,jv c0,jv d0]at s t;have P:=JZ s;have R:=JZ t;clear hC s t B;go_wp2_with fail;have m:=Bk.new w2 226 [.int .u64 u0,.int .u64 u1,.int .u64 v0,.int .u64 v1,.bool false];have hW:Below w2.heap.size w2 (w2.alloc (.cells #[.int .u64 u0,.int .u64 u1,.int .u64 v0,.int .u64 v1,.bool false] 226)):=(JR _ _).alloc (JY _) _;have D:=C.below hW;have r:=y.below hW;have g:=(j.trans (i.mono j.size)).trans (hW.mono (JW j.size i.size));have q0:=m.cellAt 0 rfl;have q1:=m.cellAt 1 rfl;have q2:=m.cellAt 2 rfl;have q3:=m.cellAt 3 rfl;generalize w2.heap.size=B2 at *;simp only[List.toArray]at m;generalize w2.alloc (.cells #[.int .u64 u0,.int .u64 u1,.int .u64 v0,.int .u64 v1,.bool false] 226)=W at *;clear hW m C y i
      go_region_held3(λw'=>w'.cell? ⟨B2,0,none⟩=some (.int .u64 u0)/\w'.cell? ⟨B2,1,none⟩=some (.int .u64 u1)/\w'.cell? ⟨B2,2,none⟩=some (.int .u64 v0)/\w'.cell? ⟨B2,3,none⟩=some (.int .u64 v1))
       (first|exact⟨q0,q1,q2,q3⟩|exact⟨jy a q0,jy a q1,jy a q2,jy a q3⟩|exact⟨jy b (jy a q0),jy b (jy a q1),jy b (jy a q2),jy b (jy a q3)⟩)
       (first|(go_at_call 171;have _t:=I;refine(Uj _ _ gk X' v0 u0 R0 _ (r.keep (ZI.drew _)) (D.keep (ZI.drew _)) c0 c1 a0 a1 d o P.out (.inl HC.out.le)).mono ?_;clear I _t;rintro e w4 ⟨v4,rfl,a4,a⟩)|(go_at_call 171;refine(Uj _ _ X' gk u1 v1 R1 _ (D.keep ((ZI.drew _).trans (ZI.of_below a))) (r.keep ((ZI.drew _).trans (ZI.of_below a))) b0 b1 d0 d1 o d R.out (.inr (by have:=HC.out.le;have:=HC.out.lt;omega))).mono ?_;rintro e w5 ⟨v5,rfl,a5,b⟩))
      go_wp2_with fail
      go_roundg R1
      case measure=>have:=HC.out.le;have:=HC.out.lt;omega
      case rel=>exact⟨R0,a4.below b,a5,jZ HC.out.lt,by rw[HC.out.gcd];exact p.out,JW (Zu HC.out.le) d,g.trans (((V6 a).trans (b.mono a.size)).mono g.size)⟩
   ·rcases JV l2 with h0|h0
    ·obtain rfl:l2=0:=h0;have ag:gk=0:=Zre.1 (iX.1 Qk);go_wp2_with fail;refine(Zch _ (Zp X') _ hx Qk).mono ?_;rintro e w2 ⟨v',rfl,ac,i⟩;go_wp2;go_ret;refine⟨_,rfl,?_,j.trans (i.mono j.size)⟩;rw[<-p.out,ag,Nat.gcd_zero_right];exact VX ac (Z8 X')
    ·have t1:((l2:Int)==0)=false:=(by simp;omega);have f:0<gk:=by
      rcases JV gk with e|e
      ·subst e;rw[digs_zero]at kl;simp at kl;omega
      ·exact e
     have J:gk<B32*B32:=Zcj Qk;rcases JX 2 l with hl2|hl2
     ·go_wp2_with fail;refine(Zei _ _ X' gk _ hx hy f o Qk).mono ?_;rintro e w3 ⟨qv,rv,rfl,hq,hr,g⟩;have r:=hy.below g;have aa:X'%gk<B32*B32:=(by have:=iC X' f;omega);go_wp2_with fail;refine(Vf _ gk _ r J).mono ?_;rintro e w4 ⟨rfl,a⟩;obtain⟨za,u⟩:∃za:Int,za=(gk:Int):=⟨_,rfl⟩;have S:0<=za:=Qk;have T:za<=18446744073709551615:=(by unfold B32 at J;omega);rw[<-u];have K:=JZ u;clear u;go_wp2_with fail;refine(Vf _ (X'%gk) _ (hr.below a) aa).mono ?_;rintro e w5 ⟨rfl,b⟩;obtain⟨zb,v⟩:∃zb:Int,zb=((X'%gk:Nat):Int):=⟨_,rfl⟩;have U:0<=zb:=Qk;have V:zb<=18446744073709551615:=(by unfold B32 at aa;omega);rw[<-v];have L:=JZ v;clear v;go_wp2_with fail;refine(Zhe za zb _ S T U V).mono ?_;rintro e w6 ⟨rfl,F⟩;obtain⟨zg,x⟩:∃zg:Int,zg=((Nat.gcd za.toNat zb.toNat:Nat):Int):=⟨_,rfl⟩;have E:zg=(G:Int):=(by rw[x,K.out,L.out,JP,JP,<-p.out,bK X' gk,Bb gk X',bK]);have Z:0<=zg:=Qk;have a2:zg<=18446744073709551615:=by
       have:Nat.gcd X' gk<=gk:=Nat.gcd_le_right _ f;have:=p.out;have:=K.out;omega
      rw[<-x];have a3:=JZ E;clear x E;go_wp2_with fail;refine(Y2 zg _ Z a2).mono ?_;rintro e w7 ⟨v7,rfl,a6,H⟩;go_wp2;go_ret;refine⟨_,rfl,by rwa[a3.out,JP]at a6,?_⟩;have b3:=j.trans (g.mono j.size);have b4:=b3.trans (a.mono b3.size);have b5:=b4.trans (b.mono b4.size);have b6:=b5.trans (F.mono b5.size);exact b6.trans (H.mono b6.size)
     ·have M:X'<B32*B32:=Zcj Qk;go_wp2_with fail;refine(Vf _ X' _ hx M).mono ?_;rintro e w4 ⟨rfl,a⟩;obtain⟨za,u⟩:∃za:Int,za=(X':Int):=⟨_,rfl⟩;have S:0<=za:=Qk;have T:za<=18446744073709551615:=(by unfold B32 at M;omega);rw[<-u];have K:=JZ u;clear u;go_wp2_with fail;refine(Vf _ gk _ (hy.below a) J).mono ?_;rintro e w5 ⟨rfl,b⟩;obtain⟨zb,v⟩:∃zb:Int,zb=(gk:Int):=⟨_,rfl⟩;have U:0<=zb:=Qk;have V:zb<=18446744073709551615:=(by unfold B32 at J;omega);rw[<-v];have L:=JZ v;clear v;go_wp2_with fail;refine(Zhe za zb _ S T U V).mono ?_;rintro e w6 ⟨rfl,F⟩;obtain⟨zg,x⟩:∃zg:Int,zg=((Nat.gcd za.toNat zb.toNat:Nat):Int):=⟨_,rfl⟩;have E:zg=(G:Int):=(by rw[x,K.out,L.out,JP,JP,<-p.out]);have Z:0<=zg:=Qk;have a2:zg<=18446744073709551615:=by
       have:Nat.gcd X' gk<=gk:=Nat.gcd_le_right _ f;have:=p.out;have:=L.out;omega
      rw[<-x];have a3:=JZ E;clear x E;go_wp2_with fail;refine(Y2 zg _ Z a2).mono ?_;rintro e w7 ⟨v7,rfl,a6,H⟩;go_wp2;go_ret;refine⟨_,rfl,by rwa[a3.out,JP]at a6,?_⟩;have b4:=j.trans (a.mono j.size);have b5:=b4.trans (b.mono b4.size);have b6:=b5.trans (F.mono b5.size);exact b6.trans (H.mono b6.size)
def WL{P:Program}{fn:Func}{R:Ending->World->Prop}{a:Act}{w:World}{p q u:Tmp}{ty ty':TypeId}{g g':Nat}{t t':TypeId}{cs cs':List Value}{fs fs':Array Field}(hres:fn.results=#[.cell p ty,.cell q ty',.tmp u])(hu:P.underlying ty=some (.struct fs))(hu':P.underlying ty'=some (.struct fs'))(hi:(P.info? ty).map (·.size)=some cs.length)(hi':(P.info? ty').map (·.size)=some cs'.length)
 (hp:a.tmps.getD p undef= .pointer (some ⟨g,0,none⟩)) (hq:a.tmps.getD q undef= .pointer (some ⟨g',0,none⟩)) (hB:Bk w g t cs) (hB':Bk w g' t' cs') (hd:a.defers=[]) (hR:R (.returned (.tuple #[.agg cs.toArray,.agg cs'.toArray,a.tmps.getD u undef])) w):bodyPost P fn R .ret a w:=by
 refine iP (v:= .tuple #[.agg cs.toArray,.agg cs'.toArray,a.tmps.getD u undef]) ?_ hd hR;have b:a.tmps[p]?.getD undef= .pointer (some ⟨g,0,none⟩):=by simpa using hp
 have c:a.tmps[q]?.getD undef= .pointer (some ⟨g',0,none⟩):=by simpa using hq
 simp[results,hres,b,c,asAddr,vP,Result.andThen,fM w g t ty cs.toArray (0,0) _ hB hu rfl (by simpa using hi),fM w g' t' ty' cs'.toArray (0,0) _ hB' hu' rfl (by simpa using hi')]
def Yal{P:Program}{fn:Func}{R:Ending->World->Prop}{a:Act}{w:World}{p q:Tmp}{ty ty':TypeId}{g g':Nat}{t t':TypeId}{cs cs':List Value}{fs fs':Array Field}(hres:fn.results=#[.cell p ty,.cell q ty'])(hu:P.underlying ty=some (.struct fs))(hu':P.underlying ty'=some (.struct fs'))(hi:(P.info? ty).map (·.size)=some cs.length)(hi':(P.info? ty').map (·.size)=some cs'.length)
 (hp:a.tmps.getD p undef= .pointer (some ⟨g,0,none⟩)) (hq:a.tmps.getD q undef= .pointer (some ⟨g',0,none⟩)) (hB:Bk w g t cs) (hB':Bk w g' t' cs') (hd:a.defers=[]) (hR:R (.returned (.tuple #[.agg cs.toArray,.agg cs'.toArray])) w):bodyPost P fn R .ret a w:=by
 refine iP (v:= .tuple #[.agg cs.toArray,.agg cs'.toArray]) ?_ hd hR;have b:a.tmps[p]?.getD undef= .pointer (some ⟨g,0,none⟩):=by simpa using hp
 have c:a.tmps[q]?.getD undef= .pointer (some ⟨g',0,none⟩):=by simpa using hq
 simp[results,hres,b,c,asAddr,vP,Result.andThen,fM w g t ty cs.toArray (0,0) _ hB hu rfl (by simpa using hi),fM w g' t' ty' cs'.toArray (0,0) _ hB' hu' rfl (by simpa using hi')]
def Xb{P:Program}{fn:Func}{R:Ending->World->Prop}{a:Act}{w:World}{p u:Tmp}{ty:TypeId}{g:Nat}{t:TypeId}{cs:List Value}{fs:Array Field}(hres:fn.results=#[.cell p ty,.tmp u])(hu:P.underlying ty=some (.struct fs))(hi:(P.info? ty).map (·.size)=some cs.length)
 (hp:a.tmps.getD p undef= .pointer (some ⟨g,0,none⟩)) (hB:Bk w g t cs) (hd:a.defers=[]) (hR:R (.returned (.tuple #[.agg cs.toArray,a.tmps.getD u undef])) w):bodyPost P fn R .ret a w:=by
 refine iP (v:= .tuple #[.agg cs.toArray,a.tmps.getD u undef]) ?_ hd hR;have b:a.tmps[p]?.getD undef= .pointer (some ⟨g,0,none⟩):=by simpa using hp
 simp[results,hres,b,asAddr,vP,Result.andThen,fM w g t ty cs.toArray (0,0) _ hB hu rfl (by simpa using hi)]
namespace Pl
def Ykz(a b:Bool)(X Y:Nat):sm (a !=b) (X*Y)=sm a X*sm b Y:=by cases a <;> cases b <;> simp[sm,aC,Bc]
end Pl
def XK(v1 v2:Value)(a b:RI)(w:World)(h1:Yp w v1 a)(h2:Yp w v2 b)(hs:(Zp (val a.ds)).length+(Zp (val b.ds)).length<=1099511627776):
 Calls prog 109 #[v1,v2] w λe w'=>∃v',e= .returned v'/\Yp w' v' (canI (a.z*b.z))/\Below w.heap.size w w':=by
 obtain⟨A,n,c,rfl,hd⟩:=h1.shape;obtain⟨A',n',c',rfl,m⟩:=h2.shape;obtain⟨j,ds⟩:=a;obtain⟨g,o⟩:=b;simp only at hd hs m⊢;obtain⟨W,hW,hX,i,hR,h⟩:=Ykx w (.bool j) (.slice A n c) (.bool g) (.slice A' n' c');have p:=hd.below h;have k:=m.below h;have l:True:=trivial;go_enter func109,ntmps109;go_wp2_with fail;clear hW
 go_region_held3(λw'=>(w'.cell? ⟨w.heap.size,0,none⟩=some (.bool j)/\w'.cell? ⟨w.heap.size,1,none⟩=some (.slice A n c))/\(w'.cell? ⟨w.heap.size+1,0,none⟩=some (.bool g)/\w'.cell? ⟨w.heap.size+1,1,none⟩=some (.slice A' n' c')))
  (first|exact⟨hX.pair,i.pair⟩|exact⟨(hX.drew.later d).pair,(i.drew.later d).pair⟩|exact⟨((hX.drew.later d).later f).pair,((i.drew.later d).later f).pair⟩|exact⟨((hX.drew.later d).later f).two_far Qk _ _,((i.drew.later d).later f).two_far Qk _ _⟩)
  (first
   |(go_at_call 134;have _t:=l;refine(Z7 _ ds _ (p.keep (ZI.drew _))).mono ?_;clear l _t;rintro e w1 ⟨v1,rfl,e1,rfl⟩)
   |(go_at_call 134;refine(Z7 _ o _ (k.keep (ZI.drew _))).mono ?_;rintro e w1 ⟨v2,rfl,e2,rfl⟩)
   |(go_at_call 141;refine(Zwy _ _ (Zp (val ds)) (Zp (val o)) _ e1 e2 hs).mono ?_;rw[Zn,Zn];rintro e w2 ⟨v3,rfl,h3,d⟩)
   |(go_at_call 130;refine(Yd (j !=g) _ _ _ h3).mono ?_;rintro e w3 ⟨v4,rfl,h4,f⟩;obtain⟨A3,n3,k3,rfl,_⟩:=h4.shape;obtain⟨c0,c1,f0,f1⟩:=((hR.drew.later d).later f).two))
 go_wp2;refine Zq results109 underlying47 Qm rfl (((hR.drew.later d).later f).set2 _ _) rfl ?_;rw[RI.z_eq,RI.z_eq,<-Ykz];exact YX ((hR.drew.later d).later f) h4 (Za (Za h.drew d h.size) f (JW h.size d.size)) Qk
def Ygj(v1 v2:Value)(a b:RI)(w:World)(h1:Yp w v1 a)(h2:Yp w v2 b)(hs:(Zp (val a.ds)).length<=549755813888)(hs2:(Zp (val b.ds)).length<=549755813888):
 Calls prog 139 #[v1,v2] w λe w'=>∃v',e= .returned v'/\Yp w' v' (canI (Int.gcd a.z b.z:Nat))/\Below w.heap.size w w':=by
 obtain⟨A,n,c,rfl,hd⟩:=h1.shape;obtain⟨A',n',c',rfl,l⟩:=h2.shape;obtain⟨m,ds⟩:=a;obtain⟨i,o⟩:=b;simp only at hd hs l hs2⊢;obtain⟨W,hW,hX,h,hR,g⟩:=Ykx w (.bool m) (.slice A n c) (.bool i) (.slice A' n' c');have p:=hd.below g;have j:=l.below g;have k:True:=trivial;go_enter func139,ntmps139;go_wp2_with fail;clear hW
 go_region_held3(λw'=>(w'.cell? ⟨w.heap.size,0,none⟩=some (.bool m)/\w'.cell? ⟨w.heap.size,1,none⟩=some (.slice A n c))/\(w'.cell? ⟨w.heap.size+1,0,none⟩=some (.bool i)/\w'.cell? ⟨w.heap.size+1,1,none⟩=some (.slice A' n' c')))
  (first|exact⟨hX.pair,h.pair⟩|exact⟨(hX.drew.later d).pair,(h.drew.later d).pair⟩|exact⟨((hX.drew.later d).later f).pair,((h.drew.later d).later f).pair⟩|exact⟨((hX.drew.later d).later f).two_far Qk _ _,((h.drew.later d).later f).two_far Qk _ _⟩)
  (first
   |(go_at_call 134;have _t:=k;refine(Z7 _ ds _ (p.keep (ZI.drew _))).mono ?_;clear k _t;rintro e w1 ⟨v1,rfl,e1,rfl⟩)
   |(go_at_call 134;refine(Z7 _ o _ (j.keep (ZI.drew _))).mono ?_;rintro e w1 ⟨v2,rfl,e2,rfl⟩)
   |(go_at_call 163;refine(Zxf _ _ (val ds) (val o) _ e1 e2 hs hs2).mono ?_;rintro e w2 ⟨v3,rfl,h3,d⟩)
   |(go_at_call 130;refine(Yd false _ _ _ h3).mono ?_;rintro e w3 ⟨v4,rfl,h4,f⟩;obtain⟨A3,n3,k3,rfl,_⟩:=h4.shape;obtain⟨c0,c1,f0,f1⟩:=((hR.drew.later d).later f).two))
 go_wp2;refine Zq results139 underlying47 Qm rfl (((hR.drew.later d).later f).set2 _ _) rfl ?_;rw[Int.gcd,ZT,ZT];exact YX ((hR.drew.later d).later f) h4 (Za (Za g.drew d g.size) f (JW g.size d.size)) Qk
def Yla(w:World)(x y x' y':Value):∃W,(((w.alloc (.cells #[x,y] 47)).alloc (.cells #[x',y'] 47)).alloc (.cells #[.bool false,.slice none 0 0] 47)).alloc (.cells #[.bool false,.slice none 0 0] 47)=W/\
 Bk W w.heap.size 47 [x,y]/\Bk W (w.heap.size+1) 47 [x',y']/\Bk W (w.heap.size+1+1) 47 [.bool false,.slice none 0 0]/\Bk W (w.heap.size+1+1+1) 47 [.bool false,.slice none 0 0]/\Below w.heap.size w W:=by
 obtain⟨W,hW,h1,h2,h3,h4⟩:=Ykx w x y x' y';refine⟨_,by rw[hW],h1.alloc _,h2.alloc _,h3.alloc _,?_,h4.alloc h4.size _⟩;have:=Bk.new W 47 [.bool false,.slice none 0 0]
 rwa[<-hW,size_alloc,size_alloc,size_alloc,hW]at this
namespace Pl
def Zhg{a b q r:Int}(h:a=b*q+r)(hr:(0<=r/\r<b)\/(b<r/\r<=0)):a.fdiv b=q/\a.fmod b=r:=by
 have c:a.fdiv b=q:=by
  rcases hr with⟨r0,r1⟩|⟨r0,r1⟩
  ·rw[gM _ Qk];exact((Int.ediv_emod_unique Qk).2 ⟨Qk,r0,r1⟩).1
  ·rw[<-Int.neg_fdiv_neg,gM _ Qk];refine((Int.ediv_emod_unique (a:= -a) (b:= -b) (r:= -r) (q:=q) Qk).2 ⟨?_,Qk,Qk⟩).1;rw[h,aC];omega
 refine⟨c,?_⟩;rw[Int.fmod_def,c];omega
def Yv{a b:Bool}{X Y:Nat}(hY:0<Y)(h:X%Y=0\/a=b):(sm a X).fdiv (sm b Y)=sm (a !=b) (X/Y)/\(sm a X).fmod (sm b Y)=sm b (X%Y):=by
 have e:=vU X Y;have l:=iC X hY;generalize X/Y=q at *;generalize X%Y=r at *;have e':(Y:Int)*q+r=X:=by rw[<-e];simp
 apply Zhg
 ·rw[sm,sm,sm,sm,<-e'];rcases h with h|h
  ·subst h;cases a <;> cases b <;> simp[aC,Bc]
  ·subst h;cases a <;> simp[aC];omega
 ·cases b <;> simp[sm] <;> omega
def Ul{a b:Bool}{X Y:Nat}(hY:0<Y)(h:X%Y≠0)(hab:a≠b):(sm a X).fdiv (sm b Y)=sm (a !=b) (X/Y+1)/\(sm a X).fmod (sm b Y)=sm b (Y - X%Y):=by
 have e:=vU X Y;have l:=iC X hY;generalize X/Y=q at *;generalize X%Y=r at *;have e':(Y:Int)*q+r=X:=by rw[<-e];simp
 have e2:((Y - r:Nat):Int)=Y - r:=Qk
 apply Zhg
 ·rw[sm,sm,sm,sm,<-e',e2]
  cases a <;> cases b <;> simp[aC,Bc,gI]at hab⊢ <;> omega
 ·cases b <;> simp[sm] <;> omega
end Pl
def Bk.far2{w:World}{g g':Nat}{t:TypeId}{cs:List Value}(h:Bk w g t cs)(hne:g≠g')(c d:Value):Bk ((w.setCell ⟨g',0,none⟩ c).setCell ⟨g',1,none⟩ d) g t cs:=
 (h.far (p:=⟨g',0,none⟩) hne c).far (p:=⟨g',1,none⟩) hne d
def Xg{w w4:World}{g g':Nat}{x y x' y' b s b' s':Value}{q r:RI}(hR:Bk w4 g 47 [x,y])(hR':Bk w4 g' 47 [x',y'])(hne:g≠g')(dq:Yp w4 (.agg #[b,s]) q)(dr:Yp w4 (.agg #[b',s']) r){m:Nat}(hbe:Below m w w4)(hg:m<=g)(hg':m<=g'):
 Bk ((((w4.setCell ⟨g,0,none⟩ b).setCell ⟨g,1,none⟩ s).setCell ⟨g',0,none⟩ b').setCell ⟨g',1,none⟩ s') g 47 [b,s]/\Bk ((((w4.setCell ⟨g,0,none⟩ b).setCell ⟨g,1,none⟩ s).setCell ⟨g',0,none⟩ b').setCell ⟨g',1,none⟩ s') g' 47 [b',s']/\
 Yp ((((w4.setCell ⟨g,0,none⟩ b).setCell ⟨g,1,none⟩ s).setCell ⟨g',0,none⟩ b').setCell ⟨g',1,none⟩ s') (.agg #[b,s]) q/\Yp ((((w4.setCell ⟨g,0,none⟩ b).setCell ⟨g,1,none⟩ s).setCell ⟨g',0,none⟩ b').setCell ⟨g',1,none⟩ s') (.agg #[b',s']) r/\Below m w ((((w4.setCell ⟨g,0,none⟩ b).setCell ⟨g,1,none⟩ s).setCell ⟨g',0,none⟩ b').setCell ⟨g',1,none⟩ s'):=by
 have h1:=hR.set2 b s;have h2:Bk ((w4.setCell ⟨g,0,none⟩ b).setCell ⟨g,1,none⟩ s) g' 47 [x',y']:=(hR'.far (p:=⟨g,0,none⟩) (bL hne) b).far (p:=⟨g,1,none⟩) (bL hne) s;have k1:=hR.keep2 Ql b s;have k2:=h2.keep2 Ql b' s';exact⟨(h1.far (p:=⟨g',0,none⟩) hne b').far (p:=⟨g',1,none⟩) hne s',h2.set2 b' s',dq.keep (k1.trans k2),dr.keep (k1.trans k2),Yf (Yf hbe hg _ _) hg' _ _⟩
def Ymq(a b:RI)(w:World)(e:Ending)(w':World):Prop:=
 ∃q r,e= .returned (.tuple #[q,r,.int .i64 (if b.z=0 then 11 else 0)])/\Yp w' q (canI (if b.z=0 then 0 else a.z.fdiv b.z))/\Yp w' r (canI (if b.z=0 then 0 else a.z.fmod b.z))/\Below w.heap.size w w'
def Zhh(v1 v2:Value)(a b:RI)(w:World)(h1:Yp w v1 a)(h2:Yp w v2 b)(hs:(Zp (val a.ds)).length<=549755813888)(hs2:(Zp (val b.ds)).length<=549755813888):
 Calls prog 140 #[v1,v2] w (Ymq a b w):=by
 obtain⟨A,n,c,rfl,hd⟩:=h1.shape;obtain⟨A',n',c',rfl,ab⟩:=h2.shape;obtain⟨T,ds⟩:=a;obtain⟨t,r⟩:=b;simp only at hd ab hs hs2⊢;obtain⟨W,hW,hX,a7,hR,ac,U⟩:=Yla w (.bool T) (.slice A n c) (.bool t) (.slice A' n' c');have a8:=hd.below U;have V:=ab.below U;have j:True:=trivial;go_enter func140,ntmps140;go_wp2_with fail;clear hW
 go_region_held3(λw'=>(w'.cell? ⟨w.heap.size,0,none⟩=some (.bool T)/\w'.cell? ⟨w.heap.size,1,none⟩=some (.slice A n c))/\(w'.cell? ⟨w.heap.size+1,0,none⟩=some (.bool t)/\w'.cell? ⟨w.heap.size+1,1,none⟩=some (.slice A' n' c')))
  (exact⟨hX.pair,a7.pair⟩)
  (first
   |(go_at_call 134;have _t:=j;refine(Z7 _ ds _ (a8.keep (ZI.drew _))).mono ?_;clear j _t;rintro e w1 ⟨v1,rfl,e1,rfl⟩)
   |(go_at_call 134;refine(Z7 _ r _ (V.keep (ZI.drew _))).mono ?_;rintro e w1 ⟨v2,rfl,e2,rfl⟩))
 have a9:=hX.drew;have X:=a7.drew;have S:=hR.drew;have K:=ac.drew;have L:=U.drew;clear hX a7 U a8 V hR ac;generalize W.drew=W2 at *;obtain⟨A1,n1,c1,rfl⟩:=e1.shape;obtain⟨kl,P,ag,kc⟩:=e1.len;obtain⟨A2,n2,c2,rfl⟩:=e2.shape;obtain⟨jl,ad,ah,jc⟩:=e2.len;rcases JV n2 with h0|h0
 ·have hy:val r=0:=WT Qk;have hz:RI.z ⟨t,r⟩=0:=by rw[RI.z_eq,hy,Zek]
  have HZ:=JZ hz;clear hy hz kl P jl ad;subst h0;obtain⟨c0,c1,f0,f1⟩:=S.two;obtain⟨F,G,H,I⟩:=K.two;go_wp2;obtain⟨a1,a2,a3,a4,a5⟩:=Xg S K Qk (Yp.zero W2) (Yp.zero W2) L Qk Qk;refine WL results140 underlying47 underlying47 Qm Qm rfl rfl a1 a2 rfl ?_;exact⟨_,_,by rw[jB HZ.out];rfl,by rw[jB HZ.out];exact a3,by rw[jB HZ.out];exact a4,a5⟩
 ·have hy:val r≠0:=UN Qk;have hz:RI.z ⟨t,r⟩≠0:=by rw[RI.z_eq];cases t <;> simp[sm] <;> omega
  have HZ:=JZ hz;have HY:=JZ (vI hy);clear hy hz kl P jl ad;go_wp2_with fail;refine(Zei _ _ (val ds) (val r) _ e1 e2 HY.out hs hs2).mono ?_;rintro e w3 ⟨qv,rv,rfl,dq,dr,J⟩;have h:=a9.later J;have g:=X.later J;have o:=S.later J;have l:=K.later J;have i:=Za L J L.size;have aa:=e2.below J;clear a9 X S K L J;obtain⟨x0,x1,_,_⟩:=h.two;obtain⟨ae,af,_,_⟩:=g.two;obtain⟨A3,n3,c3,rfl⟩:=dr.shape;obtain⟨kl,P,ag,kc⟩:=dr.len;have hq:(Zp (val ds/val r)).length<=549755813888:=JW (Zu (dO _ _)) hs;have HQ:=JZ hq;have p:w.heap.size≠w.heap.size+1+1:=Qk
  have q:w.heap.size+1≠w.heap.size+1+1:=Qk
  have y:w.heap.size≠w.heap.size+1+1+1:=Qk
  have B:w.heap.size+1≠w.heap.size+1+1+1:=Qk
  clear hq;rcases JV n3 with h3|h3
  ·have Z:=JZ (WT (n:=val ds%val r) Qk);subst h3;clear kl P h0
   cases T
   ·cases t
    ·go_wp2_with fail;have j:True:=trivial
     go_region_held3(λw'=>w'.cell? ⟨w.heap.size,0,none⟩=some (.bool false)/\w'.cell? ⟨w.heap.size+1,0,none⟩=some (.bool false))
      (first|with_reducible exact⟨h.pair.1,g.pair.1⟩|with_reducible exact⟨h.drew.pair.1,g.drew.pair.1⟩|with_reducible exact⟨(h.drew.later d).pair.1,(g.drew.later d).pair.1⟩|with_reducible exact⟨((h.drew.later d).later f).pair.1,((g.drew.later d).later f).pair.1⟩|with_reducible exact⟨(((h.drew.later d).later f).two_far p _ _).1,(((g.drew.later d).later f).two_far q _ _).1⟩|with_reducible exact⟨((((h.drew.later d).later f).far2 p _ _).two_far y _ _).1,((((g.drew.later d).later f).far2 q _ _).two_far B _ _).1⟩)
      (first
       |(go_at_call 130;have _t:=j;refine(Yd _ _ _ _ (dq.keep (ZI.drew _))).mono ?_;clear j _t;rintro e w6 ⟨v6,rfl,e6,d⟩;obtain⟨A6,n6,k6,rfl,_⟩:=e6.shape)
       |(go_at_call 130;refine(Yd _ _ _ _ ((dr.keep (ZI.drew _)).below d)).mono ?_;rintro e w7 ⟨v7,rfl,e7,f⟩;obtain⟨A7,n7,k7,rfl,_⟩:=e7.shape;obtain⟨c0,c1,f0,f1⟩:=((o.drew.later d).later f).two;obtain⟨F,G,H,I⟩:=((l.drew.later d).later f).two))
     go_wp2;obtain⟨a1,a2,a3,a4,a5⟩:=Xg ((o.drew.later d).later f) ((l.drew.later d).later f) Qk (e6.below f) e7 (Za (Za i.drew d i.size) f (JW i.size d.size)) Qk Qk;refine WL results140 underlying47 underlying47 Qm Qm rfl rfl a1 a2 rfl ?_;exact⟨_,_,by rw[jA HZ.out];rfl,by rw[jA HZ.out,RI.z_eq,RI.z_eq,(Yv HY.out (.inl Z.out)).1];exact a3,by rw[jA HZ.out,RI.z_eq,RI.z_eq,(Yv HY.out (.inl Z.out)).2];exact a4,a5⟩
    ·go_wp2_with fail;have j:True:=trivial
     go_region_held3(λw'=>w'.cell? ⟨w.heap.size,0,none⟩=some (.bool false)/\w'.cell? ⟨w.heap.size+1,0,none⟩=some (.bool true))
      (first|with_reducible exact⟨h.pair.1,g.pair.1⟩|with_reducible exact⟨h.drew.pair.1,g.drew.pair.1⟩|with_reducible exact⟨(h.drew.later d).pair.1,(g.drew.later d).pair.1⟩|with_reducible exact⟨((h.drew.later d).later f).pair.1,((g.drew.later d).later f).pair.1⟩|with_reducible exact⟨(((h.drew.later d).later f).two_far p _ _).1,(((g.drew.later d).later f).two_far q _ _).1⟩|with_reducible exact⟨((((h.drew.later d).later f).far2 p _ _).two_far y _ _).1,((((g.drew.later d).later f).far2 q _ _).two_far B _ _).1⟩)
      (first
       |(go_at_call 130;have _t:=j;refine(Yd _ _ _ _ (dq.keep (ZI.drew _))).mono ?_;clear j _t;rintro e w6 ⟨v6,rfl,e6,d⟩;obtain⟨A6,n6,k6,rfl,_⟩:=e6.shape)
       |(go_at_call 130;refine(Yd _ _ _ _ ((dr.keep (ZI.drew _)).below d)).mono ?_;rintro e w7 ⟨v7,rfl,e7,f⟩;obtain⟨A7,n7,k7,rfl,_⟩:=e7.shape;obtain⟨c0,c1,f0,f1⟩:=((o.drew.later d).later f).two;obtain⟨F,G,H,I⟩:=((l.drew.later d).later f).two))
     go_wp2;obtain⟨a1,a2,a3,a4,a5⟩:=Xg ((o.drew.later d).later f) ((l.drew.later d).later f) Qk (e6.below f) e7 (Za (Za i.drew d i.size) f (JW i.size d.size)) Qk Qk;refine WL results140 underlying47 underlying47 Qm Qm rfl rfl a1 a2 rfl ?_;exact⟨_,_,by rw[jA HZ.out];rfl,by rw[jA HZ.out,RI.z_eq,RI.z_eq,(Yv HY.out (.inl Z.out)).1];exact a3,by rw[jA HZ.out,RI.z_eq,RI.z_eq,(Yv HY.out (.inl Z.out)).2];exact a4,a5⟩
   ·cases t
    ·go_wp2_with fail;have j:True:=trivial
     go_region_held3(λw'=>w'.cell? ⟨w.heap.size,0,none⟩=some (.bool true)/\w'.cell? ⟨w.heap.size+1,0,none⟩=some (.bool false))
      (first|with_reducible exact⟨h.pair.1,g.pair.1⟩|with_reducible exact⟨h.drew.pair.1,g.drew.pair.1⟩|with_reducible exact⟨(h.drew.later d).pair.1,(g.drew.later d).pair.1⟩|with_reducible exact⟨((h.drew.later d).later f).pair.1,((g.drew.later d).later f).pair.1⟩|with_reducible exact⟨(((h.drew.later d).later f).two_far p _ _).1,(((g.drew.later d).later f).two_far q _ _).1⟩|with_reducible exact⟨((((h.drew.later d).later f).far2 p _ _).two_far y _ _).1,((((g.drew.later d).later f).far2 q _ _).two_far B _ _).1⟩)
      (first
       |(go_at_call 130;have _t:=j;refine(Yd _ _ _ _ (dq.keep (ZI.drew _))).mono ?_;clear j _t;rintro e w6 ⟨v6,rfl,e6,d⟩;obtain⟨A6,n6,k6,rfl,_⟩:=e6.shape)
       |(go_at_call 130;refine(Yd _ _ _ _ ((dr.keep (ZI.drew _)).below d)).mono ?_;rintro e w7 ⟨v7,rfl,e7,f⟩;obtain⟨A7,n7,k7,rfl,_⟩:=e7.shape;obtain⟨c0,c1,f0,f1⟩:=((o.drew.later d).later f).two;obtain⟨F,G,H,I⟩:=((l.drew.later d).later f).two))
     go_wp2;obtain⟨a1,a2,a3,a4,a5⟩:=Xg ((o.drew.later d).later f) ((l.drew.later d).later f) Qk (e6.below f) e7 (Za (Za i.drew d i.size) f (JW i.size d.size)) Qk Qk;refine WL results140 underlying47 underlying47 Qm Qm rfl rfl a1 a2 rfl ?_;exact⟨_,_,by rw[jA HZ.out];rfl,by rw[jA HZ.out,RI.z_eq,RI.z_eq,(Yv HY.out (.inl Z.out)).1];exact a3,by rw[jA HZ.out,RI.z_eq,RI.z_eq,(Yv HY.out (.inl Z.out)).2];exact a4,a5⟩
    ·go_wp2_with fail;have j:True:=trivial
     go_region_held3(λw'=>w'.cell? ⟨w.heap.size,0,none⟩=some (.bool true)/\w'.cell? ⟨w.heap.size+1,0,none⟩=some (.bool true))
      (first|with_reducible exact⟨h.pair.1,g.pair.1⟩|with_reducible exact⟨h.drew.pair.1,g.drew.pair.1⟩|with_reducible exact⟨(h.drew.later d).pair.1,(g.drew.later d).pair.1⟩|with_reducible exact⟨((h.drew.later d).later f).pair.1,((g.drew.later d).later f).pair.1⟩|with_reducible exact⟨(((h.drew.later d).later f).two_far p _ _).1,(((g.drew.later d).later f).two_far q _ _).1⟩|with_reducible exact⟨((((h.drew.later d).later f).far2 p _ _).two_far y _ _).1,((((g.drew.later d).later f).far2 q _ _).two_far B _ _).1⟩)
      (first
       |(go_at_call 130;have _t:=j;refine(Yd _ _ _ _ (dq.keep (ZI.drew _))).mono ?_;clear j _t;rintro e w6 ⟨v6,rfl,e6,d⟩;obtain⟨A6,n6,k6,rfl,_⟩:=e6.shape)
       |(go_at_call 130;refine(Yd _ _ _ _ ((dr.keep (ZI.drew _)).below d)).mono ?_;rintro e w7 ⟨v7,rfl,e7,f⟩;obtain⟨A7,n7,k7,rfl,_⟩:=e7.shape;obtain⟨c0,c1,f0,f1⟩:=((o.drew.later d).later f).two;obtain⟨F,G,H,I⟩:=((l.drew.later d).later f).two))
     go_wp2;obtain⟨a1,a2,a3,a4,a5⟩:=Xg ((o.drew.later d).later f) ((l.drew.later d).later f) Qk (e6.below f) e7 (Za (Za i.drew d i.size) f (JW i.size d.size)) Qk Qk;refine WL results140 underlying47 underlying47 Qm Qm rfl rfl a1 a2 rfl ?_;exact⟨_,_,by rw[jA HZ.out];rfl,by rw[jA HZ.out,RI.z_eq,RI.z_eq,(Yv HY.out (.inl Z.out)).1];exact a3,by rw[jA HZ.out,RI.z_eq,RI.z_eq,(Yv HY.out (.inl Z.out)).2];exact a4,a5⟩
  ·have Z:=JZ (UN (n:=val ds%val r) Qk);clear kl P h0
   cases T
   ·cases t
    ·go_wp2_with fail;have j:True:=trivial
     go_region_held3(λw'=>w'.cell? ⟨w.heap.size,0,none⟩=some (.bool false)/\w'.cell? ⟨w.heap.size+1,0,none⟩=some (.bool false))
      (first|with_reducible exact⟨h.pair.1,g.pair.1⟩|with_reducible exact⟨h.drew.pair.1,g.drew.pair.1⟩|with_reducible exact⟨(h.drew.later d).pair.1,(g.drew.later d).pair.1⟩|with_reducible exact⟨((h.drew.later d).later f).pair.1,((g.drew.later d).later f).pair.1⟩|with_reducible exact⟨(((h.drew.later d).later f).two_far p _ _).1,(((g.drew.later d).later f).two_far q _ _).1⟩|with_reducible exact⟨((((h.drew.later d).later f).far2 p _ _).two_far y _ _).1,((((g.drew.later d).later f).far2 q _ _).two_far B _ _).1⟩)
      (first
       |(go_at_call 130;have _t:=j;refine(Yd _ _ _ _ (dq.keep (ZI.drew _))).mono ?_;clear j _t;rintro e w6 ⟨v6,rfl,e6,d⟩;obtain⟨A6,n6,k6,rfl,_⟩:=e6.shape)
       |(go_at_call 130;refine(Yd _ _ _ _ ((dr.keep (ZI.drew _)).below d)).mono ?_;rintro e w7 ⟨v7,rfl,e7,f⟩;obtain⟨A7,n7,k7,rfl,_⟩:=e7.shape;obtain⟨c0,c1,f0,f1⟩:=((o.drew.later d).later f).two;obtain⟨F,G,H,I⟩:=((l.drew.later d).later f).two))
     go_wp2;obtain⟨a1,a2,a3,a4,a5⟩:=Xg ((o.drew.later d).later f) ((l.drew.later d).later f) Qk (e6.below f) e7 (Za (Za i.drew d i.size) f (JW i.size d.size)) Qk Qk;refine WL results140 underlying47 underlying47 Qm Qm rfl rfl a1 a2 rfl ?_;exact⟨_,_,by rw[jA HZ.out];rfl,by rw[jA HZ.out,RI.z_eq,RI.z_eq,(Yv HY.out (.inr rfl)).1];exact a3,by rw[jA HZ.out,RI.z_eq,RI.z_eq,(Yv HY.out (.inr rfl)).2];exact a4,a5⟩
    ·go_wp2_with fail;refine(Zeg _ _ (Zp (val ds/val r)) [1] _ (dq.below (Ze _ _)) (YU.dig (YU.new w3 [1]) (by simp[okD,B32]) (c:=1) (by simp) (by simp[maxLen])) HQ.out (by simp)).mono ?_;rw[Zn,show val [1]=1 from by simp[val]];rintro e w4 ⟨v4,rfl,e4,R⟩;have k:=Za (Ze w3 _) R (by simp);have M:=h.later k;have C:=g.later k;have N:=o.later k;have D:=l.later k;have v:=Za i k i.size;have Y:=dr.below k;have a0:=aa.below k;clear h g o l i k R x0 x1 ae af;go_wp2_with fail;refine(Zah _ _ (Zp (val r)) (Zp (val ds%val r)) _ a0 Y (by rw[Zn,Zn];exact jZ (iC _ HY.out)) (Zu (jZ (iC _ HY.out))) hs2).mono ?_;rw[Zn,Zn];rintro e w5 ⟨v5,rfl,e5,s⟩;have u:=M.later s;have m:=C.later s;have O:=N.later s;have E:=D.later s;have x:=Za v s v.size;have a6:=e4.below s;clear M C N D v s;go_wp2_with fail;have j:True:=trivial
     go_region_held3(λw'=>w'.cell? ⟨w.heap.size,0,none⟩=some (.bool false)/\w'.cell? ⟨w.heap.size+1,0,none⟩=some (.bool true))
      (first|with_reducible exact⟨u.pair.1,m.pair.1⟩|with_reducible exact⟨u.drew.pair.1,m.drew.pair.1⟩|with_reducible exact⟨(u.drew.later d).pair.1,(m.drew.later d).pair.1⟩|with_reducible exact⟨((u.drew.later d).later f).pair.1,((m.drew.later d).later f).pair.1⟩|with_reducible exact⟨(((u.drew.later d).later f).two_far p _ _).1,(((m.drew.later d).later f).two_far q _ _).1⟩|with_reducible exact⟨((((u.drew.later d).later f).far2 p _ _).two_far y _ _).1,((((m.drew.later d).later f).far2 q _ _).two_far B _ _).1⟩)
      (first
       |(go_at_call 130;have _t:=j;refine(Yd _ _ _ _ (a6.keep (ZI.drew _))).mono ?_;clear j _t;rintro e w6 ⟨v6,rfl,e6,d⟩;obtain⟨A6,n6,k6,rfl,_⟩:=e6.shape)
       |(go_at_call 130;refine(Yd _ _ _ _ ((e5.keep (ZI.drew _)).below d)).mono ?_;rintro e w7 ⟨v7,rfl,e7,f⟩;obtain⟨A7,n7,k7,rfl,_⟩:=e7.shape;obtain⟨c0,c1,f0,f1⟩:=((O.drew.later d).later f).two;obtain⟨F,G,H,I⟩:=((E.drew.later d).later f).two))
     go_wp2;obtain⟨a1,a2,a3,a4,a5⟩:=Xg ((O.drew.later d).later f) ((E.drew.later d).later f) Qk (e6.below f) e7 (Za (Za x.drew d x.size) f (JW x.size d.size)) Qk Qk;refine WL results140 underlying47 underlying47 Qm Qm rfl rfl a1 a2 rfl ?_;exact⟨_,_,by rw[jA HZ.out];rfl,by rw[jA HZ.out,RI.z_eq,RI.z_eq,(Ul HY.out Z.out (by simp)).1];exact a3,by rw[jA HZ.out,RI.z_eq,RI.z_eq,(Ul HY.out Z.out (by simp)).2];exact a4,a5⟩
   ·cases t
    ·go_wp2_with fail;refine(Zeg _ _ (Zp (val ds/val r)) [1] _ (dq.below (Ze _ _)) (YU.dig (YU.new w3 [1]) (by simp[okD,B32]) (c:=1) (by simp) (by simp[maxLen])) HQ.out (by simp)).mono ?_;rw[Zn,show val [1]=1 from by simp[val]];rintro e w4 ⟨v4,rfl,e4,R⟩;have k:=Za (Ze w3 _) R (by simp);have M:=h.later k;have C:=g.later k;have N:=o.later k;have D:=l.later k;have v:=Za i k i.size;have Y:=dr.below k;have a0:=aa.below k;clear h g o l i k R x0 x1 ae af;go_wp2_with fail;refine(Zah _ _ (Zp (val r)) (Zp (val ds%val r)) _ a0 Y (by rw[Zn,Zn];exact jZ (iC _ HY.out)) (Zu (jZ (iC _ HY.out))) hs2).mono ?_;rw[Zn,Zn];rintro e w5 ⟨v5,rfl,e5,s⟩;have u:=M.later s;have m:=C.later s;have O:=N.later s;have E:=D.later s;have x:=Za v s v.size;have a6:=e4.below s;clear M C N D v s;go_wp2_with fail;have j:True:=trivial
     go_region_held3(λw'=>w'.cell? ⟨w.heap.size,0,none⟩=some (.bool true)/\w'.cell? ⟨w.heap.size+1,0,none⟩=some (.bool false))
      (first|with_reducible exact⟨u.pair.1,m.pair.1⟩|with_reducible exact⟨u.drew.pair.1,m.drew.pair.1⟩|with_reducible exact⟨(u.drew.later d).pair.1,(m.drew.later d).pair.1⟩|with_reducible exact⟨((u.drew.later d).later f).pair.1,((m.drew.later d).later f).pair.1⟩|with_reducible exact⟨(((u.drew.later d).later f).two_far p _ _).1,(((m.drew.later d).later f).two_far q _ _).1⟩|with_reducible exact⟨((((u.drew.later d).later f).far2 p _ _).two_far y _ _).1,((((m.drew.later d).later f).far2 q _ _).two_far B _ _).1⟩)
      (first
       |(go_at_call 130;have _t:=j;refine(Yd _ _ _ _ (a6.keep (ZI.drew _))).mono ?_;clear j _t;rintro e w6 ⟨v6,rfl,e6,d⟩;obtain⟨A6,n6,k6,rfl,_⟩:=e6.shape)
       |(go_at_call 130;refine(Yd _ _ _ _ ((e5.keep (ZI.drew _)).below d)).mono ?_;rintro e w7 ⟨v7,rfl,e7,f⟩;obtain⟨A7,n7,k7,rfl,_⟩:=e7.shape;obtain⟨c0,c1,f0,f1⟩:=((O.drew.later d).later f).two;obtain⟨F,G,H,I⟩:=((E.drew.later d).later f).two))
     go_wp2;obtain⟨a1,a2,a3,a4,a5⟩:=Xg ((O.drew.later d).later f) ((E.drew.later d).later f) Qk (e6.below f) e7 (Za (Za x.drew d x.size) f (JW x.size d.size)) Qk Qk;refine WL results140 underlying47 underlying47 Qm Qm rfl rfl a1 a2 rfl ?_;exact⟨_,_,by rw[jA HZ.out];rfl,by rw[jA HZ.out,RI.z_eq,RI.z_eq,(Ul HY.out Z.out (by simp)).1];exact a3,by rw[jA HZ.out,RI.z_eq,RI.z_eq,(Ul HY.out Z.out (by simp)).2];exact a4,a5⟩
    ·go_wp2_with fail;have j:True:=trivial
     go_region_held3(λw'=>w'.cell? ⟨w.heap.size,0,none⟩=some (.bool true)/\w'.cell? ⟨w.heap.size+1,0,none⟩=some (.bool true))
      (first|with_reducible exact⟨h.pair.1,g.pair.1⟩|with_reducible exact⟨h.drew.pair.1,g.drew.pair.1⟩|with_reducible exact⟨(h.drew.later d).pair.1,(g.drew.later d).pair.1⟩|with_reducible exact⟨((h.drew.later d).later f).pair.1,((g.drew.later d).later f).pair.1⟩|with_reducible exact⟨(((h.drew.later d).later f).two_far p _ _).1,(((g.drew.later d).later f).two_far q _ _).1⟩|with_reducible exact⟨((((h.drew.later d).later f).far2 p _ _).two_far y _ _).1,((((g.drew.later d).later f).far2 q _ _).two_far B _ _).1⟩)
      (first
       |(go_at_call 130;have _t:=j;refine(Yd _ _ _ _ (dq.keep (ZI.drew _))).mono ?_;clear j _t;rintro e w6 ⟨v6,rfl,e6,d⟩;obtain⟨A6,n6,k6,rfl,_⟩:=e6.shape)
       |(go_at_call 130;refine(Yd _ _ _ _ ((dr.keep (ZI.drew _)).below d)).mono ?_;rintro e w7 ⟨v7,rfl,e7,f⟩;obtain⟨A7,n7,k7,rfl,_⟩:=e7.shape;obtain⟨c0,c1,f0,f1⟩:=((o.drew.later d).later f).two;obtain⟨F,G,H,I⟩:=((l.drew.later d).later f).two))
     go_wp2;obtain⟨a1,a2,a3,a4,a5⟩:=Xg ((o.drew.later d).later f) ((l.drew.later d).later f) Qk (e6.below f) e7 (Za (Za i.drew d i.size) f (JW i.size d.size)) Qk Qk;refine WL results140 underlying47 underlying47 Qm Qm rfl rfl a1 a2 rfl ?_;exact⟨_,_,by rw[jA HZ.out];rfl,by rw[jA HZ.out,RI.z_eq,RI.z_eq,(Yv HY.out (.inr rfl)).1];exact a3,by rw[jA HZ.out,RI.z_eq,RI.z_eq,(Yv HY.out (.inr rfl)).2];exact a4,a5⟩
section
namespace Pl
structure RF where
 num:RI
 den:RI
def RF.q(f:RF):Rat:=Rat.divInt f.num.z f.den.z
def canF(q:Rat):RF:=⟨canI q.num,canI (q.den:Int)⟩
def Zv(q:Rat):(canF q).q=q:=by
 simp only[RF.q,canF,ZM];exact vY q
def RI.Sm(a:RI):Prop:=(Zp (val a.ds)).length<=68719476736
def RF.Sm(f:RF):Prop:=f.num.Sm/\f.den.Sm
end Pl
def Zx(w:World)(v:Value)(f:RF):Prop:=
 ∃A n c A' n' c',v= .agg #[.bool f.num.neg,.slice A n c,.bool f.den.neg,.slice A' n' c']/\ZP w (.slice A n c) f.num.ds/\ZP w (.slice A' n' c') f.den.ds
def Zx.keep{w w':World}{v:Value}{a:RF}(h:Zx w v a)(hk:ZI w w'):Zx w' v a:=by
 obtain⟨A,n,c,A',n',c',h1,h2,h3⟩:=h;exact⟨A,n,c,A',n',c',h1,h2.keep hk,h3.keep hk⟩
def Zx.below{w w':World}{v:Value}{a:RF}(h:Zx w v a)(hb:Below w.heap.size w w'):Zx w' v a:=h.keep (ZI.of_below hb)
def Zx.mk{w:World}{A A':Option Addr}{n n' c c':Nat}{x y:RI}(h1:Yp w (.agg #[.bool x.neg,.slice A n c]) x)(h2:Yp w (.agg #[.bool y.neg,.slice A' n' c']) y):
 Zx w (.agg #[.bool x.neg,.slice A n c,.bool y.neg,.slice A' n' c']) ⟨x,y⟩:=by
 obtain⟨s,e,d⟩:=h1;obtain⟨s',e',d'⟩:=h2;simp at e e';subst e e';exact⟨_,_,_,_,_,_,rfl,d,d'⟩
section
variable {w:World} {g:Nat} {t:TypeId} {a b c d:Value}
def Bk.four(h:Bk w g t [a,b,c,d]):(w.cell? ⟨g,0,none⟩=some a/\w.cell? ⟨g,1,none⟩=some b/\w.cell? ⟨g,2,none⟩=some c/\w.cell? ⟨g,3,none⟩=some d):=⟨h.cellAt 0 rfl,h.cellAt 1 rfl,h.cellAt 2 rfl,h.cellAt 3 rfl⟩
def Bk.fourF(h:Bk w g t [a,b,c,d]):(w.frozen? ⟨g,0,none⟩=false/\w.frozen? ⟨g,1,none⟩=false/\w.frozen? ⟨g,2,none⟩=false/\w.frozen? ⟨g,3,none⟩=false):=⟨h.frozen 0,h.frozen 1,h.frozen 2,h.frozen 3⟩
end
namespace Pl
def okw(z:Int):Prop:= -2147483648<z/\z<2147483648
end Pl
def Zlt(a:RI)(w:World)(e:Ending)(w':World):Prop:=∃(z:Int) (ok:Bool),e= .returned (.tuple #[.int .i64 z,.bool ok])/\(ok=true->z=a.z/\okw z)/\Below w.heap.size w w'
def Zcl(v:Value)(a:RI)(w:World)(h:Yp w v a):
 Calls prog 161 #[v] w (Zlt a w):=by
 obtain⟨A,n,c,rfl,hd⟩:=h.shape;obtain⟨f,ds⟩:=a;simp only at hd⊢;have hX:=Bk.new w 47 [.bool f,.slice A n c];have e:=Ze w (.cells [.bool f,.slice A n c].toArray 47);have j:=hd.below e;obtain⟨hl,i,l,hc⟩:=hd.len;rcases JX 1 n with h1|h1
 ·clear hl i;go_enter func161,ntmps161;go_wp2;go_ret2;exact⟨_,_,rfl,by simp,e⟩
 ·rcases JV n with h0|h0
  ·subst h0;have hz:RI.z ⟨f,ds⟩=0:=by
    obtain rfl:ds=[]:=iX.1 Qk;rw[RI.z_eq];simp[val,sm]
   have HZ:=JZ hz;clear hl i hz;go_enter func161,ntmps161;go_wp2;go_ret2;exact⟨_,_,rfl,λ_=>⟨HZ.out.symm,by simp[okw]⟩,e⟩
  ·obtain rfl:n=1:=Qk
   obtain⟨b,m,rfl,_,g⟩:=j.at_ Qk;have k:=g 0 Qk;rw[dI]at k;have y0:=Zr ds 0;have y1:=Yl hd.ok 0;have hv:(val ds:Int)=di ds 0:=by
    obtain⟨d,rfl⟩:∃d,ds=[d]:=aJ.1 Qk;simp[val,di,dg]
   have hz:RI.z ⟨f,ds⟩=if f then - di ds 0 else di ds 0:=by rw[<-hv];rfl
   have HZ:=JZ hz;clear hl i hz g hv;generalize di ds 0=z0 at *;rcases jR z0 2147483648 with h2|h2
   ·cases f
    ·go_enter func161,ntmps161;go_wp2;go_ret2;exact⟨z0,_,rfl,λ_=>⟨by rw[HZ.out];rfl,by simp[okw];omega⟩,e⟩
    ·go_enter func161,ntmps161;go_wp2;go_ret2;exact⟨-z0,_,rfl,λ_=>⟨by rw[HZ.out];rfl,by simp[okw];omega⟩,e⟩
   ·go_enter func161,ntmps161;go_wp2;go_ret2;exact⟨_,_,rfl,by simp,e⟩
namespace Pl
def okq(n d:Int)(q:Rat):Prop:=okw n/\0<d/\d<2147483648/\Rat.divInt n d=q
end Pl
def Zba(a:RF)(w:World)(e:Ending)(w':World):Prop:=∃(n d:Int) (ok:Bool),e= .returned (.tuple #[.agg #[.int .i64 n,.int .i64 d],.bool ok])/\(ok=true->okq n d a.q)/\Below w.heap.size w w'
def Yap(w:World)(x1 x2 x3 x4:Value):∃W,(w.alloc (.cells #[x1,x2,x3,x4] 49)).alloc (.cells #[.int .i64 0,.int .i64 0] 173)=W/\Bk W w.heap.size 49 [x1,x2,x3,x4]/\Bk W (w.heap.size+1) 173 [.int .i64 0,.int .i64 0]/\Below w.heap.size w W:=by
 refine⟨_,rfl,(Bk.new w _ [x1,x2,x3,x4]).alloc _,?_,(Ze w _).alloc (by simp) _⟩;have:=Bk.new (w.alloc (.cells #[x1,x2,x3,x4] 49)) 173 [.int .i64 0,.int .i64 0]
 rwa[size_alloc]at this
def UQ{w W:World}{g:Nat}{x y:Value}{n d:Int}{ok:Bool}{a:RF}(hR:Bk W g 173 [x,y])(hbe:Below w.heap.size w W)(hg:w.heap.size<=g)(h:ok=true->okq n d a.q):
 Zba a w (.returned (.tuple #[.agg [.int .i64 n,.int .i64 d].toArray,.bool ok])) ((W.setCell ⟨g,0,none⟩ (.int .i64 n)).setCell ⟨g,1,none⟩ (.int .i64 d)):=
 ⟨n,d,ok,rfl,h,Yf hbe hg _ _⟩
def Zbb(v:Value)(a:RF)(w:World)(h:Zx w v a):
 Calls prog 137 #[v] w (Zba a w):=by
 obtain⟨A,n,c,A',n',c',rfl,hd,s⟩:=h;obtain⟨⟨l,ds⟩,⟨g,t⟩⟩:=a;simp only at hd s⊢;obtain⟨W,hW,hX,hR,j⟩:=Yap w (.bool l) (.slice A n c) (.bool g) (.slice A' n' c');have e1:Yp W (.agg #[.bool l,.slice A n c]) ⟨l,ds⟩:=⟨_,rfl,hd.below j⟩;have e2:Yp W (.agg #[.bool g,.slice A' n' c']) ⟨g,t⟩:=⟨_,rfl,s.below j⟩;obtain⟨p1,p2,p3,p4⟩:=hX.four;go_enter func137,ntmps137;go_wp2_with fail;clear hW;refine(Zcl _ ⟨g,t⟩ _ e2).mono ?_;rintro e w1 ⟨z,ok,rfl,hz,k⟩;have HZ:=JZ hz;have p:=hX.later k;have i:=hR.later k;have d:=Za j k j.size;have q:=e1.below k;clear hz hX hR j e1 e2 k p1 p2 p3 p4
 cases ok
 ·obtain⟨c0,c1,f0,f1⟩:=i.two;go_wp2;refine Xb results137 underlying173 Qm rfl (i.set2 _ _) rfl ?_;exact UQ i d Qk (by simp)
 ·obtain⟨u,B⟩:=HZ.out rfl;unfold okw at B;have m:=JZ u;obtain⟨p1,p2,p3,p4⟩:=p.four;clear HZ u;go_wp2_with fail;refine(Zcl _ ⟨l,ds⟩ _ q).mono ?_;rintro e w2 ⟨y,ok,rfl,hy,o⟩;have HY:=JZ hy;have b:=i.later o;have f:=Za d o d.size;clear hy p i d q o p1 p2 p3 p4;obtain⟨c0,c1,f0,f1⟩:=b.two
  cases ok
  ·go_wp2;refine Xb results137 underlying173 Qm rfl (b.set2 _ _) rfl ?_;exact UQ b f Qk (by simp)
  ·obtain⟨x,C⟩:=HY.out rfl;have r:=JZ x;unfold okw at C;clear HY x;rcases jm z 0 with hz|hz|hz
   ·go_wp2;refine Xb results137 underlying173 Qm rfl (b.set2 _ _) rfl ?_;refine UQ b f Qk λ_=>⟨⟨Qk,Qk⟩,Qk,Qk,?_⟩
    show _=Rat.divInt (RI.z _) (RI.z _);rw[<-r.out,<-m.out,dM]
   ·subst hz;go_wp2;refine Xb results137 underlying173 Qm rfl (b.set2 _ _) rfl ?_;refine UQ b f Qk λ_=>⟨⟨Qk,Qk⟩,Qk,Qk,?_⟩
    show _=Rat.divInt (RI.z _) (RI.z _);rw[<-m.out,BA,bH]
   ·go_wp2;refine Xb results137 underlying173 Qm rfl (b.set2 _ _) rfl ?_;refine UQ b f Qk λ_=>⟨⟨Qk,Qk⟩,Qk,Qk,?_⟩
    show _=Rat.divInt (RI.z _) (RI.z _);rw[<-r.out,<-m.out]
end
def Bk.next{w W:World}{n:Nat}(h:W.heap.size=n)(t:TypeId)(cs:List Value)(_hb:Below w.heap.size w W):Bk (W.alloc (.cells cs.toArray t)) n t cs:=by
 have:=Bk.new W t cs
 rwa[h]at this
def Zoe(w:World)(x1 x2 x3 x4 y1 y2 y3 y4:Value):∃W,(w.alloc (.cells #[x1,x2,x3,x4] 49)).alloc (.cells #[y1,y2,y3,y4] 49)=W/\W.heap.size=w.heap.size+1+1/\Bk W w.heap.size 49 [x1,x2,x3,x4]/\Bk W (w.heap.size+1) 49 [y1,y2,y3,y4]/\Below w.heap.size w W:=by
 refine⟨_,rfl,by simp,(Bk.new w _ [x1,x2,x3,x4]).alloc _,?_,(Ze w _).alloc (by simp) _⟩;have:=Bk.new (w.alloc (.cells #[x1,x2,x3,x4] 49)) 49 [y1,y2,y3,y4]
 rwa[size_alloc]at this
def Yqi(w:World)(x1 x2 x3 x4 y1 y2 y3 y4:Value):∃W,(((w.alloc (.cells #[x1,x2,x3,x4] 49)).alloc (.cells #[y1,y2,y3,y4] 49)).alloc (.cells #[.int .i64 0,.int .i64 0] 173)).alloc (.cells #[.int .i64 0,.int .i64 0] 173)=W/\Bk W w.heap.size 49 [x1,x2,x3,x4]/\Bk W (w.heap.size+1) 49 [y1,y2,y3,y4]/\
 Bk W (w.heap.size+1+1) 173 [.int .i64 0,.int .i64 0]/\Bk W (w.heap.size+1+1+1) 173 [.int .i64 0,.int .i64 0]/\Below w.heap.size w W:=by
 obtain⟨W,hW,hs,h1,h2,hb⟩:=Zoe w x1 x2 x3 x4 y1 y2 y3 y4;refine⟨_,by rw[hW],(h1.alloc _).alloc _,(h2.alloc _).alloc _,(Bk.next hs _ _ hb).alloc _,?_,(hb.alloc hb.size _).alloc (hb.alloc hb.size _).size _⟩;have:=Bk.new (W.alloc (.cells #[.int .i64 0,.int .i64 0] 173)) 173 [.int .i64 0,.int .i64 0]
 rwa[size_alloc,hs]at this
def Yaq(a b:RF)(w:World)(e:Ending)(w':World):Prop:=∃(n d m k:Int) (ok:Bool),e= .returned (.tuple #[.agg #[.int .i64 n,.int .i64 d],.agg #[.int .i64 m,.int .i64 k],.bool ok])/\(ok=true->okq n d a.q/\okq m k b.q)/\Below w.heap.size w w'
def UR(v1 v2:Value)(a b:RF)(w:World)(h1:Zx w v1 a)(h2:Zx w v2 b):
 Calls prog 105 #[v1,v2] w (Yaq a b w):=by
 obtain⟨A,n,c,A',n',c',rfl,hd,O⟩:=h1;obtain⟨B,m,d,B',m',d',rfl,ke,P⟩:=h2;obtain⟨⟨D,ds⟩,⟨k,R⟩⟩:=a;obtain⟨⟨E,es⟩,⟨l,S⟩⟩:=b;simp only at hd O ke P⊢;obtain⟨W,hW,hX,hY,hR,T,j⟩:=Yqi w (.bool D) (.slice A n c) (.bool k) (.slice A' n' c') (.bool E) (.slice B m d) (.bool l) (.slice B' m' d');have e1:Zx W (.agg #[.bool D,.slice A n c,.bool k,.slice A' n' c']) ⟨⟨D,ds⟩,⟨k,R⟩⟩:=⟨_,_,_,_,_,_,rfl,hd.below j,O.below j⟩;have e2:Zx W (.agg #[.bool E,.slice B m d,.bool l,.slice B' m' d']) ⟨⟨E,es⟩,⟨l,S⟩⟩:=⟨_,_,_,_,_,_,rfl,ke.below j,P.below j⟩;obtain⟨p1,p2,p3,p4⟩:=hX.four;go_enter func105,ntmps105;go_wp2_with fail;clear hW;refine(Zbb _ ⟨⟨D,ds⟩,⟨k,R⟩⟩ _ e1).mono ?_;rintro e w1 ⟨x,y,ok,rfl,hq,t⟩;have HQ:=JZ hq;have J:=hY.later t;have C:=hR.later t;have v:=T.later t;have G:=Za j t j.size;have K:=e2.below t;clear hq hX hY hR T j e1 e2 t p1 p2 p3 p4;have i:w.heap.size+1+1≠w.heap.size+1+1+1:=Qk
 have U:w.heap.size+1≠w.heap.size+1+1:=Qk
 obtain⟨c0,c1,f0,f1⟩:=C.two;obtain⟨p,q,r,s⟩:=v.two;have g:=C.set2 (.int .i64 x) (.int .i64 y);have f:=v.far2 i.symm (.int .i64 x) (.int .i64 y);have I:=J.far2 U (.int .i64 x) (.int .i64 y);have o:=Yf G (show w.heap.size<=w.heap.size+1+1 by omega) (.int .i64 x) (.int .i64 y);have L:=K.keep (C.keep2 Ql (.int .i64 x) (.int .i64 y));clear J C v G K
 cases ok
 ·go_wp2_with fail;clear c0 c1 f0 f1 p q r s;generalize(w1.setCell _ _).setCell _ _=W3 at *;obtain⟨c0,c1,f0,f1⟩:=g.two;obtain⟨p,q,r,s⟩:=f.two
  go_region_held3(λw'=>(w'.cell? ⟨w.heap.size+1+1,0,none⟩=some (.int .i64 x)/\w'.cell? ⟨w.heap.size+1+1,1,none⟩=some (.int .i64 y))/\(w'.cell? ⟨w.heap.size+1+1+1,0,none⟩=some (.int .i64 0)/\w'.cell? ⟨w.heap.size+1+1+1,1,none⟩=some (.int .i64 0)))
   (first|with_reducible exact⟨g.pair,f.pair⟩|with_reducible exact⟨g.drew.pair,f.drew.pair⟩|with_reducible exact⟨(g.set2 _ _).drew.pair,(f.far2 i.symm _ _).drew.pair⟩|with_reducible exact⟨((g.set2 _ _).far2 i _ _).drew.pair,((f.far2 i.symm _ _).set2 _ _).drew.pair⟩)
   (fail)
  go_wp2;refine WL results105 underlying173 underlying173 Qm Qm rfl rfl ((g.set2 _ _).far2 i _ _).drew ((f.far2 i.symm _ _).set2 _ _).drew rfl ?_;exact⟨_,_,_,_,_,rfl,by simp,(Yf (Yf o Qk _ _) Qk _ _).drew⟩
 ·have V:=I.four;go_wp2_with fail;clear c0 c1 f0 f1 p q r s V;generalize(w1.setCell _ _).setCell _ _=W3 at *;obtain⟨p1,p2,p3,p4⟩:=I.four;refine(Zbb _ ⟨⟨E,es⟩,⟨l,S⟩⟩ _ L).mono ?_;rintro e w4 ⟨z,u,ok,rfl,hq,F⟩;have X:=JZ hq;have M:=g.later F;have H:=f.later F;have N:=Za o F o.size;clear hq I g f o L F p1 p2 p3 p4;obtain⟨c0,c1,f0,f1⟩:=M.two;obtain⟨p,q,r,s⟩:=H.two;have g:=M.far2 i (.int .i64 z) (.int .i64 u);have f:=H.set2 (.int .i64 z) (.int .i64 u);have o:=Yf N (show w.heap.size<=w.heap.size+1+1+1 by omega) (.int .i64 z) (.int .i64 u);go_wp2_with fail;clear c0 c1 f0 f1 p q r s;generalize(w4.setCell _ _).setCell _ _=W5 at *;obtain⟨c0,c1,f0,f1⟩:=g.two;obtain⟨p,q,r,s⟩:=f.two
  go_region_held3(λw'=>(w'.cell? ⟨w.heap.size+1+1,0,none⟩=some (.int .i64 x)/\w'.cell? ⟨w.heap.size+1+1,1,none⟩=some (.int .i64 y))/\(w'.cell? ⟨w.heap.size+1+1+1,0,none⟩=some (.int .i64 z)/\w'.cell? ⟨w.heap.size+1+1+1,1,none⟩=some (.int .i64 u)))
   (first|with_reducible exact⟨g.pair,f.pair⟩|with_reducible exact⟨g.drew.pair,f.drew.pair⟩|with_reducible exact⟨(g.set2 _ _).drew.pair,(f.far2 i.symm _ _).drew.pair⟩|with_reducible exact⟨((g.set2 _ _).far2 i _ _).drew.pair,((f.far2 i.symm _ _).set2 _ _).drew.pair⟩)
   (fail)
  go_wp2;refine WL results105 underlying173 underlying173 Qm Qm rfl rfl ((g.set2 _ _).far2 i _ _).drew ((f.far2 i.symm _ _).set2 _ _).drew rfl ?_;exact⟨_,_,_,_,ok,rfl,λh=>⟨by simpa using HQ.out,X.out h⟩,(Yf (Yf o Qk _ _) Qk _ _).drew⟩
section
section
variable {w w':World} {g:Nat} {t:TypeId} {a b c d:Value}
def Bk.set4(h:Bk w g t [a,b,c,d])(x y z u:Value):Bk ((((w.setCell ⟨g,0,none⟩ x).setCell ⟨g,1,none⟩ y).setCell ⟨g,2,none⟩ z).setCell ⟨g,3,none⟩ u) g t [x,y,z,u]:=(((h.set_ 0 x).set_ 1 y).set_ 2 z).set_ 3 u
def Bk.keep4(h:Bk w g t [a,b,c,d])(ht:t≠71)(x y z u:Value):ZI w ((((w.setCell ⟨g,0,none⟩ x).setCell ⟨g,1,none⟩ y).setCell ⟨g,2,none⟩ z).setCell ⟨g,3,none⟩ u):=
 (((h.keepD ht _ _).trans ((h.set_ 0 x).keepD ht _ _)).trans (((h.set_ 0 x).set_ 1 y).keepD ht _ _)).trans ((((h.set_ 0 x).set_ 1 y).set_ 2 z).keepD ht _ _)
def Bk.far4{g':Nat}{cs:List Value}(h:Bk w g t cs)(hne:g≠g')(x y z u:Value):Bk ((((w.setCell ⟨g',0,none⟩ x).setCell ⟨g',1,none⟩ y).setCell ⟨g',2,none⟩ z).setCell ⟨g',3,none⟩ u) g t cs:=
 (((h.far (p:=⟨g',0,none⟩) hne x).far (p:=⟨g',1,none⟩) hne y).far (p:=⟨g',2,none⟩) hne z).far (p:=⟨g',3,none⟩) hne u
def ZE{n:Nat}(h:Below n w w')(hg:n<=g)(x y z u:Value):Below n w ((((w'.setCell ⟨g,0,none⟩ x).setCell ⟨g,1,none⟩ y).setCell ⟨g,2,none⟩ z).setCell ⟨g,3,none⟩ u):=(((h.setCell hg _).setCell hg _).setCell hg _).setCell hg _
end
def YA{w w2:World}{m g:Nat}{x y z u b s b' s':Value}{a:RF}(hR:Bk w2 g 49 [x,y,z,u])(d:Zx w2 (.agg #[b,s,b',s']) a)(hbe:Below m w w2)(hg:m<=g):
 ∃v',Ending.returned (.agg [b,s,b',s'].toArray)= .returned v'/\Zx ((((w2.setCell ⟨g,0,none⟩ b).setCell ⟨g,1,none⟩ s).setCell ⟨g,2,none⟩ b').setCell ⟨g,3,none⟩ s') v' a/\Below m w ((((w2.setCell ⟨g,0,none⟩ b).setCell ⟨g,1,none⟩ s).setCell ⟨g,2,none⟩ b').setCell ⟨g,3,none⟩ s'):=
 ⟨_,rfl,d.keep (hR.keep4 Ql _ _ _ _),ZE hbe hg _ _ _ _⟩
namespace Pl
def Zal{n d:Int}(h:0<d):canF (Rat.divInt n d)=⟨canI (n/ (Int.gcd d n:Nat)),canI (d/ (Int.gcd d n:Nat))⟩:=by
 unfold canF;rw[Rat.num_divInt,Rat.den_divInt,jA Qk,Int.sign_eq_one_of_pos h,Int.one_mul,bZ,Int.natAbs_of_nonneg Qk]
def Zof{a b:Int}(ha:0<=a)(hb:0<=b):(b%a).gcd a=a.gcd b:=by
 unfold Int.gcd;rw[Int.natAbs_emod_of_nonneg hb,<-Bb]
def VH{b k:Int}(hb:0<b)(h0: -9223372036854775807<=b*k)(h1:b*k<=9223372036854775807): -9223372036854775807<=k/\k<=9223372036854775807:=by
 constructor
 ·rcases jR k 0 with h|h
  ·have:b*k<=1*k:=Int.mul_le_mul_of_nonpos_right Qk Qk;omega
  ·omega
 ·rcases jR k 0 with h|h
  ·omega
  ·have:1*k<=b*k:=jJ Qk h;omega
end Pl
def Xo(n d:Int)(w:World)(h0: -9223372036854775807<=n)(h1:n<=9223372036854775807)(h2:0<d)(h3:d<=9223372036854775807):
 Calls prog 106 #[.int .i64 n,.int .i64 d] w λe w'=>∃v',e= .returned v'/\Zx w' v' (canF (Rat.divInt n d))/\Below w.heap.size w w':=by
 have hR:=Bk.new w 49 [.bool false,.slice none 0 0,.bool false,.slice none 0 0];have m:=Ze w (.cells [.bool false,.slice none 0 0,.bool false,.slice none 0 0].toArray 49);rcases jR n 0 with hn|hn
 ·go_enter func106,ntmps106;go_wp2_with fail;generalize w.alloc _=W at *
  go_loop [5,6] (λx y=>∃a b:Int,x= .int .i64 a/\y= .int .i64 b/\0<=a/\a<=9223372036854775807/\0<b/\b<=9223372036854775807/\Hid (Int.gcd a b=Int.gcd d n)) (λx _=>(intOf x).toNat)
  case atStart=>exact⟨-n,d,by go_num,rfl,Qk,Qk,h2,h3,JZ (by first|exact aL _ _|(rw[aL];simp))⟩
  case round=>
   obtain⟨a,b,rfl,rfl,a0,a1,b0,b1,hg⟩:=hrel;rcases iM a0 with ha|ha
   ·have q0:¬a=0:=Qk;have q2:b.tmod a=b%a:=vO Qk;have m0:0<=b%a:=kv _ Qk;have m1:b%a<a:=kJ _ ha;have q3:IntKind.i64.wrap (b%a)=b%a:=(by simp only[IntKind.wrap,IntKind.bits,IntKind.signed];simp;omega);go_wp2
    go_round
    case rel=>exact⟨b%a,a,rfl,rfl,m0,Qk,ha,a1,JZ (by rw[<-hg.out];exact Zof Qk Qk)⟩
    case measure=>exact Qn
   ·subst ha;have hG:b=(Int.gcd d n:Nat):=(by rw[<-hg.out,Int.gcd_zero_left];omega);obtain⟨n1,h⟩:∃n1,n1=n/b:=⟨_,rfl⟩;obtain⟨d1,i⟩:∃d1,d1=d/b:=⟨_,rfl⟩;have j:b∣n:=(by rw[hG];exact dR ..);have l:b∣d:=(by rw[hG];exact Bl ..);have q0:¬b=0:=Qk;have q1:n.tdiv b=n1:=(by rw[h,dD j]);have q2:d.tdiv b=d1:=(by rw[i,dD l]);have bn: -9223372036854775807<=n1/\n1<=9223372036854775807:=by
     obtain⟨k,hk⟩:=j;rw[h,hk,vF _ Qk];exact VH b0 Qk Qk
    have bd: -9223372036854775807<=d1/\d1<=9223372036854775807:=by
     obtain⟨k,hk⟩:=l;rw[i,hk,vF _ Qk];exact VH b0 Qk Qk
    have g:=Zal h2 (n:=n);rw[<-hG,<-h,<-i]at g;have HC:=JZ g;obtain⟨p,q⟩:=bn;obtain⟨r,s⟩:=bd;have q3:IntKind.i64.wrap n1=n1:=(by simp only[IntKind.wrap,IntKind.bits,IntKind.signed];simp;omega);have q4:IntKind.i64.wrap d1=d1:=(by simp only[IntKind.wrap,IntKind.bits,IntKind.signed];simp;omega);have o:True:=trivial;clear hG h i j l g;go_wp2_with fail
    go_region_held3(λ_=>True) (exact trivial)
     (first
      |(go_at_call 92;have _t:=o;refine(Y5 n1 _ Qk Qk).mono ?_;clear o _t;rintro e w1 ⟨v1,rfl,e1,c⟩;obtain⟨A1,m1,k1,rfl,_⟩:=e1.shape)
      |(go_at_call 92;refine(Y5 d1 _ Qk Qk).mono ?_;rintro e w2 ⟨v2,rfl,e2,f⟩;obtain⟨A2,m2,k2,rfl,_⟩:=e2.shape;obtain⟨c0,c1,c2,c3⟩:=((hR.drew.later c).later f).four;obtain⟨f0,f1,f2,f3⟩:=((hR.drew.later c).later f).fourF))
    go_wp2;refine Zq results106 underlying49 Qm rfl (((hR.drew.later c).later f).set4 _ _ _ _) rfl ?_;rw[HC.out];exact YA ((hR.drew.later c).later f) (Zx.mk (e1.below f) e2) (Za (Za m.drew c m.size) f (JW m.size c.size)) (JY _)
 ·go_enter func106,ntmps106;go_wp2_with fail;generalize w.alloc _=W at *
  go_loop [5,6] (λx y=>∃a b:Int,x= .int .i64 a/\y= .int .i64 b/\0<=a/\a<=9223372036854775807/\0<b/\b<=9223372036854775807/\Hid (Int.gcd a b=Int.gcd d n)) (λx _=>(intOf x).toNat)
  case atStart=>exact⟨n,d,by go_num,rfl,Qk,Qk,h2,h3,JZ (by first|exact aL _ _|(rw[aL];simp))⟩
  case round=>
   obtain⟨a,b,rfl,rfl,a0,a1,b0,b1,hg⟩:=hrel;rcases iM a0 with ha|ha
   ·have q0:¬a=0:=Qk;have q2:b.tmod a=b%a:=vO Qk;have m0:0<=b%a:=kv _ Qk;have m1:b%a<a:=kJ _ ha;have q3:IntKind.i64.wrap (b%a)=b%a:=(by simp only[IntKind.wrap,IntKind.bits,IntKind.signed];simp;omega);go_wp2
    go_round
    case rel=>exact⟨b%a,a,rfl,rfl,m0,Qk,ha,a1,JZ (by rw[<-hg.out];exact Zof Qk Qk)⟩
    case measure=>exact Qn
   ·subst ha;have hG:b=(Int.gcd d n:Nat):=(by rw[<-hg.out,Int.gcd_zero_left];omega);obtain⟨n1,h⟩:∃n1,n1=n/b:=⟨_,rfl⟩;obtain⟨d1,i⟩:∃d1,d1=d/b:=⟨_,rfl⟩;have j:b∣n:=(by rw[hG];exact dR ..);have l:b∣d:=(by rw[hG];exact Bl ..);have q0:¬b=0:=Qk;have q1:n.tdiv b=n1:=(by rw[h,dD j]);have q2:d.tdiv b=d1:=(by rw[i,dD l]);have bn: -9223372036854775807<=n1/\n1<=9223372036854775807:=by
     obtain⟨k,hk⟩:=j;rw[h,hk,vF _ Qk];exact VH b0 Qk Qk
    have bd: -9223372036854775807<=d1/\d1<=9223372036854775807:=by
     obtain⟨k,hk⟩:=l;rw[i,hk,vF _ Qk];exact VH b0 Qk Qk
    have g:=Zal h2 (n:=n);rw[<-hG,<-h,<-i]at g;have HC:=JZ g;obtain⟨p,q⟩:=bn;obtain⟨r,s⟩:=bd;have q3:IntKind.i64.wrap n1=n1:=(by simp only[IntKind.wrap,IntKind.bits,IntKind.signed];simp;omega);have q4:IntKind.i64.wrap d1=d1:=(by simp only[IntKind.wrap,IntKind.bits,IntKind.signed];simp;omega);have o:True:=trivial;clear hG h i j l g;go_wp2_with fail
    go_region_held3(λ_=>True) (exact trivial)
     (first
      |(go_at_call 92;have _t:=o;refine(Y5 n1 _ Qk Qk).mono ?_;clear o _t;rintro e w1 ⟨v1,rfl,e1,c⟩;obtain⟨A1,m1,k1,rfl,_⟩:=e1.shape)
      |(go_at_call 92;refine(Y5 d1 _ Qk Qk).mono ?_;rintro e w2 ⟨v2,rfl,e2,f⟩;obtain⟨A2,m2,k2,rfl,_⟩:=e2.shape;obtain⟨c0,c1,c2,c3⟩:=((hR.drew.later c).later f).four;obtain⟨f0,f1,f2,f3⟩:=((hR.drew.later c).later f).fourF))
    go_wp2;refine Zq results106 underlying49 Qm rfl (((hR.drew.later c).later f).set4 _ _ _ _) rfl ?_;rw[HC.out];exact YA ((hR.drew.later c).later f) (Zx.mk (e1.below f) e2) (Za (Za m.drew c m.size) f (JW m.size c.size)) (JY _)
end
namespace Pl
def RI.Sm.canI_neg{a:RI}(h:a.Sm):(canI (-a.z)).Sm:=by
 unfold RI.Sm at h⊢;simp only[canI,Zn,gN,ZT];exact h
def WU{z:Int}(h0: -9223372036854775808<=z)(h1:z<=9223372036854775807):(canI z).Sm:=by
 unfold RI.Sm;simp only[canI,Zn];have:=Xd (n:=z.natAbs) (k:=2) (by unfold B32;omega);omega
end Pl
def Ytl(w:World)(x1 x2 x3 x4:Value):∃W,((w.alloc (.cells #[x1,x2,x3,x4] 49)).alloc (.cells #[.bool false,.slice none 0 0] 47)).alloc (.cells #[.bool false,.slice none 0 0] 47)=W/\Bk W w.heap.size 49 [x1,x2,x3,x4]/\
 Bk W (w.heap.size+1) 47 [.bool false,.slice none 0 0]/\Bk W (w.heap.size+1+1) 47 [.bool false,.slice none 0 0]/\Below w.heap.size w W:=by
 refine⟨_,rfl,((Bk.new w _ [x1,x2,x3,x4]).alloc _).alloc _,?_,?_,((Ze w _).alloc (by simp) _).alloc (by simp;omega) _⟩
 ·have:=Bk.new (w.alloc (.cells #[x1,x2,x3,x4] 49)) 47 [.bool false,.slice none 0 0];rw[size_alloc]at this;exact this.alloc _
 ·have:=Bk.new ((w.alloc (.cells #[x1,x2,x3,x4] 49)).alloc (.cells #[.bool false,.slice none 0 0] 47)) 47 [.bool false,.slice none 0 0]
  rwa[size_alloc,size_alloc]at this
def Yar(a:RF)(w:World)(e:Ending)(w':World):Prop:=
 ∃v1 v2 x y,e= .returned (.tuple #[v1,v2])/\Yp w' v1 x/\Yp w' v2 y/\0<y.z/\Rat.divInt x.z y.z=a.q/\x.Sm/\y.Sm/\Below w.heap.size w w'
def XB(v:Value)(a:RF)(w:World)(h:Zx w v a)(hs:a.Sm):
 Calls prog 107 #[v] w (Yar a w):=by
 obtain⟨A,n,c,A',n',c',rfl,hd,G⟩:=h;obtain⟨⟨l,ds⟩,⟨b,q⟩⟩:=a;obtain⟨t,u⟩:=hs;simp only at hd G⊢;obtain⟨W,hW,hX,hR,H,o⟩:=Ytl w (.bool l) (.slice A n c) (.bool b) (.slice A' n' c');have e1:Yp W (.agg #[.bool l,.slice A n c]) ⟨l,ds⟩:=⟨_,rfl,hd.below o⟩;have e2:Yp W (.agg #[.bool b,.slice A' n' c']) ⟨b,q⟩:=⟨_,rfl,G.below o⟩;obtain⟨p1,p2,p3,p4⟩:=hX.four;go_enter func107,ntmps107;go_wp2_with fail;clear hW;refine(Zaj _ ⟨b,q⟩ _ e2).mono ?_;rintro e w1 ⟨rfl,k⟩;have d:=hX.later k;have m:=hR.later k;have j:=H.later k;have g:=Za o k o.size;have y:=e1.below k;have B:=e2.below k;clear hX hR H o e1 e2 k p1 p2 p3 p4;have s:w.heap.size+1≠w.heap.size+1+1:=Qk
 have p:w.heap.size≠w.heap.size+1:=Qk
 have C:w.heap.size≠w.heap.size+1+1:=Qk
 obtain⟨p1,p2,p3,p4⟩:=d.four;rcases jm (RI.z ⟨b,q⟩) 0 with hz|hz|hz
 ·have HZ:=JZ hz;rw[UM hz];clear hz;go_wp2_with fail;have D:True:=trivial
  go_region_held3(λw'=>w'.cell? ⟨w.heap.size,0,none⟩=some (.bool l)/\w'.cell? ⟨w.heap.size,1,none⟩=some (.slice A n c)/\w'.cell? ⟨w.heap.size,2,none⟩=some (.bool b)/\w'.cell? ⟨w.heap.size,3,none⟩=some (.slice A' n' c'))
   (first|with_reducible exact d.four|with_reducible exact d.drew.four|with_reducible exact(d.drew.later f).four|with_reducible exact((d.drew.later f).later i).four|with_reducible exact(((d.drew.later f).later i).far2 p _ _).four|with_reducible exact((((d.drew.later f).later i).far2 p _ _).far2 C _ _).four)
   (first
    |(go_at_call 138;have _t:=D;refine(Zak _ ⟨l,ds⟩ _ (y.keep (ZI.drew _)) (JW t Ql)).mono ?_;clear D _t;rintro e w6 ⟨v6,rfl,e6,f⟩;obtain⟨A6,n6,k6,rfl,_⟩:=e6.shape)
    |(go_at_call 138;refine(Zak _ ⟨b,q⟩ _ ((B.keep (ZI.drew _)).below f) (JW u Ql)).mono ?_;rintro e w7 ⟨v7,rfl,e7,i⟩;obtain⟨A7,n7,k7,rfl,_⟩:=e7.shape;obtain⟨c0,c1,f0,f1⟩:=((m.drew.later f).later i).two;obtain⟨I,J,K,L⟩:=((j.drew.later f).later i).two))
  go_wp2;obtain⟨a1,a2,a3,a4,a5⟩:=Xg ((m.drew.later f).later i) ((j.drew.later f).later i) s (e6.below i) e7 (Za (Za g.drew f g.size) i (JW g.size f.size)) Qk Qk;refine Yal results107 underlying47 underlying47 Qm Qm rfl rfl a1 a2 rfl ?_;refine⟨_,_,_,_,rfl,a3,a4,?_,?_,RI.Sm.canI_neg t,RI.Sm.canI_neg u,a5⟩
  ·rw[ZM];have:=HZ.out;omega
  ·rw[ZM,ZM,dM];rfl
 ·have HZ:=JZ hz;rw[hz,sgn_zero];clear hz;go_wp2_with fail;refine(Y5 1 _ Qk Qk).mono ?_;rintro e w2 ⟨v2,rfl,e6,x⟩;obtain⟨A2,n2,k2,rfl,_⟩:=e6.shape;have E:=m.later x;have r:=j.later x;have F:=Za g x g.size;obtain⟨c0,c1,f0,f1⟩:=E.two;obtain⟨I,J,K,L⟩:=r.two;go_wp2;obtain⟨a1,a2,a3,a4,a5⟩:=Xg E r s (Yp.zero w2) e6 F Qk Qk;refine Yal results107 underlying47 underlying47 Qm Qm rfl rfl a1 a2 rfl ?_;refine⟨_,_,_,_,rfl,a3,a4,?_,?_,WU Qk Qk,WU Qk Qk,a5⟩
  ·rw[ZM];omega
  ·rw[ZM,ZM,bH];show _=Rat.divInt (RI.z _) (RI.z _);rw[HZ.out,BA]
 ·have HZ:=JZ hz;rw[Uk hz];clear hz;obtain⟨c0,c1,f0,f1⟩:=m.two;obtain⟨I,J,K,L⟩:=j.two;go_wp2_with fail
  go_region_held3(λw'=>w'.cell? ⟨w.heap.size,0,none⟩=some (.bool l)/\w'.cell? ⟨w.heap.size,1,none⟩=some (.slice A n c)/\w'.cell? ⟨w.heap.size,2,none⟩=some (.bool b)/\w'.cell? ⟨w.heap.size,3,none⟩=some (.slice A' n' c'))
   (first|with_reducible exact d.four|with_reducible exact d.drew.four|with_reducible exact(d.far2 p _ _).drew.four|with_reducible exact((d.far2 p _ _).far2 C _ _).drew.four)
   (fail)
  go_wp2;obtain⟨a1,a2,a3,a4,a5⟩:=Xg m j s y B g Qk Qk;refine Yal results107 underlying47 underlying47 Qm Qm rfl rfl a1.drew a2.drew rfl ?_;exact⟨_,_,_,_,rfl,a3.keep (ZI.drew _),a4.keep (ZI.drew _),HZ.out,rfl,t,u,a5.drew⟩
def Yss(w:World)(x y x' y':Value):∃W,((w.alloc (.cells #[x,y] 47)).alloc (.cells #[x',y'] 47)).alloc (.cells #[.bool false,.slice none 0 0,.bool false,.slice none 0 0] 49)=W/\Bk W w.heap.size 47 [x,y]/\Bk W (w.heap.size+1) 47 [x',y']/\Bk W (w.heap.size+1+1) 49 [.bool false,.slice none 0 0,.bool false,.slice none 0 0]/\Below w.heap.size w W:=by
 refine⟨_,rfl,((Bk.new w _ [x,y]).alloc _).alloc _,?_,?_,((Ze w _).alloc (by simp) _).alloc (by simp;omega) _⟩
 ·have:=Bk.new (w.alloc (.cells #[x,y] 47)) 47 [x',y'];rw[size_alloc]at this;exact this.alloc _
 ·have:=Bk.new ((w.alloc (.cells #[x,y] 47)).alloc (.cells #[x',y'] 47)) 49 [.bool false,.slice none 0 0,.bool false,.slice none 0 0]
  rwa[size_alloc,size_alloc]at this
def Yst(a b:RI)(w:World)(x y:RI)(wx:World)(B B':Option Addr)(m d m' d':Nat):Prop:=
 Bk wx w.heap.size 47 [.bool x.neg,.slice B m d]/\Bk wx (w.heap.size+1) 47 [.bool y.neg,.slice B' m' d']/\Bk wx (w.heap.size+1+1) 49 [.bool false,.slice none 0 0,.bool false,.slice none 0 0]/\Below w.heap.size w wx/\
 Yp wx (.agg #[.bool x.neg,.slice B m d]) x/\Yp wx (.agg #[.bool y.neg,.slice B' m' d']) y/\0<y.z/\Rat.divInt x.z y.z=Rat.divInt a.z b.z/\(Zp (val x.ds)).length<=549755813888/\(Zp (val y.ds)).length<=549755813888
def Wp(v1 v2:Value)(a b:RI)(w:World)(h1:Yp w v1 a)(h2:Yp w v2 b)(hs:(Zp (val a.ds)).length<=549755813888)(hs2:(Zp (val b.ds)).length<=549755813888)(hb:b.z≠0):
 Calls prog 108 #[v1,v2] w λe w'=>∃v',e= .returned v'/\Zx w' v' (canF (Rat.divInt a.z b.z))/\Below w.heap.size w w':=by
 obtain⟨A,n,c,rfl,hd⟩:=h1.shape;obtain⟨A',n',c',rfl,au⟩:=h2.shape;obtain⟨W,hW,hX,a9,hR,C⟩:=Yss w (.bool a.neg) (.slice A n c) (.bool b.neg) (.slice A' n' c');have e1:=h1.below C;have e2:=h2.below C;have HB:=JZ hb;clear hb hd au h1 h2;obtain⟨x0,x1,_,_⟩:=hX.two;go_enter func108,ntmps108;go_wp2_with fail;clear hW;refine(Zaj _ a _ e1).mono ?_;rintro e w1 ⟨rfl,p⟩;have a0:=hX.later p;have t:=a9.later p;have I:=hR.later p;have i:=Za C p C.size;have a6:=e1.below p;have J:=e2.below p;clear hX a9 hR C e1 e2 p x0 x1;by_cases ha:a.z=0
 ·rw[ha,sgn_zero];have HA:=JZ ha;clear ha;go_wp2_with fail;refine(Xo 0 1 _ Qk Qk Qk Qk).mono ?_;rw[show Rat.divInt 0 1=Rat.divInt a.z b.z from by rw[HA.out,bH,bH]];rintro e w2 ⟨v2,rfl,e3,g⟩;have j:=I.later g;obtain⟨B,m,d,B',m',d',rfl,_,_⟩:=id e3;obtain⟨c0,c1,c2,c3⟩:=j.four;obtain⟨f0,f1,f2,f3⟩:=j.fourF;go_wp2;refine Zq results108 underlying49 Qm rfl (j.set4 _ _ _ _) rfl ?_;exact YA j e3 (Za i g i.size) Qk
 ·have F:(sgn a.z==0)=false:=by unfold sgn;split;rfl;rfl
  have HA:=JZ ha;clear ha;obtain⟨y0,y1,_,_⟩:=t.two;go_wp2_with fail;refine(Zaj _ b _ J).mono ?_;rintro e w2 ⟨rfl,g⟩;have u:=a0.later g;have h:=t.later g;have j:=I.later g;have k:=Za i g i.size;have K:=a6.below g;have L:=J.below g;clear a0 t I i a6 J g y0 y1 F;have M:True:=trivial
  go_upto_if 18 with(fail)
  go_cut [2,3] (λs2 s3 wx=>s2= .pointer (some ⟨w.heap.size,0,none⟩)/\s3= .pointer (some ⟨w.heap.size+1,0,none⟩)/\∃(x y:RI) (B B':Option Addr) (m d m' d':Nat),Yst a b w x y wx B B' m d m' d')
  case first=>
   rcases jR b.z 0 with hz|hz
   ·have HN:=JZ hz;have F:sgn b.z= -1:=UM hz;have al:w.heap.size≠w.heap.size+1:=Qk;have am:w.heap.size+1+1≠w.heap.size:=Qk;have an:w.heap.size+1+1≠w.heap.size+1:=Qk;clear hz;obtain⟨x0,x1,f0,f1⟩:=u.two;obtain⟨y0,y1,k0,k1⟩:=h.two;go_wp2_with fail;clear F
    go_region_with (first
     |(go_at_call 138;have _t:=M;refine(Zak _ a _ (K.keep (ZI.drew _)) hs).mono ?_;clear M _t;rintro e w6 ⟨v6,rfl,e6,f⟩;obtain⟨A6,n6,k6,rfl,_⟩:=e6.shape;obtain⟨aw,ax,_,_⟩:=(h.drew.later f).two)
     |(go_at_call 138;refine(Zak _ b _ ((L.keep (ZI.drew _)).below f) hs2).mono ?_;rintro e w7 ⟨v7,rfl,e7,s⟩;obtain⟨A7,n7,k7,rfl,_⟩:=e7.shape;obtain⟨c0,c1,r0,r1⟩:=((u.drew.later f).later s).two;obtain⟨ay,az,b0,b1⟩:=((h.drew.later f).later s).two))
    all_goals
     go_wp2_with fail
     go_meet
     obtain⟨a1,a2,a3,a4,a5⟩:=Xg ((u.drew.later f).later s) ((h.drew.later f).later s) al (e6.below s) e7 (Za (Za k.drew f k.size) s (JW k.size f.size)) Qk Qk;refine⟨rfl,rfl,_,_,A6,A7,n6,k6,n7,k7,a1,a2,((((j.drew.later f).later s).far2 am _ _).far2 an _ _),a5,a3,a4,?_,?_,?_,?_⟩
     ·rw[ZM];have:=HN.out;omega
     ·rw[ZM,ZM,dM]
     ·simp only[canI,Zn,gN,ZT];exact hs
     ·simp only[canI,Zn,gN,ZT];exact hs2
   ·have N:0<b.z:=(by have:=HB.out;omega);have F:sgn b.z=1:=Uk N;have HZ:=JZ N;clear hz N;go_wp2_with fail
    go_meet
    exact⟨rfl,rfl,a,b,A,A',n,c,n',c',u,h,j,k,K,L,HZ.out,rfl,hs,hs2⟩
  case rest=>
   obtain⟨rfl,rfl,x,y,B,B',m,d,m',d',U,D,aa,E,V,X,hy,ab,ac,Y⟩:=hcut;have HZ:=JZ hy;have ao:=JZ ab;clear hy ab u h j k K L hs hs2 M;obtain⟨x0,x1,_,_⟩:=U.two;obtain⟨y0,y1,_,_⟩:=D.two;go_wp2_with fail;refine(Ygj _ _ x y _ V X ac Y).mono ?_;rintro e w6 ⟨v6,rfl,e6,f⟩;obtain⟨A6,n6,k6,rfl,_⟩:=e6.shape;have bX:=U.later f;have bY:=D.later f;have bR:=aa.later f;have O:=Za E f E.size;have i1:=V.below f;have i2:=X.below f;clear U D aa E V X f x0 x1 y0 y1;have gz:(canI (Int.gcd (RI.z x) (RI.z y):Nat)).z=(Int.gcd (RI.z x) (RI.z y):Nat):=ZM _;have gs:(Zp (val (canI (Int.gcd (RI.z x) (RI.z y):Nat)).ds)).length<=549755813888:=by
    rw[show val (canI (Int.gcd (RI.z x) (RI.z y):Nat)).ds=Int.gcd (RI.z x) (RI.z y)from by simp[canI,Zn]];refine JW (Zu (Nat.le_of_dvd ?_ (show Int.gcd (RI.z x) (RI.z y)∣val (RI.ds y)from by rw[<-ZT];exact Int.gcd_dvd_natAbs_right ..))) Y;have:=HZ.out;have:=ZT y;omega
   generalize canI (Int.gcd (RI.z x) (RI.z y):Nat)=G at *;have GZ:=JZ gz;clear gz;have bG:=Bk.new w6 47 [.bool G.neg,.slice A6 n6 k6];have bn:=Ze w6 (.cells [.bool G.neg,.slice A6 n6 k6].toArray 47);have cX:=bX.later bn;have cY:=bY.later bn;have cR:=bR.later bn;have P:=Za O bn O.size;have j1:=i1.below bn;have j2:=i2.below bn;have j3:=e6.below bn;obtain⟨x0,x1,_,_⟩:=cX.two;obtain⟨y0,y1,_,_⟩:=cY.two;obtain⟨g0,g1,_,_⟩:=bG.two;clear bX bY bR O i1 i2 e6 bn;go_wp2_with fail;generalize w6.alloc _=W7 at *;refine(Zhh _ _ x G _ j1 j3 ac gs).mono ?_;have R:G.z≠0:=by
    rw[GZ.out];have:=Int.gcd_pos_of_ne_zero_right (RI.z x) (show RI.z y≠0 by have:=HZ.out;omega);omega
   rintro e w8 ⟨q,r,rfl,dq,dr,l⟩;rw[jA R]at dq dr⊢;obtain⟨A8,n8,k8,rfl,_⟩:=dq.shape;obtain⟨A9,n9,k9,rfl,_⟩:=dr.shape;have bX:=cX.later l;have bY:=cY.later l;have bR:=cR.later l;have a7:=bG.later l;have S:=Za P l P.size;have i2:=j2.below l;have i3:=j3.below l;clear cX cY cR P j1 j2 j3 bG l x0 x1 y0 y1 g0 g1;have ap:=JZ R;clear R;have hq:canI ((RI.z x).fdiv G.z)=canI ((RI.z x)/G.z):=(by rw[gM _ (by rw[GZ.out];omega)]);rw[hq]at dq⊢;clear hq;generalize canI ((RI.z x).fmod G.z)=R1 at *;generalize aj:canI ((RI.z x)/G.z)=Q1 at *;have aq:=JZ aj;clear aj;have bQ:=(Bk.new w8 47 [.bool Q1.neg,.slice A8 n8 k8]).alloc (.cells #[.bool R1.neg,.slice A9 n9 k9] 47);have bn:=(Ze w8 (.cells [.bool Q1.neg,.slice A8 n8 k8].toArray 47)).alloc (by simp) (.cells #[.bool R1.neg,.slice A9 n9 k9] 47);have cX:=bX.later bn;have cY:=bY.later bn;have cR:=bR.later bn;have cG:=a7.later bn;have T:=Za S bn S.size;have j2:=i2.below bn;have j3:=i3.below bn;have j4:=dq.below bn;obtain⟨y0,y1,_,_⟩:=cY.two;obtain⟨g0,g1,_,_⟩:=cG.two;obtain⟨q0,q1,_,_⟩:=bQ.two;clear bX bY bR a7 S i2 i3 dq dr bn;go_wp2_with fail;generalize(w8.alloc _).alloc _=W9 at *;refine(Zhh _ _ y G _ j2 j3 Y gs).mono ?_;rintro e Z ⟨q',r',rfl,dq,dr,o⟩;rw[jA ap.out]at dq dr⊢;obtain⟨ad,ae,af,rfl,_⟩:=dq.shape;obtain⟨ag,ah,ai,rfl,_⟩:=dr.shape;have bR:=cR.later o;have H:=bQ.later o;have v:=Za T o T.size;have i4:=j4.below o;clear cX cY cR cG T j2 j3 j4 bQ o y0 y1 g0 g1 q0 q1;have hq:canI ((RI.z y).fdiv G.z)=canI ((RI.z y)/G.z):=(by rw[gM _ (by rw[GZ.out];omega)]);rw[hq]at dq⊢;clear hq;generalize canI ((RI.z y).fmod G.z)=R2 at *;generalize ak:canI ((RI.z y)/G.z)=Q2 at *;have ar:=JZ ak;clear ak;have bD:=(Bk.new Z 47 [.bool Q2.neg,.slice ad ae af]).alloc (.cells #[.bool R2.neg,.slice ag ah ai] 47);have bn:=(Ze Z (.cells [.bool Q2.neg,.slice ad ae af].toArray 47)).alloc (by simp) (.cells #[.bool R2.neg,.slice ag ah ai] 47);have cR:=bR.later bn;have cQ:=H.later bn;have a8:=Za v bn v.size;have j4:=i4.below bn;have j5:=dq.below bn;obtain⟨q0,q1,_,_⟩:=cQ.two;obtain⟨d0,d1,_,_⟩:=bD.two;obtain⟨c0,c1,c2,c3⟩:=cR.four;obtain⟨f0,f1,f2,f3⟩:=cR.fourF;clear bR H v i4 dq dr bn;generalize av:(Z.alloc _).alloc _=b2 at *;go_wp2;refine Zq results108 underlying49 Qm rfl (cR.set4 _ _ _ _) rfl ?_;rw[<-ao.out,Zal HZ.out,aL,<-GZ.out,aq.out,ar.out];exact YA cR (Zx.mk j4 j5) a8 Qk
namespace Pl
def qs(q:Rat):Int:=sgn q.num
def Yas{x g:Int}(hg:0<g)(h:g∣x):sgn (x/g)=sgn x:=by
 obtain⟨k,rfl⟩:=h;rw[vF _ Qk];unfold sgn;rcases jm k 0 with h|h|h
 ·rw[jB h,jB (fD hg h)]
 ·subst h;simp
 ·have:=aD hg h;rw[jA Qk,jA Qk,jA Qk,jA Qk]
def Zog(n d:Int):qs (Rat.divInt n d)=sgn n*sgn d:=by
 unfold qs;rw[Rat.num_divInt];rcases jm d 0 with h|h|h
 ·have hg:0< ((Int.gcd d n:Nat):Int):=by have:=Int.gcd_pos_of_ne_zero_left n (show d≠0 by omega);omega
  rw[Int.sign_eq_neg_one_of_neg h,Yas hg (Int.dvd_mul_of_dvd_right (dR ..)),UM h];unfold sgn;rcases jm n 0 with k|k|k
  ·rw[jA Qk,jA Qk,jB k];rfl
  ·subst k;simp
  ·rw[jB Qk,jA Qk,jA Qk];rfl
 ·subst h;simp[sgn_zero]
 ·have hg:0< ((Int.gcd d n:Nat):Int):=by have:=Int.gcd_pos_of_ne_zero_left n (show d≠0 by omega);omega
  rw[Int.sign_eq_one_of_pos h,Yas hg (Int.dvd_mul_of_dvd_right (dR ..)),Uk h,Int.one_mul,Int.mul_one]
def Zoh(z:Int): -1<=sgn z/\sgn z<=1:=by unfold sgn;split;omega;split <;> omega
def VY(q:Rat): -1<=qs q/\qs q<=1:=Zoh _
def zeroF:RF:=⟨canI 0,canI 0⟩
end Pl
def Zx.zero(w:World):Zx w (.agg #[.bool false,.slice none 0 0,.bool false,.slice none 0 0]) zeroF:=by
 have h:=Yp.zero w;have:=Zx.mk (x:=canI 0) (y:=canI 0) (by rw[canI_zero]at h⊢;exact h) (by rw[canI_zero]at h⊢;exact h);rw[canI_zero]at this;unfold zeroF;rw[canI_zero];exact this
def Yat(n d:Int)(w:World)(e:Ending)(w':World):Prop:=
 ∃v',e= .returned (.tuple #[v',.int .i64 (if d=0 then 11 else 0)])/\Zx w' v' (if d=0 then zeroF else canF (Rat.divInt n d))/\Below w.heap.size w w'
def Ymr(v1 v2:Value)(a b:RI)(w:World)(h1:Yp w v1 a)(h2:Yp w v2 b)(hs:(Zp (val a.ds)).length<=549755813888)(hs2:(Zp (val b.ds)).length<=549755813888):
 Calls prog 91 #[v1,v2] w (Yat a.z b.z w):=by
 obtain⟨A,n,c,rfl,hd⟩:=h1.shape;obtain⟨A',n',c',rfl,s⟩:=h2.shape;obtain⟨W,hW,hX,k,hR,i⟩:=Yss w (.bool a.neg) (.slice A n c) (.bool b.neg) (.slice A' n' c');have e1:=h1.below i;have e2:=h2.below i;clear hd s h1 h2;obtain⟨x0,x1,_,_⟩:=k.two;go_enter func91,ntmps91;go_wp2_with fail;clear hW;refine(Zaj _ b _ e2).mono ?_;rintro e w1 ⟨rfl,f⟩;have p:=hX.later f;have l:=k.later f;have g:=hR.later f;have h:=Za i f i.size;have q:=e1.below f;have r:=e2.below f;clear hX k hR i e1 e2 f x0 x1;by_cases ha:b.z=0
 ·rw[ha,sgn_zero];have HA:=JZ ha;clear ha;obtain⟨c0,c1,c2,c3⟩:=g.four;obtain⟨f0,f1,f2,f3⟩:=g.fourF;go_wp2;refine Xb results91 underlying49 Qm rfl (g.set4 _ _ _ _) rfl ?_;obtain⟨v',q1,q2,q3⟩:=YA g (Zx.zero w1) h (show w.heap.size<=w.heap.size+1+1 by omega);injection q1 with q1;subst q1;exact⟨_,by rw[jB HA.out];rfl,by rw[jB HA.out];exact q2,q3⟩
 ·have t:(sgn b.z==0)=false:=by unfold sgn;split;rfl;rfl
  have HA:=JZ ha;clear ha;obtain⟨x0,x1,_,_⟩:=p.two;obtain⟨y0,y1,_,_⟩:=l.two;go_wp2_with fail;refine(Wp _ _ a b _ q r hs hs2 HA.out).mono ?_;rintro e w2 ⟨v2,rfl,e3,o⟩;have j:=g.later o;obtain⟨B,m,d,B',m',d',rfl,_,_⟩:=id e3;obtain⟨c0,c1,c2,c3⟩:=j.four;obtain⟨f0,f1,f2,f3⟩:=j.fourF;go_wp2;refine Xb results91 underlying49 Qm rfl (j.set4 _ _ _ _) rfl ?_;obtain⟨v',q1,q2,q3⟩:=YA j e3 (Za h o h.size) (show w.heap.size<=w.heap.size+1+1 by omega);injection q1 with q1;subst q1;exact⟨_,by rw[jA HA.out];rfl,by rw[jA HA.out];exact q2,q3⟩
def VI(n d:Int)(w:World)(h0: -9223372036854775808<=n)(h1:n<=9223372036854775807)(h2: -9223372036854775808<=d)(h3:d<=9223372036854775807):
 Calls prog 51 #[.int .i64 n,.int .i64 d] w (Yat n d w):=by
 have hR:=Bk.new w 49 [.bool false,.slice none 0 0,.bool false,.slice none 0 0];have c:=Ze w (.cells [.bool false,.slice none 0 0,.bool false,.slice none 0 0].toArray 49);go_enter func51,ntmps51;go_wp2_with fail;generalize w.alloc _=W at *;refine(Y5 n _ h0 h1).mono ?_;rintro e w1 ⟨v1,rfl,e1,f⟩;go_wp2_with fail;refine(Y5 d _ h2 h3).mono ?_;rintro e w2 ⟨v2,rfl,e2,b⟩;go_wp2_with fail;refine(Ymr _ _ (canI n) (canI d) _ (e1.below b) e2 (JW (WU h0 h1) Ql) (JW (WU h2 h3) Ql)).mono ?_;rw[ZM,ZM];rintro e w3 ⟨v3,rfl,e3,g⟩;generalize hE:(if d=0 then(11:Int)else 0)=ee at *;generalize hF:(if d=0 then zeroF else canF (Rat.divInt n d))=ff at *;have HE:=JZ hE;have HF:=JZ hF;clear hE hF;have a:=((hR.later f).later b).later g;have b1:=Za c f c.size;have b2:=Za b1 b b1.size;have b3:=Za b2 g b2.size;obtain⟨B,m,d',B',m',h,rfl,_,_⟩:=id e3;obtain⟨c0,c1,c2,c3⟩:=a.four;obtain⟨f0,f1,f2,f3⟩:=a.fourF;go_wp2;refine Xb results51 underlying49 Qm rfl (a.set4 _ _ _ _) rfl ?_;obtain⟨v',q1,q2,q3⟩:=YA a e3 b3 (JY _);injection q1 with q1;subst q1;exact⟨_,by rw[HE.out];rfl,by rw[HF.out];exact q2,q3⟩
def Zy(v:Value)(a:RF)(w:World)(h:Zx w v a):
 Calls prog 58 #[v] w λe w'=>e= .returned (.int .i64 (qs a.q))/\Below w.heap.size w w':=by
 obtain⟨A,n,c,A',n',c',rfl,hd,i⟩:=h;have hX:=Bk.new w 49 [.bool a.num.neg,.slice A n c,.bool a.den.neg,.slice A' n' c'];have b:=Ze w (.cells [.bool a.num.neg,.slice A n c,.bool a.den.neg,.slice A' n' c'].toArray 49);have e1:Yp w (.agg #[.bool a.num.neg,.slice A n c]) a.num:=⟨_,rfl,hd⟩;have e2:Yp w (.agg #[.bool a.den.neg,.slice A' n' c']) a.den:=⟨_,rfl,i⟩;have e1:=e1.below b;have e2:=e2.below b;have HS:=JZ (Zog a.num.z a.den.z);have hw:IntKind.i64.wrap (sgn a.num.z*sgn a.den.z)=sgn a.num.z*sgn a.den.z:=by
  have:=Zoh a.num.z;have:=Zoh a.den.z;rw[<-HS.out];have:=VY (Rat.divInt a.num.z a.den.z);simp only[IntKind.wrap,IntKind.bits,IntKind.signed];simp;omega
 have f:True:=trivial;go_enter func58,ntmps58;go_wp2_with fail;generalize w.alloc _=W at *
 go_region_held3(λw'=>w'.cell? ⟨w.heap.size,0,none⟩=some (.bool a.num.neg)/\w'.cell? ⟨w.heap.size,1,none⟩=some (.slice A n c)/\w'.cell? ⟨w.heap.size,2,none⟩=some (.bool a.den.neg)/\w'.cell? ⟨w.heap.size,3,none⟩=some (.slice A' n' c'))
  (first|with_reducible exact hX.four|with_reducible exact hX.drew.four|with_reducible exact(hX.drew.later d).four|with_reducible exact((hX.drew.later d).later g).four)
  (first
   |(go_at_call 99;have _t:=f;refine(Zaj _ a.num _ (e1.keep (ZI.drew _))).mono ?_;clear f _t;rintro e w6 ⟨rfl,d⟩)
   |(go_at_call 99;refine(Zaj _ a.den _ ((e2.keep (ZI.drew _)).below d)).mono ?_;rintro e w7 ⟨rfl,g⟩))
 go_wp2;go_ret;refine⟨?_,Za (Za b.drew d b.size) g (JW b.size d.size)⟩;rw[show qs a.q=sgn a.num.z*sgn a.den.z from HS.out];rfl
end Go.Proofs.YtobadipflggkiaaGreat
