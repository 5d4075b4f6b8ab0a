/- Lemmas of the claim; no condition. -/
import Derived.Deep.AppendLies
import Derived.Deep.LoopGhost
import Derived.Test.YtobadipflggkiaaGreatW1
set_option linter.all false
set_option maxRecDepth 100000
set_option maxHeartbeats 40000000
namespace Go.Proofs.YtobadipflggkiaaGreat
open Go.RowKit
open Pl Tryz
attribute [local go_sem ↓] Go.wp_at_zero Go.wp_at_succ
def VX{w:World}{base:Nat}{v:Value}{n:Nat}{ds:List Nat}(h:w.ownsRow base 71 1 v n (ds.map uc))(ok:okD ds):ZP w v ds:=by
 have hl:ds.length=n:=by simpa using h.1
 subst hl;rcases h.2 with⟨rfl,h0⟩|⟨g,cap,cur,rfl,hb,hg,hnc,hcm,hcs,htake⟩
 ·exact⟨none,0,by rw[h0],Qk,by simp,ok,λhp=>Qk⟩
 ·refine⟨_,cap,rfl,hnc,hcm,ok,λ_=>⟨g,0,cur,(0,0),rfl,hg,λk d hk=>?_⟩⟩;have h1:(cur.toList.take (ds.length*1))[k]? =some (uc d):=by rw[htake];simp[hk]
  rw[iZ]at h1;split at h1
  ·simpa using h1
  ·cases h1
def Zai(ds:List Nat):∀u∈ds.map uc,u.oneCell'=true:=by
 intro u hu;obtain⟨d,_,rfl⟩:=jb.1 hu;rfl
def ZP.news{w:World}{ad:Addr}{n c:Nat}{ds:List Nat}(h:ZP w (.slice (some ad) n c) ds):∀j u,(ds.map uc)[j]? =some u->w.cell? (ad.add j)=some u:=by
 intro j u hu;rw[bJ]at hu
 cases hd:ds[j]? with
 |none=>rw[hd]at hu;cases hu
 |some d=>
  rw[hd]at hu;injection hu with hu;subst hu;obtain⟨A',c1,hv,h1,h2,h3,h4⟩:=h;injection hv with e1 e2 e3;have hj:j<ds.length:=(JO.1 hd).1;obtain⟨b,a,cs,fz,hA,hb,e⟩:=h4 Qk;rw[<-e1]at hA;injection hA with hA;subst hA;have:(⟨b,a,none⟩:Addr).add j=⟨b,a+j,none⟩:=by unfold Addr.add;split <;> simp_all
  rw[this,eB w b (a+j) cs _ fz hb];exact e j d hd
def Zch(v:Value)(ds:List Nat)(w:World)(h:ZP w v ds)(hs:ds.length<=1099511627776):
 Calls prog 162 #[v] w λe w'=>∃v',e= .returned v'/\w'.ownsRow w.heap.size 71 1 v' ds.length (ds.map uc)/\Below w.heap.size w w':=by
 obtain⟨A,n,c,rfl⟩:=h.shape;obtain⟨hl,o,p,hc⟩:=h.len;have hn:ds.length=n:=Qk
 rw[hn];have HN:=JZ hn;clear hn;have d:=λ(W:World) (a:Option Addr)=>fI (P:=prog) W 45 71 a n c 0 0 underlying45
 obtain⟨i0,hi,j,l,m⟩:=kL info_u32
 cases A with
 |none=>
  have i:n=0:=by
   rcases JV n with h0|h0
   ·exact h0
   ·obtain⟨b,q,hA,_⟩:=h.at_ h0;cases hA
  subst i;obtain rfl:ds=[]:=iX.1 HN.out;have:=d w none;clear d;go_enter func162,ntmps162;go_wp2;go_ret;exact⟨_,rfl,kY _ _ _ _,JR _ _⟩
 |some ad=>
  have:=d w (some ad);clear d;go_enter func162,ntmps162;go_wp2_with(at_builtin;refine eD _ rfl (.tmp 5) (.tmp 6) _ rfl w.heap.size 71 i0 _ 1 4 underlying45 hi j l m rfl Ql (.slice (some ⟨w.heap.size,0,none⟩) 0 0) 0 [] rfl ?c0 ad n c (ds.map uc) rfl ?c1 ?c2 (Zai ds) ?c3 ?c4 ?c5 ?_)
  case c0=>exact BQ w #[] 0 (JY _) (by simp) (by simp)
  case c1=>simp;omega
  case c2=>exact(h.below ((JR _ _).alloc (JY _) _)).news
  case c3=>unfold maxLen;omega
  case c4=>omega
  case c5=>simp
  ·intro v' w1 g f _ _;go_wp2;go_ret;refine⟨_,rfl,by simpa using g,((JR _ _).alloc (JY _) _).grown f (by simp) (λk hk=>?_)⟩;simp[Value.ownBlock]at hk;omega
def Yfu{w:World}{base g n cap:Nat}{ds:List Nat}(h:w.ownsRow base 71 1 (.slice (some ⟨g,0,none⟩) n cap) n (ds.map uc)){k:Nat}(hk:k<n):w.cell? ⟨g,k,none⟩=some (.int .u32 (di ds k)):=by
 have hl:ds.length=n:=by simpa using h.1
 rw[h.cellAt k Qk,bJ,Vi Qk];rfl
def Ymd{w:World}{base g n cap:Nat}{ds:List Nat}(h:w.ownsRow base 71 1 (.slice (some ⟨g,0,none⟩) n cap) n (ds.map uc))(k:Nat){z:Int}(hz:0<=z):
 (w.setCell ⟨g,k,none⟩ (.int .u32 z)).ownsRow base 71 1 (.slice (some ⟨g,0,none⟩) n cap) n ((ds.set k z.toNat).map uc):=by
 have:=(h.stored k (.int .u32 z)).1;have e:(ds.map uc).set k (.int .u32 z)=(ds.set k z.toNat).map uc:=by
  rw[List.map_set];simp[uc,jv hz]
 rwa[e]at this
def Vk{w0 w:World}{g:Nat}(h:w0.grownBy w (some g))(k:Nat)(u:Value):w0.grownBy (w.setCell ⟨g,k,none⟩ u) (some g):=
 ⟨h.os,h.tape,h.output,by simpa using h.size,λi hi hne=>(vH w ⟨g,k,none⟩ i u (λe=>hne (by simp[e]))).trans (h.block i hi hne)⟩
def Yfv{d r x:Int}{D R X:Nat}(hd:d=D)(hr:r=R)(hx:x=X):(r*4294967296+x)/d=(((R*B32+X)/D:Nat):Int)/\(r*4294967296+x)%d=(((R*B32+X)%D:Nat):Int):=by
 subst hd hr hx;have e:((R:Int)*4294967296+X)=((R*B32+X:Nat):Int):=by rw[vG,jF];rfl
 rw[e];exact⟨by rw[bZ],by rw[vX]⟩
def Zwz{d r x:Int}(hd:1<=d)(hr0:0<=r)(hr:r<d)(hx0:0<=x)(hx:x<=4294967295):0<=(r*4294967296+x)/d/\(r*4294967296+x)/d<=4294967295:=by
 refine⟨vV Qk Qk,?_⟩;have:(r*4294967296+x)/d<4294967296:=by
  rw[aK Qk];have:(r+1)*4294967296<=d*4294967296:=jJ Qk Qk;omega
 omega
def Yfw{ds Q:List Nat}{d r:Int}(d0:1<=d)(r0:0<=r)(r1:r<d)(h:val (ds.drop (-1+1:Int).toNat)=d.toNat*val (Q.drop (-1+1:Int).toNat)+r.toNat):
 r=((val ds%d.toNat:Nat):Int)/\val Q=val ds/d.toNat:=by
 have h':val ds=d.toNat*val Q+r.toNat:=by simpa using h
 have a:r.toNat<d.toNat:=Qk
 rw[h'];rw[Nat.mul_add_mod,ig a,gZ Qk,ik a];exact⟨Qk,Qk⟩
def Zxa{ds Q:List Nat}{d r:Int}{j:Nat}(d0:1<=d)(r0:0<=r)(hj:j<Q.length)(hs:dg Q j=dg ds j)(h:val (ds.drop ((j:Int)+1).toNat)=d.toNat*val (Q.drop ((j:Int)+1).toNat)+r.toNat):
 True/\val (ds.drop ((j:Int) - 1+1).toNat)=d.toNat*val ((Q.set j ((r*4294967296+di Q j)/d).toNat).drop ((j:Int) - 1+1).toNat)+((r*4294967296+di Q j)%d).toNat:=by
 refine⟨trivial,?_⟩;obtain⟨e1,e2⟩:=Yfv (d:=d) (r:=r) (x:=di Q j) (D:=d.toNat) (R:=r.toNat) (X:=dg ds j) Qk Qk (by rw[Yx,hs]);rw[e1,e2,JP,JP,show((j:Int) - 1+1).toNat=j from Qk];rw[show((j:Int)+1).toNat=j+1 from Qk]at h;exact Zzy hj h
def Zrh(base g n cap:Nat)(ds:List Nat)(d:Int)(w:World)(h:w.ownsRow base 71 1 (.slice (some ⟨g,0,none⟩) n cap) n (ds.map uc))(ok:okD ds)(hn:n<=1099511627776)(d0:1<=d)(d1:d<=4294967295):
 Calls prog 174 #[.slice (some ⟨g,0,none⟩) n cap,.int .u32 d] w λe w'=>∃Q:List Nat,e= .returned (.int .u32 ((val ds%d.toNat:Nat):Int))/\Q.length=ds.length/\okD Q/\val Q=val ds/d.toNat/\
  w'.ownsRow base 71 1 (.slice (some ⟨g,0,none⟩) n cap) n (Q.map uc)/\w.grownBy w' (some g):=by
 have hl:ds.length=n:=by simpa using h.1
 have HL:=JZ hl;clear hl;go_enter func174,ntmps174;go_wp2
 go_loopw [5,6] (λx i wr=>∃(z r:Int) (Q:List Nat),-1<=z/\z<n/\i= .int .i64 z/\x= .int .u64 r/\0<=r/\r<d/\n<=Q.length/\Q.length<=n/\okD Q/\wr.ownsRow base 71 1 (.slice (some ⟨g,0,none⟩) n cap) n (Q.map uc)/\w.grownBy wr (some g)/\
  (∀i:Nat,i<=z->dg Q i=dg ds i)/\val (ds.drop (z+1).toNat)=d.toNat*val (Q.drop (z+1).toNat)+r.toNat) (λ_ i _=>(intOf i+1).toNat)
 case atStart=>exact⟨(n:Int) - 1,0,ds,Qk,Qk,rfl,rfl,Qk,Qk,by rw[HL.out];exact JY _,by rw[HL.out];exact JY _,ok,h,World.grownBy.refl _ _,λ_ _=>rfl,by
  rw[kX (by rw[HL.out];omega)];simp[val]⟩
 case round=>
  obtain⟨z,r,Q,s,hz,rfl,rfl,r0,r1,hQ,o,c,a,f,b,l⟩:=hrel;have HS:=JZ b;have HE:=JZ l;clear b l;rcases jR z 0 with h0|h0
  ·obtain rfl:z= -1:=Qk
   go_wp2;go_ret;obtain⟨e1,e2⟩:=Yfw d0 r0 r1 HE.out;exact⟨Q,VW e1,by rw[HL.out];omega,c,e2,a,f⟩
  ·obtain⟨j,rfl⟩:=JT h0;have hc:=Yfu a (k:=j) Qk;have hf:=a.frozenAt j;have x0:=Zr Q j;have x1:=Yl c j;have q:=Zag x0 x1 r0 Qk;have m:=Zwz d0 r0 r1 x0 x1;obtain⟨p,t⟩:=m;go_wp2;go_roundw
   case rel=>
    obtain⟨e1,e2⟩:=Zxa (Q:=Q) d0 r0 (show j<Q.length by omega) (HS.out j Qk) HE.out;exact⟨(j:Int) - 1,_,Q.set j ((r*4294967296+di Q j)/d).toNat,Qk,Qk,rfl,rfl,kv _ Qk,kJ _ Qk,by simpa using hQ,by simpa using o,ZK c j (by unfold B32;omega),Ymd a j p,Vk f _ _,
     λi hi=>by rw[Yk Qk];exact HS.out i Qk,e2⟩
   case measure=>simp[intOf]
def Ztz{w wr:World}{g b:Nat}{n off:Nat}{ds:List Nat}(hg:w.grownBy wr (some g))(hne:b≠g)(h:∀k,k<n->w.cell? ⟨b,off+k,none⟩=some (.int .u32 (di ds k))){k:Nat}(hk:k<n):wr.cell? ⟨b,off+k,none⟩=some (.int .u32 (di ds k)):=
 hg.cell (h k hk) (by simp;exact hne)
def KnG(U vs:List Nat)(m:Nat)(w:World)(s7:Value)(wx:World):Prop:=
 ∃(G:Int) (k:Nat),s7= .int .u64 G/\0<=G/\G<=4294967295/\((vt U (m+3)/vt vs (m+2):Nat):Int)<=G/\G.toNat*vt vs (m+2)<=vt U (m+3)+vt vs (m+2)/\wx=w.drewN k
def Ysr{T v:Int}(hv:2147483648<=v)(hT:T<=v*4294967296+4294967295):T/v<=4294967298:=by
 have:T/v<4294967298+1:=by
  rw[aK Qk];omega
 omega
def WS{z:Int}(h0:0<=z)(h1:z<=18446744073709551615):bits .and .u64 z 4294967295=z%4294967296:=by
 obtain⟨n,rfl⟩:=JT h0;have e:=u64_and_nat n 4294967295 Qk Ql;have e2:n &&& 4294967295=n%4294967296:=iF n 32;rw[e2]at e;rw[show((4294967295:Int))=((4294967295:Nat):Int)from rfl,e];omega
def Wo{X:List Nat}{o k d:Nat}:(X.set (o+k) d).drop o=(X.drop o).set k d:=by
 rw[List.drop_set,jA Qk,dB]
def Zrl{vs:List Nat}{m:Nat}(_ok:okD vs)(h:2147483648<=di vs (m+1)):0<vt vs (m+2):=by
 rw[Zrj];have:0<dg vs (m+1)*B32^(m+1):=aA (by rw[Yx]at h;omega) (jg B32_pos);omega
def Ymh{Y Y0 X vs:List Nat}{n R:Nat}{z:Int}(okY:okD Y)(okV:okD vs)(hV:0<vt vs n)(z0:0<=z)(z1:z<=1)(h:(vt Y n:Int)+z* ((B32^n:Nat):Int)=vt Y0 n+vt vs n)(hY:vt Y0 n=vt X n)(hX:vt X n+vt vs n=R%vt vs n+B32^n):
 z=1/\vt Y n=R%vt vs n:=by
 have h1:=Zaw okY n;have h2:=Zaw okV n;have h3:=iC R hV;have hz:z=0\/z=1:=Qk
 generalize R%vt vs n=r at *;generalize B32^n=p at *;rcases hz with rfl|rfl
 ·omega
 ·exact⟨rfl,Qk⟩
def Ymi{G R v T:Int}(h:G*v+R=T):(G - 1)*v+(R+v)=T:=by rw[fZ];omega
def Ykr{U vs:List Nat}{m:Nat}(h:vt U (m+3)<B32*vt vs (m+2)):((vt U (m+3)/vt vs (m+2):Nat):Int)<=4294967295:=by
 have:vt U (m+3)/vt vs (m+2)<B32:=by
  rw[gQ (vI (λe=>by rw[e]at h;simp at h))];exact h
 unfold B32 at this;omega
def Yks{G x:Int}(h:0<=G)(hx:0<G*x):1<=G:=by
 rcases iM h with h1|h1
 ·omega
 ·subst h1;simp at hx
def Zua{U vs:List Nat}{m k:Nat}{w:World}{G R T:Int}(okV:okD vs)(hG:1<=G)(hv:1<=di vs (m+1))(_R0:0<=R)(v00:0<=di vs m)(v01:di vs m<=4294967295)(u00:0<=di U m)(rb:4294967296<=R+di vs (m+1))
 (T1:T<=di vs (m+1)*4294967296+4294967295) (hT:di U (m+2)*4294967296+di U (m+1)=T) (hGR:G*di vs (m+1)+R=T) (hq:((vt U (m+3)/vt vs (m+2):Nat):Int)<=G - 1):KnG U vs m w (.int .u64 (G - 1)) (w.drewN k):=by
 have e:=Ymi hGR;have a:G - 1<4294967296:=by
  have:(G - 1)*di vs (m+1)<4294967296*di vs (m+1):=Qk
  exact Int.lt_of_mul_lt_mul_right this Qk
 have ht:(G - 1)*di vs m<=4294967295*4294967295:=kK Qk v01 v00 Qk;exact⟨G - 1,k,rfl,Qk,Qk,hq,Zrk (R:=R+di vs (m+1)) okV Qk Qk Qk hv (by rw[hT];exact e) Qk,rfl⟩
def Zrm(g o m cu b2 off2 cv:Nat)(O vs:List Nat)(w:World)(hO:YU w g O)(okO:okD O)(hlen:o+m+3<=O.length)(hcu:m+3<=cu)(hcu':cu<=9223372036854775807)
 (okV:okD vs) (hne:b2≠g) (hv:∀k,k<m+2->w.cell? ⟨b2,off2+k,none⟩=some (.int .u32 (di vs k)))
 (hm:m<=1099511627776) (hnorm:2147483648<=di vs (m+1)) (hlt:vt (O.drop o) (m+3)<B32*vt vs (m+2)):
 Calls prog 180 #[.slice (some ⟨g,o,none⟩) (m+3) cu,.slice (some ⟨b2,off2,none⟩) (m+2) cv] w λe w'=>∃O':List Nat,
  e= .returned (.int .u32 ((vt (O.drop o) (m+3)/vt vs (m+2):Nat):Int))/\YU w' g O'/\O'.length=O.length/\okD O'/\(∀i,i<o\/o+m+3<=i->dg O' i=dg O i)/\vt (O'.drop o) (m+3)=vt (O.drop o) (m+3)%vt vs (m+2)/\w.grownBy w' (some g):=by
 obtain⟨U,hU⟩:∃U,U=O.drop o:=⟨_,rfl⟩;rw[<-hU]at hlt;rw[<-hU];have HV:=JZ hv;have HT:=JZ hlt;clear hv hlt;have d:okD U:=hU▸Zgg okO o;have a6:w.cell? ⟨g,o+(m+2),none⟩=some (.int .u32 (di U (m+2))):=by rw[hO.cell Qk,hU];simp[di,VV]
 have a7:w.cell? ⟨g,o+(m+1),none⟩=some (.int .u32 (di U (m+1))):=by rw[hO.cell Qk,hU];simp[di,VV]
 have a8:w.cell? ⟨g,o+m,none⟩=some (.int .u32 (di U m)):=by rw[hO.cell Qk,hU];simp[di,VV]
 have a9:=HV.out (m+1) Qk;have aa:=HV.out m Qk;have HU:=JZ hU;clear hU;have I:=Zr U (m+2);have ab:=Yl d (m+2);have J:=Zr U (m+1);have ac:=Yl d (m+1);have n:=Zr U m;have K:=Yl d m;have ad:=Zr vs (m+1);have am:=Yl okV (m+1);have f:=Zr vs m;have C:=Yl okV m;have L:=Yqa okV HT.out;have i1:IntKind.i64.wrap ((m:Int)+2 - 1)=(m:Int)+1:=by rw[IntWalk.i64_in _ Qk];omega
 have i2:((m:Int)+2).toNat=m+2:=Qk
 have i3:((m:Int)+1).toNat=m+1:=Qk
 have i4:(0:Int)<=(m:Int)+2:=Qk
 have i5:(0:Int)<=(m:Int)+1:=Qk
 have i6:(m:Int)+2< (m:Int)+3:=Qk
 have i7:(m:Int)+1< (m:Int)+3:=Qk
 have i8:(m:Int)+1< (m:Int)+2:=Qk
 have r1:IntKind.u64.wrap (di U (m+2))=di U (m+2):=u64_in _ I Qk;have r2:IntKind.u64.wrap (di U (m+1))=di U (m+1):=u64_in _ J Qk;have r3:IntKind.u64.wrap (di U (m+2)*4294967296)=di U (m+2)*4294967296:=u64_in _ Qk Qk;have r4:=Zag J ac I ab;go_enter func180,ntmps180;go_wp2
 go_quiet (fail)
 go_wp2;clear r1 r2 r3 r4 a6 a7;have q1:IntKind.u64.wrap (di vs (m+1))=di vs (m+1):=u64_in _ ad Qk
 go_quiet (fail)
 generalize hT:di U (m+2)*4294967296+di U (m+1)=T at *;have T0:0<=T:=Qk
 have T1:T<=di vs (m+1)*4294967296+4294967295:=Qk
 have l:=JZ hT;clear hT;have M:vt U (m+3)/vt vs (m+2)*vt vs (m+2)<=vt U (m+3):=Nat.div_mul_le_self _ _;have HQ:=JZ M;clear M
 go_upto_block 0 with(fail)
 go_cut [7] (λs7 wx=>KnG U vs m w s7 wx)
 case first=>
  go_wp2_with fail
  go_loopw [7,8] (λx y wr=>∃(G R:Int) (k:Nat),x= .int .u64 G/\y= .int .u64 R/\wr=w.drewN k/\0<=G/\G<=4294967298/\0<=R/\R<=4294967295/\G*di vs (m+1)+R=T/\((vt U (m+3)/vt vs (m+2):Nat):Int)<=G) (λx _ _=>(intOf x).toNat)
  case atStart=>
   exact⟨_,_,_,rfl,rfl,vN _ _ _,vV T0 Qk,Ysr Qk T1,kv _ Qk,by have:=kJ T (show 0<di vs (m+1) by omega);omega,by rw[kR];exact Int.mul_ediv_add_emod _ _,by rw[<-l.out];exact Ymg d HQ.out Qk⟩
  case round=>
   obtain⟨G,R,k,rfl,rfl,rfl,G0,G1,R0,R1,a3,q⟩:=hrel;have h:=JZ a3;have D:=JZ q;clear a3 q;have j1:IntKind.i64.wrap ((m:Int)+2 - 2)=(m:Int):=(by rw[IntWalk.i64_in _ Qk];omega);have j2:(0:Int)<=(m:Int):=Qk;have j3:(m:Int)< (m:Int)+2:=Qk;have j4:(m:Int)< (m:Int)+3:=Qk;rcases jR (R+di vs (m+1)) 4294967296 with rb|rb
   ·rcases jR G 4294967296 with gb|gb
    ·have gd:decide (4294967296<=G)=false:=(by simp;omega);have p0:0<=G*di vs m:=jY G0 f;have p1:G*di vs m<=4294967295*4294967295:=kK Qk C f Qk;have s1:IntKind.u64.wrap (di vs m)=di vs m:=u64_in _ f Qk;have s2:IntKind.u64.wrap (G*di vs m)=G*di vs m:=u64_in _ p0 Qk;have s3:IntKind.u64.wrap (R*4294967296)=R*4294967296:=u64_in _ Qk Qk;have s4:IntKind.u64.wrap (di U m)=di U m:=u64_in _ n Qk;have s5:=Zag n K R0 R1;rcases jR (R*4294967296+di U m) (G*di vs m)with tt|tt
     ·have td:decide (R*4294967296+di U m<G*di vs m)=true:=(by simpa using tt);have g1:1<=G:=Yks (x:=di vs m) G0 Qk;go_wp2
      go_quiet (fail)
      go_wp2;go_roundw
      case rel=>exact⟨G - 1,_,_,rfl,rfl,rfl,Qk,Qk,Qk,Qk,Ymi h.out,Yac d HQ.out G0 R0 (by rw[l.out];exact h.out) tt⟩
      case measure=>exact Qn
     ·have td:decide (R*4294967296+di U m<G*di vs m)=false:=(by simpa using tt);go_wp2
      go_quiet (fail)
      go_wp2
      go_meet
      exact⟨G,_,rfl,G0,Qk,D.out,Zrk okV G0 Qk R0 Qk (by rw[l.out];exact h.out) tt,vN _ _ _⟩
    ·have gd:decide (4294967296<=G)=true:=(by simpa using gb);go_wp2
     go_quiet (fail)
     go_wp2;go_roundw
     case rel=>exact⟨G - 1,_,_,rfl,rfl,rfl,Qk,Qk,Qk,Qk,Ymi h.out,by have:=Ykr HT.out;omega⟩
     case measure=>exact Qn
   ·rcases jR G 4294967296 with gb|gb
    ·have gd:decide (4294967296<=G)=false:=(by simp;omega);have p0:0<=G*di vs m:=jY G0 f;have p1:G*di vs m<=4294967295*4294967295:=kK Qk C f Qk;have s1:IntKind.u64.wrap (di vs m)=di vs m:=u64_in _ f Qk;have s2:IntKind.u64.wrap (G*di vs m)=G*di vs m:=u64_in _ p0 Qk;have s3:IntKind.u64.wrap (R*4294967296)=R*4294967296:=u64_in _ Qk Qk;have s4:IntKind.u64.wrap (di U m)=di U m:=u64_in _ n Qk;have s5:=Zag n K R0 R1;rcases jR (R*4294967296+di U m) (G*di vs m)with tt|tt
     ·have td:decide (R*4294967296+di U m<G*di vs m)=true:=(by simpa using tt);have g1:1<=G:=Yks (x:=di vs m) G0 Qk;go_wp2
      go_quiet (fail)
      go_wp2
      go_meet
      exact Zua okV Qk Qk R0 f C n rb T1 l.out h.out (Yac d HQ.out G0 R0 (by rw[l.out];exact h.out) tt)
     ·have td:decide (R*4294967296+di U m<G*di vs m)=false:=(by simpa using tt);go_wp2
      go_quiet (fail)
      go_wp2
      go_meet
      exact⟨G,_,rfl,G0,Qk,D.out,Zrk okV G0 Qk R0 Qk (by rw[l.out];exact h.out) tt,vN _ _ _⟩
    ·have gd:decide (4294967296<=G)=true:=(by simpa using gb);go_wp2
     go_quiet (fail)
     go_wp2
     go_meet
     exact Zua okV Qk Qk R0 f C n rb T1 l.out h.out (by have:=Ykr HT.out;omega)
 case rest=>
  obtain⟨G,k0,rfl,G0,G1,q,a4,rfl⟩:=hcut;have D:=JZ q;have ae:=JZ a4;clear q a4 a8 a9 aa i1 i2 i3 i4 i5 i6 i7 i8 q1 L;go_wp2_with fail
  go_loopw [9,10,85] (λcy bo i wr=>∃(k:Nat) (X:List Nat) (c b:Int),k<=m+2/\i= .int .i64 k/\cy= .int .u64 c/\bo= .int .i64 b/\0<=c/\c<=4294967295/\0<=b/\b<=1/\O.length<=X.length/\X.length<=O.length/\YU wr g X/\okD X/\w.grownBy wr (some g)/\
   (∀i,i<o->dg X i=dg O i)/\(∀i,o+k<=i->dg X i=dg O i)/\(vt (X.drop o) k:Int) - (c+b)* ((B32^k:Nat):Int)=vt U k - G*vt vs k) (λ_ _ i _=>m+2 - (intOf i).toNat)
  case atStart=>exact⟨0,O,0,0,Qk,rfl,rfl,rfl,Qk,Qk,Qk,Qk,JY _,JY _,hO,okO,⟨rfl,rfl,rfl,JY _,λ_ _ _=>rfl⟩,λ_ _=>rfl,λ_ _=>rfl,by simp[Y3]⟩
  case round=>
   obtain⟨k,X,c,b,hk,rfl,rfl,rfl,c0,c1,b0,b1,hX,a5,hB,r,a,H,s,t⟩:=hrel;have HE:=JZ t;have E:=JZ H;have p:=JZ s;clear t H s;rcases JX k (m+2)with hkl|hkl
   ·have hv:=Ztz a hne HV.out hkl;have x0:=Zr vs k;have x1:=Yl okV k;have p0:0<=G*di vs k:=jY G0 x0;have p1:G*di vs k<=4294967295*4294967295:=kK G1 x1 x0 Qk;have hu:wr.cell? ⟨g,o+k,none⟩=some (.int .u32 (di U k)):=(by rw[hB.cell Qk,Yx,p.out _ (JY _),HU.out,Yx,VV]);have hf:=hB.frozen (o+k);have y0:=Zr U k;have y1:=Yl d k;have af:=WS (show 0<=c+G*di vs k by omega) (show c+G*di vs k<=18446744073709551615 by omega);go_wp2
    ·go_roundw
     case rel=>exact⟨k+1,X.set (o+k) ((di U k - b - (c+G*di vs k))%4294967296).toNat,_,1,Qk,by go_num,rfl,rfl,Qk,Qk,Qk,Qk,by simpa using hX,by simpa using a5,hB.setI _ Qk,ZK r _ (by unfold B32;omega),Vk a _ _,
      λi hi=>by rw[Yk Qk];exact E.out i hi,λi hi=>by rw[Yk Qk];exact p.out i Qk,by
       rw[Wo];exact Znx (y:=(c+G*di vs k)%4294967296) (by rw[eH];omega) Qk Qk Qk HE.out⟩
     case measure=>exact Qn
    ·go_roundw
     case rel=>exact⟨k+1,X.set (o+k) (di U k - b - (c+G*di vs k)%4294967296).toNat,_,0,Qk,by go_num,rfl,rfl,Qk,Qk,Qk,Qk,by simpa using hX,by simpa using a5,hB.setI _ Qk,ZK r _ (by unfold B32;omega),Vk a _ _,
      λi hi=>by rw[Yk Qk];exact E.out i hi,λi hi=>by rw[Yk Qk];exact p.out i Qk,by
       rw[Wo];exact Znx (y:=(c+G*di vs k)%4294967296) (by rw[eH];omega) Qk Qk Qk HE.out⟩
     case measure=>exact Qn
   ·obtain rfl:k=m+2:=Qk
    have hu:wr.cell? ⟨g,o+(m+2),none⟩=some (.int .u32 (di U (m+2))):=(by rw[hB.cell Qk,Yx,p.out _ (JY _),HU.out,Yx,VV]);have hf:=hB.frozen (o+(m+2));have y0:=Zr U (m+2);have y1:=Yl d (m+2);obtain⟨u,v⟩:=Yfy (Zgg r o) okV (Zrl okV hnorm) rfl D.out ae.out HE.out;rcases jR (di U (m+2) - b - c) 0 with ht|ht
    ·obtain⟨e1,e2,e3⟩:=v ht;clear u v;have E2:=JZ e2;have E3:=JZ e3;have E1:=JZ e1;have t1: -1<=di U (m+2) - b - c:=Qk;have g1:1<=G:=(by have:=Int.natCast_nonneg (vt U (m+2+1)/vt vs (m+2));omega);clear e1 e2 e3;obtain⟨Y0,j⟩:∃Y0,Y0=X.set (o+(m+2)) ((di U (m+2) - b - c)%4294967296).toNat:=⟨_,rfl⟩;have N:YU (wr.setCell ⟨g,o+(m+2),none⟩ (.int .u32 ((di U (m+2) - b - c)%4294967296))) g Y0:=(by rw[j];exact hB.setI _ Qk);have P:okD Y0:=(by rw[j];exact ZK r _ (by unfold B32;omega));have S:w.grownBy (wr.setCell ⟨g,o+(m+2),none⟩ (.int .u32 ((di U (m+2) - b - c)%4294967296))) (some g):=Vk a _ _;have lY:Y0.length=X.length:=(by rw[j];simp);have ag:O.length<=Y0.length:=Qk;have ah:Y0.length<=O.length:=Qk;clear lY;have V:∀i,i<o->dg Y0 i=dg O i:=λi hi=>by rw[j,Yk Qk];exact E.out i hi
     have Z:∀i,o+m+3<=i->dg Y0 i=dg O i:=λi hi=>by rw[j,Yk Qk];exact p.out i Qk
     have F:di Y0 (o+(m+2))=4294967295:=(by rw[j,Yx,UI Qk,E1.out];rfl);have a0:vt (Y0.drop o) (m+2)=vt (X.drop o) (m+2):=(by rw[j,Wo,Znu (JY _)]);have ai:=JZ V;have aj:=JZ Z;have a1:=JZ F;have ak:=JZ a0;clear V Z F a0 j;go_wp2_with fail;clear hu hf a hB
     go_loopw [15,138] (λcy i wr=>∃(k:Nat) (Y:List Nat) (z:Int),k<=m+2/\i= .int .i64 k/\cy= .int .u64 z/\0<=z/\z<=1/\O.length<=Y.length/\Y.length<=O.length/\YU wr g Y/\okD Y/\w.grownBy wr (some g)/\
      (∀i,i<o\/o+k<=i->dg Y i=dg Y0 i)/\(vt (Y.drop o) k:Int)+z* ((B32^k:Nat):Int)=vt (Y0.drop o) k+vt vs k) (λ_ i _=>m+2 - (intOf i).toNat)
     case atStart=>exact⟨0,Y0,0,Qk,rfl,rfl,Qk,Qk,ag,ah,N,P,S,λ_ _=>rfl,by simp[Y3]⟩
     case round=>
      clear N S;obtain⟨k,Y,z,an,rfl,rfl,z0,z1,hY,al,hB,A,a,B,t⟩:=hrel;have a2:=JZ t;have HS:=JZ B;clear t B;rcases JX k (m+2)with hkl'|hkl'
      ·have hv:=Ztz a hne HV.out hkl';have x0:=Zr vs k;have x1:=Yl okV k;have hu:wr.cell? ⟨g,o+k,none⟩=some (.int .u32 (di (Y0.drop o) k)):=(by rw[hB.cell Qk,Yx,HS.out _ (.inr (JY _)),Yx,VV]);have hf:=hB.frozen (o+k);have w0:=Zr (Y0.drop o) k;have w1:=Yl (Zgg P o) k;go_wp2;go_roundw
       case rel=>exact⟨k+1,Y.set (o+k) ((z+(di (Y0.drop o) k+di vs k))%4294967296).toNat,_,Qk,by go_num,rfl,Qk,Qk,by simpa using hY,by simpa using al,hB.setI _ Qk,ZK A _ (by unfold B32;omega),Vk a _ _,
        λi hi=>by rw[Yk Qk];exact HS.out i Qk,by
         rw[Wo,<-Int.add_assoc];exact Ui (by rw[eH];omega) z0 rfl a2.out⟩
       case measure=>exact Qn
      ·obtain rfl:k=m+2:=Qk
       have hu:wr.cell? ⟨g,o+(m+2),none⟩=some (.int .u32 4294967295):=(by rw[hB.cell Qk,Yx,HS.out _ (.inr (JY _)),<-Yx,a1.out]);have hf:=hB.frozen (o+(m+2));obtain⟨f1,f2⟩:=Ymh (Zgg A o) (okV) (Zrl okV hnorm) z0 z1 a2.out ak.out E3.out;subst f1;go_wp2;go_ret;refine⟨Y.set (o+(m+2)) 0,VW E2.out,hB.set_ _ 0,by simp;omega,ZK A _ B32_pos,λi hi=>?_,?_,Vk a _ _⟩
       ·rw[Yk Qk,HS.out i Qk];rcases hi with hi|hi
        ·exact ai.out i hi
        ·exact aj.out i hi
       ·rw[Wo,Zbm (by rw[eH];omega),f2];simp
    ·obtain⟨e1,e2,e3⟩:=u ht;clear u v;have E2:=JZ e2;have E3:=JZ e3;have E1:=JZ e1;have t1:di U (m+2) - b - c<=0:=Qk;clear e1 e2 e3;go_wp2;go_ret;refine⟨X.set (o+(m+2)) (di U (m+2) - b - c).toNat,VW E2.out,hB.setI _ Qk,by simp;omega,ZK r _ (by unfold B32;omega),λi hi=>?_,?_,Vk a _ _⟩
     ·rw[Yk Qk];rcases hi with hi|hi
      ·exact E.out i hi
      ·exact p.out i Qk
     ·rw[Wo,Zbm (by rw[eH];omega),E1.out];simpa using E3.out
def YU.grown{w w':World}{g g':Nat}{ds:List Nat}(h:YU w g' ds)(hg:w.grownBy w' (some g))(hne:g'≠g):YU w' g' ds:=
 (hg.block g' h.lt (by simp;exact hne)).trans h
def YU.far{w:World}{g g':Nat}{ds:List Nat}(h:YU w g' ds)(hne:g'≠g)(k:Nat)(u:Value):YU (w.setCell ⟨g,k,none⟩ u) g' ds:=
 (vH w ⟨g,k,none⟩ g' u hne).trans h
def YU.alloc{w:World}{g:Nat}{ds:List Nat}(h:YU w g ds)(o:Obj):YU (w.alloc o) g ds:=(eO w o g h.lt).trans h
def below_grown{B:Nat}{w0 w w':World}{g:Nat}(h:Below B w0 w)(hg:w.grownBy w' (some g))(hB:B<=g)(hs:B<=w.heap.size):Below B w0 w':=
 h.grown hg hs (λk hk=>by simp at hk;omega)
def Ymn{ds:List Nat}{i s:Nat}(h:2147483648<=di ds i*2^s):2147483648<=dg ds i*2^s:=by
 rw[Yx,Yo,<-jF]at h;omega
def Zub{ds:List Nat}{i s:Nat}(h:di ds i*2^s<=4294967295):dg ds i*2^s<=4294967295:=by
 rw[Yx,Yo,<-jF]at h;omega
def Yah{O OV:List Nat}{j m:Nat}(okO:okD O)(h:vt (O.drop ((j:Int)+1).toNat) (m+2)<vt OV (m+2)):vt (O.drop j) (m+3)<B32*vt OV (m+2):=by
 rw[show((j:Int)+1).toNat=j+1 from Qk]at h;rw[Yqb,List.drop_drop,VV];have h1:=Zzp okO (j+0);have h2:B32* (vt (O.drop (j+1)) (m+2)+1)<=B32*vt OV (m+2):=ku _ h;rw[iY,BZ]at h2;omega
def Zrq(v1 v2:Value)(X Y l m:Nat)(w:World)(h1:ZP w v1 (Zp X))(h2:ZP w v2 (Zp Y))(hl1:(Zp X).length=l)(hl2:(Zp Y).length=m+2)(hlm:m+2<=l)(hs:l<=549755813888):
 Calls prog 175 #[v1,v2] w λe w'=>∃q r,e= .returned (.tuple #[q,r])/\ZP w' q (Zp (X/Y))/\ZP w' r (Zp (X%Y))/\Below w.heap.size w w':=by
 obtain⟨A,n1,c,rfl⟩:=h1.shape;obtain⟨kl,ar,b4,kc⟩:=h1.len;obtain⟨A2,n2,c2,rfl⟩:=h2.shape;obtain⟨jl,au,b5,jc⟩:=h2.len;obtain rfl:n1=l:=Qk
 obtain rfl:n2=m+2:=Qk
 obtain⟨b2,b0,rfl,b6,b⟩:=h2.at_ Qk;have hy:=b (m+1) Qk;clear b;have y1:=Yl (Z8 Y) (m+1);have G:0<Y:=by
  rcases JV Y with e|e
  ·subst e;rw[digs_zero]at hl2;simp at hl2
  ·exact e
 have y0:1<=di (Zp Y) (m+1):=by
  have:=UK G;rw[hl2]at this;rw[Yx];simp at this;omega
 have H:=JZ hl1;have I:=JZ hl2;clear hl1 hl2 kl ar jl au;go_enter func175,ntmps175;go_wp2_with fail;refine(Zoa _ _ y0 y1).mono ?_;rintro e w1 ⟨s,rfl,rfl,a,a6,a7⟩;have af:=JZ a6;have ag:=JZ a7;clear a6 a7;go_wp2_with fail;refine(Zci _ (Zp Y) s _ h2 a (by rw[I.out];omega)).mono ?_;rw[I.out];rintro e w1 ⟨OV,rfl,a8,lV,y,hV,n⟩;have LV:=JZ lV;have HV:=JZ hV;clear lV hV;go_wp2_with fail;refine(Zci _ (Zp X) s _ (h1.below n) a (by rw[H.out];omega)).mono ?_;rw[H.out];rintro e w2 ⟨OU,rfl,a9,lU,av,hU,o⟩;have LU:=JZ lU;have HU:=JZ hU;clear lU hU;have L:=YV (n1 - (m+2)+1) Qk;have d:((n1 - (m+2)+1:Nat):Int)=(n1:Int) - ((m:Int)+2)+1:=Qk
 rw[d]at L;clear d;have ah:=a8.lt;have ay:=a9.lt;have b1:=o.size;have az:=n.size;obtain⟨a0,g⟩:=Ygf (ys:=Zp Y) rfl I.out a (Ymn af.out) (Zub ag.out) y (by rw[HV.out,Zn]);have f:0<vt OV (m+2):=Zrl y (by rw[Yx];omega);have B:vt OV (m+2)<=B32^(m+2):=jZ (Zaw y _);have M:=Zxc (X:=X) (l:=n1) (m:=m) (OU:=OU) (OV:=OV) (by have:=Yu X;rwa[H.out]at this) a hlm (by rw[HU.out,Zn]) (by rw[LU.out];exact JY _) g;have ai:=JZ a0;have N:=JZ g;have P:=JZ f;have aj:=JZ B;have ak:=JZ M;clear a0 g f B M;have R:X*2^s=val OU:=by rw[HU.out,Zn]
 have al:=JZ R;clear R;generalize ad:w.heap.size=gV at *;generalize ae:w1.heap.size=gU at *;have am:=JZ ad;have b3:=JZ ae;clear ad ae;go_wp2;clear L
 go_loopw [10] (λi wr=>∃(z:Int) (O Q:List Nat),-1<=z/\z<=(n1:Int) - (m+2)/\i= .int .i64 z/\n1+1<=O.length/\O.length<=n1+1/\n1 - (m+2)+1<=Q.length/\Q.length<=n1 - (m+2)+1/\YU wr gU O/\YU wr gV OV/\YU wr w2.heap.size Q/\okD O/\okD Q/\Below gV w wr/\
  (∀i:Nat,z+1+(m+2)<=i->dg O i=0)/\vt (O.drop (z+1).toNat) (m+2)<vt OV (m+2)/\X*2^s=vt OV (m+2)*val (Q.drop (z+1).toNat)*B32^(z+1).toNat+val O) (λi _=>(intOf i+1).toNat)
 case atStart=>
  refine⟨_,OU,List.replicate (n1 - (m+2)+1) 0,?_,?_,rfl,?_,?_,by simp,by simp,a9.alloc _,(a8.below o ah).alloc _,?_,av,ZJ _,?_,?_,?_,?_⟩
  ·omega
  ·omega
  ·rw[LU.out];exact JY _
  ·rw[LU.out];exact JY _
  ·exact YU.zeros w2 (n1 - (m+2)+1)
  ·have:=(n.trans (o.mono Qk)).alloc Qk (.cells (zc (n1 - (m+2)+1)) 71);exact this
  ·exact λi hi=>VU (by rw[LU.out];omega)
  ·have e:((n1:Int) - ((m:Int)+2)+1).toNat=n1 - (m+2)+1:=Qk;rw[e];exact ak.out
  ·rw[kX (by simp;omega),al.out];simp[val]
 case round=>
  obtain⟨z,O,Q,b7,b8,rfl,hO,a1,hQ,a2,u,D,v,x,a3,a4,h,E,a5⟩:=hrel;have HZ:=JZ h;have HR:=JZ E;have HE:=JZ a5;clear h E a5;rcases jR z 0 with h0|h0
  ·obtain rfl:z= -1:=Qk
   have S:∀i,m+2<=i->dg O i=0:=λi hi=>HZ.out i Qk
   obtain⟨e1,e2⟩:=Ygg (X:=X) (Y:=Y) (s:=s) (m:=m) (O:=O) (Q:=Q) (OV:=OV) (by have:=HE.out;simpa using this) ai.out S (by have:=HR.out;simpa using this);have E1:=JZ e1;have E2:=JZ e2;clear e1 e2 S;have an:ZP wr (.slice (some ⟨w2.heap.size,0,none⟩) (n1 - (m+2)+1) (n1 - (m+2)+1)) Q:=by
    have:=v.dig a3 (c:=n1 - (m+2)+1) a2 (by unfold maxLen;omega)
    rwa[show Q.length=n1 - (m+2)+1 from Qk]at this
   have ao:ZP wr (.slice (some ⟨gU,0,none⟩) (m+2) (n1+1)) (O.take (m+2)):=by
    have:=u.dig x (c:=n1+1) a1 (by unfold maxLen;omega);exact this.take Qk Qk (by unfold maxLen;omega)
   have k1:(0:Int)<=(m:Int)+2:=Qk;have k2:(m:Int)+2<=(n1:Int)+1:=Qk;have k3:((m:Int)+2).toNat=m+2:=Qk;go_wp2_with fail
   go_region_held3(λ_=>True) (exact trivial)
    (first|(go_at_call 134;refine(Z7 _ Q _ (an.keep (ZI.drew _))).mono ?_;rintro e w5 ⟨v5,rfl,aw,rfl⟩)|(go_at_call 181;refine(Zjo _ (O.take (m+2)) s _ (ao.keep (ZI.drew _)) a (by rw[kN];omega)).mono ?_;rintro e w6 ⟨v6,rfl,ax,F⟩))
   go_wp2;go_ret2;refine⟨v5,v6,rfl,?_,?_,?_⟩
   ·have:=aw.below F;rwa[E1.out]at this
   ·have h6:ZP w6 v6 (Zp (vt O (m+2)/2^s)):=ax
    rwa[E2.out]at h6
   ·rw[am.out];exact a4.trans ((V6 F).mono (by have:=u.lt;omega))
  ·obtain⟨j,rfl⟩:=JT h0;have hq:=v.cell (k:=j) Qk;have T:=v.frozen j;go_wp2_with fail;rw[show j+(m+2)+1 - j=m+3 from Qk];refine(Zrm gU j m (n1+1 - j) gV 0 (m+2+1) O OV wr u x Qk Qk Qk y Qk ?_ Qk ?_ ?_).mono ?_
   ·intro k hk;rw[ji];exact D.cell (by rw[LV.out];omega)
   ·rw[Yx];have:=N.out;omega
   ·exact Yah x HR.out
   rintro e w5 ⟨O2,rfl,aa,ab,ac,p,t,K⟩;obtain⟨f1,f2,f3⟩:=Yag (U:=X*2^s) (Q:=Q) (show j<Q.length by omega) P.out aj.out (λi hi=>HZ.out i Qk) p t (by have:=HE.out;rwa[show((j:Int)+1).toNat=j+1 from Qk]at this);have C:vt (O.drop j) (m+3)/vt OV (m+2)<B32:=by
    rw[gQ P.out];exact Yah x HR.out
   have F1:=JZ f1;have F2:=JZ f2;have F3:=JZ f3;have V:=JZ ab;have ap:=D.grown K Qk;have J:=v.grown K Qk;have Z:=below_grown a4 K Qk (by have:=u.lt;omega);generalize vt (O.drop j) (m+3)/vt OV (m+2)=qd at *;have aq:=JZ C;clear f1 f2 f3 ab p t C hq T;have hq:=J.cell (k:=j) Qk;have T:=J.frozen j;go_wp2;go_roundw
   case rel=>
    refine⟨(j:Int) - 1,O2,Q.set j qd,?_,?_,rfl,?_,?_,?_,?_,aa.far Qk _ _,ap.far Qk _ _,J.set_ j qd,ac,ZK a3 _ aq.out,Z.setCell (by show gV<=w2.heap.size;omega) _,?_,?_,?_⟩
    ·omega
    ·omega
    ·rw[V.out];exact hO
    ·rw[V.out];exact a1
    ·simpa using hQ
    ·simpa using a2
    ·exact λi hi=>F1.out i Qk
    ·rw[show((j:Int) - 1+1).toNat=j from Qk];exact F2.out
    ·rw[show((j:Int) - 1+1).toNat=j from Qk];exact F3.out
   case measure=>simp[intOf]
def Zcj{X:Nat}(h:(Zp X).length<=2):X<B32*B32:=by
 have h1:=Yu X;have h2:B32^(Zp X).length<=B32^2:=jS B32_pos h;rw[show B32^2=B32*B32 from by rw[jf,Nat.pow_one]]at h2;omega
def Zei(v1 v2:Value)(X Y:Nat)(w:World)(h1:ZP w v1 (Zp X))(h2:ZP w v2 (Zp Y))(hY:0<Y)(hs:(Zp X).length<=549755813888)(hs2:(Zp Y).length<=549755813888):
 Calls prog 164 #[v1,v2] w λe w'=>∃q r,e= .returned (.tuple #[q,r])/\ZP w' q (Zp (X/Y))/\ZP w' r (Zp (X%Y))/\Below w.heap.size w w':=by
 have hq:X<Y->X/Y=0/\X%Y=X:=λh=>⟨ik h,ig h⟩
 have HQ:=JZ hq;clear hq;obtain⟨A,n1,c,rfl⟩:=h1.shape;obtain⟨kl,O,P,kc⟩:=h1.len;obtain⟨A2,n2,c2,rfl⟩:=h2.shape;obtain⟨jl,R,S,jc⟩:=h2.len;have L:1<=n2:=by have:=Xe hY;omega
 go_enter func164,ntmps164;go_wp2_with fail;refine(Yi _ _ X Y _ h1 h2).mono ?_;rintro e w1 ⟨rfl,b⟩;have g1:=h1.below b;have g2:=h2.below b;rcases JX X Y with hlt|hge
 ·rw[UL hlt];go_wp2_with fail;refine(Zch _ (Zp X) _ g1 Qk).mono ?_;rintro e w2 ⟨v',rfl,d,a⟩;go_wp2;go_ret2;obtain⟨e1,e2⟩:=HQ.out hlt;rw[e1,e2];exact⟨_,_,rfl,by rw[digs_zero];exact ZP.nil _ _ _ (by simp),VX d (Z8 X),b.trans (a.mono b.size)⟩
 ·have M:0<=cmpN X Y:=by
   rcases kH hge with e|e
   ·rw[Zrf e.symm];decide
   ·rw[Zha e];decide
  generalize cmpN X Y=cc at *;have J:=Zu hge;rcases JX 2 n1 with hn|hn
  ·rcases JX 1 n2 with hm|hm
   ·have t1:((n2:Int)==1)=false:=(by simp;omega);go_wp2_with fail;refine(Zrq _ _ X Y n1 (n2 - 2) _ g1 g2 Qk Qk Qk Qk).mono ?_;rintro e w2 ⟨q,r,rfl,hq,hr,a⟩;go_wp2;go_ret2;exact⟨_,_,rfl,hq,hr,b.trans (a.mono b.size)⟩
   ·obtain rfl:n2=1:=Qk
    obtain⟨b2,K,rfl,T,i⟩:=g2.at_ Qk;have hy:=i 0 Qk;rw[dI]at hy;clear i;have t:Y<B32:=by
     have:=Yu Y;have e:(Zp Y).length=1:=Qk
     rwa[e,Nat.pow_one]at this
    have u:di (Zp Y) 0=(Y:Int):=(by rw[Zgh hY t];simp[di,dg]);have y1:=Yl (Z8 Y) 0;have y0:1<=di (Zp Y) 0:=Qk;have l:=JZ u;clear u t;go_wp2_with fail;refine(Zch _ (Zp X) _ g1 Qk).mono ?_;rintro e w2 ⟨v',rfl,d,a⟩;have z:(Zp X).length=n1:=Qk;rw[z]at d;obtain⟨gg,cap,rfl,F,_⟩:=d.form Qk;have N:=jy a hy;go_wp2_with fail;refine(Zrh _ _ _ _ (Zp X) _ _ d (Z8 X) Qk y0 y1).mono ?_;rintro e w3 ⟨Q,rfl,lQ,G,vQ,p,y⟩;have g:Below w1.heap.size w1 w3:=below_grown a y F a.size;rw[Zn]at vQ;rw[Zn];have j:((X% (di (Zp Y) 0).toNat:Nat):Int)=((X%Y:Nat):Int):=(by rw[l.out,JP]);rw[j];have B:((X%Y:Nat):Int)<=4294967295:=(by have:=iC X hY;have:=l.out;omega);have v:0<=((X%Y:Nat):Int):=Qk;obtain⟨rz,o⟩:∃rz:Int,rz=((X%Y:Nat):Int):=⟨_,rfl⟩;rw[<-o]at B v⊢;have C:=JZ o;have VQ:=JZ vQ;clear j o vQ lQ;have D:=VX p G;go_wp2_with fail;refine(Z7 _ Q _ D).mono ?_;rintro e w4 ⟨v4,rfl,H,rfl⟩;go_wp2_with fail;refine(Y2 rz _ v Qk).mono ?_;rintro e w5 ⟨v5,rfl,s,f⟩;go_wp2;go_ret2;refine⟨_,_,rfl,?_,?_,b.trans ((g.trans (f.mono g.size)).mono b.size)⟩
    ·have:=H.below f
     rwa[VQ.out,l.out,JP]at this
    ·rwa[C.out,JP]at s
  ·have m:X<B32*B32:=Zcj Qk;have n:Y<B32*B32:=Zcj Qk;go_wp2_with fail;refine(Vf _ X _ g1 m).mono ?_;rintro e w2 ⟨rfl,a⟩;go_wp2_with fail;refine(Vf _ Y _ (g2.below a) n).mono ?_;rintro e w3 ⟨rfl,g⟩;have x1:(X:Int)<=18446744073709551615:=(by unfold B32 at m;omega);have y1:(Y:Int)<=18446744073709551615:=(by unfold B32 at n;omega);have x0:(0:Int)<=X:=Qk;have y0:(1:Int)<=Y:=Qk;have d0:(0:Int)<=(X:Int)/Y:=vV x0 Qk;have d1:(X:Int)/Y<=X:=vJ _ x0;have m0:(0:Int)<=(X:Int)%Y:=kv _ Qk;have m1:(X:Int)%Y<Y:=kJ _ Qk;have ed:(X:Int)/Y=((X/Y:Nat):Int):=(by rw[bZ]);have em:(X:Int)%Y=((X%Y:Nat):Int):=(by rw[vX]);have ED:=JZ ed;have EM:=JZ em;clear ed em m n;generalize(X:Int)=zx at *;generalize(Y:Int)=zy at *;have q0:¬zy=0:=Qk;have q1:IntKind.u64.wrap (zx.tdiv zy)=zx/zy:=IntWalk.u64_quo zx zy ⟨x0,x1,y0⟩;have q2:zx.tmod zy=zx%zy:=vO x0;have q3:IntKind.u64.wrap (zx%zy)=zx%zy:=u64_in _ m0 Qk;go_wp2_with fail
   go_region_held3(λ_=>True) (exact trivial)
    (first|(go_at_call_of 131 (Value.int IntKind.u64 (zx/zy));refine(Y2 (zx/zy) _ d0 Qk).mono ?_;rintro e w5 ⟨v5,rfl,s,f⟩)|(go_at_call 131;refine(Y2 (zx%zy) _ m0 Qk).mono ?_;rintro e w6 ⟨v6,rfl,I,k⟩))
   go_wp2;go_ret2;refine⟨v5,v6,rfl,?_,?_,?_⟩
   ·have:=s.below k
    rwa[ED.out,JP]at this
   ·rwa[EM.out,JP]at I
   ·have E:=(V6 f).trans (k.mono f.size);have x:=a.trans (g.mono a.size);exact b.trans ((x.trans (E.mono x.size)).mono b.size)
def Ygh{x y:Int}(hx:0<=x)(hy:0<y):Nat.gcd y.toNat (x%y).toNat=Nat.gcd x.toNat y.toNat:=by
 obtain⟨a,rfl⟩:=JT hx;obtain⟨b,rfl⟩:=JT (Int.le_of_lt hy);rw[<-vX,JP,JP,JP,bK a b,Bb b a,bK]
def Zhe(x y:Int)(w:World)(x0:0<=x)(x1:x<=18446744073709551615)(y0:0<=y)(y1:y<=18446744073709551615):
 Calls prog 172 #[.int .u64 x,.int .u64 y] w λe w'=>e= .returned (.int .u64 ((Nat.gcd x.toNat y.toNat:Nat):Int))/\Below w.heap.size w w':=by
 go_enter func172,ntmps172;go_wp2
 go_loopw [0,1] (λs t wr=>∃(a b:Int) (q:Nat),s= .int .u64 a/\t= .int .u64 b/\0<=a/\a<=18446744073709551615/\0<=b/\b<=18446744073709551615/\wr=w.drewN q/\Nat.gcd a.toNat b.toNat=Nat.gcd x.toNat y.toNat) (λ_ t _=>(intOf t).toNat)
 case atStart=>exact⟨x,y,0,rfl,rfl,x0,x1,y0,y1,rfl,rfl⟩
 case round=>
  obtain⟨a,b,q,rfl,rfl,a0,a1,b0,b1,rfl,hg⟩:=hrel;have HG:=JZ hg;clear hg;rcases iM b0 with h|h
  ·have t1:(b !=0)=true:=(by simp;omega);have q0:¬b=0:=Qk;have m0:0<=a%b:=kv _ Qk;have m1:a%b<b:=kJ _ h;have q2:a.tmod b=a%b:=vO a0;have q3:IntKind.u64.wrap (a%b)=a%b:=u64_in _ m0 Qk;go_wp2
   go_quiet (fail)
   go_wp2;go_roundw
   case rel=>exact⟨b,a%b,q+nq,rfl,rfl,b0,b1,m0,Qk,vN _ _ _,by rw[Ygh a0 h];exact HG.out⟩
   case measure=>exact Qn
  ·subst h;go_wp2;go_ret;refine⟨VW ?_,below_drewN' _ _⟩;rw[<-HG.out];simp;omega
def Yaj(O p q b a c u v x y pw P Q pr qr r t:Int)(h:O+(p - q - b)*pw=u*a - v*c)(e1:p+u*x=pr+4294967296*P)(e2:q+v*y=qr+4294967296*Q)(e3:pr - qr - b=r - 4294967296*t):
 O+r*pw+(P - Q - t)* (pw*4294967296)=u* (a+x*pw) - v* (c+y*pw):=by grind
def WA{O xs ys:List Nat}{k:Nat}{p q b u v P Q pr qr r t:Int}(hk:k<O.length)(hr:0<=r)(e1:p+u*di xs k=pr+4294967296*P)(e2:q+v*di ys k=qr+4294967296*Q)(e3:pr - qr - b=r - 4294967296*t)
 (h:(vt O k:Int)+(p - q - b)* ((B32^k:Nat):Int)=u*vt xs k - v*vt ys k):
 (vt (O.set k r.toNat) (k+1):Int)+(P - Q - t)* ((B32^(k+1):Nat):Int)=u*vt xs (k+1) - v*vt ys (k+1):=by
 rw[Xf hk hr,Z4,Z4,YL];exact Yaj _ _ _ _ _ _ _ _ _ _ _ _ _ _ _ _ _ h e1 e2 e3
def Zuc{O xs ys:List Nat}{n R:Nat}{p q b u v:Int}(okO:okD O)(hO:O.length=n)(hx:xs.length<=n)(hy:ys.length<=n)(hR:u*val xs - v*val ys=(R:Int))(hlt:R<B32^n)
 (h:(vt O n:Int)+(p - q - b)* ((B32^n:Nat):Int)=u*vt xs n - v*vt ys n):val O=R:=by
 rw[XU hx,XU hy,XU Qk,hR]at h;have hv:=Zgz okO;rw[hO]at hv;generalize p - q - b=c at *;generalize B32^n=P at *;have hc:c=0:=by
  rcases jm c 0 with g|g|g
  ·have:c* (P:Int)<=(-1)*P:=jJ Qk Qk;omega
  ·exact g
  ·have:1* (P:Int)<=c*P:=jJ Qk Qk;omega
 subst hc;omega
def Zxd(v1 v2:Value)(xs ys:List Nat)(u v:Int)(R:Nat)(w:World)(h1:ZP w v1 xs)(h2:ZP w v2 ys)(hcmp:xs.length<ys.length)(u0:0<=u)(u1:u<=4294967295)(w0:0<=v)(w1:v<=4294967295)(hs:ys.length<=549755813888)
 (hR:u*val xs - v*val ys=(R:Int)) (hlt:R<B32^(ys.length)):
 Calls prog 171 #[v1,.int .u64 u,v2,.int .u64 v] w λe w'=>∃v',e= .returned v'/\ZP w' v' (Zp R)/\Below w.heap.size w w':=by
 have HR:=JZ hR;have m:=JZ hlt;clear hR hlt;obtain⟨A,l,c,rfl⟩:=h1.shape;obtain⟨hl,B,C,hc⟩:=h1.len;obtain⟨A2,l2,c2,rfl⟩:=h2.shape;obtain⟨kl,D,E,kc⟩:=h2.len;have n:=YV l2 Qk;have o:(l:Int)<l2:=Qk
 go_enter func171,ntmps171;go_wp2;clear n
 go_loopw [11,12,13,24] (λps qs bs i wr=>∃(k:Nat) (O:List Nat) (p q b:Int),k<=l2/\i= .int .i64 k/\ps= .int .u64 p/\qs= .int .u64 q/\bs= .int .i64 b/\0<=p/\p<=4294967295/\0<=q/\q<=4294967295/\0<=b/\b<=1/\l2<=O.length/\O.length<=l2/\YU wr w.heap.size O/\okD O/\Below w.heap.size w wr/\
  (vt O k:Int)+(p - q - b)* ((B32^k:Nat):Int)=u*vt xs k - v*vt ys k) (λ_ _ _ i _=>l2 - (intOf i).toNat)
 case atStart=>exact⟨0,List.replicate l2 0,0,0,0,Qk,rfl,rfl,rfl,rfl,Qk,Qk,Qk,Qk,Qk,Qk,by simp,by simp,YU.zeros w _,ZJ _,(JR _ _).alloc (JY _) _,by simp[Y3]⟩
 case round=>
  obtain⟨k,O,p,q,b,hk,rfl,rfl,rfl,rfl,p0,p1,q0,q1,b0,b1,hO,g,hB,ok,a,j⟩:=hrel;have HE:=JZ j;clear j;rcases JX k l2 with hkl|hkl
  ·have ho:=hB.cell (k:=k) Qk;have hf:=hB.frozen k;have x0:=Zr xs k;have x1:=Yl h1.ok k;have y0:=Zr ys k;have y1:=Yl h2.ok k;have a0:0<=u*di xs k:=jY u0 x0;have a1:u*di xs k<=4294967295*4294967295:=kK u1 x1 x0 Qk;have c0:0<=v*di ys k:=jY w0 y0;have c1:v*di ys k<=4294967295*4294967295:=kK w1 y1 y0 Qk;obtain⟨bY,y,rfl,t,d⟩:=h2.at_ Qk;have hy:=XZ a t d hkl;clear d;rcases JX k l with hk2|hk2
   ·skip
    obtain⟨bx,z,rfl,x,f⟩:=h1.at_ Qk;have hx:=XZ a x f hk2;clear f;have r:=WS (show 0<=p+u*di xs k by omega) (show p+u*di xs k<=18446744073709551615 by omega);have s:=WS (show 0<=q+v*di ys k by omega) (show q+v*di ys k<=18446744073709551615 by omega);go_wp2
    ·go_roundw
     case rel=>exact⟨k+1,O.set k _,_,_,1,Qk,by go_num,rfl,rfl,rfl,Qk,Qk,Qk,Qk,Qk,Qk,by simpa using hO,by simpa using g,hB.setI k Qk,ZK ok k (by unfold B32;omega),a.setCell (JY _) _,WA (pr:=(p+u*di xs k)%4294967296) (qr:=(q+v*di ys k)%4294967296) Qk Qk Qk Qk Qk HE.out⟩
     case measure=>exact Qn
    ·go_roundw
     case rel=>exact⟨k+1,O.set k _,_,_,0,Qk,by go_num,rfl,rfl,rfl,Qk,Qk,Qk,Qk,Qk,Qk,by simpa using hO,by simpa using g,hB.setI k Qk,ZK ok k (by unfold B32;omega),a.setCell (JY _) _,WA (pr:=(p+u*di xs k)%4294967296) (qr:=(q+v*di ys k)%4294967296) Qk Qk Qk Qk Qk HE.out⟩
     case measure=>exact Qn
   ·have h:di xs k=0:=(by rw[Yx,VU Qk];rfl);have HX:=JZ h;clear h;have r:=WS (show 0<=p by omega) (show p<=18446744073709551615 by omega);have s:=WS (show 0<=q+v*di ys k by omega) (show q+v*di ys k<=18446744073709551615 by omega);go_wp2
    ·go_roundw
     case rel=>exact⟨k+1,O.set k _,_,_,1,Qk,by go_num,rfl,rfl,rfl,Qk,Qk,Qk,Qk,Qk,Qk,by simpa using hO,by simpa using g,hB.setI k Qk,ZK ok k (by unfold B32;omega),a.setCell (JY _) _,WA (pr:=(p)%4294967296) (qr:=(q+v*di ys k)%4294967296) Qk Qk (by rw[HX.out];omega) Qk Qk HE.out⟩
     case measure=>exact Qn
    ·go_roundw
     case rel=>exact⟨k+1,O.set k _,_,_,0,Qk,by go_num,rfl,rfl,rfl,Qk,Qk,Qk,Qk,Qk,Qk,by simpa using hO,by simpa using g,hB.setI k Qk,ZK ok k (by unfold B32;omega),a.setCell (JY _) _,WA (pr:=(p)%4294967296) (qr:=(q+v*di ys k)%4294967296) Qk Qk (by rw[HX.out];omega) Qk Qk HE.out⟩
     case measure=>exact Qn
  ·obtain rfl:k=l2:=Qk
   go_wp2_with fail;refine(Z7 _ O _ ?_).mono ?_
   ·have:=hB.dig ok (c:=k) g (by unfold maxLen;omega)
    rwa[show O.length=k from Qk]at this
   rintro e w1 ⟨v',rfl,hv,rfl⟩;go_wp2_with fail;go_ret;refine⟨_,rfl,?_,a⟩
   rwa[Zuc ok (show O.length=k by omega) Qk Qk HR.out (by have:=m.out;rwa[show ys.length=k from Qk]at this) HE.out]at hv
def Zxe(v1 v2:Value)(xs ys:List Nat)(u v:Int)(R:Nat)(w:World)(h1:ZP w v1 xs)(h2:ZP w v2 ys)(hcmp:ys.length<=xs.length)(u0:0<=u)(u1:u<=4294967295)(w0:0<=v)(w1:v<=4294967295)(hs:xs.length<=549755813888)
 (hR:u*val xs - v*val ys=(R:Int)) (hlt:R<B32^(xs.length)):
 Calls prog 171 #[v1,.int .u64 u,v2,.int .u64 v] w λe w'=>∃v',e= .returned v'/\ZP w' v' (Zp R)/\Below w.heap.size w w':=by
 have HR:=JZ hR;have m:=JZ hlt;clear hR hlt;obtain⟨A,l,c,rfl⟩:=h1.shape;obtain⟨hl,B,C,hc⟩:=h1.len;obtain⟨A2,l2,c2,rfl⟩:=h2.shape;obtain⟨kl,D,E,kc⟩:=h2.len;have n:=YV l Qk;have o:¬(l:Int)<l2:=Qk
 go_enter func171,ntmps171;go_wp2;clear n
 go_loopw [11,12,13,24] (λps qs bs i wr=>∃(k:Nat) (O:List Nat) (p q b:Int),k<=l/\i= .int .i64 k/\ps= .int .u64 p/\qs= .int .u64 q/\bs= .int .i64 b/\0<=p/\p<=4294967295/\0<=q/\q<=4294967295/\0<=b/\b<=1/\l<=O.length/\O.length<=l/\YU wr w.heap.size O/\okD O/\Below w.heap.size w wr/\
  (vt O k:Int)+(p - q - b)* ((B32^k:Nat):Int)=u*vt xs k - v*vt ys k) (λ_ _ _ i _=>l - (intOf i).toNat)
 case atStart=>exact⟨0,List.replicate l 0,0,0,0,Qk,rfl,rfl,rfl,rfl,Qk,Qk,Qk,Qk,Qk,Qk,by simp,by simp,YU.zeros w _,ZJ _,(JR _ _).alloc (JY _) _,by simp[Y3]⟩
 case round=>
  obtain⟨k,O,p,q,b,hk,rfl,rfl,rfl,rfl,p0,p1,q0,q1,b0,b1,hO,g,hB,ok,a,j⟩:=hrel;have HE:=JZ j;clear j;rcases JX k l with hkl|hkl
  ·have ho:=hB.cell (k:=k) Qk;have hf:=hB.frozen k;have x0:=Zr xs k;have x1:=Yl h1.ok k;have y0:=Zr ys k;have y1:=Yl h2.ok k;have a0:0<=u*di xs k:=jY u0 x0;have a1:u*di xs k<=4294967295*4294967295:=kK u1 x1 x0 Qk;have c0:0<=v*di ys k:=jY w0 y0;have c1:v*di ys k<=4294967295*4294967295:=kK w1 y1 y0 Qk;obtain⟨bx,y,rfl,t,d⟩:=h1.at_ Qk;have hx:=XZ a t d hkl;clear d;rcases JX k l2 with hk2|hk2
   ·skip
    obtain⟨bY,z,rfl,x,f⟩:=h2.at_ Qk;have hy:=XZ a x f hk2;clear f;have r:=WS (show 0<=p+u*di xs k by omega) (show p+u*di xs k<=18446744073709551615 by omega);have s:=WS (show 0<=q+v*di ys k by omega) (show q+v*di ys k<=18446744073709551615 by omega);go_wp2
    ·go_roundw
     case rel=>exact⟨k+1,O.set k _,_,_,1,Qk,by go_num,rfl,rfl,rfl,Qk,Qk,Qk,Qk,Qk,Qk,by simpa using hO,by simpa using g,hB.setI k Qk,ZK ok k (by unfold B32;omega),a.setCell (JY _) _,WA (pr:=(p+u*di xs k)%4294967296) (qr:=(q+v*di ys k)%4294967296) Qk Qk Qk Qk Qk HE.out⟩
     case measure=>exact Qn
    ·go_roundw
     case rel=>exact⟨k+1,O.set k _,_,_,0,Qk,by go_num,rfl,rfl,rfl,Qk,Qk,Qk,Qk,Qk,Qk,by simpa using hO,by simpa using g,hB.setI k Qk,ZK ok k (by unfold B32;omega),a.setCell (JY _) _,WA (pr:=(p+u*di xs k)%4294967296) (qr:=(q+v*di ys k)%4294967296) Qk Qk Qk Qk Qk HE.out⟩
     case measure=>exact Qn
   ·have h:di ys k=0:=(by rw[Yx,VU Qk];rfl);have HY:=JZ h;clear h;have r:=WS (show 0<=p+u*di xs k by omega) (show p+u*di xs k<=18446744073709551615 by omega);have s:=WS (show 0<=q by omega) (show q<=18446744073709551615 by omega);go_wp2
    ·go_roundw
     case rel=>exact⟨k+1,O.set k _,_,_,1,Qk,by go_num,rfl,rfl,rfl,Qk,Qk,Qk,Qk,Qk,Qk,by simpa using hO,by simpa using g,hB.setI k Qk,ZK ok k (by unfold B32;omega),a.setCell (JY _) _,WA (pr:=(p+u*di xs k)%4294967296) (qr:=(q)%4294967296) Qk Qk Qk (by rw[HY.out];omega) Qk HE.out⟩
     case measure=>exact Qn
    ·go_roundw
     case rel=>exact⟨k+1,O.set k _,_,_,0,Qk,by go_num,rfl,rfl,rfl,Qk,Qk,Qk,Qk,Qk,Qk,by simpa using hO,by simpa using g,hB.setI k Qk,ZK ok k (by unfold B32;omega),a.setCell (JY _) _,WA (pr:=(p+u*di xs k)%4294967296) (qr:=(q)%4294967296) Qk Qk Qk (by rw[HY.out];omega) Qk HE.out⟩
     case measure=>exact Qn
  ·obtain rfl:k=l:=Qk
   go_wp2_with fail;refine(Z7 _ O _ ?_).mono ?_
   ·have:=hB.dig ok (c:=k) g (by unfold maxLen;omega)
    rwa[show O.length=k from Qk]at this
   rintro e w1 ⟨v',rfl,hv,rfl⟩;go_wp2_with fail;go_ret;refine⟨_,rfl,?_,a⟩
   rwa[Zuc ok (show O.length=k by omega) Qk Qk HR.out (by have:=m.out;rwa[show xs.length=k from Qk]at this) HE.out]at hv
section
def Bk(w:World)(g:Nat)(t:TypeId)(cs:List Value):Prop:=w.heap[g]? =some (.cells cs.toArray t (0,0))
section
variable {w w':World} {g:Nat} {t:TypeId} {cs:List Value}
def Bk.lt(h:Bk w g t cs):g<w.heap.size:=ZU h
def Bk.cell(h:Bk w g t cs)(i:Nat):w.cell? ⟨g,i,none⟩=cs[i]? :=by rw[eB w g i _ t (0,0) h];simp
def Bk.cellAt(h:Bk w g t cs)(i:Nat){v:Value}(hv:cs[i]? =some v):w.cell? ⟨g,i,none⟩=some v:=by rw[h.cell,hv]
def Bk.frozen(h:Bk w g t cs)(i:Nat):w.frozen? ⟨g,i,none⟩=false:=frozen_of_row w g i _ t h
def Bk.new(w:World)(t:TypeId)(cs:List Value):Bk (w.alloc (.cells cs.toArray t)) w.heap.size t cs:=vo w _
def Bk.alloc(h:Bk w g t cs)(o:Obj):Bk (w.alloc o) g t cs:=(eO w o g h.lt).trans h
def Bk.drew(h:Bk w g t cs):Bk w.drew g t cs:=h
def Bk.drewN(h:Bk w g t cs)(n:Nat):Bk (w.drewN n) g t cs:=h
def Bk.set_(h:Bk w g t cs)(i:Nat)(u:Value):Bk (w.setCell ⟨g,i,none⟩ u) g t (cs.set i u):=by
 unfold Bk at h⊢;rw[Ba w g i _ t u h];simp
def Bk.far(h:Bk w g t cs){p:Addr}(hp:g≠p.block)(u:Value):Bk (w.setCell p u) g t cs:=(Below.heap_setCell w p u g hp).trans h
def Bk.below{B:Nat}(h:Bk w g t cs)(hb:Below B w w')(hg:g<B):Bk w' g t cs:=(hb.block g hg).trans h
def Bk.later(h:Bk w g t cs)(hb:Below w.heap.size w w'):Bk w' g t cs:=h.below hb h.lt
def Bk.grown{row:Option Nat}(h:Bk w g t cs)(hg:w.grownBy w' row)(hne:some g≠row):Bk w' g t cs:=(hg.block g h.lt hne).trans h
def Bk.ne_of{g':Nat}{t':TypeId}{cs':List Value}(h:Bk w g t cs)(h':Bk w g' t' cs')(hne:t≠t'):g≠g':=by
 rintro rfl;unfold Bk at h h';rw[h]at h';injection h' with h';injection h' with _ h2 _;exact hne h2
def Bk.keepD(h:Bk w g t cs)(ht:t≠71)(i:Nat)(u:Value):ZI w (w.setCell ⟨g,i,none⟩ u):=ZI.setCell h ht i u
end
def Zq{P:Program}{fn:Func}{R:Ending->World->Prop}{a:Act}{w:World}{p:Tmp}{ty:TypeId}{g:Nat}{t:TypeId}{cs:List Value}{fs:Array Field}(hres:fn.results=#[.cell p ty])(hu:P.underlying ty=some (.struct fs))(hi:(P.info? ty).map (·.size)=some cs.length)
 (hp:a.tmps.getD p undef= .pointer (some ⟨g,0,none⟩)) (hB:Bk w g t cs) (hd:a.defers=[]) (hR:R (.returned (.agg cs.toArray)) w):bodyPost P fn R .ret a w:=
 iP (results_cell_row hres a.tmps w g t cs.toArray (0,0) _ hp hB hu rfl (by simpa using hi)) hd hR
end
namespace Pl
structure RI where
 neg:Bool
 ds:List Nat
def RI.z(a:RI):Int:=if a.neg then -(val a.ds:Int)else(val a.ds:Int)
def canI(z:Int):RI:=⟨decide (z<0),Zp z.natAbs⟩
def sm(neg:Bool)(n:Nat):Int:=if neg then -(n:Int)else(n:Int)
def RI.z_eq(a:RI):a.z=sm a.neg (val a.ds):=rfl
def Zrs(neg:Bool)(n:Nat)(h:n≠0):canI (sm neg n)=⟨neg,Zp n⟩:=by
 cases neg <;> simp[canI,sm] <;> omega
def canI_zero:canI 0=⟨false,[]⟩:=by simp[canI,digs_zero]
def Zek(neg:Bool):sm neg 0=0:=by cases neg <;> simp[sm]
def ZM(z:Int):(canI z).z=z:=by
 simp only[RI.z,canI,Zn];by_cases h:z<0
 ·simp[h];omega
 ·simp[h];omega
def ZT(a:RI):a.z.natAbs=val a.ds:=by
 unfold RI.z;split <;> simp
end Pl
def Yp(w:World)(v:Value)(a:RI):Prop:=∃s,v= .agg #[.bool a.neg,s]/\ZP w s a.ds
def Yp.keep{w w':World}{v:Value}{a:RI}(h:Yp w v a)(hk:ZI w w'):Yp w' v a:=by
 obtain⟨s,h1,h2⟩:=h;exact⟨s,h1,h2.keep hk⟩
def Yp.below{w w':World}{v:Value}{a:RI}(h:Yp w v a)(hb:Below w.heap.size w w'):Yp w' v a:=h.keep (ZI.of_below hb)
def Yp.zero(w:World):Yp w (.agg #[.bool false,.slice none 0 0]) (canI 0):=by
 rw[canI_zero];exact⟨_,rfl,ZP.nil _ _ _ (by simp)⟩
def Bk.two{w:World}{g:Nat}{t:TypeId}{a b:Value}(h:Bk w g t [a,b]):w.cell? ⟨g,0,none⟩=some a/\w.cell? ⟨g,1,none⟩=some b/\w.frozen? ⟨g,0,none⟩=false/\w.frozen? ⟨g,1,none⟩=false:=
 ⟨h.cellAt 0 rfl,h.cellAt 1 rfl,h.frozen 0,h.frozen 1⟩
def Bk.set2{w:World}{g:Nat}{t:TypeId}{a b:Value}(h:Bk w g t [a,b])(c d:Value):Bk ((w.setCell ⟨g,0,none⟩ c).setCell ⟨g,1,none⟩ d) g t [c,d]:=(h.set_ 0 c).set_ 1 d
def Bk.keep2{w:World}{g:Nat}{t:TypeId}{a b:Value}(h:Bk w g t [a,b])(ht:t≠71)(c d:Value):ZI w ((w.setCell ⟨g,0,none⟩ c).setCell ⟨g,1,none⟩ d):=
 (h.keepD ht _ _).trans ((h.set_ 0 c).keepD ht _ _)
def Yf{n g:Nat}{w w':World}(h:Below n w w')(hg:n<=g)(c d:Value):Below n w ((w'.setCell ⟨g,0,none⟩ c).setCell ⟨g,1,none⟩ d):=(h.setCell hg _).setCell hg _
def Ze(w:World)(o:Obj):Below w.heap.size w (w.alloc o):=(JR _ _).alloc (JY _) _
def Za{n:Nat}{w w1 w2:World}(h:Below n w w1)(h2:Below w1.heap.size w1 w2)(hn:n<=w1.heap.size):Below n w w2:=h.trans (h2.mono hn)
def Yp.shape{w:World}{v:Value}{a:RI}(h:Yp w v a):∃A n c,v= .agg #[.bool a.neg,.slice A n c]/\ZP w (.slice A n c) a.ds:=by
 obtain⟨s,rfl,h2⟩:=h;obtain⟨A,n,c,rfl⟩:=h2.shape;exact⟨A,n,c,rfl,h2⟩
def YX{w w2:World}{m g:Nat}{x y b s:Value}{a:RI}(hR:Bk w2 g 47 [x,y])(d:Yp w2 (.agg #[b,s]) a)(hbe:Below m w w2)(hg:m<=g):
 ∃v',Ending.returned (.agg [b,s].toArray)= .returned v'/\Yp ((w2.setCell ⟨g,0,none⟩ b).setCell ⟨g,1,none⟩ s) v' a/\Below m w ((w2.setCell ⟨g,0,none⟩ b).setCell ⟨g,1,none⟩ s):=
 ⟨_,rfl,d.keep (hR.keep2 Ql _ _),Yf hbe hg _ _⟩
def Zlr(neg:Bool)(v:Value)(ds:List Nat)(w:World)(h:ZP w v ds):
 Calls prog 130 #[.bool neg,v] w λe w'=>∃v',e= .returned v'/\Yp w' v' (canI (sm neg (val ds)))/\Below w.heap.size w w':=by
 have hR:=Bk.new w 47 [.bool false,.slice none 0 0];have a:=Ze w (.cells [.bool false,.slice none 0 0].toArray 47);have h':=h.below a;go_enter func130,ntmps130;go_wp2_with fail;generalize w.alloc _=W at *;refine(Z7 _ ds _ h').mono ?_;rintro e w1 ⟨v1,rfl,h1,rfl⟩;obtain⟨A,n,c,rfl⟩:=h1.shape;obtain⟨kl,b,d,kc⟩:=h1.len;obtain⟨c0,c1,f0,f1⟩:=hR.two;rcases JV n with h0|h0
 ·subst h0;have hv:val ds=0:=by
   rcases JV (val ds)with e|e
   ·exact e
   ·have:=Xe e;omega
  have HV:=JZ hv;clear hv kl b;go_wp2;refine Zq results130 underlying47 Qm rfl (hR.set2 _ _) rfl ?_;exact⟨_,rfl,by rw[HV.out,Zek];exact Yp.zero _,Yf a (JY _) _ _⟩
 ·have hv:val ds≠0:=by
   intro e;rw[e,digs_zero]at kl;simp at kl;omega
  have HV:=JZ hv;clear hv kl b;go_wp2;refine Zq results130 underlying47 Qm rfl (hR.set2 _ _) rfl ?_;refine⟨_,rfl,?_,Yf a (JY _) _ _⟩;rw[Zrs _ _ HV.out];exact⟨_,rfl,h1.keep (hR.keep2 Ql _ _)⟩
def Y5(z:Int)(w:World)(h0: -9223372036854775808<=z)(h1:z<=9223372036854775807):
 Calls prog 92 #[.int .i64 z] w λe w'=>∃v',e= .returned v'/\Yp w' v' (canI z)/\Below w.heap.size w w':=by
 have hR:=Bk.new w 47 [.bool false,.slice none 0 0];have d:=Ze w (.cells [.bool false,.slice none 0 0].toArray 47);rcases jR z 0 with hn|hn
 ·have e1:IntKind.u64.wrap z=z+18446744073709551616:=by simp[IntKind.wrap,IntKind.bits,IntKind.signed];omega
  have e2:IntKind.u64.wrap (-(z+18446744073709551616))= -z:=by simp[IntKind.wrap,IntKind.bits,IntKind.signed];omega
  go_enter func92,ntmps92;go_wp2_with fail;generalize w.alloc _=W at *;refine(Y2 (-z) _ Qk Qk).mono ?_;rintro e w1 ⟨v1,rfl,d1,b⟩;go_wp2_with fail;refine(Zlr true _ _ _ d1).mono ?_;have hz:sm true (val (Zp (-z).toNat))=z:=by rw[Zn];simp[sm];omega
  rw[hz];rintro e w2 ⟨v2,rfl,d2,f⟩;obtain⟨A,n,c,rfl,_⟩:=d2.shape;have a:=(hR.later b).later f;obtain⟨c0,c1,f0,f1⟩:=a.two;go_wp2;refine Zq results92 underlying47 Qm rfl (a.set2 _ _) rfl ?_;exact YX a d2 (Za (Za d b d.size) f (JW d.size b.size)) (JY _)
 ·have e1:IntKind.u64.wrap z=z:=u64_in _ hn Qk;go_enter func92,ntmps92;go_wp2_with fail;generalize w.alloc _=W at *;refine(Y2 z _ Qk Qk).mono ?_;rintro e w1 ⟨v1,rfl,d1,b⟩;go_wp2_with fail;refine(Zlr false _ _ _ d1).mono ?_;have hz:sm false (val (Zp z.toNat))=z:=by rw[Zn];simp[sm];omega
  rw[hz];rintro e w2 ⟨v2,rfl,d2,f⟩;obtain⟨A,n,c,rfl,_⟩:=d2.shape;have a:=(hR.later b).later f;obtain⟨c0,c1,f0,f1⟩:=a.two;go_wp2;refine Zq results92 underlying47 Qm rfl (a.set2 _ _) rfl ?_;exact YX a d2 (Za (Za d b d.size) f (JW d.size b.size)) (JY _)
namespace Pl
def sgn(z:Int):Int:=if z<0 then -1 else if z=0 then 0 else 1
def UM{z:Int}(h:z<0):sgn z= -1:=by simp[sgn,h]
def sgn_zero:sgn 0=0:=by simp[sgn]
def Uk{z:Int}(h:0<z):sgn z=1:=by simp[sgn];omega
def WT{n:Nat}(h:(Zp n).length=0):n=0:=by
 rcases JV n with e|e
 ·exact e
 ·have:=Xe e;omega
def UN{n:Nat}(h:0< (Zp n).length):n≠0:=by
 intro e;rw[e,digs_zero]at h;simp at h
end Pl
def Zaj(v:Value)(a:RI)(w:World)(h:Yp w v a):
 Calls prog 99 #[v] w λe w'=>e= .returned (.int .i64 (sgn a.z))/\Below w.heap.size w w':=by
 obtain⟨A,n,c,rfl,hd⟩:=h.shape;obtain⟨d,ds⟩:=a;simp only at hd⊢;have hR:=Bk.new w 47 [.bool d,.slice A n c];have b:=Ze w (.cells [.bool d,.slice A n c].toArray 47);go_enter func99,ntmps99;go_wp2_with fail;have g:=hd.below b;generalize w.alloc _=W at *;obtain⟨c0,c1,f0,f1⟩:=hR.two;refine(Z7 _ ds _ g).mono ?_;rintro e w1 ⟨v1,rfl,h1,rfl⟩;obtain⟨A1,n1,k1,rfl⟩:=h1.shape;obtain⟨kl,f,i,kc⟩:=h1.len;rcases JV n1 with h0|h0
 ·subst h0;have hv:val ds=0:=WT Qk;have hz:sgn (RI.z ⟨d,ds⟩)=0:=by rw[RI.z_eq,hv,Zek,sgn_zero]
  have HZ:=JZ hz;clear hv hz kl f;go_wp2;go_ret;exact⟨by rw[HZ.out];rfl,b⟩
 ·have hv:val ds≠0:=UN Qk;clear kl f
  cases d
  ·have hz:sgn (RI.z ⟨false,ds⟩)=1:=(by rw[RI.z_eq];exact Uk (by simp[sm];omega));have HZ:=JZ hz;clear hv hz;go_wp2;go_ret;exact⟨by rw[HZ.out];rfl,b⟩
  ·have hz:sgn (RI.z ⟨true,ds⟩)= -1:=(by rw[RI.z_eq];exact UM (by simp[sm];omega));have HZ:=JZ hz;clear hv hz;go_wp2;go_ret;exact⟨by rw[HZ.out];rfl,b⟩
def size_alloc(w:World)(o:Obj):(w.alloc o).heap.size=w.heap.size+1:=by simp
def Ysn(w:World)(x y:Value):∃W,(w.alloc (.cells #[x,y] 47)).alloc (.cells #[.bool false,.slice none 0 0] 47)=W/\Bk W w.heap.size 47 [x,y]/\Bk W (w.heap.size+1) 47 [.bool false,.slice none 0 0]/\Below w.heap.size w W:=by
 refine⟨_,rfl,(Bk.new w _ [x,y]).alloc _,?_,(Ze w _).alloc (by simp) _⟩;have:=Bk.new (w.alloc (.cells #[x,y] 47)) 47 [.bool false,.slice none 0 0]
 rwa[size_alloc]at this
def Ykx(w:World)(x y x' y':Value):∃W,((w.alloc (.cells #[x,y] 47)).alloc (.cells #[x',y'] 47)).alloc (.cells #[.bool false,.slice none 0 0] 47)=W/\Bk W w.heap.size 47 [x,y]/\Bk W (w.heap.size+1) 47 [x',y']/\Bk W (w.heap.size+1+1) 47 [.bool false,.slice none 0 0]/\Below w.heap.size w W:=by
 refine⟨_,rfl,((Bk.new w _ [x,y]).alloc _).alloc _,?_,?_,((Ze w _).alloc (by simp) _).alloc (by simp;omega) _⟩
 ·have:=Bk.new (w.alloc (.cells #[x,y] 47)) 47 [x',y'];rw[size_alloc]at this;exact this.alloc _
 ·have:=Bk.new ((w.alloc (.cells #[x,y] 47)).alloc (.cells #[x',y'] 47)) 47 [.bool false,.slice none 0 0]
  rwa[size_alloc,size_alloc]at this
def Bk.pair{w:World}{g:Nat}{t:TypeId}{a b:Value}(h:Bk w g t [a,b]):w.cell? ⟨g,0,none⟩=some a/\w.cell? ⟨g,1,none⟩=some b:=⟨h.two.1,h.two.2.1⟩
def Bk.two_far{w:World}{g g':Nat}{t:TypeId}{a b:Value}(h:Bk w g t [a,b])(hne:g≠g')(c d:Value):((w.setCell ⟨g',0,none⟩ c).setCell ⟨g',1,none⟩ d).cell? ⟨g,0,none⟩=some a/\((w.setCell ⟨g',0,none⟩ c).setCell ⟨g',1,none⟩ d).cell? ⟨g,1,none⟩=some b:=
 ((h.far (p:=⟨g',0,none⟩) hne c).far (p:=⟨g',1,none⟩) hne d).pair
def Zi{w w':World}{p:Addr}{v:Value}(hb:Below w.heap.size w w')(h:w.cell? p=some v):w'.cell? p=some v:=jy hb h
def Yky(neg:Bool)(n:Nat):sm (!neg) n= - sm neg n:=by cases neg <;> simp[sm]
def Yd(neg:Bool)(v:Value)(n:Nat)(w:World)(h:ZP w v (Zp n)):
 Calls prog 130 #[.bool neg,v] w λe w'=>∃v',e= .returned v'/\Yp w' v' (canI (sm neg n))/\Below w.heap.size w w':=by
 have:=Zlr neg v (Zp n) w h
 rwa[Zn]at this
def Zak(v:Value)(a:RI)(w:World)(h:Yp w v a)(hs:(Zp (val a.ds)).length<=549755813888):
 Calls prog 138 #[v] w λe w'=>∃v',e= .returned v'/\Yp w' v' (canI (- a.z))/\Below w.heap.size w w':=by
 obtain⟨A,n,c,rfl,hd⟩:=h.shape;obtain⟨g,ds⟩:=a;simp only at hd hs⊢;obtain⟨W,hW,hX,hR,f⟩:=Ysn w (.bool g) (.slice A n c);have i:=hd.below f;go_enter func138,ntmps138;go_wp2_with fail;clear hW;obtain⟨x0,x1,y0,y1⟩:=hX.two
 go_region_held3(λw'=>w'.cell? ⟨w.heap.size,0,none⟩=some (.bool g)/\w'.cell? ⟨w.heap.size,1,none⟩=some (.slice A n c))
  (first|exact⟨x0,x1⟩|exact(hX.drew.later b).pair|exact((hX.drew.later b).later d).pair|exact((hX.drew.later b).later d).two_far Qk _ _)
  (first
   |(go_at_call 134;refine(Z7 _ ds _ (i.keep (ZI.drew _))).mono ?_;rintro e w1 ⟨v1,rfl,h1,rfl⟩)
   |(go_at_call 162;refine(Zch _ _ _ h1 Qk).mono ?_;rintro e w2 ⟨v2,rfl,h2,b⟩)
   |(go_at_call 130;refine(Yd (!g) _ _ _ (VX h2 (Z8 _))).mono ?_;rintro e w3 ⟨v3,rfl,h3,d⟩;obtain⟨A3,n3,k3,rfl,_⟩:=h3.shape;obtain⟨c0,c1,f0,f1⟩:=((hR.drew.later b).later d).two))
 go_wp2;refine Zq results138 underlying47 Qm rfl (((hR.drew.later b).later d).set2 _ _) rfl ?_;rw[RI.z_eq,<-Yky];exact YX ((hR.drew.later b).later d) h3 (Za (Za f.drew b f.size) d (JW f.size b.size)) (Nat.le_succ _)
namespace Pl
def Zhf(b:Bool)(X Y:Nat):sm b X+sm b Y=sm b (X+Y):=by cases b <;> simp[sm] <;> omega
def Zud{a b:Bool}(hab:(a==b)=false){X Y:Nat}(h:Y<=X):sm a X+sm b Y=sm a (X - Y):=by cases a <;> cases b <;> simp[sm]at hab⊢ <;> omega
def Zue{a b:Bool}(hab:(a==b)=false){X Y:Nat}(h:X<=Y):sm a X+sm b Y=sm b (Y - X):=by cases a <;> cases b <;> simp[sm]at hab⊢ <;> omega
end Pl
def Zck(a b:Bool)(v1 v2:Value)(X Y:Nat)(w:World)(h1:ZP w v1 (Zp X))(h2:ZP w v2 (Zp Y))(hs:(Zp X).length<=549755813888)(hs2:(Zp Y).length<=549755813888):
 Calls prog 143 #[.bool a,v1,.bool b,v2] w λe w'=>∃v',e= .returned v'/\Yp w' v' (canI (sm a X+sm b Y))/\Below w.heap.size w w':=by
 have hR:=Bk.new w 47 [.bool false,.slice none 0 0];have f:=Ze w (.cells [.bool false,.slice none 0 0].toArray 47);have d1:=h1.below f;have d2:=h2.below f;by_cases k:(a==b)=true
 ·obtain rfl:a=b:=by simpa using k
  go_enter func143,ntmps143;go_wp2_with fail;generalize w.alloc _=W at *;refine(Zeg _ _ (Zp X) (Zp Y) _ d1 d2 hs hs2).mono ?_;rw[Zn,Zn];rintro e w1 ⟨v1,rfl,e1,g⟩;go_wp2_with fail;refine(Yd a _ _ _ e1).mono ?_;rw[<-Zhf];rintro e w2 ⟨v2,rfl,e2,i⟩;obtain⟨A,n,c,rfl,_⟩:=e2.shape;have d:=(hR.later g).later i;obtain⟨c0,c1,f0,f1⟩:=d.two;go_wp2;refine Zq results143 underlying47 Qm rfl (d.set2 _ _) rfl ?_;exact YX d e2 (Za (Za f g f.size) i (JW f.size g.size)) (JY _)
 ·have j:(a==b)=false:=by simpa using k
  clear k;rcases JX X Y with hXY|hXY
  ·have hc:cmpN X Y= -1:=UL hXY;go_enter func143,ntmps143;go_wp2_with fail;generalize w.alloc _=W at *;refine(Yi _ _ X Y _ d1 d2).mono ?_;rw[hc];rintro e w0 ⟨rfl,h⟩;go_wp2_with fail;refine(Zah _ _ (Zp Y) (Zp X) _ (d2.below h) (d1.below h) (by rw[Zn,Zn];omega) (Zu (jZ hXY)) hs2).mono ?_;rw[Zn,Zn];rintro e w1 ⟨v1,rfl,e1,g⟩;go_wp2_with fail;refine(Yd b _ _ _ e1).mono ?_;rw[<-Zue j (jZ hXY)];rintro e w2 ⟨v2,rfl,e2,i⟩;obtain⟨A,n,c,rfl,_⟩:=e2.shape;have d:=((hR.later h).later g).later i;obtain⟨c0,c1,f0,f1⟩:=d.two;go_wp2;refine Zq results143 underlying47 Qm rfl (d.set2 _ _) rfl ?_;have b0:=Za f h f.size;have b1:=Za b0 g b0.size;exact YX d e2 (Za b1 i b1.size) (JY _)
  ·have hc:0<=cmpN X Y:=(by unfold cmpN;split;omega;split <;> omega);have l:=Zrg X Y;go_enter func143,ntmps143;go_wp2_with fail;generalize w.alloc _=W at *;refine(Yi _ _ X Y _ d1 d2).mono ?_;rintro e w0 ⟨rfl,h⟩;generalize cmpN X Y=cc at *;go_wp2_with fail;refine(Zah _ _ (Zp X) (Zp Y) _ (d1.below h) (d2.below h) (by rw[Zn,Zn];omega) (Zu hXY) hs).mono ?_;rw[Zn,Zn];rintro e w1 ⟨v1,rfl,e1,g⟩;go_wp2_with fail;refine(Yd a _ _ _ e1).mono ?_;rw[<-Zud j hXY];rintro e w2 ⟨v2,rfl,e2,i⟩;obtain⟨A,n,c,rfl,_⟩:=e2.shape;have d:=((hR.later h).later g).later i;obtain⟨c0,c1,f0,f1⟩:=d.two;go_wp2;refine Zq results143 underlying47 Qm rfl (d.set2 _ _) rfl ?_;have b0:=Za f h f.size;have b1:=Za b0 g b0.size;exact YX d e2 (Za b1 i b1.size) (JY _)
def Zuf(v1 v2:Value)(a b:RI)(w:World)(h1:Yp w v1 a)(h2:Yp w v2 b)(hs:(Zp (val a.ds)).length<=549755813888)(hs2:(Zp (val b.ds)).length<=549755813888):
 Calls prog 112 #[v1,v2] w λe w'=>∃v',e= .returned v'/\Yp w' v' (canI (a.z+b.z))/\Below w.heap.size w w':=by
 obtain⟨A,n,c,rfl,hd⟩:=h1.shape;obtain⟨A',n',c',rfl,l⟩:=h2.shape;obtain⟨h,ds⟩:=a;obtain⟨f,o⟩:=b;simp only at hd hs l hs2⊢;obtain⟨W,hW,hX,i,hR,g⟩:=Ykx w (.bool h) (.slice A n c) (.bool f) (.slice A' n' c');have m:=hd.below g;have j:=l.below g;have k:True:=trivial;go_enter func112,ntmps112;go_wp2_with fail;clear hW
 go_region_held3(λw'=>(w'.cell? ⟨w.heap.size,0,none⟩=some (.bool h)/\w'.cell? ⟨w.heap.size,1,none⟩=some (.slice A n c))/\(w'.cell? ⟨w.heap.size+1,0,none⟩=some (.bool f)/\w'.cell? ⟨w.heap.size+1,1,none⟩=some (.slice A' n' c')))
  (first|exact⟨hX.pair,i.pair⟩|exact⟨(hX.drew.later d).pair,(i.drew.later d).pair⟩|exact⟨(hX.drew.later d).two_far Qk _ _,(i.drew.later d).two_far Qk _ _⟩)
  (first
   |(go_at_call 134;have _t:=k;refine(Z7 _ ds _ (m.keep (ZI.drew _))).mono ?_;clear k _t;rintro e w1 ⟨v1,rfl,e1,rfl⟩)
   |(go_at_call 134;refine(Z7 _ o _ (j.keep (ZI.drew _))).mono ?_;rintro e w1 ⟨v2,rfl,e2,rfl⟩)
   |(go_at_call 143;refine(Zck h f _ _ _ _ _ e1 e2 hs hs2).mono ?_;rintro e w3 ⟨v3,rfl,h3,d⟩;obtain⟨A3,n3,k3,rfl,_⟩:=h3.shape;obtain⟨c0,c1,f0,f1⟩:=(hR.drew.later d).two))
 go_wp2;refine Zq results112 underlying47 Qm rfl ((hR.drew.later d).set2 _ _) rfl ?_;exact YX (hR.drew.later d) h3 (Za g.drew d g.size) Qk
def boxes(w:World)(x y x' y':Value):∃W,(w.alloc (.cells #[x,y] 47)).alloc (.cells #[x',y'] 47)=W/\Bk W w.heap.size 47 [x,y]/\Bk W (w.heap.size+1) 47 [x',y']/\Below w.heap.size w W:=by
 refine⟨_,rfl,(Bk.new w _ [x,y]).alloc _,?_,(Ze w _).alloc (by simp) _⟩;have:=Bk.new (w.alloc (.cells #[x,y] 47)) 47 [x',y']
 rwa[size_alloc]at this
namespace Pl
def Yam(X Y:Nat):sgn ((X:Int) - Y)=cmpN X Y:=by
 unfold sgn cmpN;rcases kF X Y with h|h|h
 ·rw[jB Qk,jB h]
 ·subst h;simp
 ·rw[jA Qk,jA Qk,jA Qk,jA Qk]
def Ymp(X Y:Nat):sgn (sm true X - sm true Y)=cmpN Y X:=by rw[<-Yam];simp[sm];congr 1;omega
def Zls(X Y:Nat):sgn (sm false X - sm false Y)=cmpN X Y:=by rw[<-Yam];simp[sm]
def Yan(X Y:Nat)(h:X≠0):sgn (sm true X - sm false Y)= -1:=by apply UM;simp[sm];omega
def Yao(X Y:Nat)(h:Y≠0):sgn (sm false X - sm true Y)=1:=by apply Uk;simp[sm];omega
def Ypt{n:Nat}(h:n=0)(b:Bool):sm b n=sm false n:=by subst h;simp[sm]
end Pl
def UO(v1 v2:Value)(a b:RI)(w:World)(h1:Yp w v1 a)(h2:Yp w v2 b):
 Calls prog 110 #[v1,v2] w λe w'=>e= .returned (.int .i64 (sgn (a.z - b.z)))/\Below w.heap.size w w':=by
 obtain⟨A,n,c,rfl,hd⟩:=h1.shape;obtain⟨A',n',c',rfl,C⟩:=h2.shape;obtain⟨o,ds⟩:=a;obtain⟨i,g⟩:=b;simp only at hd C⊢;obtain⟨W,hW,hX,j,k⟩:=boxes w (.bool o) (.slice A n c) (.bool i) (.slice A' n' c');have p:=hd.below k;have l:=C.below k;rw[RI.z_eq,RI.z_eq];simp only;have q:True:=trivial;go_enter func110,ntmps110;go_wp2_with fail;clear hW;obtain⟨x0,x1,_,_⟩:=hX.two;obtain⟨D,E,_,_⟩:=j.two
 go_region_held3(λw'=>(w'.cell? ⟨w.heap.size,0,none⟩=some (.bool o)/\w'.cell? ⟨w.heap.size,1,none⟩=some (.slice A n c))/\(w'.cell? ⟨w.heap.size+1,0,none⟩=some (.bool i)/\w'.cell? ⟨w.heap.size+1,1,none⟩=some (.slice A' n' c')))
  (exact⟨hX.pair,j.pair⟩)
  (first
   |(go_at_call 134;have _t:=q;refine(Z7 _ ds _ (p.keep (ZI.drew _))).mono ?_;clear q _t;rintro e w1 ⟨v1,rfl,e1,rfl⟩)
   |(go_at_call 134;refine(Z7 _ g _ (l.keep (ZI.drew _))).mono ?_;rintro e w1 ⟨v2,rfl,e2,rfl⟩))
 have F:=hX.drew;have r:=j.drew;have d:=k.drew;clear hX j k p l x0 x1 D E;generalize W.drew=W2 at *;obtain⟨x0,x1,_,_⟩:=F.two;obtain⟨D,E,_,_⟩:=r.two;obtain⟨A1,n1,c1,rfl⟩:=e1.shape;obtain⟨kl,G,I,kc⟩:=e1.len;obtain⟨A2,n2,c2,rfl⟩:=e2.shape;obtain⟨jl,H,J,jc⟩:=e2.len;have s:n1=0->val ds=0:=λh=>WT Qk
 have t:0<n1->val ds≠0:=λh=>UN Qk
 have u:n2=0->val g=0:=λh=>WT Qk
 have v:0<n2->val g≠0:=λh=>UN Qk
 have x:=JZ s;have y:=JZ t;have m:=JZ u;have B:=JZ v;clear s t u v kl G jl H
 cases o
 ·cases i
  ·go_wp2_with fail;refine(Yi _ _ (val ds) (val g) _ e1 e2).mono ?_;rintro e w3 ⟨rfl,f⟩;go_wp2;go_ret;exact⟨by rw[Zls];rfl,Za d f d.size⟩
  ·rcases JV n2 with h0|h0
   ·have ZY:=JZ (m.out h0);subst h0;go_wp2_with fail;refine(Yi _ _ (val ds) (val g) _ e1 e2).mono ?_;rintro e w3 ⟨rfl,f⟩;go_wp2;go_ret;exact⟨by rw[Ypt ZY.out true,Zls];rfl,Za d f d.size⟩
   ·go_wp2;go_ret;exact⟨by rw[Yao _ _ (B.out h0)];rfl,d⟩
 ·cases i
  ·rcases JV n1 with h0|h0
   ·have ZX:=JZ (x.out h0);subst h0;go_wp2_with fail;refine(Yi _ _ (val ds) (val g) _ e1 e2).mono ?_;rintro e w3 ⟨rfl,f⟩;go_wp2;go_ret;exact⟨by rw[Ypt ZX.out true,Zls];rfl,Za d f d.size⟩
   ·go_wp2;go_ret;exact⟨by rw[Yan _ _ (y.out h0)];rfl,d⟩
  ·rcases JV n1 with h0|h0
   ·have ZX:=JZ (x.out h0);subst h0;rcases JV n2 with h0|h0
    ·have ZY:=JZ (m.out h0);subst h0;go_wp2_with fail;refine(Yi _ _ (val ds) (val g) _ e1 e2).mono ?_;rintro e w3 ⟨rfl,f⟩;go_wp2;go_ret;exact⟨by rw[Ypt ZX.out true,Ypt ZY.out true,Zls];rfl,Za d f d.size⟩
    ·go_wp2;go_ret;exact⟨by rw[Ypt ZX.out true,Yao _ _ (B.out h0)];rfl,d⟩
   ·rcases JV n2 with h1|h1
    ·have ZY:=JZ (m.out h1);subst h1;go_wp2;go_ret;exact⟨by rw[Ypt ZY.out true,Yan _ _ (y.out h0)];rfl,d⟩
    ·go_wp2_with fail;refine(Yi _ _ (val g) (val ds) _ e2 e1).mono ?_;rintro e w3 ⟨rfl,f⟩;go_wp2;go_ret;exact⟨by rw[Ymp];rfl,Za d f d.size⟩
end Go.Proofs.YtobadipflggkiaaGreat
