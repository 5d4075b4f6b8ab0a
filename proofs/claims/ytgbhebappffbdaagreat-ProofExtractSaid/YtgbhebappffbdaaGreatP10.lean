/- Lemmas of the claim; no condition. -/
import Derived.Test.YtgbhebappffbdaaGreatP17
set_option linter.all false
set_option maxRecDepth 100000
set_option maxHeartbeats 40000000
namespace Go.Proofs.YtgbhebappffbdaaGreat
open Go.RowKit
open Pl
attribute [local go_sem ↓] Go.wp_at_zero Go.wp_at_succ
namespace Pl
theorem Zzv {n d m k:Int} (hd:0 < d) (hk:0 < k):qs (Rat.divInt n d - Rat.divInt m k)=sgn (n * k - m * d):=by
 rw [Rat.divInt_sub_divInt _ _ (by omega) (by omega),Ziu,Va (Int.mul_pos hd hk),Int.mul_one]
theorem Ybn {n d m k:Int} {p q:Rat} (h:okq n d p) (g:okq m k q):((-9223372036854775807≤n * k∧n * k≤9223372036854775807)∧(-9223372036854775807≤m * d∧m * d≤9223372036854775807))∧qs (p - q)=sgn (n * k - m * d):=by
 obtain ⟨⟨a1,a2⟩,a3,a4,rfl⟩:=h;obtain ⟨⟨b1,b2⟩,b3,b4,rfl⟩:=g;exact ⟨⟨Zlx.prod_bd (by omega) (by omega) (by omega) (by omega),Zlx.prod_bd (by omega) (by omega) (by omega) (by omega)⟩,Zzv a3 b3⟩
end Pl
theorem VB (v1 v2:Value) (a b:RF) (w:World) (h1:Zt w v1 a) (h2:Zt w v2 b) (hs:a.Sm) (hs2:b.Sm):
 Calls Tryz.prog 50 #[v1,v2] w fun e w'=>e= .returned (.int .i64 (qs (a.q - b.q)))∧Below w.heap.size w w':=by
 obtain ⟨A,n,c,A',n',c',rfl,hd,ac⟩:=id h1;obtain ⟨B,m,d,B',m',d',rfl,ke,ad⟩:=id h2;obtain ⟨W,hW,ai,hX,hY,v⟩:=Zis w (.bool a.num.neg) (.slice A n c) (.bool a.den.neg) (.slice A' n' c') (.bool b.num.neg) (.slice B m d) (.bool b.den.neg) (.slice B' m' d');have e1:=h1.below v;have e2:=h2.below v;obtain ⟨p1,p2,p3,p4⟩:=hX.four;obtain ⟨r1,r2,r3,r4⟩:=hY.four;clear h1 h2 hd ac ke ad;go_enter Tryz.func50,Tryz.ntmps50;go_wp2_with fail;clear hW;refine (VA _ _ a b _ e1 e2).mono ?_;rintro e w1 ⟨x,y,z,u,ok,rfl,hq,r⟩;have HQ:=JZ hq;have J:=hX.later r;have K:=hY.later r;have s:=Za v r v.size;have L:=e1.below r;have M:=e2.below r;clear hq hX hY v e1 e2 r p1 p2 p3 p4 r1 r2 r3 r4;obtain ⟨W2,E,bW,bV,bn⟩:=Ziw w1 x y z u;have O:=J.later bn;have P:=K.later bn;have g:=Za s bn s.size;have R:=L.below bn;have S:=M.below bn;clear J K s L M bn
 cases ok
 ·obtain ⟨p1,p2,p3,p4⟩:=O.four;clear HQ;go_wp2_with fail;clear E;refine (YY _ a _ R hs).mono ?_;rintro e w3 ⟨v1,v2,N,D,rfl,iN,iD,hD,a1,sN,sD,H⟩;have HD:=JZ hD;have a4:=JZ a1;obtain ⟨A3,n3,k3,rfl,_⟩:=iN.shape;obtain ⟨A4,n4,k4,rfl,_⟩:=iD.shape;obtain ⟨W3,ae,bN,bD,bn⟩:=boxes w3 (.bool N.neg) (.slice A3 n3 k3) (.bool D.neg) (.slice A4 n4 k4);have j:=Za H bn H.size;have T:=P.later j;have t:=Za g j g.size;have U:=S.below j;have V:=iN.below bn;have X:=iD.below bn;clear hD a1 O P g R S H j bn iN iD p1 p2 p3 p4 bW bV hs;obtain ⟨r1,r2,r3,r4⟩:=T.four;go_wp2_with fail;clear ae;refine (YY _ b _ U hs2).mono ?_;rintro e w5 ⟨v1,v2,N',D',rfl,jN,jD,a2,a3,ag,ah,I⟩;have a5:=JZ a2;have a6:=JZ a3;obtain ⟨A5,n5,k5,rfl,_⟩:=jN.shape;obtain ⟨A6,n6,k6,rfl,_⟩:=jD.shape;obtain ⟨W5,af,o,p,bn⟩:=boxes w5 (.bool N'.neg) (.slice A5 n5 k5) (.bool D'.neg) (.slice A6 n6 k6);have i:=Za I bn I.size;have k:=bN.later i;have l:=bD.later i;have F:=Za t i t.size;have a7:=V.below i;have a8:=X.below i;have a9:=jN.below bn;have aa:=jD.below bn;clear a2 a3 T t U I i bn jN jD r1 r2 r3 r4 bN bD V X hs2;obtain ⟨x0,x1,_,_⟩:=k.two;obtain ⟨y0,y1,_,_⟩:=l.two;obtain ⟨aj,ak,_,_⟩:=o.two;obtain ⟨al,am,_,_⟩:=p.two;have Y:True:=trivial;go_wp2_with fail;clear af
  go_region_held3 (fun w'=>(w'.cell? ⟨w3.heap.size,0,none⟩=some (.bool N.neg)∧w'.cell? ⟨w3.heap.size,1,none⟩=some (.slice A3 n3 k3))∧(w'.cell? ⟨w3.heap.size+1,0,none⟩=some (.bool D.neg)∧w'.cell? ⟨w3.heap.size+1,1,none⟩=some (.slice A4 n4 k4))∧(w'.cell? ⟨w5.heap.size,0,none⟩=some (.bool N'.neg)∧w'.cell? ⟨w5.heap.size,1,none⟩=some (.slice A5 n5 k5))∧(w'.cell? ⟨w5.heap.size+1,0,none⟩=some (.bool D'.neg)∧w'.cell? ⟨w5.heap.size+1,1,none⟩=some (.slice A6 n6 k6)))
   (first | with_reducible exact ⟨k.pair,l.pair,o.pair,p.pair⟩ | with_reducible exact ⟨k.drew.pair,l.drew.pair,o.drew.pair,p.drew.pair⟩ | with_reducible exact ⟨(k.drew.later f).pair,(l.drew.later f).pair,(o.drew.later f).pair,(p.drew.later f).pair⟩ | with_reducible exact ⟨((k.drew.later f).later h).pair,((l.drew.later f).later h).pair,((o.drew.later f).later h).pair,((p.drew.later f).later h).pair⟩ | with_reducible exact ⟨(((k.drew.later f).later h).later C).pair,(((l.drew.later f).later h).later C).pair,(((o.drew.later f).later h).later C).pair,(((p.drew.later f).later h).later C).pair⟩)
   (first
    | (go_at_call 93;have _t:=Y;refine (Xd _ _ N D' _ (a7.keep (ZF.drew _)) (aa.keep (ZF.drew _)) (RI.Sm.two sN ah)).mono ?_;clear Y _t;rintro e w6 ⟨v6,rfl,e6,f⟩)
    | (go_at_call 93;refine (Xd _ _ N' D _ ((a9.keep (ZF.drew _)).below f) ((a8.keep (ZF.drew _)).below f) (RI.Sm.two ag sD)).mono ?_;rintro e w7 ⟨v7,rfl,e7,h⟩)
    | (go_at_call 92;refine (Vy _ _ (canI (N.z * D'.z)) (canI (N'.z * D.z)) _ (e6.below h) e7).mono ?_;rintro e w8 ⟨rfl,C⟩))
  go_wp2;go_ret;have Z:=Za F.drew f F.size;have a0:=Za Z h Z.size;refine ⟨?_,Za a0 C a0.size⟩;rw [← a4.out,← a6.out,Zzv HD.out a5.out,ZI,ZI];rfl
 ·obtain ⟨⟨⟨b1,b2⟩,⟨b3,b4⟩⟩,G⟩:=Ybn (HQ.out rfl).1 (HQ.out rfl).2;have HV:=JZ G;obtain ⟨q0,q1,_,_⟩:=bW.two;obtain ⟨s0,s1,_,_⟩:=bV.two;clear G HQ;have t1:IntKind.i64.wrap (x * u)=x * u:=by simp only [IntKind.wrap,IntKind.bits,IntKind.signed];simp;omega
  have t2:IntKind.i64.wrap (z * y)=z * y:=by simp only [IntKind.wrap,IntKind.bits,IntKind.signed];simp;omega
  rcases Int.lt_trichotomy (x * u) (z * y) with hlt | heq | hgt
  ·go_wp2;clear E
   go_quiet (fail)
   go_wp2;go_ret;exact ⟨by rw [HV.out,Vw (by omega)];rfl,Za g (below_drewN' _ _) g.size⟩
  ·have t3:decide (x * u < z * y)=false:=(by simp;omega);have t4:decide (z * y < x * u)=false:=(by simp;omega);have ab:=JZ heq;clear heq;go_wp2;clear E
   go_quiet (fail)
   go_wp2;go_ret;exact ⟨by rw [HV.out,ab.out,Int.sub_self,sgn_zero];rfl,Za g (below_drewN' _ _) g.size⟩
  ·have t3:decide (x * u < z * y)=false:=(by simp;omega);go_wp2;clear E
   go_quiet (fail)
   go_wp2;go_ret;exact ⟨by rw [HV.out,Va (by omega)];rfl,Za g (below_drewN' _ _) g.size⟩
theorem Zbr (v1 v2 v3:Value) (p:LPd) (xs rs:List RF) (K:Nat) (w:World) (h:LpM w v1 p) (h2:Xh w v2 xs) (h3:Xh w v3 rs) (ok:p.Ok K) (hx:RsL K xs) (hrs:RsL K rs) (hK:1≤K) (hz:lpErr p=0) (hl:xs.length=p.cols.length) (hrl:p.right.length≤rs.length) (hs:1+(p.cols.length+1) * (2 * K+1)≤34359738368) (hs2:2 * K≤34359738368):
 Calls Tryz.prog 108 #[v1,v2,v3] w fun e w'=>e= .returned (.bool (Zac p.right.length (YL p xs p.cols.length) rs))∧Below w.heap.size w w':=by
 obtain ⟨z1,z2,z3,z4,z5⟩:=YA hz;obtain ⟨A,n,c,A',N,c',a6,m,a7,rfl,hc,hv,hr⟩:=id h;obtain ⟨W,hW,hX,l⟩:=Y6 w (.slice A n c) (.slice A' N c') (.slice a6 m a7);obtain ⟨x0,x1,x2⟩:=hX.three;obtain ⟨m1,m2,m3⟩:=hv.len;obtain ⟨r1,r2,r3⟩:=hr.len;obtain ⟨Ax,cx,rfl,bb,bt⟩:=h2.shape;obtain ⟨Ar,cr,rfl,bu,bv⟩:=h3.shape;rw [← r1] at z1 hrl ⊢;rw [← m1] at hl hs ⊢;have aq:=Y1 m (by omega);have ar:=JZ z4;have au:=JZ z5;have aa:=JZ ok;have HX:=JZ hx;have av:=JZ hrs;have aw:=JZ hl;have ax:=JZ m1;have ay:=JZ r1;have ab:=JZ hs;rw [hl] at bb;generalize ao:rs.length=RL at *;have az:=JZ ao;rw [hl];have bp:N≤1200:=by rw [m1];exact z2
 have b0:W.heap.size=w.heap.size+1:=by rw [← hW];simp
 have Y:=Zb W (.cells (zfc m) 46);have Z:=Z4.zeros W m (by unfold maxLen;omega);rw [b0] at Z;have ac:XA w.heap.size m (1+(N+1) * (2 * K+1)) (YL p xs 0) (W.alloc (.cells (zfc m) 46)) (.slice (some ⟨w.heap.size+1,0,none⟩) m m):=by
  obtain ⟨cs,o1,o2⟩:=Z;exact ⟨_,⟨cs,Wy o1 (by omega),o2⟩,by simp,fun i _=>by rw [Zjl];rfl,Zdi _ _⟩
 have ad:=JZ ac;have z:=hX.later Y;have s:=Za l Y l.size;clear hz z2 z3 z4 z5 ok hx hrs m1 r1 ao hc hr hs Z ac Y l hX hl;go_enter Tryz.func108,Tryz.ntmps108;go_wp2;clear hW aq x0 x1 x2;generalize W.alloc (.cells (zfc m) 46)=W2 at *
 go_loopw [21] (fun i wr=>∃j:Nat,j≤N∧i= .int .i64 j∧Below w.heap.size w wr∧Bk wr w.heap.size 26 [.slice A n c,.slice A' N c',.slice a6 m a7]∧XA w.heap.size m (1+(N+1) * (2 * K+1)) (YL p xs j) wr (.slice (some ⟨w.heap.size+1,0,none⟩) m m)) (fun i _=>N - (intOf i).toNat)
 case atStart=>exact ⟨0,by omega,rfl,s,z,ad.out⟩
 case round=>
  clear s z ad;obtain ⟨j,hj,rfl,l,hX,hS⟩:=hrel;rcases JX j N with hjl | hjl
  ·obtain ⟨es,a8⟩:=Xb (cs:=p.cols) (i:=j) (by rw [← ax.out];exact hjl);obtain ⟨bc,al,Ac,cc,rfl,bl,y,X⟩:=hv.elem (JR _ _) a8;have J:=Zf l y;obtain ⟨f,hf⟩:=Yb (fs:=xs) (i:=j) (by rw [aw.out];exact hjl);obtain ⟨b,u,A1,n1,k1,A2,n2,k2,rfl,bd,bf,am⟩:=h2.elem l hf;have HQ:=JZ (Yo hf);have R:=HX.out j f hf;have D:=JZ a8;have bq:(j:Int) < N:=(by omega);obtain ⟨x1,x2,x3,x4⟩:=bf;clear a8;go_wp2_with fail;refine (Zx _ f _ am).mono ?_;rintro _ w2 ⟨rfl,P⟩;have z:=hX.later P;have s:=Za l P l.size;have a0:=hS.below P;clear hX l hS am y x1 x2 x3 x4 J P;by_cases hq:f.q=0
   ·have a1:qs f.q=0:=Yp.2 hq;have b1:Hid (∀i,i < m→YL p xs j i=YL p xs (j+1) i):=JZ fun i _=>(Zmd (by rw [HQ.out];exact hq) i).symm
    clear hq;go_wp2;go_roundw
    case rel=>exact ⟨j+1,by omega,by go_num,s,z,a0.to (JY _) b1.out⟩
    case measure=>simp [intOf];omega
   ·have a1:(qs f.q==0)=false:=(by simpa using fun h=>hq (Yp.1 h));have T:XA w.heap.size m (1+(N+1) * (2 * K+1)) (Uo p xs j es 0) w2 (.slice (some ⟨w.heap.size+1,0,none⟩) m m):=a0.to (JY _) fun i _=>(Zqh p xs j es i).symm
    obtain ⟨v1,v2,v3⟩:=X.len;clear hq a0;generalize ap:es.length=L at *;have ae:=JZ ap;clear ap v1;go_wp2
    go_loopw [34] (fun i wr=>∃k:Nat,k≤L∧i= .int .i64 k∧Below w.heap.size w wr∧Bk wr w.heap.size 26 [.slice A n c,.slice (some ⟨bc,al,none⟩) N c',.slice a6 m a7]∧XA w.heap.size m (1+(N+1) * (2 * K+1)) (Uo p xs j es k) wr (.slice (some ⟨w.heap.size+1,0,none⟩) m m)) (fun i _=>L - (intOf i).toNat)
    case atStart=>exact ⟨0,by omega,rfl,s,z,T⟩
    case round=>
     clear s z T;obtain ⟨k,hk,rfl,l,hX,hS⟩:=hrel;rcases JX k L with hkl | hkl
     ·obtain ⟨e,he⟩:=YZ (es:=es) (i:=k) (by rw [ae.out];exact hkl);obtain ⟨be,bm,A3,n3,k3,A4,n4,k4,rfl,bn,bg,an⟩:=X.elem l he;obtain ⟨i0,i1⟩:=ar.out j es D.out k e he;obtain ⟨d,hd⟩:=JT i0;have af:=JZ (Zqi (p:=p) (xs:=xs) (j:=j) he (au.out j es D.out).2);have U:=(aa.out.2.2 j es D.out).2 k e he;have b3:=JZ fun i=>Yca aa.out HX.out hK D.out (k+1) i
      obtain ⟨ei,ef⟩:=e;simp only at *;subst hd;have a2:d < m:=(by rw [ay.out];omega);obtain ⟨y0,y1,y2,y3,y4⟩:=bg;obtain ⟨W1,a9,hV,x⟩:=Zaa wr (.int .i64 (d:Int)) (.bool ef.num.neg) (.slice A3 n3 k3) (.bool ef.den.neg) (.slice A4 n4 k4);have r:=Za l x l.size;have M:=hS.below x;have b4:=hX.later x;obtain ⟨b2,bo,A1,n1,k1,A2,n2,k2,hA,_,t,F⟩:=h2.elem r hf;injection hA with hA;injection hA with hA1 hA2;subst hA1 hA2;obtain ⟨a,B1,m1,d1,B2,m2,d2,G,bh,O,H,I⟩:=M.at_ a2;have ag:=an.below x;have a3:=ab.out;have a4:=R.sm (by omega);have b5:=U.sm (by omega);have a5:=I.sm (by omega);have b6:(canF (f.q * ef.q)).Sm:=((XN (R.sz hK) (U.sz hK)).sh (by omega)).sm;have HV:Hid (a.q+(canF (f.q * ef.q)).q=Uo p xs j es (k+1) d):=JZ (by rw [Zu,H,af.out d,if_pos rfl,HQ.out]);have br:(d:Int) < m:=(by omega);have b7:(k:Int) < L:=(by omega);clear hX l hS an H he a3;go_wp2_with fail;clear a9;refine wp_region_noPanic ?_;refine Zcf (S:=fun w'=>(w'.cell? ⟨w.heap.size+1,d * 4,none⟩=some (.bool a.num.neg)∧w'.cell? ⟨w.heap.size+1,d * 4+1,none⟩=some (.slice B1 m1 d1)∧w'.cell? ⟨w.heap.size+1,d * 4+2,none⟩=some (.bool a.den.neg)∧w'.cell? ⟨w.heap.size+1,d * 4+3,none⟩=some (.slice B2 m2 d2))∧(w'.cell? ⟨wr.heap.size,0,none⟩=some (.int .i64 (d:Int))∧w'.cell? ⟨wr.heap.size,1,none⟩=some (.bool ef.num.neg)∧w'.cell? ⟨wr.heap.size,2,none⟩=some (.slice A3 n3 k3)∧w'.cell? ⟨wr.heap.size,3,none⟩=some (.bool ef.den.neg)∧w'.cell? ⟨wr.heap.size,4,none⟩=some (.slice A4 n4 k4))∧(w'.cell? ⟨b,u+j * 4,none⟩=some (.bool f.num.neg)∧w'.cell? ⟨b,u+j * 4+1,none⟩=some (.slice A1 n1 k1)∧w'.cell? ⟨b,u+j * 4+2,none⟩=some (.bool f.den.neg)∧w'.cell? ⟨b,u+j * 4+3,none⟩=some (.slice A2 n2 k2))) (n:=17) (by kernel_rfl) ?_ (fun hHeld=>?_)
      ·exact ⟨G,hV.drew.five,t⟩
      refine Zy (i:=0) (v:=?_) rfl (by kernel_rfl) (by kernel_rfl) (by kernel_rfl) (by kernel_rfl) (fun _ _ _ h=>h) (Or.inl ⟨by rfl,?y1⟩) (by assumption) ?_
      case y1=>(intro _ g;(try dsimp only at g);go_simp;(try with_reducible rfl))
      (try simp only [Act.put,pu1,pu2,pu3,pu4,pu5,pu6]);refine Zy (i:=1) (v:=?_) rfl (by kernel_rfl) (by kernel_rfl) (by kernel_rfl) (by kernel_rfl) (fun _ _ _ h=>h) (Or.inl ⟨by rfl,?y2⟩) (by assumption) ?_
      case y2=>(intro _ g;(try dsimp only at g);go_simp;(try with_reducible rfl))
      (try simp only [Act.put,pu1,pu2,pu3,pu4,pu5,pu6]);refine Zy (i:=2) (v:=?_) rfl (by kernel_rfl) (by kernel_rfl) (by kernel_rfl) (by kernel_rfl) (fun _ _ _ h=>h) (Or.inl ⟨by rfl,?y3⟩) (by assumption) ?_
      case y3=>(intro _ g;(try dsimp only at g);go_simp;(try with_reducible rfl))
      (try simp only [Act.put,pu1,pu2,pu3,pu4,pu5,pu6]);refine Zy (i:=3) (v:=?_) rfl (by kernel_rfl) (by kernel_rfl) (by kernel_rfl) (by kernel_rfl) (fun _ _ _ h=>h) (Or.inl ⟨by rfl,?y4⟩) (by assumption) ?_
      case y4=>(intro _ g;(try dsimp only at g);go_simp;(try with_reducible rfl))
      (try simp only [Act.put,pu1,pu2,pu3,pu4,pu5,pu6]);refine Zy (i:=4) (v:=?_) rfl (by kernel_rfl) (by kernel_rfl) (by kernel_rfl) (by kernel_rfl) (fun _ _ _ h=>h) (Or.inl ⟨by rfl,?y5⟩) (by assumption) ?_
      case y5=>(intro _ g;(try dsimp only at g);go_simp;(try with_reducible rfl))
      (try simp only [Act.put,pu1,pu2,pu3,pu4,pu5,pu6]);refine Zy (i:=5) (v:=?_) rfl (by kernel_rfl) (by kernel_rfl) (by kernel_rfl) (by kernel_rfl) (fun _ _ _ h=>h) (Or.inl ⟨by rfl,?y6⟩) (by assumption) ?_
      case y6=>(intro _ g;(try dsimp only at g);go_simp;(try with_reducible rfl))
      (try simp only [Act.put,pu1,pu2,pu3,pu4,pu5,pu6]);refine Zy (i:=6) (v:=?_) rfl (by kernel_rfl) (by kernel_rfl) (by kernel_rfl) (by kernel_rfl) (fun _ _ _ h=>h) (Or.inl ⟨by rfl,?y7⟩) (by assumption) ?_
      case y7=>(intro _ g;(try dsimp only at g);go_simp;(try with_reducible rfl))
      (try simp only [Act.put,pu1,pu2,pu3,pu4,pu5,pu6]);refine Zy (i:=7) (v:=?_) rfl (by kernel_rfl) (by kernel_rfl) (by kernel_rfl) (by kernel_rfl) (fun _ _ _ h=>h) (Or.inl ⟨by rfl,?y8⟩) (by assumption) ?_
      case y8=>(intro _ g;(try dsimp only at g);go_simp;(try with_reducible rfl))
      (try simp only [Act.put,pu1,pu2,pu3,pu4,pu5,pu6]);refine Zy (i:=8) (v:=?_) rfl (by kernel_rfl) (by kernel_rfl) (by kernel_rfl) (by kernel_rfl) (fun _ _ _ h=>h) (Or.inl ⟨by rfl,?y9⟩) (by assumption) ?_
      case y9=>(intro _ g;(try dsimp only at g);go_simp;(try with_reducible rfl))
      (try simp only [Act.put,pu1,pu2,pu3,pu4,pu5,pu6]);refine Zy (i:=9) (v:=?_) rfl (by kernel_rfl) (by kernel_rfl) (by kernel_rfl) (by kernel_rfl) (fun _ _ _ h=>h) (Or.inl ⟨by rfl,?y10⟩) (by assumption) ?_
      case y10=>(intro _ g;(try dsimp only at g);go_simp;(try with_reducible rfl))
      (try simp only [Act.put,pu1,pu2,pu3,pu4,pu5,pu6]);refine Zy (i:=10) (v:=?_) rfl (by kernel_rfl) (by kernel_rfl) (by kernel_rfl) (by kernel_rfl) (fun _ _ _ h=>h) (Or.inl ⟨by rfl,?y11⟩) (by assumption) ?_
      case y11=>(intro _ g;(try dsimp only at g);go_simp;(try with_reducible rfl))
      (try simp only [Act.put,pu1,pu2,pu3,pu4,pu5,pu6]);refine Zy (i:=11) (v:=?_) rfl (by kernel_rfl) (by kernel_rfl) (by kernel_rfl) (by kernel_rfl) (fun _ _ _ h=>h) (Or.inl ⟨by rfl,?y12⟩) (by assumption) ?_
      case y12=>(intro _ g;(try dsimp only at g);go_simp;(try with_reducible rfl))
      (try simp only [Act.put,pu1,pu2,pu3,pu4,pu5,pu6]);refine Zy (i:=12) (v:=?_) rfl (by kernel_rfl) (by kernel_rfl) (by kernel_rfl) (by kernel_rfl) (fun _ _ _ h=>h) (Or.inl ⟨by rfl,?y13⟩) (by assumption) ?_
      case y13=>(intro _ g;(try dsimp only at g);go_simp;(try with_reducible rfl))
      (try simp only [Act.put,pu1,pu2,pu3,pu4,pu5,pu6]);refine Zy (i:=13) (v:=?_) rfl (by kernel_rfl) (by kernel_rfl) (by kernel_rfl) (by kernel_rfl) (fun _ _ _ h=>h) (Or.inl ⟨by rfl,?y14⟩) (by assumption) ?_
      case y14=>(intro _ g;(try dsimp only at g);go_simp;(try with_reducible rfl))
      (try simp only [Act.put,pu1,pu2,pu3,pu4,pu5,pu6]);refine Wj (i:=14) (by kernel_rfl) rfl (fun KR hKR=>?_);go_simp;(with_reducible refine (XJ _ _ f ef _ (F.keep (ZF.drew _)) (ag.keep (ZF.drew _)) a4 b5).mono ?_);rintro _ w8 ⟨v8,rfl,e8,o⟩;refine hKR.out _ _ ?_ (fun hHeld=>?_)
      ·exact ⟨ZP o G,(hV.drew.later o).five,ZP o t⟩
      clear hKR KR;(try simp only [Act.put,pu1,pu2,pu3,pu4,pu5,pu6]);refine Wj (i:=15) (by kernel_rfl) rfl (fun KR hKR=>?_);go_simp;(with_reducible refine (VW _ _ a (canF (f.q * ef.q)) _ ((O.keep (ZF.drew _)).below o) e8 a5 b6).mono ?_);rw [HV.out];rintro _ w9 ⟨v9,rfl,e9,B⟩;obtain ⟨E,l9,k9,E',bw,bx,rfl,_,_⟩:=id e9;have ah:=((M.below (Zj _)).below o).below B;obtain ⟨_,_,_,_,_,_,_,⟨c0,c1,c2,c3⟩,⟨f0,f1,f2,f3⟩,_⟩:=ah.at_ a2;refine hKR.out _ _ ?_ (fun hHeld=>?_)
      ·exact ⟨ZP B (ZP o G),((hV.drew.later o).later B).five,ZP B (ZP o t)⟩
      clear hKR KR;(try simp only [Act.put,pu1,pu2,pu3,pu4,pu5,pu6]);refine Zy (i:=16) (v:=?_) rfl (by kernel_rfl) (by kernel_rfl) (by kernel_rfl) (by kernel_rfl) (fun _ _ _ h=>h) (Or.inl ⟨by rfl,?y15⟩) (by assumption) ?_
      case y15=>(intro _ g;(try dsimp only at g);go_simp;(try with_reducible rfl))
      (try simp only [Act.put,pu1,pu2,pu3,pu4,pu5,pu6]);refine Zdd (i:=17) (by kernel_rfl) rfl (by decide) (fun KR hKR=>?_);go_simp;refine hKR.out _ _ ?_;clear hKR KR;(try simp only [Act.put,pu1,pu2,pu3,pu4,pu5,pu6]);refine UY (by kernel_rfl) (NoPanic.normal ?_) _;obtain ⟨bi,bj⟩:=ah.set_ (f':=Uo p xs j es (k+1)) a2 e9 ((b3.out d).mono (by have:=JS (2 * K+1) (show j+1≤N+1 by omega);omega)) rfl (fun i _ hi=>by rw [af.out i,if_neg (by omega)]) _ rfl;have ai:=Za r.drew o r.size;have b8:=Zw (Za ai B ai.size) (show w.heap.size≤w.heap.size+1 by omega) (d * 4) (d * 4+1) (d * 4+2) (d * 4+3);have b9:=bj.bk (((b4.drew).later o).later B) (by decide);go_wp2;go_roundw
      case rel=>exact ⟨k+1,by omega,by go_num,b8 _ _ _ _,b9,bi⟩
      case measure=>simp [intOf];omega
     ·have ba:Hid (∀i,i < m→Uo p xs j es k i=YL p xs (j+1) i):=JZ fun i _=>Ztu D.out (by rw [ae.out];exact hkl) i
      go_wp2;go_roundw
      case rel=>exact ⟨j+1,by omega,by go_num,l,hX,hS.to (JY _) ba.out⟩
      case measure=>simp [intOf];omega
  ·obtain rfl:j=N:=by omega
   clear hj hjl;go_wp2
   go_loopw [59] (fun i wr=>∃k:Nat,k≤m∧i= .int .i64 k∧Below w.heap.size w wr∧XA w.heap.size m (1+(j+1) * (2 * K+1)) (YL p xs j) wr (.slice (some ⟨w.heap.size+1,0,none⟩) m m)∧∀i,i < k→YL p xs j i=qAt rs i) (fun i _=>m - (intOf i).toNat)
   case atStart=>exact ⟨0,by omega,rfl,l,hS,fun i hi=>by omega⟩
   case round=>
    clear l hX hS;obtain ⟨k,hk,rfl,l,hS,hz⟩:=hrel;have HZ:=JZ hz;clear hz;rcases JX k m with hkl | hkl
    ·obtain ⟨f,hf⟩:=Yb (fs:=rs) (i:=k) (by rw [az.out];omega);obtain ⟨a,B1,m1,d1,B2,m2,d2,G,bh,O,H,I⟩:=hS.at_ hkl;obtain ⟨o1,o2,o3,o4⟩:=G;obtain ⟨W1,a9,hV,x⟩:=YN wr (.bool a.num.neg) (.slice B1 m1 d1) (.bool a.den.neg) (.slice B2 m2 d2);have r:=Za l x l.size;have M:=hS.below x;have aj:=O.below x;obtain ⟨b,u,A1,n1,k1,A2,n2,k2,rfl,bd,t,F⟩:=h3.elem r hf;have a3:=ab.out;have a5:=I.sm (by omega);have a4:=(av.out k f hf).sm (by omega);have HQ:=JZ (Yo hf);have ak:=JZ H;have b7:(k:Int) < m:=(by omega);have bs:(k:Int) < RL:=(by omega);clear hf H hS l O a3;go_wp2_with fail;clear a9;refine wp_region_noPanic ?_;refine Zcf (S:=fun w'=>(w'.cell? ⟨wr.heap.size,0,none⟩=some (.bool a.num.neg)∧w'.cell? ⟨wr.heap.size,1,none⟩=some (.slice B1 m1 d1)∧w'.cell? ⟨wr.heap.size,2,none⟩=some (.bool a.den.neg)∧w'.cell? ⟨wr.heap.size,3,none⟩=some (.slice B2 m2 d2))∧(w'.cell? ⟨b,u+k * 4,none⟩=some (.bool f.num.neg)∧w'.cell? ⟨b,u+k * 4+1,none⟩=some (.slice A1 n1 k1)∧w'.cell? ⟨b,u+k * 4+2,none⟩=some (.bool f.den.neg)∧w'.cell? ⟨b,u+k * 4+3,none⟩=some (.slice A2 n2 k2))) (n:=7) (by kernel_rfl) ?_ (fun hHeld=>?_)
     ·exact ⟨hV.drew.four,t⟩
     refine Zy (i:=0) (v:=?_) rfl (by kernel_rfl) (by kernel_rfl) (by kernel_rfl) (by kernel_rfl) (fun _ _ _ h=>h) (Or.inl ⟨by rfl,?y16⟩) (by assumption) ?_
     case y16=>(intro _ g;(try dsimp only at g);go_simp;(try with_reducible rfl))
     (try simp only [Act.put,pu1,pu2,pu3,pu4,pu5,pu6]);refine Zy (i:=1) (v:=?_) rfl (by kernel_rfl) (by kernel_rfl) (by kernel_rfl) (by kernel_rfl) (fun _ _ _ h=>h) (Or.inl ⟨by rfl,?y17⟩) (by assumption) ?_
     case y17=>(intro _ g;(try dsimp only at g);go_simp;(try with_reducible rfl))
     (try simp only [Act.put,pu1,pu2,pu3,pu4,pu5,pu6]);refine Zy (i:=2) (v:=?_) rfl (by kernel_rfl) (by kernel_rfl) (by kernel_rfl) (by kernel_rfl) (fun _ _ _ h=>h) (Or.inl ⟨by rfl,?y18⟩) (by assumption) ?_
     case y18=>(intro _ g;(try dsimp only at g);go_simp;(try with_reducible rfl))
     (try simp only [Act.put,pu1,pu2,pu3,pu4,pu5,pu6]);refine Zy (i:=3) (v:=?_) rfl (by kernel_rfl) (by kernel_rfl) (by kernel_rfl) (by kernel_rfl) (fun _ _ _ h=>h) (Or.inl ⟨by rfl,?y19⟩) (by assumption) ?_
     case y19=>(intro _ g;(try dsimp only at g);go_simp;(try with_reducible rfl))
     (try simp only [Act.put,pu1,pu2,pu3,pu4,pu5,pu6]);refine Zy (i:=4) (v:=?_) rfl (by kernel_rfl) (by kernel_rfl) (by kernel_rfl) (by kernel_rfl) (fun _ _ _ h=>h) (Or.inl ⟨by rfl,?y20⟩) (by assumption) ?_
     case y20=>(intro _ g;(try dsimp only at g);go_simp;(try with_reducible rfl))
     (try simp only [Act.put,pu1,pu2,pu3,pu4,pu5,pu6]);refine Wj (i:=5) (by kernel_rfl) rfl (fun KR hKR=>?_);go_simp;(with_reducible refine (VB _ _ a f _ (aj.keep (ZF.drew _)) (F.keep (ZF.drew _)) a5 a4).mono ?_);rintro _ w8 ⟨rfl,o⟩;refine hKR.out _ _ ?_ (fun hHeld=>?_)
     ·exact ⟨(hV.drew.later o).four,ZP o t⟩
     clear hKR KR;(try simp only [Act.put,pu1,pu2,pu3,pu4,pu5,pu6]);refine Zy (i:=6) (v:=?_) rfl (by kernel_rfl) (by kernel_rfl) (by kernel_rfl) (by kernel_rfl) (fun _ _ _ h=>h) (Or.inl ⟨by rfl,?y21⟩) (by assumption) ?_
     case y21=>(intro _ g;(try dsimp only at g);go_simp;(try with_reducible rfl))
     (try simp only [Act.put,pu1,pu2,pu3,pu4,pu5,pu6]);refine UY (by kernel_rfl) (NoPanic.normal ?_) _;have V:=Za r.drew o r.size;by_cases C:a.q=f.q
     ·have a1:qs (a.q - f.q)=0:=Zdf.2 C;have HE:Hid (YL p xs j k=qAt rs k):=JZ (by rw [← ak.out,HQ.out,C]);clear C;go_wp2;go_roundw
      case rel=>exact ⟨k+1,by omega,by go_num,V,(M.below (Zj _)).below o,fun i hi=>by
       rcases Nat.eq_or_lt_of_le (Nat.le_of_lt_succ hi) with e | e
       ·subst e;exact HE.out
       ·exact HZ.out i e⟩
      case measure=>simp [intOf];omega
     ·have a1:(qs (a.q - f.q) !=0)=true:=(by simpa using fun h=>C (Zdf.1 h));have HE:Hid (Zac m (YL p xs j) rs=false):=JZ (Zdj hkl (by rw [← ak.out,HQ.out];exact C));clear C;go_wp2;go_ret;exact ⟨ZE HE.out,V⟩
    ·go_wp2;go_ret;exact ⟨ZE (Zqg fun i hi=>HZ.out i (by omega)),l⟩
namespace Pl
def Ycf (p:LPd) (ys:List RF):RF:=if Zfa p ys=true then canF (Zbb ys p.right p.right.length) else zeroF
theorem Zhh {p:LPd} {ys:List RF} (h:Zfa p ys=false):Ycf p ys=zeroF:=by simp [Ycf,h]
theorem Zhi {p:LPd} {ys:List RF} (h:Zfa p ys=true):Ycf p ys=canF (Zbb ys p.right p.right.length):=by simp [Ycf,h]
end Pl
def Zue (p:LPd) (ys:List RF) (w:World) (e:Ending) (w':World):Prop:=
 ∃v',e= .returned (.tuple #[v',.bool (Zfa p ys)])∧Zt w' v' (Ycf p ys)∧Below w.heap.size w w'
theorem Zhj {w w2:World} {g:Nat} {x y z u b s b' s':Value} {a:RF} {p:LPd} {ys:List RF} {ok:Bool} (hR:Bk w2 g 46 [x,y,z,u]) (d:Zt w2 (.agg #[b,s,b',s']) a) (hbe:Below w.heap.size w w2) (hg:w.heap.size≤g) (h:Zfa p ys=ok∧Ycf p ys=a):
 Zue p ys w (.returned (.tuple #[.agg [b,s,b',s'].toArray,.bool ok])) ((((w2.setCell ⟨g,0,none⟩ b).setCell ⟨g,1,none⟩ s).setCell ⟨g,2,none⟩ b').setCell ⟨g,3,none⟩ s'):=by
 obtain ⟨v',q1,q2,q3⟩:=Z0 hR d hbe hg;injection q1 with q1;subst q1;rw [← h.2] at q2;exact ⟨_,by rw [h.1],q2,q3⟩
theorem Xc (v1 v2:Value) (p:LPd) (ys:List RF) (K:Nat) (w:World) (h:LpM w v1 p) (h2:Xh w v2 ys) (ok:p.Ok K) (hy:RsL K ys) (hK:1≤K) (hlen:∀(j:Nat) (c:List En),p.cols[j]? =some c→c.length≤64) (hs:1+64 * (2 * K+1)≤34359738368):
 Calls Tryz.prog 15 #[v1,v2] w (Zue p ys w):=by
 have S:2 * K≤34359738368:=by omega
 obtain ⟨A,n,c,A',N,c',a3,m,a4,rfl,hc,hv,hr⟩:=id h;obtain ⟨W,hW,hX,y⟩:=Y6 w (.slice A n c) (.slice A' N c') (.slice a3 m a4);obtain ⟨W1,ai,hR,e⟩:=YN W (.bool false) (.slice none 0 0) (.bool false) (.slice none 0 0);have hX:=hX.later e;have a:=Za y e y.size;have T:W.heap.size=w.heap.size+1:=by rw [← hW];simp
 rw [T] at hR;obtain ⟨x0,x1,x2⟩:=hX.three;obtain ⟨m1,m2,m3⟩:=hv.len;obtain ⟨r1,r2,r3⟩:=hr.len;obtain ⟨k1,k2,k3⟩:=hc.len;obtain ⟨Ay,cy,rfl,aq,ar⟩:=h2.shape;have t:=JZ m1;have U:=JZ r1;have a7:=JZ k1;have C:=JZ ok;have V:=JZ hlen;generalize a6:ys.length=L at *;have X:=JZ a6;clear m1 r1 k1 a6 ok hlen y e;go_enter Tryz.func15,Tryz.ntmps15;go_wp2_with fail;clear hW ai T x0 x1 x2;refine (Wx _ p K _ (h.below a) C.out).mono ?_;rintro _ w1 ⟨rfl,J⟩;have D:=hX.later J;have l:=hR.later J;have e:=Za a J a.size;clear hX hR a J;by_cases hz:lpErr p=0;rotate_left
 ·have Y:(lpErr p !=0)=true:=by simpa using hz
  have k:=JZ (Yek (ys:=ys) hz);clear hz;obtain ⟨c0,c1,c2,c3⟩:=l.four;obtain ⟨f0,f1,f2,f3⟩:=l.fourF;go_wp2;refine Y5 Tryz.results15 Tryz.underlying46 (by kernel_rfl) rfl (g:=w.heap.size+1) (l.set4 _ _ _ _) rfl ?_;exact Zhj l (Zt.zero w1) e (by omega) ⟨k.out,Zhh k.out⟩
 have Y:(lpErr p !=0)=false:=by simpa using hz
 have HZ:=JZ hz;clear hz;by_cases hl:L=m;rotate_left
 ·have Z:((L:Int) !=(m:Int))=true:=by simp;omega
  have k:Hid (Zfa p ys=false):=JZ (Yel (by rw [X.out,← U.out];exact hl));clear hl;obtain ⟨x0,x1,x2⟩:=D.three;obtain ⟨c0,c1,c2,c3⟩:=l.four;obtain ⟨f0,f1,f2,f3⟩:=l.fourF;go_wp2;refine Y5 Tryz.results15 Tryz.underlying46 (by kernel_rfl) rfl (g:=w.heap.size+1) (l.set4 _ _ _ _) rfl ?_;exact Zhj l (Zt.zero w1) e (by omega) ⟨k.out,Zhh k.out⟩
 have Z:((L:Int) !=(m:Int))=false:=by simp;omega
 have u:Hid (ys.length=p.right.length):=JZ (by rw [X.out,← U.out];exact hl);clear hl;obtain ⟨x0,x1,x2⟩:=D.three;go_wp2;clear x0 x1 x2 Z Y
 go_loopw [23] (fun i wr=>∃j:Nat,j≤N∧i= .int .i64 j∧Below w.heap.size w wr∧Bk wr w.heap.size 26 [.slice A n c,.slice A' N c',.slice a3 m a4]∧Bk wr (w.heap.size+1) 46 [.bool false,.slice none 0 0,.bool false,.slice none 0 0]∧Zez p ys j) (fun i _=>N - (intOf i).toNat)
 case atStart=>exact ⟨0,by omega,rfl,e,D,l,Zqj _ _⟩
 case round=>
  clear e D l;obtain ⟨j,hj,rfl,a,hX,hR,P⟩:=hrel;have M:=JZ P;clear P;rcases JX j N with hjl | hjl
  ·obtain ⟨es,o⟩:=Xb (cs:=p.cols) (i:=j) (by rw [← t.out];exact hjl);obtain ⟨z1,z2,z3,z4,z5⟩:=YA HZ.out;obtain ⟨bc,ao,Ac,cc,rfl,a5,r,aj⟩:=hv.elem (JR _ _) o;have E:=Zf a r;obtain ⟨f,hf⟩:=Yb (fs:=p.cost) (i:=j) (by rw [z3,← t.out];exact hjl);obtain ⟨b,au,A1,n1,k1,A2,n2,k2,rfl,av,ak,al⟩:=hc.elem a hf;have a8:inR ys.length es:=(by rw [u.out];exact z4 j es o);have a0:=(C.out.2.2 j es o).2;have a1:1+es.length * (2 * K+1)≤34359738368:=by
    have:=JS (2 * K+1) (V.out j es o);omega
   have a9:f.Sm:=(C.out.1 j f hf).sm (by omega);have aa:(canF (WP es ys es.length)).Sm:=((Zgy a0 hy hK es.length).mono a1).rs.sm (JY _);have ab:Hid (WP es ys es.length=Zgz ys (p.col (j:Int)) p.right.length):=JZ (by rw [LPd.col_pos o];exact Zfr (z4 j es o) (z5 j es o).2);have HQ:=JZ (Yo hf);have ac:(j:Int) < N:=(by omega);have ap:(j:Int) < n:=(by rw [a7.out,z3,← t.out];exact ac);clear z1 z2 z3 z4 z5 o hf a5;obtain ⟨x0,x1,x2⟩:=hX.three;obtain ⟨b0,b1,b2,b3⟩:=ak;go_wp2_with fail;have C1:=Zp x0;have C2:=Zp b0;have C3:=Zp b1;have C4:=Zp b2;have C5:=Zp b3;have F:=Zj wr;clear x0 x1 x2 b0 b1 b2 b3 r E;refine Zq 10 [0,1,3,4,5,6,7,2,8,9] (by kernel_rfl) (by kernel_rfl) ?_;repeat ((first | (refine Zc (v:=?_) rfl rfl rfl ?_ ?_;rotate_left;(· (intro _ z;go_simp;(try go_bits);(try with_reducible rfl)))) | (refine Zg (v:=?_) rfl rfl rfl ?_ ?_;rotate_left;(· (intro _ z;go_simp;(try go_bits);(try with_reducible rfl)))) | refine Zh rfl rfl rfl ?_);(try simp only [Act.put,pu1,pu2,pu3,pu4,pu5,pu6]))
   refine Zd rfl rfl (fun KR hKR=>?_);go_simp;(with_reducible refine (Zjk _ _ es ys K _ ((aj.below a).below F) ((h2.below a).below F) a8 hK a0 hy a1 S).mono ?_);rintro _ w8 ⟨v8,rfl,e8,am⟩;have G:=Za F am F.size;refine hKR.out _ _ (Or.inr G) ?_;clear hKR KR;(try simp only [Act.put,pu1,pu2,pu3,pu4,pu5,pu6]);repeat ((first | (refine Zc (v:=?_) rfl rfl rfl ?_ ?_;rotate_left;(· (intro _ z;go_simp;(try go_bits);(try with_reducible rfl)))) | (refine Zg (v:=?_) rfl rfl rfl ?_ ?_;rotate_left;(· (intro _ z;go_simp;(try go_bits);(try with_reducible rfl)))) | refine Zh rfl rfl rfl ?_);(try simp only [Act.put,pu1,pu2,pu3,pu4,pu5,pu6]))
   refine Zd rfl rfl (fun KR hKR=>?_);go_simp;(with_reducible refine (VB _ _ _ f _ e8 (al.below G) aa a9).mono ?_);rw [Zu,ab.out];rintro _ w9 ⟨rfl,an⟩;have H:=Za G an G.size;refine hKR.out _ _ (Or.inr H) ?_;clear hKR KR;(try simp only [Act.put,pu1,pu2,pu3,pu4,pu5,pu6]);repeat ((first | (refine Zc (v:=?_) rfl rfl rfl ?_ ?_;rotate_left;(· (intro _ z;go_simp;(try go_bits);(try with_reducible rfl)))) | (refine Zg (v:=?_) rfl rfl rfl ?_ ?_;rotate_left;(· (intro _ z;go_simp;(try go_bits);(try with_reducible rfl)))) | refine Zh rfl rfl rfl ?_);(try simp only [Act.put,pu1,pu2,pu3,pu4,pu5,pu6]))
   refine Zz ?_;have ad:=hX.later H;have x:=hR.later H;have O:=Za a H a.size;clear C1 C2 C3 C4 C5;by_cases s:Zgz ys (p.col (j:Int)) p.right.length≤f.q
   ·have ae:qs (Zgz ys (p.col (j:Int)) p.right.length - f.q)≤0:=Int.not_lt.1 fun h=>(Zfs.1 h) s
    have af:=JZ (Zqk M.out (by rw [HQ.out];exact s));clear s;go_wp2;go_roundw
    case rel=>exact ⟨j+1,by omega,by go_num,O,ad,x,af.out⟩
    case measure=>simp [intOf];omega
   ·have ae:0 < qs (Zgz ys (p.col (j:Int)) p.right.length - f.q):=Zfs.2 s;have k:Hid (Zfa p ys=false):=JZ (Yem (by rw [← t.out];exact hjl) (by rw [HQ.out];exact s));clear s;obtain ⟨c0,c1,c2,c3⟩:=x.four;obtain ⟨f0,f1,f2,f3⟩:=x.fourF;go_wp2;refine Y5 Tryz.results15 Tryz.underlying46 (by kernel_rfl) rfl (g:=w.heap.size+1) (x.set4 _ _ _ _) rfl ?_;exact Zhj x (Zt.zero w9) O (by omega) ⟨k.out,Zhh k.out⟩
  ·obtain rfl:j=N:=by omega
   have k:Hid (Zfa p ys=true):=JZ (Zzy HZ.out u.out (by rw [← t.out];exact M.out));obtain ⟨x0,x1,x2⟩:=hX.three;obtain ⟨z1,_,_,_,_⟩:=YA HZ.out;have ag:1+ys.length * (2 * K+1)≤34359738368:=by
    have:=JS (2 * K+1) (show ys.length≤64 by rw [u.out];exact z1);omega
   clear z1;go_wp2_with fail;refine (Vh _ _ ys p.right K _ (h2.below a) (hr.below a) (by rw [u.out];exact JY _) hK hy C.out.2.1 ag S).mono ?_;rintro _ w2 ⟨v2,rfl,e2,R⟩;rw [u.out] at e2;have I:=hR.later R;have a2:=Za a R a.size;clear hX hR a R x0 x1 x2;obtain ⟨B,q,d,B',q',d',rfl,_,_⟩:=id e2;have HE:=JZ e2;have ah:=JZ (Zhi k.out);clear e2;generalize canF (Zbb ys p.right p.right.length)=DF at *;obtain ⟨c0,c1,c2,c3⟩:=I.four;obtain ⟨f0,f1,f2,f3⟩:=I.fourF;go_wp2;refine Y5 Tryz.results15 Tryz.underlying46 (by kernel_rfl) rfl (g:=w.heap.size+1) (I.set4 _ _ _ _) rfl ?_;exact Zhj I HE.out a2 (by omega) ⟨k.out,ah.out⟩
namespace Pl
theorem Zok {p:LPd} {xs:List RF} (h:lpErr p=0):Zbd p xs=((decide (xs.length=p.cols.length) && nnB xs) && Zac p.right.length (YL p xs p.cols.length) p.right):=by
 unfold Zbd;rw [decide_eq_true h,Bool.true_and,Bool.and_assoc]
 congr 2
 unfold eqB Zac;apply decide_eq_decide.2;rw [Zm];constructor
 ·intro g i hi;rw [← g.2 i hi,YH hi]
 ·intro g;exact ⟨rfl,fun i hi=>by rw [YH hi];exact g i hi⟩
end Pl
theorem VI (v1 v2:Value) (p:LPd) (xs:List RF) (K:Nat) (w:World) (h:LpM w v1 p) (h2:Xh w v2 xs) (ok:p.Ok K) (hx:RsL K xs) (hK:1≤K) (hz:lpErr p=0) (hs:1+1201 * (2 * K+1)≤34359738368):
 Calls Tryz.prog 66 #[v1,v2] w fun e w'=>e= .returned (.bool (Zbd p xs))∧Below w.heap.size w w':=by
 obtain ⟨A,n,c,A',N,c',v,m,x,rfl,hc,hv,hr⟩:=id h;obtain ⟨W,hW,hX,b⟩:=Y6 w (.slice A n c) (.slice A' N c') (.slice v m x);obtain ⟨x0,x1,x2⟩:=hX.three;obtain ⟨m1,m2,m3⟩:=hv.len;obtain ⟨Ax,cx,rfl,y,z⟩:=h2.shape;obtain ⟨z1,z2,z3,z4,z5⟩:=YA hz;have r:1+(p.cols.length+1) * (2 * K+1)≤34359738368:=by
  have:=JS (2 * K+1) (show p.cols.length+1≤1201 by omega);omega
 have f:=JZ (Zok (xs:=xs) hz);have g:=JZ ok;have HX:=JZ hx;have s:=JZ m1;have HZ:=JZ hz;have h':=h.below b;have i:=h2.below b;have t:=hr.below b;clear ok hx m1 hz z1 z2 z3 z4 z5 h h2 hr hc hv;generalize q:xs.length=L at *;have j:=JZ q;clear q;go_enter Tryz.func66,Tryz.ntmps66;go_wp2_with fail;clear hW x0 x1 x2;refine (Zfq _ xs N _ i (by omega)).mono ?_;rw [j.out,s.out];rintro _ w1 ⟨rfl,d⟩;have k:=hX.later d;have a:=Za b d b.size;obtain ⟨x0,x1,x2⟩:=k.three
 cases hnn:(decide (L=p.cols.length) && nnB xs)
 ·have HR:Hid (Zbd p xs=false):=JZ (by rw [f.out,hnn];rfl);clear hnn;go_wp2;go_ret;exact ⟨ZE HR.out,a⟩
 ·have HR:Hid (Zbd p xs=Zac p.right.length (YL p xs p.cols.length) p.right):=JZ (by rw [f.out,hnn];rfl);have u:Hid (xs.length=p.cols.length):=JZ (by rw [j.out];simpa using (Bool.and_eq_true_iff.1 hnn).1);clear hnn;go_wp2_with fail;refine (Zbr _ _ _ p xs p.right K _ (h'.below d) (i.below d) (t.below d) g.out HX.out g.out.2.1 hK HZ.out u.out (JY _) r (by omega)).mono ?_;rintro _ w2 ⟨rfl,o⟩;have l:=Za a o a.size;clear k hX a b d o x0 x1 x2;go_wp2;go_ret;exact ⟨ZE HR.out,l⟩
theorem Zfb (v1 v2:Value) (p:LPd) (xs:List RF) (K:Nat) (w:World) (h:LpM w v1 p) (h2:Xh w v2 xs) (ok:p.Ok K) (hx:RsL K xs) (hK:1≤K) (hs:1+1201 * (2 * K+1)≤34359738368):
 Calls Tryz.prog 27 #[v1,v2] w fun e w'=>e= .returned (.bool (Zbd p xs))∧Below w.heap.size w w':=by
 obtain ⟨A,n,c,A',N,c',o,m,q,rfl,hc,hv,hr⟩:=id h;obtain ⟨W,hW,hX,b⟩:=Y6 w (.slice A n c) (.slice A' N c') (.slice o m q);obtain ⟨x0,x1,x2⟩:=hX.three;obtain ⟨Ax,cx,rfl,s,t⟩:=h2.shape;have f:=JZ ok;have HX:=JZ hx;have h':=h.below b;have k:=h2.below b;clear ok hx h h2 hr hc hv;generalize r:xs.length=L at *;clear r;go_enter Tryz.func27,Tryz.ntmps27;go_wp2_with fail;clear hW x0 x1 x2;refine (Wx _ p K _ h' f.out).mono ?_;rintro _ w1 ⟨rfl,d⟩;have g:=hX.later d;have a:=Za b d b.size;obtain ⟨x0,x1,x2⟩:=g.three;by_cases hz:lpErr p=0
 ·have HZ:=JZ hz;have l:(lpErr p==0)=true:=by simpa using hz
  clear hz;go_wp2_with fail;refine (VI _ _ p xs K _ (h'.below d) (k.below d) f.out HX.out hK HZ.out hs).mono ?_;rintro _ w2 ⟨rfl,j⟩;have i:=Za a j a.size;clear g hX a b d j x0 x1 x2;go_wp2;go_ret;exact ⟨rfl,i⟩
 ·have HR:=JZ (Ybz (xs:=xs) hz);have l:(lpErr p==0)=false:=by simpa using hz
  clear hz;go_wp2;go_ret;exact ⟨ZE HR.out,a⟩
end Go.Proofs.YtgbhebappffbdaaGreat
