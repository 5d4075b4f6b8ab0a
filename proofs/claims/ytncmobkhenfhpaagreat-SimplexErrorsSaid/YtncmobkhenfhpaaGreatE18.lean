/- Lemmas of the claim; no condition. -/
import Derived.Test.YtncmobkhenfhpaaGreatE17
set_option linter.all false
set_option maxRecDepth 100000
set_option maxHeartbeats 40000000
namespace Go.Proofs.YtncmobkhenfhpaaGreat
open Go.RowKit
open Pl
attribute [local go_sem ↓] Go.wp_at_zero Go.wp_at_succ
namespace Pl
theorem Zyz {q:Rat}:qs q=0↔q=0:=by
 unfold qs;rw [Vr];exact Rat.num_eq_zero
theorem Zvc {n d m k:Int} (hk:k≠0):Rat.divInt (n * k) (d * m)=Rat.divInt n d / Rat.divInt m k:=by
 rw [Rat.div_def,Rat.inv_divInt,Rat.divInt_mul_divInt]
theorem Ycq {n d m k:Int} {p q:Rat} (h:okq n d p) (g:okq m k q) (hq:q≠0):(-4611686018427387904≤n * k∧n * k≤4611686018427387904)∧(-4611686018427387904≤d * m∧d * m≤4611686018427387904)∧((0 < m∧0 < d * m)∨(m < 0∧d * m < 0))∧Rat.divInt (n * k) (d * m)=p / q∧Rat.divInt (-(n * k)) (-(d * m))=p / q:=by
 obtain ⟨⟨a1,a2⟩,a3,a4,rfl⟩:=h;obtain ⟨⟨b1,b2⟩,b3,b4,rfl⟩:=g;have hm:m≠0:=fun e=>hq (by rw [e,Rat.zero_divInt])
 have e1:Rat.divInt (n * k) (d * m)=Rat.divInt n d / Rat.divInt m k:=Zvc (by omega);refine ⟨prod_bd1 (by omega) (by omega) (by omega) (by omega),prod_bd1 (by omega) (by omega) (by omega) (by omega),?_,e1,?_⟩
 ·rcases Int.lt_or_le m 0 with c | c
  ·right;exact ⟨c,Int.mul_neg_of_pos_of_neg a3 c⟩
  ·left;exact ⟨by omega,Int.mul_pos a3 (by omega)⟩
 ·rw [← e1,Rat.neg_divInt_neg]
 where
  prod_bd1 {x y:Int} (h1: -2147483648≤x) (h2:x≤2147483648) (h3: -2147483648≤y) (h4:y≤2147483648): -4611686018427387904≤x * y∧x * y≤4611686018427387904:=by
   have e:(x * y).natAbs≤2147483648 * 2147483648:=(by rw [Int.natAbs_mul];exact Nat.mul_le_mul (by omega) (by omega));omega
end Pl
theorem Znj [Old] {w w2:World} {m g:Nat} {x y z u b s b' s' er:Value} {a:RF} (hR:Bk w2 g 48 [x,y,z,u]) (d:Zt w2 (.agg #[b,s,b',s']) a) (hbe:Below m w w2) (hg:m≤g) (hO:Old.n≤m:=by first | assumption | exact Nat.zero_le _ | omega | ((first | with_reducible refine Zb.le ?_ | with_reducible refine Zb.le1 ?_ | with_reducible refine Zb.le2 ?_ | with_reducible refine Zb.le3 ?_);repeat (first | assumption | exact Zb.up (by assumption) hOl | exact Zb.up (Hid.out (by assumption)) hOl | with_reducible refine Zb.set ?_ _ _ | with_reducible refine Zb.mk_ ?_ _ | with_reducible refine Zb.dr ?_ | with_reducible refine Zb.drN ?_ | refine Zb.up (by assumption) ?_ | refine Zb.up (Hid.out (by assumption)) ?_))):
 ∃v',Ending.returned (.tuple #[.agg [b,s,b',s'].toArray,er])= .returned (.tuple #[v',er])∧Zt ((((w2.setCell ⟨g,0,none⟩ b).setCell ⟨g,1,none⟩ s).setCell ⟨g,2,none⟩ b').setCell ⟨g,3,none⟩ s') v' a∧Below m w ((((w2.setCell ⟨g,0,none⟩ b).setCell ⟨g,1,none⟩ s).setCell ⟨g,2,none⟩ b').setCell ⟨g,3,none⟩ s'):=
 ⟨_,rfl,d.keep (hR.keep4 (by decide) _ _ _ _),ZE hbe hg _ _ _ _⟩
theorem Xq [Old] (v1 v2:Value) (a b:RF) (w:World) (h1:Zt w v1 a) (h2:Zt w v2 b) (hs:a.Sm) (hs2:b.Sm) (hb0:b.q≠0) (hOl:Zb w:=by (repeat (first | assumption | exact Zb.up (by assumption) hOl | exact Zb.up (Hid.out (by assumption)) hOl | with_reducible refine Zb.set ?_ _ _ | with_reducible refine Zb.mk_ ?_ _ | with_reducible refine Zb.dr ?_ | with_reducible refine Zb.drN ?_ | refine Zb.up (by assumption) ?_ | refine Zb.up (Hid.out (by assumption)) ?_))):
 Calls Tryz.prog 93 #[v1,v2] w fun e w'=>∃v',e= .returned (.tuple #[v',.int .i64 0])∧Zt w' v' (canF (a.q / b.q))∧Below w.heap.size w w':=by
 have b8:=hOl.le;obtain ⟨A,n,c,A',n',c',rfl,hd,aw⟩:=id h1;obtain ⟨B,m,d,B',m',d',rfl,ke,ax⟩:=id h2;obtain ⟨W,hW,hX,hY,hR,p⟩:=Zjy w (.bool a.num.neg) (.slice A n c) (.bool a.den.neg) (.slice A' n' c') (.bool b.num.neg) (.slice B m d) (.bool b.den.neg) (.slice B' m' d');have e1:=h1.below p;have e2:=h2.below p;obtain ⟨p1,p2,p3,p4⟩:=hX.four;obtain ⟨r1,r2,r3,r4⟩:=hY.four;have S:=JZ hb0;have aj:(qs b.q==0)=false:=by simpa using fun e=>hb0 (Zyz.1 e)
 clear h1 h2 hd aw ke ax hb0;go_enter Tryz.func93,Tryz.ntmps93;go_wp2_with fail;clear hW;refine (Zz _ b _ e2).mono ?_;rintro e w0 ⟨rfl,hb0⟩;replace hX:=hX.later hb0;replace hY:=hY.later hb0;replace hR:=hR.later hb0;replace p:=Za p hb0 p.size;replace e1:=e1.below hb0;replace e2:=e2.below hb0;clear p1 p2 p3 p4 r1 r2 r3 r4 hb0;obtain ⟨p1,p2,p3,p4⟩:=hX.four;obtain ⟨r1,r2,r3,r4⟩:=hY.four;go_wp2_with fail;refine (V4 _ _ a b _ e1 e2).mono ?_;rintro e w1 ⟨x,y,z,u,ok,rfl,hq,t⟩;have HQ:=JZ hq;have T:=hX.later t;have U:=hY.later t;have V:=hR.later t;have E:=Za p t p.size;have X:=e1.below t;have Y:=e2.below t;clear hq hX hY hR p e1 e2 t p1 p2 p3 p4 r1 r2 r3 r4 aj;obtain ⟨W2,M,bW,bV,bn⟩:=Zjz w1 x y z u;have Z:=T.later bn;have a0:=U.later bn;have r:=V.later bn;have h:=Za E bn E.size;have a1:=X.below bn;have a2:=Y.below bn;clear T U V E X Y bn
 cases ok
 ·obtain ⟨p1,p2,p3,p4⟩:=Z.four;clear HQ;go_wp2_with fail;clear M;refine (Xk _ a _ a1 hs).mono ?_;rintro e w3 ⟨v1,v2,N,D,rfl,iN,iD,hD,ad,sN,sD,k⟩;have HD:=JZ hD;have ak:=JZ ad;obtain ⟨A3,n3,k3,rfl,_⟩:=iN.shape;obtain ⟨A4,n4,k4,rfl,_⟩:=iD.shape;obtain ⟨W3,ay,bN,bD,bn⟩:=boxes w3 (.bool N.neg) (.slice A3 n3 k3) (.bool D.neg) (.slice A4 n4 k4);have s:=Za k bn k.size;have a3:=a0.later s;have i:=r.later s;have F:=Za h s h.size;have a4:=a2.below s;have a5:=iN.below bn;have a6:=iD.below bn;clear hD ad Z a0 r h a1 a2 k s bn iN iD p1 p2 p3 p4 bW bV hs;obtain ⟨r1,r2,r3,r4⟩:=a3.four;go_wp2_with fail;clear ay;refine (Xk _ b _ a4 hs2).mono ?_;rintro e w5 ⟨v1,v2,N',D',rfl,jN,jD,ae,af,ag,ah,R⟩;have al:=JZ ae;have a7:=JZ af;obtain ⟨A5,n5,k5,rfl,_⟩:=jN.shape;obtain ⟨A6,n6,k6,rfl,_⟩:=jD.shape;obtain ⟨W5,az,b0,b5,bn⟩:=boxes w5 (.bool N'.neg) (.slice A5 n5 k5) (.bool D'.neg) (.slice A6 n6 k6);have j:=Za R bn R.size;have am:=bN.later j;have an:=bD.later j;have ao:=i.later j;have J:=Za F j F.size;have ap:=a5.below j;have aq:=a6.below j;have ar:=jN.below bn;have au:=jD.below bn;clear ae af a3 i F a4 R j bn jN jD r1 r2 r3 r4 bN bD a5 a6 hs2;obtain ⟨x0,x1,_,_⟩:=am.two;obtain ⟨y0,y1,_,_⟩:=an.two;obtain ⟨a9,aa,_,_⟩:=b0.two;obtain ⟨ab,ac,_,_⟩:=b5.two;have av:Hid ((canI (D.z * N'.z)).z≠0):=JZ (by
   rw [ZL];intro e;rcases Int.mul_eq_zero.1 e with g | g
   ·have:=HD.out;omega
   ·exact S.out (by rw [← a7.out,g,Rat.zero_divInt]))
  go_upto_region 11 with (fail)
  clear az;have C0:=Zm x0;have C1:=Zm x1;have C2:=Zm y0;have C3:=Zm y1;have D0:=Zm a9;have D1:=Zm aa;have D2:=Zm ab;have D3:=Zm ac;have H:Below W5.heap.size W5 W5.drew:=(JR _ _).drew;clear x0 x1 y0 y1 a9 aa ab ac;refine Zp 7 [0,1,3,4,2,5,6,7,8] (by kernel_rfl) (by kernel_rfl) ?_;repeat ((first | (refine Zd (v:=?_) rfl rfl rfl ?_ ?_;rotate_left;(· (intro _ o;go_simp;(try go_bits);(try with_reducible rfl)))) | (refine Zj (v:=?_) rfl rfl rfl ?_ ?_;rotate_left;(· (intro _ o;go_simp;(try go_bits);(try with_reducible rfl)))) | refine Zk rfl rfl rfl ?_);(try simp only [Act.put,pu1,pu2,pu3,pu4,pu5,pu6]))
  refine Zh rfl rfl (fun KR hKR=>?_);go_simp;with_reducible refine (Xn _ _ N D' _ (ap.below H) (au.below H) (RI.Sm.two sN ah)).mono ?_
  rintro _ w6 ⟨v6,rfl,e6,b6⟩;have G:=Za H b6 H.size;refine hKR.out _ _ (Or.inr G) ?_;clear hKR KR;(try simp only [Act.put,pu1,pu2,pu3,pu4,pu5,pu6]);repeat ((first | (refine Zd (v:=?_) rfl rfl rfl ?_ ?_;rotate_left;(· (intro _ o;go_simp;(try go_bits);(try with_reducible rfl)))) | (refine Zj (v:=?_) rfl rfl rfl ?_ ?_;rotate_left;(· (intro _ o;go_simp;(try go_bits);(try with_reducible rfl)))) | refine Zk rfl rfl rfl ?_);(try simp only [Act.put,pu1,pu2,pu3,pu4,pu5,pu6]))
  refine Zh rfl rfl (fun KR hKR=>?_);go_simp;with_reducible refine (Xn _ _ D N' _ (aq.below G) (ar.below G) (RI.Sm.two sD ag)).mono ?_
  rintro _ w7 ⟨v7,rfl,e7,ai⟩;have K:=Za G ai G.size;refine hKR.out _ _ (Or.inr K) ?_;clear hKR KR;(try simp only [Act.put,pu1,pu2,pu3,pu4,pu5,pu6]);repeat ((first | (refine Zd (v:=?_) rfl rfl rfl ?_ ?_;rotate_left;(· (intro _ o;go_simp;(try go_bits);(try with_reducible rfl)))) | (refine Zj (v:=?_) rfl rfl rfl ?_ ?_;rotate_left;(· (intro _ o;go_simp;(try go_bits);(try with_reducible rfl)))) | refine Zk rfl rfl rfl ?_);(try simp only [Act.put,pu1,pu2,pu3,pu4,pu5,pu6]))
  refine Zh rfl rfl (fun KR hKR=>?_);go_simp;with_reducible refine (XP _ _ (canI (N.z * D'.z)) (canI (D.z * N'.z)) _ (e6.below ai) e7 (JW (RI.Sm.mul sN ah) (by decide)) (JW (RI.Sm.mul sD ag) (by decide)) av.out).mono ?_
  rw [ZL,ZL,Zvc (Int.ne_of_gt al.out),ak.out,a7.out];rintro _ w8 ⟨v8,rfl,e8,b7⟩;have L:=Za K b7 K.size;obtain ⟨C,l,f,C',l',f',rfl,_,_⟩:=id e8;have I:=ao.later L;obtain ⟨c0,c1,c2,c3⟩:=I.four;obtain ⟨f0,f1,f2,f3⟩:=I.fourF;refine hKR.out _ _ (Or.inr L) ?_;clear hKR KR;(try simp only [Act.put,pu1,pu2,pu3,pu4,pu5,pu6]);refine Zh rfl rfl (fun KR hKR=>?_);go_simp;refine hKR.out _ _ (Or.inl (by decide)) ?_;clear hKR KR;(try simp only [Act.put,pu1,pu2,pu3,pu4,pu5,pu6]);refine Zh rfl rfl (fun KR hKR=>?_);go_simp;refine hKR.out _ _ (Or.inl (by decide)) ?_;clear hKR KR;(try simp only [Act.put,pu1,pu2,pu3,pu4,pu5,pu6]);refine Zx ?_;clear C0 C1 C2 C3 D0 D1 D2 D3;have a8:=Za J L J.size;go_wp2;refine YR Tryz.results93 Tryz.underlying48 (by kernel_rfl) rfl (I.set4 _ _ _ _) rfl ?_;exact Znj I e8 a8 (by omega)
 ·obtain ⟨⟨b1,b2⟩,⟨b3,b4⟩,hz,O,P⟩:=Ycq (HQ.out rfl).1 (HQ.out rfl).2 S.out;obtain ⟨q0,q1,_,_⟩:=bW.two;obtain ⟨s0,s1,_,_⟩:=bV.two;clear HQ;rcases hz with ⟨hz,hz2⟩ | ⟨hz,hz2⟩
  ·have HV:=JZ O;clear O P;have t1:IntKind.i64.wrap (x * u)=x * u:=(by simp only [IntKind.wrap,IntKind.bits,IntKind.signed];simp;omega);have t2:IntKind.i64.wrap (y * z)=y * z:=by simp only [IntKind.wrap,IntKind.bits,IntKind.signed];simp;omega
   go_upto_region 5 with (fail)
   clear M;have C0:=Zm q0;have C1:=Zm q1;have D0:=Zm s0;have D1:=Zm s1;clear q0 q1 s0 s1;refine Zp 12 [0,1,2,3,4,5,6,7,8,9,10,11] (by kernel_rfl) (by kernel_rfl) ?_;repeat ((first | (refine Zd (v:=?_) rfl rfl rfl ?_ ?_;rotate_left;(· (intro _ o;go_simp;(try go_bits);(try with_reducible rfl)))) | (refine Zj (v:=?_) rfl rfl rfl ?_ ?_;rotate_left;(· (intro _ o;go_simp;(try go_bits);(try with_reducible rfl)))) | refine Zk rfl rfl rfl ?_);(try simp only [Act.put,pu1,pu2,pu3,pu4,pu5,pu6]))
   refine Zx ?_;clear C0 C1 D0 D1;replace r:=r.drew;replace h:=h.drew;generalize W2.drew=W3 at *;go_wp2_with fail;refine (Xc (x * u) (y * z) _ (by omega) (by omega) (by omega) (by omega)).mono ?_;rw [HV.out];rintro e w3 ⟨v3,rfl,e3,k⟩;have i:=r.later k;obtain ⟨C,l,f,C',l',f',rfl,_,_⟩:=id e3;obtain ⟨c0,c1,c2,c3⟩:=i.four;obtain ⟨f0,f1,f2,f3⟩:=i.fourF;go_wp2;refine YR Tryz.results93 Tryz.underlying48 (by kernel_rfl) rfl (i.set4 _ _ _ _) rfl ?_;exact Znj i e3 (Za h k h.size) (by omega)
  ·have HV:=JZ P;clear O P;have t1:IntKind.i64.wrap (x * u)=x * u:=(by simp only [IntKind.wrap,IntKind.bits,IntKind.signed];simp;omega);have t2:IntKind.i64.wrap (y * z)=y * z:=(by simp only [IntKind.wrap,IntKind.bits,IntKind.signed];simp;omega);have t3:IntKind.i64.wrap (-(x * u))= -(x * u):=(by simp only [IntKind.wrap,IntKind.bits,IntKind.signed];simp;omega);have t4:IntKind.i64.wrap (-(y * z))= -(y * z):=by simp only [IntKind.wrap,IntKind.bits,IntKind.signed];simp;omega
   go_upto_region 5 with (fail)
   clear M;have C0:=Zm q0;have C1:=Zm q1;have D0:=Zm s0;have D1:=Zm s1;clear q0 q1 s0 s1;refine Zp 12 [0,1,2,3,4,5,6,7,8,9,10,11] (by kernel_rfl) (by kernel_rfl) ?_;repeat ((first | (refine Zd (v:=?_) rfl rfl rfl ?_ ?_;rotate_left;(· (intro _ o;go_simp;(try go_bits);(try with_reducible rfl)))) | (refine Zj (v:=?_) rfl rfl rfl ?_ ?_;rotate_left;(· (intro _ o;go_simp;(try go_bits);(try with_reducible rfl)))) | refine Zk rfl rfl rfl ?_);(try simp only [Act.put,pu1,pu2,pu3,pu4,pu5,pu6]))
   refine Zx ?_;clear C0 C1 D0 D1;replace r:=r.drew;replace h:=h.drew;generalize W2.drew=W3 at *;go_wp2_with fail;refine (Xc (-(x * u)) (-(y * z)) _ (by omega) (by omega) (by omega) (by omega)).mono ?_;rw [HV.out];rintro e w3 ⟨v3,rfl,e3,k⟩;have i:=r.later k;obtain ⟨C,l,f,C',l',f',rfl,_,_⟩:=id e3;obtain ⟨c0,c1,c2,c3⟩:=i.four;obtain ⟨f0,f1,f2,f3⟩:=i.fourF;go_wp2;refine YR Tryz.results93 Tryz.underlying48 (by kernel_rfl) rfl (i.set4 _ _ _ _) rfl ?_;exact Znj i e3 (Za h k h.size) (by omega)
theorem Yy.at_ [Old] {base:Nat} {w:World} {g n c:Nat} {cols:List (List En)} (h:Yy base w (.slice (some ⟨g,0,none⟩) n c) cols) {k:Nat} {es:List En} (he:cols[k]? =some es):
 ∃u,w.cell? ⟨g,k,none⟩=some u∧w.frozen? ⟨g,k,none⟩=false∧Wp w u es:=by
 obtain ⟨cs,h1,h2⟩:=h;have hn:n=cols.length:=(Vv.of_own h1).len;subst hn;obtain ⟨u,c0,hm⟩:=h2 k es he;exact ⟨u,(ZP h1 c0).1,(ZP h1 c0).2,hm⟩
theorem Yy.set_ [Old] {base:Nat} {w:World} {g n c:Nat} {cols:List (List En)} (h:Yy base w (.slice (some ⟨g,0,none⟩) n c) cols) {k:Nat} (hk:k < cols.length) {u:Value} {es:List En} (hu:Wp w u es) (hO:Old.n≤base:=by first | assumption | exact Nat.zero_le _ | omega | ((first | with_reducible refine Zb.le ?_ | with_reducible refine Zb.le1 ?_ | with_reducible refine Zb.le2 ?_ | with_reducible refine Zb.le3 ?_);repeat (first | assumption | exact Zb.up (by assumption) hOl | exact Zb.up (Hid.out (by assumption)) hOl | with_reducible refine Zb.set ?_ _ _ | with_reducible refine Zb.mk_ ?_ _ | with_reducible refine Zb.dr ?_ | with_reducible refine Zb.drN ?_ | refine Zb.up (by assumption) ?_ | refine Zb.up (Hid.out (by assumption)) ?_))):
 Yy base (w.setCell ⟨g,k,none⟩ u) (.slice (some ⟨g,0,none⟩) n c) (cols.set k es)∧Ze 72 w (w.setCell ⟨g,k,none⟩ u):=by
 obtain ⟨cs,h1,h2⟩:=h;have hn:n=cols.length:=(Vv.of_own h1).len;subst hn;have hl:cs.length=cols.length * 1:=h1.1;have o1:=Xi h1 k u (by omega);obtain ⟨_,b0,_⟩:=Z8 h1;have kp:=Ze.setCell b0 k u;refine ⟨⟨cs.set k u,by rw [List.length_set];exact o1,fun j d hd=>?_⟩,kp⟩;rw [List.getElem?_set] at hd;by_cases c:k=j
 ·subst c;rw [if_pos rfl,if_pos hk] at hd;injection hd with hd;subst hd;exact ⟨u,List.getElem?_set_self (by omega),hu.but kp (by decide) (by decide)⟩
 ·rw [if_neg c] at hd;obtain ⟨u',hc,hm⟩:=h2 j d hd;exact ⟨u',by rw [List.getElem?_set_ne c];exact hc,hm.but kp (by decide) (by decide)⟩
def zvc (n:Nat):Array Value:=madeCells (Value.cells (.slice none 0 0)) (n * 1)
theorem Yau {n k:Nat} (hk:k < n):(zvc n)[k]? =some (.slice none 0 0):=by
 have a:k < n * 1:=by omega
 unfold zvc madeCells;simp [hk,Value.cells,Nat.mod_one]
theorem Yy.zeros [Old] (w:World) (n:Nat) (hn:n≤maxLen):Yy w.heap.size (w.alloc (.cells (zvc n) 72)) (.slice (some ⟨w.heap.size,0,none⟩) n n) (List.replicate n []):=by
 have a:(zvc n).size=n * 1:=size_madeCells _ _;refine ⟨(zvc n).toList,⟨by simp [a],.inr ⟨w.heap.size,n,zvc n,by simp,JY _,heap_alloc_new w _,by simp,hn,a,?_⟩⟩,fun k f hf=>?_⟩
 ·rw [List.take_of_length_le (by simp [a])]
 ·rw [List.getElem?_replicate] at hf;split at hf
  ·rename_i hk
   injection hf with hf;subst hf;exact ⟨_,by have:=Yau hk;simpa using this,(Zbn.nil 0 _).vec⟩
  ·cases hf
theorem Zew (n:Nat) (hn:n≤1099511627776) (w:World):
 (Instr.makeSlice 24 (.int .i64 (n:Int)) (.int .i64 (n:Int))).run Tryz.prog w= .ok (.slice (some ⟨w.heap.size,0,none⟩) n n) (w.alloc (.cells (zvc n) 72)):=by
 obtain ⟨i0,hi,a,b,c⟩:=info_parts info_vector;have hb:(i0.bytes:Int) * (n:Int)≤281474976710656:=by rw [c];omega
 have hr:=run_make (P:=Tryz.prog) w 24 72 i0 _ Tryz.underlying24 hi a .i64 .i64 n n (by omega) (by omega) hb (by omega);simp only [JP,b] at hr;exact hr
namespace Pl
def Zle (n:Nat) (R:Nat→Nat):List Int:=(List.range n).map fun i=>(R i:Int)
theorem Zex (n:Nat) (R:Nat→Nat):(Zle n R).length=n:=by simp [Zle]
theorem Zdf {n i:Nat} {R:Nat→Nat} (h:i < n):(Zle n R)[i]? =some (R i:Int):=by simp [Zle,h]
def vcL (n:Nat) (L:Mx):List (List En):=(List.range n).map fun t=>spV (L t) n
theorem XR (n:Nat) (L:Mx):(vcL n L).length=n:=by simp [vcL]
theorem Ud {n i:Nat} {L:Mx} (h:i < n):(vcL n L)[i]? =some (spV (L i) n):=by simp [vcL,h]
theorem Zlf {f:Nat→Rat} {m:Nat}:∀{d:Nat},(∀s,m≤s→s < m+d→f s=0)→spV f (m+d)=spV f m
 | 0,_=>rfl
 | d+1,h=>by rw [← Nat.add_assoc,Xp (h _ (by omega) (by omega))];exact Zlf fun s h1 h2=>h s h1 (by omega)
theorem Zpw {f:Nat→Rat} {n k:Nat} (hk:k < n) (h:f k≠0) (h0:∀s,k < s→s < n→f s=0):(spV f n)[(spV f n).length - 1]? =some ⟨(k:Int),canF (f k)⟩:=by
 have e:spV f n=spV f k++[⟨(k:Int),canF (f k)⟩]:=by
  rw [← XI h];have:=Zlf (f:=f) (m:=k+1) (d:=n - (k+1)) fun s h1 h2=>h0 s (by omega) (by omega)
  rwa [show k+1+(n - (k+1))=n by omega] at this
 rw [e];simp
end Pl
theorem X6.cap {w:World} {A:Option Addr} {n c:Nat} {zs:List Int} (h:X6 w (.slice A n c) zs):n≤c∧c≤9223372036854775807:=by
 obtain ⟨_,_,e,h1,h2⟩:=h.shape;injection e with _ e1 e2;omega
theorem Xz.cap [Old] {w:World} {A:Option Addr} {n c:Nat} {cols:List (List En)} (h:Xz w (.slice A n c) cols):n≤c∧c≤9223372036854775807:=by
 obtain ⟨_,_,e,h1,h2⟩:=h.shape;injection e with _ e1 e2;omega
def Yed [Old] (w:World) (g off n:Nat) (R C:Nat→Nat) (L U:Mx):Prop:=
 ∃A0 c0 A1 c1 A2 c2 A3 c3,(w.cell? ⟨g,off,none⟩=some (.slice A0 n c0)∧w.cell? ⟨g,off+1,none⟩=some (.slice A1 n c1)∧w.cell? ⟨g,off+2,none⟩=some (.slice A2 n c2)∧w.cell? ⟨g,off+3,none⟩=some (.slice A3 n c3))∧
  X6 w (.slice A0 n c0) (Zle n R)∧X6 w (.slice A1 n c1) (Zle n C)∧Xz w (.slice A2 n c2) (vcL n L)∧Xz w (.slice A3 n c3) (vcL n U)
theorem Yed.below [Old] {w w':World} {g off n:Nat} {R C:Nat→Nat} {L U:Mx} (h:Yed w g off n R C L U) (hb:Below w.heap.size w w'):Yed w' g off n R C L U:=by
 obtain ⟨A0,c0,A1,c1,A2,c2,A3,c3,⟨k0,k1,k2,k3⟩,i0,i1,i2,i3⟩:=h;exact ⟨A0,c0,A1,c1,A2,c2,A3,c3,⟨Zg hb k0,Zg hb k1,Zg hb k2,Zg hb k3⟩,i0.below hb,i1.below hb,i2.below hb,i3.below hb⟩
theorem X6.nat {w wr:World} {a:Option Addr} {n cap:Nat} {R:Nat→Nat} (h:X6 w (.slice a n cap) (Zle n R)) (hb:Below w.heap.size w wr) {i:Nat} (hi:i < n):
 ∃b o,a=some ⟨b,o,none⟩∧wr.cell? ⟨b,o+i,none⟩=some (.int .i64 (R i:Int)):=by
 obtain ⟨b,o,z,e,hc,hz,_,_⟩:=h.at_ hi;rw [Zdf hi] at hz;injection hz with hz;subst hz;exact ⟨b,o,e,Zg hb hc⟩
theorem Xz.vc [Old] {w wr:World} {a:Option Addr} {n cap:Nat} {L:Mx} (h:Xz w (.slice a n cap) (vcL n L)) (hb:Below w.heap.size w wr) {i:Nat} (hi:i < n):
 ∃b o A1 c1,a=some ⟨b,o,none⟩∧wr.cell? ⟨b,o+i,none⟩=some (.slice A1 (spV (L i) n).length c1)∧Wp wr (.slice A1 (spV (L i) n).length c1) (spV (L i) n):=by
 obtain ⟨b,o,A1,c1,e,_,hc,hv⟩:=h.elem hb (Ud hi);exact ⟨b,o,A1,c1,e,hc,hv⟩
theorem Zcy.congr [Old] {base:Nat} {v:Value} {n:Nat} {g g':Nat→Rat} {w w':World} (h:Zcy base v n g w w') (e:∀i,i < n→g i=g' i):Zcy base v n g' w w':=by
 unfold Zcy at *;rw [← ZR e];exact h
namespace Pl
theorem Zlg {n k J:Nat} {f g:Nat→Rat} {G:Nat→Rat} (hg:∀i,i < n→Sz J (g i)) (hG:∀i,i < n→Sz J (G i)) (e:∀i,i < n→(if i < n∧i≠k then g i - f i * g k else g i)=G i):
 ∀t i,t≤(spV f n).length→i < n→Sz J (UZ (spV f n) (k:Int) (g k) g t i):=fun t i ht hi=>by
 rcases Zpu f k (g k) g i n t ht with h | ⟨h1,h2,h3⟩
 ·rw [h];exact hg i hi
 ·have:=e i hi
  rw [if_pos ⟨h1,h2⟩] at this
  rw [h3,this];exact hG i hi
theorem Zvj {n k:Nat} {f g:Nat→Rat} {G:Nat→Rat} (e:∀i,i < n→(if i < n∧i≠k then g i - f i * g k else g i)=G i):
 ∀i,i < n→UZ (spV f n) (k:Int) (g k) g (spV f n).length i=G i:=fun i hi=>by
 rw [Zih];exact e i hi
end Pl
theorem Zlh [Old] (gp off:Nat) (vc:Value) (n E J:Nat) (A:Mx) (R C:Nat→Nat) (L U:Mx) (b:Nat→Rat) (w:World) (hF:Yed w gp off n R C L U) (h2:WA w vc (Z7 n b)) (S:Znn n E A R C L U) (hb:∀i,i < n→Sz J (b i)) (hJ:J≤30 * E) (hX:∀i,i < n→Sz E (solQ n R C L U b i)) (hOl:Zb w:=by (repeat (first | assumption | exact Zb.up (by assumption) hOl | exact Zb.up (Hid.out (by assumption)) hOl | with_reducible refine Zb.set ?_ _ _ | with_reducible refine Zb.mk_ ?_ _ | with_reducible refine Zb.dr ?_ | with_reducible refine Zb.drN ?_ | refine Zb.up (by assumption) ?_ | refine Zb.up (Hid.out (by assumption)) ?_))):
 Calls Tryz.prog 144 #[.pointer (some ⟨gp,off,none⟩),vc] w fun o w'=>∃v',o= .returned v'∧Yd w.heap.size w' v' (Z7 n (solQ n R C L U b))∧Below w.heap.size w w':=by
 have cg:=hOl.le;obtain ⟨A0,c0,A1,c1,A2,c2,A3,c3,⟨k0,k1,k2,k3⟩,i0,i1,i2,i3⟩:=hF;obtain ⟨Ac,cc,rfl,az,bu⟩:=h2.shape;rw [Zi] at h2 az ⊢;obtain ⟨bv,bw⟩:=i0.cap;obtain ⟨bx,ca⟩:=i1.cap;obtain ⟨cb,cd⟩:=i2.cap;obtain ⟨ce,cf⟩:=i3.cap;have K0:=JZ k0;have K1:=JZ k1;have K2:=JZ k2;have K3:=JZ k3;have I0:=JZ i0;have I1:=JZ i1;have I2:=JZ i2;have I3:=JZ i3;have H2:=JZ h2;have HS:=JZ S;have ch:=S.n7;have cj:=S.e1;have cl:=S.e2;obtain ⟨z0,G⟩:∃z0,z0=fun p=>b (R p):=⟨_,rfl⟩
 obtain ⟨FW,r⟩:∃FW,FW=UW L z0:=⟨_,rfl⟩;obtain ⟨BW,u⟩:∃BW,BW=U3 n U (FW n):=⟨_,rfl⟩;have bf:Hid (FW 0=z0):=JZ (by rw [r];rfl);have bg:Hid (BW 0=FW n):=JZ (by rw [u];rfl);have ak:Hid (∀j,j < n→∀i,i < n→(if i < n∧i≠j then FW j i - L j i * FW j j else FW j i)=FW (j+1) i):=JZ fun j hj i hi=>by rw [r];exact Yda S.fac.l0 hj hi
 have bh:Hid (∀j k,k+1+j=n→∀i,i < n→(if i < n∧i≠k then Zij (BW j) k (U k k) i - U k i * Zij (BW j) k (U k k) k else Zij (BW j) k (U k k) i)=BW (j+1) i):=JZ fun j k hk i hi=>by rw [u];exact Ydb S.fac.u0 hk hi
 have al:Hid (∀j i,j≤n→i < n→Sz (256 * E) (FW j i)):=JZ fun j i hj hi=>by rw [r,G];exact (S.fB hb hX j i hj hi).mono (by omega)
 have M:Hid (∀j i,j≤n→i < n→Sz (59 * E) (BW j i)):=JZ fun j i hj hi=>by rw [u,r,G];exact S.bB hX j i hj hi
 have bi:Hid (∀j k,k+1+j=n→BW (j+1) k=BW n k):=JZ fun j k hk=>by rw [u];exact (Zbv (show k < n by omega) (by omega) (by omega)).trans (Zbv (show k < n by omega) (by omega) (JY n)).symm
 have am:Hid (Z7 n (solQ n R C L U b)=VO n n C (BW n)):=JZ (by rw [Zla S.fac.ci,u,r,G];rfl);have bj:Hid (∀p,b (R p)=z0 p):=JZ fun p=>by rw [G]
 rw [am.out];have bk:Hid (∀t,t < n→∀(k:Nat) (e:En),(spV (L t) n)[k]? =some e→e.f.Rs (2 * E)):=JZ fun t ht=>Zcq fun i hi=>S.lB t i ht hi
 have bl:Hid (∀t,t < n→∀(k:Nat) (e:En),(spV (U t) n)[k]? =some e→e.f.Rs (2 * E)):=JZ fun t ht=>Zcq fun i hi=>S.uB t i ht hi
 have bm:Hid (∀k,k < n→Sz (2 * E) (U k k)∧U k k≠0∧(spV (U k) n)[(spV (U k) n).length - 1]? =some ⟨(k:Int),canF (U k k)⟩):=JZ fun k hk=>⟨S.uB k k hk hk,S.fac.u1 k hk,Zpw hk (S.fac.u1 k hk) fun s h1 h2=>S.fac.u0 k s hk h2 h1⟩
 have cm:=WC n (by omega);have a7:=Yd.zeros w n (by unfold maxLen;omega);have N:=Zc w (.cells (zfc n) 48);rw [← Zeu (w:=z0)] at a7;have y0:=Zg N k0;have bn:=k0;clear i0 i1 i2 i3 h2 S G r u hb hX am k0 k1 k2 k3;go_enter Tryz.func144,Tryz.ntmps144;go_wp2;have O:=N.size;clear y0 bn;generalize w.alloc (.cells (zfc n) 48)=W at *
 go_loopw [24] (fun i wr=>∃k:Nat,k≤n∧i= .int .i64 k∧Yd w.heap.size wr (.slice (some ⟨w.heap.size,0,none⟩) n n) (YT n k z0)∧Below w.heap.size w wr) (fun i _=>n - (intOf i).toNat)
 case atStart=>exact ⟨0,by omega,rfl,a7,N⟩
 case round=>
  clear a7 N O;obtain ⟨k,hk,rfl,hO,a⟩:=hrel;rcases JX k n with c | c
  ·obtain ⟨b0,o0,rfl,x0⟩:=I0.out.nat a c;have bo:R k < n:=HS.out.fac.ri.1 k c;obtain ⟨bc,oc,A4,n4,c4,A5,n5,c5,rfl,_,⟨u0,u1,u2,u3⟩,hm⟩:=H2.out.elem a (ZC bo);rw [bj.out] at u0 u2 hm;have P:=JZ (Zev (w:=z0) c);have Y:(YT n k z0)[k]? =some zeroF:=(by unfold YT;rw [Yu c,if_neg (by omega)]);obtain ⟨_,_,_,_,⟨t0,t1,t2,t3⟩,⟨f0,f1,f2,f3⟩,_⟩:=hO.at_ Y;obtain ⟨b5,cr⟩:=hO.set_ (k:=k) (by rw [Wm];exact c) hm;rw [P.out] at b5;have an:=ZA a (JY _) (k * 4) (k * 4+1) (k * 4+2) (k * 4+3);have bp:(k:Int) < n:=(by omega);generalize R k=rk at *;have cn:(rk:Int) < n:=(by omega);clear hO a Y hm P;go_wp2;go_roundw
   case rel=>exact ⟨k+1,by omega,by go_num,b5,an _ _ _ _⟩
   case measure=>simp [intOf];omega
  ·obtain rfl:n=k:=by omega
   rw [Zgq,← bf.out] at hO;go_wp2
   go_loopw [38] (fun i wr=>∃j:Nat,j≤n∧i= .int .i64 j∧Yd w.heap.size wr (.slice (some ⟨w.heap.size,0,none⟩) n n) (Z7 n (FW j))∧Below w.heap.size w wr) (fun i _=>n - (intOf i).toNat)
   case atStart=>exact ⟨0,by omega,rfl,hO,a⟩
   case round=>
    clear hO a;obtain ⟨j,hj,rfl,hO,a⟩:=hrel;rcases JX j n with hjl | hjl
    ·obtain ⟨b2,o2,A4,c4,rfl,x0,hL⟩:=I2.out.vc a hjl;have y2:=Zg a K2.out;have a8:=JZ (Zlg (J:=256 * E) (fun i hi=>al.out j i (by omega) hi) (fun i hi=>al.out (j+1) i (by omega) hi) (ak.out j hjl));have a9:=JZ (Zvj (ak.out j hjl));have HR:=JZ (bk.out j hjl);have aa:=JZ (Zek (L j) n);have co:(j:Int) < n:=(by omega);go_wp2_with fail;refine (Zct _ _ n (FW j) (spV (L j) n) j (2 * E) (256 * E) w.heap.size _ hO hL hjl aa.out HR.out a8.out (by omega) (by omega) (by omega)).mono ?_;rintro _ w1 ⟨rfl,hs⟩;obtain ⟨T,_,bs,a0⟩:=hs.congr a9.out;have ao:=a.trans a0;clear hO a hL x0 y2 hs a0 bs;go_wp2;go_roundw
     case rel=>exact ⟨j+1,by omega,by go_num,T,ao⟩
     case measure=>simp [intOf];omega
    ·obtain rfl:n=j:=by omega
     rw [← bg.out] at hO;have ab:=Yd.zeros wr n (by unfold maxLen;omega);have ac:=Zc wr (.cells (zfc n) 48);rw [← Zgo (X:=BW n) HS.out.fac.ci] at ab;have T:=hO.below ac;have bq:0 < n→w.heap.size < wr.heap.size:=fun hp=>by
      obtain ⟨g,_,e,_,h,_⟩:=hO.shape (by rw [Zi];exact hp);injection e with e;injection e with e;injection e with e;omega
     have Z:=Za a ac a.size;have br:=a.size;clear hO a;go_wp2;generalize wr.heap.size=gx at *;generalize wr.alloc (.cells (zfc n) 48)=W2 at *
     go_loopw [11] (fun i wx=>∃(j:Nat) (kz:Int),j≤n∧kz=(n:Int) - 1 - j∧i= .int .i64 kz∧Yd w.heap.size wx (.slice (some ⟨w.heap.size,0,none⟩) n n) (Z7 n (BW j))∧Yd gx wx (.slice (some ⟨gx,0,none⟩) n n) (VO n j C (BW n))∧Below w.heap.size w wx) (fun i _=>(intOf i+1).toNat)
     case atStart=>exact ⟨0,(n:Int) - 1,by omega,by omega,rfl,T,ab,Z⟩
     case round=>
      clear T ab Z ac;obtain ⟨j,kz,hj,b6,rfl,hO,hx,a⟩:=hrel;rcases Int.lt_or_le kz 0 with hneg | hpos
      ·obtain rfl:n=j:=by omega
       go_wp2;go_ret;exact ⟨_,rfl,hx.monoB br,a⟩
      ·obtain ⟨k,rfl⟩:=JT hpos;have x:k+1+j=n:=(by omega);have c:k < n:=(by omega);have cp:=bq (by omega);obtain ⟨b3,o3,A4,c4,rfl,x0,H⟩:=I3.out.vc a c;have y3:=Zg a K3.out;obtain ⟨ah,a1,I⟩:=bm.out k c;have y:=JZ I;obtain ⟨D,hD⟩:∃D,D=Zij (BW j) k (U k k):=⟨_,rfl⟩;have ap:Hid ((Z7 n (BW j)).set k (canF (BW j k / U k k))=Z7 n D):=JZ (by rw [XF c,hD];rfl);have V:=bh.out j k x;rw [← hD] at V;have aq:∀i,i < n→Sz (61 * E) (D i):=fun i hi=>by
        rw [hD];unfold Zij;split
        ·exact (Zal (M.out j k (by omega) c) ah).mono (by omega)
        ·exact (M.out j i (by omega) hi).mono (by omega)
       have a8:=JZ (Zlg (J:=61 * E) aq (fun i hi=>(M.out (j+1) i (by omega) hi).mono (by omega)) V);have a9:=JZ (Zvj V);have HR:=JZ (bl.out k c);have aa:=JZ (Zek (U k) n);have O:(canF (BW j k)).Sm:=(M.out j k (by omega) c).rs.sm (by omega);have ar:(canF (U k k)).Sm:=ah.rs.sm (by omega);have au:(canF (U k k)).q≠0:=(by rw [Zu];exact a1);have ad:(Z7 n (BW j))[k]? =some (canF (BW j k)):=ZC c;have P:Hid ((VO n j C (BW n)).set (C k) (canF (BW (j+1) k))=VO n (j+1) C (BW n)):=JZ (by rw [bi.out j k x];exact Zgp HS.out.fac.ci x);have av:C k < n:=HS.out.fac.ci.1 k c;have bp:(k:Int) < n:=(by omega);have cq:=JZ b6;have aw:=JZ x;clear b6 x;obtain ⟨bz,oz,A5,n5,c5,A6,n6,c6,hA,_,⟨t0,t1,t2,t3⟩,K⟩:=hO.frs.elem (JR _ _) ad;injection hA with hA;injection hA with hA1 hA2;subst hA1;subst hA2;simp only [Nat.zero_add] at t0 t1 t2 t3;generalize BW j k=zk at *;generalize U k k=uk at *;clear V aq hD I ah a1 hpos
       go_upto_region 17 with (fail)
       have C0:=Zm t0;have C1:=Zm t1;have C2:=Zm t2;have C3:=Zm t3;have D0:=Zm x0;have D1:=Zm y3;have z:=Zf wr;clear t0 t1 t2 t3 x0 y3;refine Zp 19 [0,1,2,3,4,5,6,7,8,9,10,11,12,13,14,15,16,17,18,19] (by kernel_rfl) (by kernel_rfl) ?_;repeat ((first | (refine Zd (v:=?_) rfl rfl rfl ?_ ?_;rotate_left;(· (intro _ l;go_simp;(try go_bits);(try with_reducible rfl)))) | (refine Zj (v:=?_) rfl rfl rfl ?_ ?_;rotate_left;(· (intro _ l;go_simp;(try go_bits);(try with_reducible rfl)))) | refine Zk rfl rfl rfl ?_);(try simp only [Act.put,pu1,pu2,pu3,pu4,pu5,pu6]))
       refine Zh rfl rfl (fun KR hKR=>?_);go_simp;(with_reducible refine (Zcs _ _ ⟨(k:Int),canF uk⟩ _ (H.below z) y.out).mono ?_);rintro _ w6 ⟨v6,rfl,e6,bd⟩;have B:=Za z bd z.size;refine hKR.out _ _ (Or.inr B) ?_;clear hKR KR;(try simp only [Act.put,pu1,pu2,pu3,pu4,pu5,pu6]);repeat ((first | (refine Zd (v:=?_) rfl rfl rfl ?_ ?_;rotate_left;(· (intro _ l;go_simp;(try go_bits);(try with_reducible rfl)))) | (refine Zj (v:=?_) rfl rfl rfl ?_ ?_;rotate_left;(· (intro _ l;go_simp;(try go_bits);(try with_reducible rfl)))) | refine Zk rfl rfl rfl ?_);(try simp only [Act.put,pu1,pu2,pu3,pu4,pu5,pu6]))
       refine Zh rfl rfl (fun KR hKR=>?_);go_simp;(with_reducible refine (Xq _ _ (canF zk) (canF uk) _ (K.below B) e6 O ar au).mono ?_);rw [Zu,Zu];rintro _ w7 ⟨v7,rfl,e7,be⟩;have F:=Za B be B.size;obtain ⟨B9,l9,k9,b7,b8,b9,rfl,_,_⟩:=id e7;have ae:=hO.below F;obtain ⟨_,_,_,_,⟨c0,c1,c2,c3⟩,⟨f0,f1,f2,f3⟩,_⟩:=ae.at_ ad;refine hKR.out _ _ (Or.inr F) ?_;clear hKR KR;(try simp only [Act.put,pu1,pu2,pu3,pu4,pu5,pu6]);repeat ((first | (refine Zd (v:=?_) rfl rfl rfl ?_ ?_;rotate_left;(· (intro _ l;go_simp;(try go_bits);(try with_reducible rfl)))) | (refine Zj (v:=?_) rfl rfl rfl ?_ ?_;rotate_left;(· (intro _ l;go_simp;(try go_bits);(try with_reducible rfl)))) | refine Zk rfl rfl rfl ?_);(try simp only [Act.put,pu1,pu2,pu3,pu4,pu5,pu6]))
       refine Zh rfl rfl (fun KR hKR=>?_);go_simp;refine hKR.out _ _ (Or.inl (by decide)) ?_;clear hKR KR;(try simp only [Act.put,pu1,pu2,pu3,pu4,pu5,pu6]);refine Zx ?_;clear C0 C1 C2 C3 D0 D1;obtain ⟨ai,ba⟩:=ae.set_ (k:=k) (by rw [Zi];exact c) e7;rw [ap.out] at ai;have ax:=(hx.below F).others Yf (ba.keep (by decide)) (fun b hb e=>by simp [Value.ownBlock] at hb;injection e with e;omega);have m:=ZA (Za a F a.size) (JY _) (k * 4) (k * 4+1) (k * 4+2) (k * 4+3) (.bool (canF (zk / uk)).num.neg) (.slice B9 l9 k9) (.bool (canF (zk / uk)).den.neg) (.slice b7 b8 b9);clear hO ae hx a z B F e6 e7 bd be c0 c1 c2 c3 f0 f1 f2 f3 K ba H ad O ar au ap y;generalize ((((w7.setCell ⟨w.heap.size,k * 4,none⟩ (.bool (canF (zk / uk)).num.neg)).setCell ⟨w.heap.size,k * 4+1,none⟩ (.slice B9 l9 k9)).setCell ⟨w.heap.size,k * 4+2,none⟩ (.bool (canF (zk / uk)).den.neg)).setCell ⟨w.heap.size,k * 4+3,none⟩ (.slice b7 b8 b9))=W8 at *;obtain ⟨b4,o4,A7,c7,hA,x0,H⟩:=I3.out.vc m c;injection hA with hA;injection hA with hA1 hA2;subst hA1;subst hA2;have y3:=Zg m K3.out;go_wp2_with fail;refine (Zct _ _ n D (spV (U k) n) k (2 * E) (61 * E) w.heap.size _ ai H c aa.out HR.out a8.out (by omega) (by omega) (by omega)).mono ?_;rintro _ w9 ⟨rfl,hs⟩;obtain ⟨aj,a2,a3,a4⟩:=hs.congr a9.out;have af:=ax.others a3 (a2.keep (by decide)) (fun b hb e=>by simp [Value.ownBlock] at hb e;omega);have d:=m.trans a4;clear ai H hs x0 y3 ax m a2 a3 a4;obtain ⟨b1,o1,rfl,x1⟩:=I1.out.nat d c;have y1:=Zg d K1.out;obtain ⟨bz,oz,A8,n8,c8,A9,n9,c9,hA,_,⟨t0,t1,t2,t3⟩,K⟩:=aj.frs.elem (JR _ _) (ZC c);injection hA with hA;injection hA with hA1 hA2;subst hA1;subst hA2;simp only [Nat.zero_add] at t0 t1 t2 t3;obtain ⟨rf,bb⟩:=Yi (fs:=VO n j C (BW n)) (i:=C k) (by rw [WU];exact av);obtain ⟨a5,a6⟩:=af.set_ (k:=C k) (by rw [WU];exact av) K;rw [P.out] at a5;have ay:=aj.others (g:=some gx) Yf (a6.keep (by decide)) (fun b hb e=>by simp [Value.ownBlock] at hb;injection e with e;omega);have ag:=ZA d (show w.heap.size≤gx by omega) (C k * 4) (C k * 4+1) (C k * 4+2) (C k * 4+3);obtain ⟨_,_,_,_,⟨c0,c1,c2,c3⟩,⟨f0,f1,f2,f3⟩,_⟩:=af.at_ bb;generalize C k=ck at *;have bt:(ck:Int) < n:=(by omega);generalize BW (j+1) k=cs at *;clear bb af aj d K a6
       go_upto_region 19 with (fail)
       have C0:=Zm t0;have C1:=Zm t1;have C2:=Zm t2;have C3:=Zm t3;have D0:=Zm x1;have D1:=Zm y1;have z:=Zf w9;clear t0 t1 t2 t3 x1 y1;refine Zp 13 [0,1,2,3,4,5,6,7,8,9,10,11,12,13] (by kernel_rfl) (by kernel_rfl) ?_;repeat ((first | (refine Zd (v:=?_) rfl rfl rfl ?_ ?_;rotate_left;(· (intro _ l;go_simp;(try go_bits);(try with_reducible rfl)))) | (refine Zj (v:=?_) rfl rfl rfl ?_ ?_;rotate_left;(· (intro _ l;go_simp;(try go_bits);(try with_reducible rfl)))) | refine Zk rfl rfl rfl ?_);(try simp only [Act.put,pu1,pu2,pu3,pu4,pu5,pu6]))
       refine Zh rfl rfl (fun KR hKR=>?_);go_simp;refine hKR.out _ _ (Or.inl (by decide)) ?_;clear hKR KR;(try simp only [Act.put,pu1,pu2,pu3,pu4,pu5,pu6]);refine Zx ?_;clear C0 C1 C2 C3 D0 D1;go_wp2;go_roundw
       case rel=>exact ⟨j+1,(k:Int) - 1,by have:=aw.out;omega,by have:=aw.out;omega,rfl,ay,a5,(ag _ _ _ _).drew⟩
       case measure=>simp [intOf] <;> omega
namespace Pl
theorem Ydc {n k:Nat} {U:Mx} {d:Nat→Rat} (hk:k < n):utN U d n k=(d k - ZZ (fun s=>U k s * utN U d n s) k) / U k k:=by
 rw [Zen hk,Zie,if_pos rfl,Zn (f:=fun s=>U k s * utN U d k s) (g:=fun s=>U k s * utN U d n s) fun s hs=>by rw [Zen (show s < k by omega),Zen (show s < n by omega)]]
theorem Ydd {n k:Nat} {U:Mx} {w:Nat→Rat} {q:Rat} (hk:k < n):Zfo (spV (U k) n) (qAt (YT n k w)) (k:Int) q (spV (U k) n).length=q - ZZ (fun s=>U k s * w s) k:=by
 rw [Zii,Wl (n:=k) (m:=n) (by omega) fun i h1 h2=>by
  by_cases e:i=k
  ·rw [if_pos e]
  ·rw [if_neg e,Zpv h2,if_neg (by omega)];grind]
 congr 1
 exact Zn fun s hs=>by rw [if_neg (by omega),Zpv (by omega),if_pos hs]
theorem Yde {n k j:Nat} {L:Mx} {w:Nat→Rat} (hk:k+1+j=n):Zfo (spV (L k) n) (qAt (Z7 n (ltN n L w j))) (k:Int) (ltN n L w j k) (spV (L k) n).length=ltN n L w (j+1) k:=by
 rw [Zii,Zax,if_pos (show k=n - 1 - j by omega)]
 congr 1
 exact Zn fun s hs=>by
  by_cases e:s=k
  ·rw [if_pos e,if_pos e]
  ·rw [if_neg e,if_neg e,YX hs]
theorem Yfc {n k j:Nat} {L:Mx} {w:Nat→Rat} (hk:k+1+j=n):(Z7 n (ltN n L w j)).set k (canF (ltN n L w (j+1) k))=Z7 n (ltN n L w (j+1)):=by
 rw [XF (by omega)];exact ZR fun i hi=>by
  by_cases e:i=k
  ·rw [if_pos e,e]
  ·rw [if_neg e,Zax,if_neg (by omega)]
theorem Zvl {n k K:Nat} {w:Nat→Rat} (h:∀i,i < n→Sz K (w i)):RsL K (YT n k w):=fun i f hf=>by
 have hi:i < n:=by have:=(List.getElem?_eq_some_iff.1 hf).1;rw [Wm] at this;exact this
 have hp:=Zgc (h i hi)
 unfold YT at hf
 rw [Yu hi] at hf
 injection hf with hf
 subst hf
 split
 ·exact (h i hi).rs
 ·exact (Vz 1).mono hp
end Pl
def Zli [Old] (V:World) (q:Rat) (s8:Value) (wx:World):Prop:=
 ∃(g:Nat) (f:RF) (A:Option Addr) (n c:Nat) (A':Option Addr) (n' c':Nat),s8= .pointer (some ⟨g,0,none⟩)∧V.heap.size≤g∧Bk wx g 48 [.bool f.num.neg,.slice A n c,.bool f.den.neg,.slice A' n' c']∧Zt wx (.agg #[.bool f.num.neg,.slice A n c,.bool f.den.neg,.slice A' n' c']) f∧f.q=q∧f.Sm∧Below V.heap.size V wx
theorem Zli.mk [Old] {V w:World} {g:Nat} {f:RF} {q:Rat} {x y z u:Value} {A A':Option Addr} {n c n' c':Nat} (hB:Bk w g 48 [x,y,z,u]) (hm:Zt w (.agg #[.bool f.num.neg,.slice A n c,.bool f.den.neg,.slice A' n' c']) f) (hq:f.q=q) (hs:f.Sm) (hb:Below V.heap.size V w) (hg:V.heap.size≤g) (hO:Old.n≤V.heap.size:=by first | assumption | exact Nat.zero_le _ | omega | ((first | with_reducible refine Zb.le ?_ | with_reducible refine Zb.le1 ?_ | with_reducible refine Zb.le2 ?_ | with_reducible refine Zb.le3 ?_);repeat (first | assumption | exact Zb.up (by assumption) hOl | exact Zb.up (Hid.out (by assumption)) hOl | with_reducible refine Zb.set ?_ _ _ | with_reducible refine Zb.mk_ ?_ _ | with_reducible refine Zb.dr ?_ | with_reducible refine Zb.drN ?_ | refine Zb.up (by assumption) ?_ | refine Zb.up (Hid.out (by assumption)) ?_))):
 Zli V q (.pointer (some ⟨g,0,none⟩)) ((((w.setCell ⟨g,0,none⟩ (.bool f.num.neg)).setCell ⟨g,1,none⟩ (.slice A n c)).setCell ⟨g,2,none⟩ (.bool f.den.neg)).setCell ⟨g,3,none⟩ (.slice A' n' c')):=
 ⟨g,f,A,n,c,A',n',c',rfl,hg,hB.set4 _ _ _ _,hm.keep (hB.keep4 (by decide) _ _ _ _),hq,hs,ZE hb hg _ _ _ _⟩
theorem Zil [Old] (gp off:Nat) (vc:Value) (n E:Nat) (A:Mx) (R C:Nat→Nat) (L U:Mx) (d:Nat→Rat) (w:World) (hF:Yed w gp off n R C L U) (h2:WA w vc (Z7 n d)) (S:Znn n E A R C L U) (hb:∀i,i < n→Sz (30 * E) (d i)) (hX:∀i,i < n→Sz E (solT n R C L U d i)) (hOl:Zb w:=by (repeat (first | assumption | exact Zb.up (by assumption) hOl | exact Zb.up (Hid.out (by assumption)) hOl | with_reducible refine Zb.set ?_ _ _ | with_reducible refine Zb.mk_ ?_ _ | with_reducible refine Zb.dr ?_ | with_reducible refine Zb.drN ?_ | refine Zb.up (by assumption) ?_ | refine Zb.up (Hid.out (by assumption)) ?_))):
 Calls Tryz.prog 138 #[.pointer (some ⟨gp,off,none⟩),vc] w fun o w'=>∃v',o= .returned v'∧Yd w.heap.size w' v' (Z7 n (solT n R C L U d))∧Below w.heap.size w w':=by
 have d2:=hOl.le;obtain ⟨A0,c0,A1,c1,A2,c2,A3,c3,⟨k0,k1,k2,k3⟩,i0,i1,i2,i3⟩:=hF;obtain ⟨Ac,cc,rfl,bb,ct⟩:=h2.shape;rw [Zi] at h2 bb ⊢;obtain ⟨cu,cv⟩:=i0.cap;obtain ⟨cw,cx⟩:=i1.cap;obtain ⟨cy,cz⟩:=i2.cap;obtain ⟨d0,d1⟩:=i3.cap;have K0:=JZ k0;have K1:=JZ k1;have K2:=JZ k2;have K3:=JZ k3;have I0:=JZ i0;have I1:=JZ i1;have I2:=JZ i2;have I3:=JZ i3;have H2:=JZ h2;have HS:=JZ S;have bj:=S.n7;have d3:=S.e1;have d4:=S.e2;obtain ⟨WW,Y⟩:∃WW,WW=utN U (fun k=>d (C k)) n:=⟨_,rfl⟩;obtain ⟨LT,z⟩:∃LT,LT=ltN n L WW:=⟨_,rfl⟩;have bk:Hid (LT 0=WW):=JZ (by rw [z];rfl);have bl:Hid (∀k,k < n→WW k=(d (C k) - ZZ (fun s=>U k s * WW s) k) / U k k):=JZ fun k hk=>by rw [Y];exact Ydc hk
 have bm:Hid (∀i,i < n→Sz (29 * E) (WW i)):=JZ fun i hi=>by rw [Y];exact S.wB hX i hi
 have aw:Hid (∀j i,j≤n→i < n→Sz (29 * E) (LT j i)):=JZ fun j i hj hi=>by rw [z,Y];exact S.tB hX j i hj hi
 have bn:Hid (∀j k,k+1+j=n→(Z7 n (LT j)).set k (canF (LT (j+1) k))=Z7 n (LT (j+1))):=JZ fun j k hk=>by rw [z];exact Yfc hk
 have bo:Hid (∀j k,k+1+j=n→Zfo (spV (L k) n) (qAt (Z7 n (LT j))) (k:Int) (LT j k) (spV (L k) n).length=LT (j+1) k):=JZ fun j k hk=>by rw [z];exact Yde hk
 have bp:Hid (∀j k,k+1+j=n→LT (j+1) k=LT n k):=JZ fun j k hk=>by rw [z];exact (Zcr (show k < n by omega) (by omega) (by omega)).trans (Zcr (show k < n by omega) (by omega) (JY n)).symm
 have ax:Hid (Z7 n (solT n R C L U d)=VO n n R (LT n)):=JZ (by rw [Zla S.fac.ri,z,Y];rfl);rw [ax.out];have bq:=JZ hb;have ay:Hid (∀t,t < n→∀(k:Nat) (e:En),(spV (L t) n)[k]? =some e→e.f.Rs (29 * E)):=JZ fun t ht=>Zcq fun i hi=>(S.lB t i ht hi).mono (by omega)
 have br:Hid (∀t,t < n→∀(k:Nat) (e:En),(spV (U t) n)[k]? =some e→e.f.Rs (29 * E)):=JZ fun t ht=>Zcq fun i hi=>(S.uB t i ht hi).mono (by omega)
 have bs:Hid (∀k,k < n→Sz (2 * E) (U k k)∧U k k≠0∧(spV (U k) n)[(spV (U k) n).length - 1]? =some ⟨(k:Int),canF (U k k)⟩):=JZ fun k hk=>⟨S.uB k k hk hk,S.fac.u1 k hk,Zpw hk (S.fac.u1 k hk) fun s h1 h2=>S.fac.u0 k s hk h2 h1⟩
 have a9:Hid (∀(M:Mx) (k J:Nat),J≤30 * E→J+(spV (M k) n).length * (2 * (29 * E)+1)≤34359738368):=JZ fun M k J hJ=>by
  have h1:=JS (2 * (29 * E)+1) (JW (Wt (f:=M k) n) bj);omega
 have d5:=WC n (by omega);have af:=Yd.zeros w n (by unfold maxLen;omega);have az:=Zc w (.cells (zfc n) 48);rw [← Zeu (w:=WW)] at af;have bt:=k0;clear i0 i1 i2 i3 h2 S Y z hb hX ax k0 k1 k2 k3;go_enter Tryz.func138,Tryz.ntmps138;go_wp2;clear bt;generalize w.alloc (.cells (zfc n) 48)=W at *
 go_loopw [19] (fun i wr=>∃k:Nat,k≤n∧i= .int .i64 k∧Yd w.heap.size wr (.slice (some ⟨w.heap.size,0,none⟩) n n) (YT n k WW)∧Below w.heap.size w wr) (fun i _=>n - (intOf i).toNat)
 case atStart=>exact ⟨0,by omega,rfl,af,az⟩
 case round=>
  clear af az;obtain ⟨k,hk,rfl,hO,l⟩:=hrel;rcases JX k n with a | a
  ·obtain ⟨b1,o1,rfl,x1⟩:=I1.out.nat l a;have P:C k < n:=HS.out.fac.ci.1 k a;obtain ⟨bc,oc,A4,n4,c4,A5,n5,c5,rfl,_,⟨u0,u1,u2,u3⟩,ao⟩:=H2.out.elem l (ZC P);obtain ⟨b3,o3,A7,c7,rfl,x3,Z⟩:=I3.out.vc l a;have y1:=Zg l K1.out;have y3:=Zg l K3.out;obtain ⟨bd,ac,a0⟩:=bs.out k a;have ag:=JZ a0;have a2:Hid (inR (YT n k WW).length (spV (U k) n)):=JZ (by rw [Wm];exact Zek (U k) n);have a3:Hid ((canF (d (C k))).Rs (30 * E)):=JZ (bq.out _ P).rs;have b0:=JZ (br.out k a);have a4:Hid (RsL (29 * E) (YT n k WW)):=JZ (Zvl bm.out);have G:=JZ (a9.out U k (30 * E) (JY _));have F:Hid (Zfo (spV (U k) n) (qAt (YT n k WW)) (k:Int) (d (C k)) (spV (U k) n).length=d (C k) - ZZ (fun s=>U k s * WW s) k):=JZ (Ydd a);have bu:Hid ((d (C k) - ZZ (fun s=>U k s * WW s) k) / U k k=WW k):=JZ (bl.out k a).symm;have ah:=JZ (Zev (w:=WW) a);have bv:(canF (U k k)).Sm:=bd.rs.sm (by omega);have bw:(canF (U k k)).q≠0:=(by rw [Zu];exact ac);have b5:(YT n k WW)[k]? =some zeroF:=(by unfold YT;rw [Yu a,if_neg (by omega)]);have bx:(k:Int) < n:=(by omega);have ca:k < (YT n k WW).length:=(by rw [Wm];exact a);have b6:(C k:Int) < n:=(by omega);generalize cq:d (C k)=dk at *;generalize U k k=uk at *;generalize C k=ck at *;generalize cs:dk - ZZ (fun s=>U k s * WW s) k=rq at *;clear bd ac a0 cq cs
   go_upto_region 6 with (fail)
   go_cut [8] (fun s8 wx=>Zli wr rq s8 wx)
   case first=>
    have C0:=Zm u0;have C1:=Zm u1;have C2:=Zm u2;have C3:=Zm u3;have D0:=Zm x1;have D1:=Zm x3;have D2:=Zm y1;have D3:=Zm y3;have c:=Zf wr;clear u0 u1 u2 u3 x1 x3 y1 y3;refine YC 21 (.go 0 (.go 1 (.go 2 (.go 3 (.go 4 (.go 5 (.go 6 (.go 7 (.go 8 (.go 9 (.go 10 (.go 11 (.go 12 (.go 13 (.go 14 (.go 15 (.go 16 (.go 17 (.go 18 (.fork 19 (.go 20 (.go 21 .done)) 20 (.go 19 (.go 21 .done)))))))))))))))))))))) (by kernel_rfl) (by kernel_rfl) ?_;repeat ((first | (refine ZJ (v:=?_) rfl rfl rfl ?_ ?_;rotate_left;(· (intro _ m;go_simp;(try go_bits);(try with_reducible rfl)))) | (refine ZT (v:=?_) rfl rfl rfl ?_ ?_;rotate_left;(· (intro _ m;go_simp;(try go_bits);(try with_reducible rfl)))) | refine ZU rfl rfl rfl ?_ | refine ZK rfl rfl rfl (by assumption) ?_);(try simp only [Act.put,pu1,pu2,pu3,pu4,pu5,pu6]))
    refine WI rfl rfl (fun KR hKR=>?_) (fun KR hKR=>?_)
    ·go_simp;(with_reducible refine (VC _ _ _ (canF dk) (spV (U k) n) (k:Int) (YT n k WW) (29 * E) (30 * E) _ (ao.below c) (Z.below c) (hO.below c).frs a2.out a3.out (by omega) b0.out a4.out (by omega) G.out (by omega)).mono ?_);rw [Zu];rintro _ wA ⟨vA,fA,rfl,eA,p,N,D,a7⟩;rw [F.out] at p;have T:fA.Sm:=D.sm G.out;have y:=Za c a7 c.size;obtain ⟨A6,n6,c6,B6,m6,d6,rfl,_,_⟩:=id eA;refine hKR.out _ _ (Or.inr y) ?_;clear hKR KR N D;(try simp only [Act.put,pu1,pu2,pu3,pu4,pu5,pu6]);obtain ⟨WG,ap,K,a6⟩:=Y7 wA (.bool false) (.slice none 0 0) (.bool false) (.slice none 0 0);refine ZB rfl rfl (fun KR hKR=>?_);go_simp;have ai:=y.size;have r:=Za y a6 y.size;refine hKR.out _ _ (Or.inr r) ?_;clear hKR KR ap;(try simp only [Act.put,pu1,pu2,pu3,pu4,pu5,pu6]);have cb:=eA.below a6;obtain ⟨t0,t1,t2,t3⟩:=K.four;obtain ⟨f0,f1,f2,f3⟩:=K.fourF;refine ZB rfl rfl (fun KR hKR=>?_);go_simp;refine hKR.out _ _ (Or.inl (by decide)) ?_;clear hKR KR;(try simp only [Act.put,pu1,pu2,pu3,pu4,pu5,pu6]);refine Yl ?_;go_wp2_with fail
     go_meet
     exact Zli.mk K cb p T r ai
    ·obtain ⟨WG,ap,K,a6⟩:=Y7 wr.drew (.bool false) (.slice none 0 0) (.bool false) (.slice none 0 0);go_simp;have ai:=c.size;have r:=Za c a6 c.size;refine hKR.out _ _ (Or.inr r) ?_;clear hKR KR ap;(try simp only [Act.put,pu1,pu2,pu3,pu4,pu5,pu6])
     change Bk WG wr.heap.size 48 _ at K
     refine ZB rfl rfl (fun KR hKR=>?_);go_simp;(with_reducible refine (VC _ _ _ (canF dk) (spV (U k) n) (k:Int) (YT n k WW) (29 * E) (30 * E) _ (ao.below r) (Z.below r) (hO.below r).frs a2.out a3.out (by omega) b0.out a4.out (by omega) G.out (by omega)).mono ?_);rw [Zu];rintro _ wA ⟨vA,fA,rfl,eA,p,N,D,a7⟩;rw [F.out] at p;have T:fA.Sm:=D.sm G.out;have y:=Za r a7 r.size;obtain ⟨A6,n6,c6,B6,m6,d6,rfl,_,_⟩:=id eA;refine hKR.out _ _ (Or.inr y) ?_;clear hKR KR N D;(try simp only [Act.put,pu1,pu2,pu3,pu4,pu5,pu6]);have hG:=K.later a7;obtain ⟨t0,t1,t2,t3⟩:=hG.four;obtain ⟨f0,f1,f2,f3⟩:=hG.fourF;refine ZB rfl rfl (fun KR hKR=>?_);go_simp;refine hKR.out _ _ (Or.inl (by decide)) ?_;clear hKR KR;(try simp only [Act.put,pu1,pu2,pu3,pu4,pu5,pu6]);refine Yl ?_;go_wp2_with fail
     go_meet
     exact Zli.mk hG eA p T y ai
   case rest=>
    obtain ⟨gr,fr,Ar,nr,cr,d9,da,db,rfl,dc,hB,cm,cn,co,be⟩:=hcut;obtain rfl:=cn;have cd:=hO.below be;have V:=Za l be l.size;have aa:=V;clear Z x1 x3 y1 y3 u0 u1 u2 u3 ao hO l;obtain ⟨b4,o4,A8,c8,hA,x3,Z⟩:=I3.out.vc V a;injection hA with hA;injection hA with hA1 hA2;subst hA1;subst hA2;have y3:=Zg V K3.out;obtain ⟨t0,t1,t2,t3⟩:=hB.four
    go_upto_region 7 with (fail)
    have C0:=Zm t0;have C1:=Zm t1;have C2:=Zm t2;have C3:=Zm t3;have D0:=Zm x3;have D1:=Zm y3;have c:=Zf wc;clear t0 t1 t2 t3 x3 y3;refine Zp 16 [0,1,2,3,4,5,6,7,8,9,10,11,12,13,14,15,16] (by kernel_rfl) (by kernel_rfl) ?_;repeat ((first | (refine Zd (v:=?_) rfl rfl rfl ?_ ?_;rotate_left;(· (intro _ m;go_simp;(try go_bits);(try with_reducible rfl)))) | (refine Zj (v:=?_) rfl rfl rfl ?_ ?_;rotate_left;(· (intro _ m;go_simp;(try go_bits);(try with_reducible rfl)))) | refine Zk rfl rfl rfl ?_);(try simp only [Act.put,pu1,pu2,pu3,pu4,pu5,pu6]))
    refine Zh rfl rfl (fun KR hKR=>?_);go_simp;(with_reducible refine (Zcs _ _ ⟨(k:Int),canF uk⟩ _ (Z.below c) ag.out).mono ?_);rintro _ w6 ⟨v6,rfl,e6,cp⟩;have a5:=Za c cp c.size;refine hKR.out _ _ (Or.inr a5) ?_;clear hKR KR;(try simp only [Act.put,pu1,pu2,pu3,pu4,pu5,pu6]);repeat ((first | (refine Zd (v:=?_) rfl rfl rfl ?_ ?_;rotate_left;(· (intro _ m;go_simp;(try go_bits);(try with_reducible rfl)))) | (refine Zj (v:=?_) rfl rfl rfl ?_ ?_;rotate_left;(· (intro _ m;go_simp;(try go_bits);(try with_reducible rfl)))) | refine Zk rfl rfl rfl ?_);(try simp only [Act.put,pu1,pu2,pu3,pu4,pu5,pu6]))
    refine Zh rfl rfl (fun KR hKR=>?_);go_simp;(with_reducible refine (Xq _ _ fr (canF uk) _ (cm.below a5) e6 co bv bw).mono ?_);rw [Zu,bu.out];rintro _ w7 ⟨v7,rfl,e7,a8⟩;have u:=Za a5 a8 a5.size;obtain ⟨B9,l9,k9,aq,ar,au,rfl,_,_⟩:=id e7;have H:=cd.below u;obtain ⟨_,_,_,_,⟨c0,c1,c2,c3⟩,⟨f0,f1,f2,f3⟩,_⟩:=H.at_ b5;refine hKR.out _ _ (Or.inr u) ?_;clear hKR KR;(try simp only [Act.put,pu1,pu2,pu3,pu4,pu5,pu6]);repeat ((first | (refine Zd (v:=?_) rfl rfl rfl ?_ ?_;rotate_left;(· (intro _ m;go_simp;(try go_bits);(try with_reducible rfl)))) | (refine Zj (v:=?_) rfl rfl rfl ?_ ?_;rotate_left;(· (intro _ m;go_simp;(try go_bits);(try with_reducible rfl)))) | refine Zk rfl rfl rfl ?_);(try simp only [Act.put,pu1,pu2,pu3,pu4,pu5,pu6]))
    refine Zh rfl rfl (fun KR hKR=>?_);go_simp;refine hKR.out _ _ (Or.inl (by decide)) ?_;clear hKR KR;(try simp only [Act.put,pu1,pu2,pu3,pu4,pu5,pu6]);refine Zx ?_;clear C0 C1 C2 C3 D0 D1;obtain ⟨B,av⟩:=H.set_ (k:=k) ca e7;rw [ah.out] at B;have x:=ZA (Za aa u aa.size) (JY _) (k * 4) (k * 4+1) (k * 4+2) (k * 4+3);go_wp2;go_roundw
    case rel=>exact ⟨k+1,by omega,by go_num,B,x _ _ _ _⟩
    case measure=>simp [intOf];omega
  ·obtain rfl:n=k:=by omega
   rw [Zgq,← bk.out] at hO;have aj:=Yd.zeros wr n (by unfold maxLen;omega);have ak:=Zc wr (.cells (zfc n) 48);rw [← Zgo (X:=LT n) HS.out.fac.ri] at aj;have b7:=hO.below ak;have ce:0 < n→w.heap.size < wr.heap.size:=fun hp=>by
    obtain ⟨g,_,e,_,h,_⟩:=hO.shape (by rw [Zi];exact hp);injection e with e;injection e with e;injection e with e;omega
   have ab:=Za l ak l.size;have cf:=l.size;clear hO l;go_wp2;generalize wr.heap.size=gx at *;generalize wr.alloc (.cells (zfc n) 48)=W2 at *
   go_loopw [10] (fun i wx=>∃(j:Nat) (kz:Int),j≤n∧kz=(n:Int) - 1 - j∧i= .int .i64 kz∧Yd w.heap.size wx (.slice (some ⟨w.heap.size,0,none⟩) n n) (Z7 n (LT j))∧Yd gx wx (.slice (some ⟨gx,0,none⟩) n n) (VO n j R (LT n))∧Below w.heap.size w wx) (fun i _=>(intOf i+1).toNat)
   case atStart=>exact ⟨0,(n:Int) - 1,by omega,by omega,rfl,b7,aj,ab⟩
   case round=>
    clear b7 aj ab ak;obtain ⟨j,kz,hj,bf,rfl,hO,hx,l⟩:=hrel;rcases Int.lt_or_le kz 0 with hneg | hpos
    ·obtain rfl:n=j:=by omega
     go_wp2;go_ret;exact ⟨_,rfl,hx.monoB cf,l⟩
    ·obtain ⟨k,rfl⟩:=JT hpos;have I:k+1+j=n:=(by omega);have a:k < n:=(by omega);have d7:=ce (by omega);obtain ⟨b2,o2,A4,c4,rfl,x0,bg⟩:=I2.out.vc l a;have y2:=Zg l K2.out;have a2:Hid (inR (Z7 n (LT j)).length (spV (L k) n)):=JZ (by rw [Zi];exact Zek (L k) n);have a3:Hid ((canF (LT j k)).Rs (29 * E)):=JZ (aw.out j k hj a).rs;have cg:=JZ (ay.out k a);have a4:Hid (RsL (29 * E) (Z7 n (LT j))):=JZ (Zhv fun i hi=>aw.out j i hj hi);have G:=JZ (a9.out L k (29 * E) (by omega));have F:=JZ (bo.out j k I);have ch:=JZ (bn.out j k I);have al:(Z7 n (LT j))[k]? =some (canF (LT j k)):=ZC a;have ah:Hid ((VO n j R (LT n)).set (R k) (canF (LT (j+1) k))=VO n (j+1) R (LT n)):=JZ (by rw [bp.out j k I];exact Zgp HS.out.fac.ri I);have P:R k < n:=HS.out.fac.ri.1 k a;have bx:(k:Int) < n:=(by omega);have d8:=JZ bf;have b8:=JZ I;clear bf I;obtain ⟨bz,oz,A5,n5,c5,A6,n6,c6,hA,_,⟨t0,t1,t2,t3⟩,a1⟩:=hO.frs.elem (JR _ _) al;injection hA with hA;injection hA with hA1 hA2;subst hA1;subst hA2;simp only [Nat.zero_add] at t0 t1 t2 t3;generalize LT j k=zk at *;generalize bi:LT (j+1) k=O at *;have cj:=JZ bi;clear hpos bi
     go_upto_region 13 with (fail)
     have C0:=Zm t0;have C1:=Zm t1;have C2:=Zm t2;have C3:=Zm t3;have D0:=Zm x0;have D1:=Zm y2;have c:=Zf wr;clear t0 t1 t2 t3 x0 y2;refine Zp 17 [0,1,2,3,4,5,6,7,8,9,10,11,12,13,14,15,16,17] (by kernel_rfl) (by kernel_rfl) ?_;repeat ((first | (refine Zd (v:=?_) rfl rfl rfl ?_ ?_;rotate_left;(· (intro _ m;go_simp;(try go_bits);(try with_reducible rfl)))) | (refine Zj (v:=?_) rfl rfl rfl ?_ ?_;rotate_left;(· (intro _ m;go_simp;(try go_bits);(try with_reducible rfl)))) | refine Zk rfl rfl rfl ?_);(try simp only [Act.put,pu1,pu2,pu3,pu4,pu5,pu6]))
     refine Zh rfl rfl (fun KR hKR=>?_);go_simp;(with_reducible refine (VC _ _ _ (canF zk) (spV (L k) n) (k:Int) (Z7 n (LT j)) (29 * E) (29 * E) _ (a1.below c) (bg.below c) (hO.below c).frs a2.out a3.out (by omega) cg.out a4.out (by omega) G.out (by omega)).mono ?_);rw [Zu];rintro _ w7 ⟨v7,fA,rfl,e7,p,N,D,a8⟩;have u:=Za c a8 c.size;rw [F.out] at p;have cl:fA=canF O:=(by rcases N with h | h;rotate_left;exact h.trans (by rw [p]);rw [h,Zu] at p;rw [h,p]);subst cl;obtain ⟨B9,l9,k9,aq,ar,au,rfl,_,_⟩:=id e7;have H:=hO.below u;obtain ⟨_,_,_,_,⟨c0,c1,c2,c3⟩,⟨f0,f1,f2,f3⟩,_⟩:=H.at_ al;clear p N D;refine hKR.out _ _ (Or.inr u) ?_;clear hKR KR;(try simp only [Act.put,pu1,pu2,pu3,pu4,pu5,pu6]);repeat ((first | (refine Zd (v:=?_) rfl rfl rfl ?_ ?_;rotate_left;(· (intro _ m;go_simp;(try go_bits);(try with_reducible rfl)))) | (refine Zj (v:=?_) rfl rfl rfl ?_ ?_;rotate_left;(· (intro _ m;go_simp;(try go_bits);(try with_reducible rfl)))) | refine Zk rfl rfl rfl ?_);(try simp only [Act.put,pu1,pu2,pu3,pu4,pu5,pu6]))
     refine Zh rfl rfl (fun KR hKR=>?_);go_simp;refine hKR.out _ _ (Or.inl (by decide)) ?_;clear hKR KR;(try simp only [Act.put,pu1,pu2,pu3,pu4,pu5,pu6]);refine Zx ?_;clear C0 C1 C2 C3 D0 D1;obtain ⟨B,av⟩:=H.set_ (k:=k) (by rw [Zi];exact a) e7;rw [ch.out] at B;have am:=(hx.below u).others Yf (av.keep (by decide)) (fun b hb e=>by simp [Value.ownBlock] at hb;injection e with e;omega);have x:=ZA (Za l u l.size) (JY _) (k * 4) (k * 4+1) (k * 4+2) (k * 4+3) (.bool (canF O).num.neg) (.slice B9 l9 k9) (.bool (canF O).den.neg) (.slice aq ar au);have b9:(Z7 n (LT (j+1)))[k]? =some (canF O):=(by rw [← cj.out];exact ZC a);clear hO H hx l c u e7 a8 c0 c1 c2 c3 f0 f1 f2 f3 a1 av bg al;generalize ((((w7.setCell ⟨w.heap.size,k * 4,none⟩ (.bool (canF O).num.neg)).setCell ⟨w.heap.size,k * 4+1,none⟩ (.slice B9 l9 k9)).setCell ⟨w.heap.size,k * 4+2,none⟩ (.bool (canF O).den.neg)).setCell ⟨w.heap.size,k * 4+3,none⟩ (.slice aq ar au))=W8 at *;obtain ⟨b1,o1,rfl,x1⟩:=I0.out.nat x a;have y1:=Zg x K0.out;obtain ⟨bz,oz,A8,n8,c8,A9,n9,c9,hA,_,⟨t0,t1,t2,t3⟩,a1⟩:=B.frs.elem (JR _ _) b9;injection hA with hA;injection hA with hA1 hA2;subst hA1;subst hA2;simp only [Nat.zero_add] at t0 t1 t2 t3;obtain ⟨rf,bh⟩:=Yi (fs:=VO n j R (LT n)) (i:=R k) (by rw [WU];exact P);obtain ⟨ad,ae⟩:=am.set_ (k:=R k) (by rw [WU];exact P) a1;rw [ah.out] at ad;have ba:=B.others (g:=some gx) Yf (ae.keep (by decide)) (fun b hb e=>by simp [Value.ownBlock] at hb;injection e with e;omega);have an:=ZA x (show w.heap.size≤gx by omega) (R k * 4) (R k * 4+1) (R k * 4+2) (R k * 4+3);obtain ⟨_,_,_,_,⟨c0,c1,c2,c3⟩,⟨f0,f1,f2,f3⟩,_⟩:=am.at_ bh;generalize R k=ck at *;have b6:(ck:Int) < n:=(by omega);clear bh am B a1 ae
     go_upto_region 14 with (fail)
     have C0:=Zm t0;have C1:=Zm t1;have C2:=Zm t2;have C3:=Zm t3;have D0:=Zm x1;have D1:=Zm y1;have c:=Zf W8;clear t0 t1 t2 t3 x1 y1;refine Zp 13 [0,1,2,3,4,5,6,7,8,9,10,11,12,13] (by kernel_rfl) (by kernel_rfl) ?_;repeat ((first | (refine Zd (v:=?_) rfl rfl rfl ?_ ?_;rotate_left;(· (intro _ m;go_simp;(try go_bits);(try with_reducible rfl)))) | (refine Zj (v:=?_) rfl rfl rfl ?_ ?_;rotate_left;(· (intro _ m;go_simp;(try go_bits);(try with_reducible rfl)))) | refine Zk rfl rfl rfl ?_);(try simp only [Act.put,pu1,pu2,pu3,pu4,pu5,pu6]))
     refine Zh rfl rfl (fun KR hKR=>?_);go_simp;refine hKR.out _ _ (Or.inl (by decide)) ?_;clear hKR KR;(try simp only [Act.put,pu1,pu2,pu3,pu4,pu5,pu6]);refine Zx ?_;clear C0 C1 C2 C3 D0 D1;go_wp2;go_roundw
     case rel=>exact ⟨j+1,(k:Int) - 1,by have:=b8.out;omega,by have:=b8.out;omega,rfl,ba,ad,(an _ _ _ _).drew⟩
     case measure=>simp [intOf] <;> omega
end Go.Proofs.YtncmobkhenfhpaaGreat
