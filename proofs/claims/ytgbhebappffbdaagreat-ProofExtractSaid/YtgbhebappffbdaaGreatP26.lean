/- Lemmas of the claim; no condition. -/
import Derived.Test.YtgbhebappffbdaaGreatP25
import Derived.Test.YtgbhebappffbdaaGreatP27
set_option linter.all false
set_option maxRecDepth 100000
set_option maxHeartbeats 40000000
namespace Go.Proofs.YtgbhebappffbdaaGreat
open Go.RowKit
open Pl
attribute [local go_sem ↓] Go.wp_at_zero Go.wp_at_succ
section
def Zpa (base bi:Nat) (w:World) (v:Value) (T n:Nat) (k:Nat→Nat) (im:Mx):Prop:=
 ∃cs,w.ownsRow base 166 2 v T cs∧∀t,t < T→∃u,cs[t * 2]? =some (.int .i64 (k t:Int))∧cs[t * 2+1]? =some u∧Z4 bi w u (Yj n (im t))
section
variable {base bi:Nat} {w w':World} {v:Value} {T n:Nat} {k:Nat→Nat} {im:Mx}
theorem Zpa.below (h:Zpa base bi w v T n k im) (hb:Below w.heap.size w w'):Zpa base bi w' v T n k im:=by
 obtain ⟨cs,h1,h2⟩:=h;exact ⟨cs,own_below h1 hb,fun t ht=>by
  obtain ⟨u,e1,e2,e3⟩:=h2 t ht;exact ⟨u,e1,e2,e3.below hb⟩⟩
theorem Zpa.but {e:TypeId} (h:Zpa base bi w v T n k im) (hk:Ze e w w') (h1:166≠e) (h2:46≠e) (h3:148≠e):Zpa base bi w' v T n k im:=by
 obtain ⟨cs,g1,g2⟩:=h;exact ⟨cs,hk.own g1 h1,fun t ht=>by
  obtain ⟨u,e1,e2,e3⟩:=g2 t ht;exact ⟨u,e1,e2,e3.but hk h2 h3⟩⟩
theorem Zpa.nil (base bi:Nat) (w:World) (n:Nat) (k:Nat→Nat) (im:Mx):Zpa base bi w (.slice none 0 0) 0 n k im:=⟨[],World.ownsRow_nil _ _ _ _,fun t ht=>absurd ht (by omega)⟩
end
def Zna (base bi:Nat) (w:World) (g n K:Nat) (Cs:Mx):Prop:=
 ∃(T gc cc:Nat) (k R C:Nat→Nat) (im V L Um:Mx) (CC:Nat→Mx) (s0 s1 s2 s3 vu:Value),
  Bk w g 163 [.int .i64 (n:Int),.slice (some ⟨gc,0,none⟩) n cc,s0,s1,s2,s3,vu]∧(base≤g∧T≤16∧5^n * K≤4000000∧CC T=Cs)∧Ups n K T k im V CC∧Zml n (5^n * K) (trM (CC 0)) R C L Um∧
  Ym base w (.slice (some ⟨gc,0,none⟩) n cc) (vcL n Cs)∧ZN base w s0 (Zke n R)∧ZN base w s1 (Zke n C)∧Ym (gc+1) w s2 (vcL n L)∧Ym (gc+1) w s3 (vcL n Um)∧Zpa base bi w vu T n k im
section
variable {base bi g n K:Nat} {w w':World} {Cs:Mx}
theorem Zna.below (h:Zna base bi w g n K Cs) (hb:Below w.heap.size w w'):Zna base bi w' g n K Cs:=by
 obtain ⟨T,gc,cc,k,R,C,im,V,L,Um,CC,s0,s1,s2,s3,vu,h1,h2,h3,h4,h5,h6,h7,h8,h9,a⟩:=h;exact ⟨T,gc,cc,k,R,C,im,V,L,Um,CC,s0,s1,s2,s3,vu,h1.later hb,h2,h3,h4,h5.below hb,h6.below hb,h7.below hb,h8.below hb,h9.below hb,a.below hb⟩
theorem Zna.but {e:TypeId} (h:Zna base bi w g n K Cs) (hk:Ze e w w') (e1:163≠e) (e2:66≠e) (e3:83≠e) (e4:148≠e) (e5:3≠e) (e6:166≠e) (e7:46≠e):Zna base bi w' g n K Cs:=by
 obtain ⟨T,gc,cc,k,R,C,im,V,L,Um,CC,s0,s1,s2,s3,vu,h1,h2,h3,h4,h5,h6,h7,h8,h9,a⟩:=h;exact ⟨T,gc,cc,k,R,C,im,V,L,Um,CC,s0,s1,s2,s3,vu,hk.bk h1 e1,h2,h3,h4,h5.but hk e2 e3 e4,h6.but hk e5,h7.but hk e5,h8.but hk e2 e3 e4,h9.but hk e2 e3 e4,a.but hk e6 e7 e4⟩
theorem ZN.nshape {base:Nat} {w:World} {v:Value} {n:Nat} {R:Nat→Nat} (h:ZN base w v (Zke n R)):∃A c,v= .slice A n c:=by
 obtain ⟨A,m,c,rfl⟩:=h.sliceN;have:=h.len;rw [Zdy] at this;subst this;exact ⟨A,c,rfl⟩
theorem Ym.nshape {base:Nat} {w:World} {v:Value} {n:Nat} {L:Mx} (h:Ym base w v (vcL n L)):∃A c,v= .slice A n c:=by
 obtain ⟨A,c,rfl⟩:=h.slice;rw [Zbg];exact ⟨A,c,rfl⟩
theorem Yah {w:World} {g n:Nat} {vn vc s0 s1 s2 s3 vu:Value} {R C:Nat→Nat} {L Um:Mx} {b0 b1 b2 b3:Nat} (h:Bk w g 163 [vn,vc,s0,s1,s2,s3,vu]) (h6:ZN b0 w s0 (Zke n R)) (h7:ZN b1 w s1 (Zke n C)) (h8:Ym b2 w s2 (vcL n L)) (h9:Ym b3 w s3 (vcL n Um)):Ydp w g 2 n R C L Um:=by
 obtain ⟨A0,c0,rfl⟩:=h6.nshape;obtain ⟨A1,c1,rfl⟩:=h7.nshape;obtain ⟨A2,c2,rfl⟩:=h8.nshape;obtain ⟨A3,c3,rfl⟩:=h9.nshape;exact ⟨A0,c0,A1,c1,A2,c2,A3,c3,⟨h.cellAt 2 rfl,h.cellAt 3 rfl,h.cellAt 4 rfl,h.cellAt 5 rfl⟩,h6.ints,h7.ints,h8.vecs,h9.vecs⟩
end
namespace Pl
theorem Good.enI {n:Nat} {es:List En} (h:Good n es) (hn:n≤4096):EnI es:=fun k e he=>by have:=h.1 k e he;omega
end Pl
def Ygx (n K:Nat) (Cs:Mx) (w:World) (o:Ending) (w':World):Prop:=
 Below w.heap.size w w'∧((∃g,o= .returned (.tuple #[.pointer (some ⟨g,0,none⟩),.int .i64 0])∧Xr n Cs∧∀bi,Zna w.heap.size bi w' g n K Cs)∨(o= .returned (.tuple #[.pointer none,.int .i64 13])∧¬Xr n Cs))
end
namespace Pl
def Zcj (k:Nat) (im x:Nat→Rat) (i:Nat):Nat→Rat:=fun j=>if j=k then x k / im k else if j < i then x j - im j * (x k / im k) else x j
theorem Zzd {k n:Nat} {im x:Nat→Rat} {j:Nat} (hj:j < n):Zcj k im x n j=Zqt k im x j:=by
 unfold Zcj Zqt;by_cases e:j=k
 ·rw [if_pos e,if_pos e]
 ·rw [if_neg e,if_neg e,if_pos hj]
theorem Zks {k i:Nat} {im x:Nat→Rat} (h:i=k∨im i=0) (j:Nat):Zcj k im x i j=Zcj k im x (i+1) j:=by
 unfold Zcj;by_cases e:j=k
 ·rw [if_pos e,if_pos e]
 ·rw [if_neg e,if_neg e];by_cases e2:j < i
  ·rw [if_pos e2,if_pos (by omega)]
  ·rw [if_neg e2];by_cases e3:j=i
   ·subst e3;rw [if_pos (by omega)];rcases h with h | h
    ·exact absurd h e
    ·rw [h];grind
   ·rw [if_neg (by omega)]
theorem Zvg {k i:Nat} {im x:Nat→Rat} (h:i≠k) (j:Nat):Zcj k im x (i+1) j=if j=i then x i - im i * (x k / im k) else Zcj k im x i j:=by
 unfold Zcj;by_cases e:j=i
 ·subst e;rw [if_pos rfl,if_neg h,if_pos (by omega)]
 ·rw [if_neg e];by_cases e2:j=k
  ·rw [if_pos e2,if_pos e2]
  ·rw [if_neg e2,if_neg e2];by_cases e3:j < i
   ·rw [if_pos e3,if_pos (by omega)]
   ·rw [if_neg e3,if_neg (by omega)]
theorem Zvh {k i:Nat} {im x:Nat→Rat} (h:i≠k):Zcj k im x i i=x i:=by unfold Zcj;rw [if_neg h,if_neg (by omega)]
theorem Yfd {k i:Nat} {im x:Nat→Rat}:Zcj k im x i k=x k / im k:=by unfold Zcj;rw [if_pos rfl]
end Pl
theorem Zpa.shape {base bi:Nat} {w:World} {v:Value} {T n:Nat} {k:Nat→Nat} {im:Mx} (h:Zpa base bi w v T n k im):∃A c,v= .slice A T c∧T≤c∧c≤9223372036854775807:=by
 obtain ⟨cs,h1,_⟩:=h;exact (V7.of_own h1).shape
theorem Zpa.elem {base bi:Nat} {w wr:World} {A:Option Addr} {c T n:Nat} {k:Nat→Nat} {im:Mx} (h:Zpa base bi w (.slice A T c) T n k im) (hb:Below w.heap.size w wr) {t:Nat} (ht:t < T):
 ∃gu B d,A=some ⟨gu,0,none⟩∧gu < w.heap.size∧(wr.cell? ⟨gu,t * 2,none⟩=some (.int .i64 (k t:Int))∧wr.cell? ⟨gu,t * 2+1,none⟩=some (.slice B n d))∧(n≤d∧d≤9223372036854775807)∧Xh wr (.slice B n d) (Yj n (im t)):=by
 obtain ⟨cs,h1,h2⟩:=h;obtain ⟨u,e1,e2,e3⟩:=h2 t ht;obtain ⟨B,d,rfl⟩:=e3.slice;rw [Zm] at e2 e3;rcases h1.2 with ⟨e,hz⟩ | ⟨g',cap,cur,hv,hb',hg,hnc,hcm,hcs,htake⟩
 ·omega
 ·injection hv with a1 a2 a3;subst a1;obtain ⟨_,l2,l3⟩:=e3.frs.len;exact ⟨g',B,d,rfl,Yw hg,⟨Zf hb (ZM h1 e1).1,Zf hb (ZM h1 e2).1⟩,⟨l2,l3⟩,e3.frs.below hb⟩
theorem Zrm (base bi g n K:Nat) (Cs:Mx) (vc:Value) (b:Nat→Rat) (w:World) (hB:Zna base bi w g n K Cs) (h2:Xh w vc (Yj n b)) (hb:∀i,i < n→Sz K (b i)):
 Calls Tryz.prog 142 #[.pointer (some ⟨g,0,none⟩),vc] w fun o w'=>∃v' x,o= .returned v'∧(∀r,r < n→Xz n Cs x r=b r)∧(∀i,i < n→Sz (5^n * K) (x i))∧Z4 w.heap.size w' v' (Yj n x)∧Below w.heap.size w w':=by
 obtain ⟨T,gc,cc,k,R,C,im,V,L,Um,CC,s0,s1,s2,s3,vu,hX,⟨da,hT,hE,bs⟩,hU,hF,hO,i0,i1,v2,v3,ay⟩:=hB;obtain ⟨Au,cu,rfl,cy,cz⟩:=ay.shape;have al:=Yah hX i0 i1 v2 v3;obtain ⟨x0,P⟩:∃x0,x0=solQ n R C L Um b:=⟨_,rfl⟩;have ad:∀r,r < n→Xz n (CC 0) x0 r=b r:=by rw [P];exact hF.fac.solQ b
 have ap:=JZ (hU.xB ad hb);have ba:=JZ (hU.solves ad T (JY _));have ce:=JZ hU.imB;have cf:=JZ hU.kn;have cg:=JZ hU.nz;have HE:=JZ hE;have ch:Hid (K≤5^n * K):=JZ (Nat.le_mul_of_pos_left K (Nat.pow_pos (by decide)));have ci:=JZ bs;have bb:=JZ ay;have cj:∀i,i < n→Sz (5^n * K) (solQ n R C L Um b i):=fun i hi=>by rw [← P];exact hU.xB ad hb 0 (Nat.zero_le _) i hi
 have ck:=JZ P;obtain ⟨y0,y1⟩:w.cell? ⟨g,6,none⟩=some (.slice Au T cu)∧w.cell? ⟨g,0,none⟩=some (.int .i64 (n:Int)):=⟨hX.cellAt 6 rfl,hX.cellAt 0 rfl⟩;have d4:=hF.n7;have HF:=JZ hF;have cl:=JZ al;have cm:K≤30 * (5^n * K):=by have:=ch.out;omega
 clear hU ad hE bs ay hX hO i0 i1 v2 v3 al hF P;go_enter Tryz.func142,Tryz.ntmps142;go_wp2_with fail;refine (Zkh g 2 vc n (5^n * K) K (trM (CC 0)) R C L Um b _ cl.out h2 HF.out hb cm cj).mono ?_;rintro _ w1 ⟨v1,rfl,e1,b8⟩;rw [← ck.out] at e1;obtain ⟨A5,c5,bt⟩:=e1.slice;rw [Zm] at bt;subst bt;obtain ⟨-,d0,d3⟩:=e1.frs.len;have y2:=Zf b8 y0;clear y0 y1 h2;go_wp2;clear y2
 go_loopw [19] (fun x wr=>∃t:Nat,t≤T∧x= .int .i64 t∧Z4 w.heap.size wr (.slice A5 n c5) (Yj n (xN k im x0 t))∧Below w.heap.size w wr) (fun x _=>T - (intOf x).toNat)
 case atStart=>exact ⟨0,by omega,rfl,e1,b8⟩
 case round=>
  clear e1 b8;obtain ⟨t,ht,rfl,hO,a⟩:=hrel;rcases JX t T with htl | htl
  ·have A:=cf.out t htl;obtain ⟨gx,cx,bu,bv,cv,-,-⟩:=hO.shape (by rw [Zm];omega);rw [Zm] at bu;injection bu with a1 a2 a3;subst a1;clear a2 a3 cx;obtain ⟨gu,B,d,rfl,-,⟨u0,u1⟩,⟨d1,d2⟩,az⟩:=bb.out.elem a htl;obtain ⟨X,a9⟩:∃X,X=xN k im x0 t:=⟨_,rfl⟩;obtain ⟨M,O⟩:∃M,M=im t:=⟨_,rfl⟩;obtain ⟨kt,aa⟩:∃kt,kt=k t:=⟨_,rfl⟩;have am:Hid (Yj n (xN k im x0 (t+1))=Yj n (Zqt kt M X)):=JZ (by rw [a9,O,aa];rfl);have bc:Hid (∀i,i < n→Sz (5^n * K) (X i)):=JZ fun i hi=>by rw [a9];exact ap.out t ht i hi
   have aq:Hid (∀i,i < n→Sz (5^n * K) (M i)):=JZ fun i hi=>by rw [O];exact ce.out t htl i hi
   have cn:Hid (∀i,i < n→Sz (5^n * K) (Zqt kt M X i)):=JZ fun i hi=>by
    have:=ap.out (t+1) (by omega) i hi;rw [a9,O,aa];exact this
   have co:Hid (M kt≠0):=JZ (by rw [O,aa];exact cg.out t htl);rw [← a9] at hO;rw [← O] at az;have bd:Hid (Xh w (.slice B n d) (Yj n M)):=JZ (by
    obtain ⟨_,B',d',ab,-,⟨-,e2⟩,-,h3⟩:=bb.out.elem (JR _ _) htl;injection ab with ab;injection ab with ab;subst ab;have e3:=Zf a e2;rw [u1] at e3;injection e3 with e3;injection e3 with b1 b2 b3;subst b1 b3;rw [O];exact h3)
   rw [← aa] at A u0;clear a9 O aa;obtain ⟨W1,bw,hV,b0⟩:∃W1,wr.alloc (.cells #[.int .i64 (kt:Int),.slice B n d] 166)=W1∧Bk W1 wr.heap.size 166 [.int .i64 (kt:Int),.slice B n d]∧Below wr.heap.size wr W1:=⟨_,rfl,Bk.new wr _ _,Zb wr _⟩;have S:=hO.below b0;have U:=az.below b0;have u:=Za a b0 a.size;obtain ⟨l,m,_,_⟩:=hV.two;have Y:(Yj n X)[kt]? =some (canF (X kt)):=ZK A;obtain ⟨bz,oz,A6,n6,c6,A7,n7,c7,hA,_,⟨t0,t1,t2,t3⟩,c⟩:=S.frs.elem (JR _ _) Y;injection hA with hA;injection hA with hA1 hA2;subst hA1;subst hA2;simp only [Nat.zero_add] at t0 t1 t2 t3;have d5:(kt:Int) < n:=(by omega);have d6:(t:Int) < T:=(by omega);have Z:qs (X kt)=0∨qs (X kt)=1∨qs (X kt)= -1:=(by have:=Ul (X kt);omega);clear hO a az;by_cases p:qs (X kt)=0
   ·have cp:=JZ (Yp.1 p);clear Z;go_wp2_with fail;clear bw;refine (Zx _ (canF (X kt)) _ c).mono ?_;rw [Zu,p];rintro _ w2 ⟨rfl,s⟩;have a0:=S.below s;have F:=Za u s u.size;clear S u U hV t0 t1 t2 t3 c l m u0 u1 s p;go_wp2;go_roundw
    case rel=>exact ⟨t+1,by omega,by go_num,by rw [am.out,ZT fun i hi=>Zuk cp.out i];exact a0,F⟩
    case measure=>simp [intOf];omega
   ·have ar:(qs (X kt)==0)=false:=(by simpa using p);clear Z p;go_wp2_with fail;clear bw;refine (Zx _ (canF (X kt)) _ c).mono ?_;rw [Zu];rintro _ w2 ⟨rfl,s⟩;have a0:=S.below s;have an:=U.below s;have au:=hV.later s;have F:=Za u s u.size;have be:=c.below s;have d7:w.heap.size < wr.heap.size∧gx < wr.heap.size:=⟨by omega,cv⟩;clear S u U hV t0 t1 t2 t3 c l m u0 u1;obtain ⟨l,m,_,_⟩:=au.two;obtain ⟨bz,oz,A6,n6,c6,A7,n7,c7,hA,_,⟨t0,t1,t2,t3⟩,c⟩:=a0.frs.elem (JR _ _) Y;injection hA with hA;injection hA with hA1 hA2;subst hA1;subst hA2;simp only [Nat.zero_add] at t0 t1 t2 t3;obtain ⟨bm,om,A8,n8,c8,A9,n9,c9,rfl,_,⟨z0,z1,z2,z3⟩,b4⟩:=an.elem (JR _ _) (ZK A);obtain ⟨xk,ae⟩:∃xk,xk=X kt:=⟨_,rfl⟩;obtain ⟨mk,G⟩:∃mk,mk=M kt:=⟨_,rfl⟩;have cq:=JZ ae;have cr:=JZ G;have a4:(canF xk).Sm:=(by rw [ae];exact (bc.out kt A).rs.sm (by have:=HE.out;omega));have bf:(canF mk).Sm:=(by rw [G];exact (aq.out kt A).rs.sm (by have:=HE.out;omega));have bg:(canF mk).q≠0:=(by rw [Zu,G];exact co.out);rw [← ae] at t0 t2 c Y;rw [← G] at z0 z2 b4;have hO:=a0;clear ae G a0 an be s;have cs:Hid ((Yj n X).set kt (canF (xk / mk))=Yj n (Zcj kt M X 0)):=JZ (by
     rw [Vg A];exact ZT fun i hi=>by
      unfold Zcj;rw [cq.out,cr.out];by_cases e:i=kt
      ·rw [if_pos e,if_pos e]
      ·rw [if_neg e,if_neg e,if_neg (by omega)])
    go_upto_region 6 with (fail)
    clear ar;have C0:=Zp t0;have C1:=Zp t1;have C2:=Zp t2;have C3:=Zp t3;have D0:=Zp z0;have D1:=Zp z1;have D2:=Zp z2;have D3:=Zp z3;have U0:=Zp l;have U1:=Zp m;have f:=Zj w2;clear t0 t1 t2 t3 z0 z1 z2 z3 l m;refine Zq 19 [0,1,2,3,4,5,6,7,8,9,10,11,12,13,14,15,16,17,18,19] (by kernel_rfl) (by kernel_rfl) ?_;repeat ((first | (refine Zc (v:=?_) rfl rfl rfl ?_ ?_;rotate_left;(· (intro _ E;go_simp;(try go_bits);(try with_reducible rfl)))) | (refine Zg (v:=?_) rfl rfl rfl ?_ ?_;rotate_left;(· (intro _ E;go_simp;(try go_bits);(try with_reducible rfl)))) | refine Zh rfl rfl rfl ?_);(try simp only [Act.put,pu1,pu2,pu3,pu4,pu5,pu6]))
    refine Zd rfl rfl (fun KR hKR=>?_);go_simp;(with_reducible refine (VY _ _ (canF xk) (canF mk) _ (c.below f) (b4.below f) a4 bf bg).mono ?_);rw [Zu,Zu];rintro _ w6 ⟨v6,rfl,e6,ac⟩;have h:=Za f ac f.size;obtain ⟨B9,l9,k9,af,ag,ah,rfl,_,_⟩:=id e6;have av:=hO.below h;obtain ⟨_,_,_,_,⟨c0,c1,c2,c3⟩,⟨f0,f1,f2,f3⟩,-⟩:=av.at_ Y;refine hKR.out _ _ (Or.inr h) ?_;clear hKR KR;(try simp only [Act.put,pu1,pu2,pu3,pu4,pu5,pu6]);repeat ((first | (refine Zc (v:=?_) rfl rfl rfl ?_ ?_;rotate_left;(· (intro _ E;go_simp;(try go_bits);(try with_reducible rfl)))) | (refine Zg (v:=?_) rfl rfl rfl ?_ ?_;rotate_left;(· (intro _ E;go_simp;(try go_bits);(try with_reducible rfl)))) | refine Zh rfl rfl rfl ?_);(try simp only [Act.put,pu1,pu2,pu3,pu4,pu5,pu6]))
    refine Zd rfl rfl (fun KR hKR=>?_);go_simp;refine hKR.out _ _ (Or.inl (by decide)) ?_;clear hKR KR;(try simp only [Act.put,pu1,pu2,pu3,pu4,pu5,pu6]);refine Zz ?_;clear C0 C1 C2 C3 D0 D1 D2 D3 U0 U1;obtain ⟨N,bx⟩:=av.set_ (k:=kt) (by rw [Zm];exact A) e6;rw [cs.out] at N;have bh:=bx.bk (au.later h) (by decide);have ao:=Zw (Za F h F.size) bv (kt * 4) (kt * 4+1) (kt * 4+2) (kt * 4+3) (.bool (canF (xk / mk)).num.neg) (.slice B9 l9 k9) (.bool (canF (xk / mk)).den.neg) (.slice af ag ah);generalize ((((w6.setCell ⟨gx,kt * 4,none⟩ (.bool (canF (xk / mk)).num.neg)).setCell ⟨gx,kt * 4+1,none⟩ (.slice B9 l9 k9)).setCell ⟨gx,kt * 4+2,none⟩ (.bool (canF (xk / mk)).den.neg)).setCell ⟨gx,kt * 4+3,none⟩ (.slice af ag ah))=W7 at *;generalize wr.heap.size=cw at *;clear hO av e6 ac f h bx F au c b4 Y a4 bf bg c0 c1 c2 c3 f0 f1 f2 f3;go_wp2
    go_loopw [51] (fun x wx=>∃i:Nat,i≤n∧x= .int .i64 i∧Z4 w.heap.size wx (.slice (some ⟨gx,0,none⟩) n c5) (Yj n (Zcj kt M X i))∧Bk wx cw 166 [.int .i64 (kt:Int),.slice (some ⟨bm,om,none⟩) n d]∧Below w.heap.size w wx) (fun x _=>n - (intOf x).toNat)
    case atStart=>exact ⟨0,by omega,rfl,N,bh,ao⟩
    case round=>
     clear N bh ao;obtain ⟨i,hi,rfl,hO,hV,a⟩:=hrel;rcases JX i n with hil | hil
     ·obtain ⟨l,m,_,_⟩:=hV.two;have d8:(i:Int) < n:=(by omega);by_cases b9:i=kt
      ·have aw:Hid (Yj n (Zcj kt M X i)=Yj n (Zcj kt M X (i+1))):=JZ (ZT fun j _=>Zks (.inl b9) j);subst b9;rw [aw.out] at hO;go_wp2;go_roundw
       case rel=>exact ⟨i+1,by omega,by go_num,hO,hV,a⟩
       case measure=>simp [intOf];omega
      ·have bj:=JZ b9;have d9:(i:Int)≠kt:=(by omega);obtain ⟨b',o',A8,n8,c8,A9,n9,c9,hA,_,⟨z0,z1,z2,z3⟩,H⟩:=bd.out.elem a (ZK hil);injection hA with hA;injection hA with hA1 hA2;subst hA1;subst hA2;have Z:qs (M i)=0∨qs (M i)=1∨qs (M i)= -1:=(by have:=Ul (M i);omega);by_cases p:qs (M i)=0
       ·have aw:Hid (Yj n (Zcj kt M X i)=Yj n (Zcj kt M X (i+1))):=JZ (ZT fun j _=>Zks (.inr (Yp.1 p)) j);clear Z;go_wp2_with fail;refine (Zx _ (canF (M i)) _ H).mono ?_;rw [Zu,p];rintro _ w3 ⟨rfl,D⟩;have J:=hO.below D;rw [aw.out] at J;have a5:=hV.later D;have y:=Za a D a.size;clear hO hV a D p z0 z1 z2 z3 H l m;go_wp2;go_roundw
        case rel=>exact ⟨i+1,by omega,by go_num,J,a5,y⟩
        case measure=>simp [intOf];omega
       ·have ar:(qs (M i) !=0)=true:=(by simpa using p);clear Z p;go_wp2_with fail;refine (Zx _ (canF (M i)) _ H).mono ?_;rw [Zu];rintro _ w3 ⟨rfl,D⟩;have J:=hO.below D;have a5:=hV.later D;have y:=Za a D a.size;clear hO hV a D z0 z1 z2 z3 H l m;obtain ⟨l,m,_,_⟩:=a5.two;obtain ⟨b',o',A8,n8,c8,A9,n9,c9,hA,_,⟨z0,z1,z2,z3⟩,H⟩:=bd.out.elem y (ZK hil);injection hA with hA;injection hA with hA1 hA2;subst hA1;subst hA2;obtain ⟨b',o',A4,n4,c4,A5,n5,db,hA,_,⟨ai,b5,aj,b6⟩,c⟩:=J.frs.elem (JR _ _) (ZK hil);injection hA with hA;injection hA with hA1 hA2;subst hA1;subst hA2;obtain ⟨b',o',A6,n6,c6,A7,n7,c7,hA,_,⟨t0,t1,t2,t3⟩,b7⟩:=J.frs.elem (JR _ _) (ZK A);injection hA with hA;injection hA with hA1 hA2;subst hA1;subst hA2;simp only [Nat.zero_add] at ai b5 aj b6 t0 t1 t2 t3;obtain ⟨xi,ak⟩:∃xi,xi=Zcj kt M X i i:=⟨_,rfl⟩;obtain ⟨mi,I⟩:∃mi,mi=M i:=⟨_,rfl⟩;obtain ⟨z,hz⟩:∃z,z=Zcj kt M X i kt:=⟨_,rfl⟩;have a6:xi=X i:=(by rw [ak,Zvh bj.out]);have ax:z=X kt / M kt:=(by rw [hz,Yfd]);have bl:Hid ((Yj n (Zcj kt M X i)).set i (canF (xi - mi * z))=Yj n (Zcj kt M X (i+1))):=JZ (by
         rw [Vg hil];exact ZT fun j hj=>by rw [Zvg bj.out,a6,I,ax])
        have a4:(canF xi).Sm:=(by rw [a6];exact (bc.out i hil).rs.sm (by have:=HE.out;omega));have bn:(canF mi).Sm:=(by rw [I];exact (aq.out i hil).rs.sm (by have:=HE.out;omega));have a7:Sz (5^n * K) z:=by
         have:=cn.out kt A;unfold Zqt at this;rw [if_pos rfl] at this;rw [ax];exact this
        have bo:(canF z).Sm:=a7.rs.sm (by have:=HE.out;omega);have bp:(canF (mi * z)).Sm:=(XN (by rw [I];exact aq.out i hil) a7).rs.sm (by have:=HE.out;omega);have bq:(Yj n (Zcj kt M X i))[i]? =some (canF xi):=(by rw [ak];exact ZK hil);rw [← ak] at ai aj c;rw [← I] at z0 z2 H;rw [← hz] at t0 t2 b7;have hO:=J;clear ak I hz a6 ax a7 J
        go_upto_region 11 with (fail)
        clear ar;have C0:=Zp t0;have C1:=Zp t1;have C2:=Zp t2;have C3:=Zp t3;have D0:=Zp z0;have D1:=Zp z1;have D2:=Zp z2;have D3:=Zp z3;have E0:=Zp ai;have E1:=Zp b5;have E2:=Zp aj;have E3:=Zp b6;have U0:=Zp l;have U1:=Zp m;have f:=Zj w3;clear t0 t1 t2 t3 z0 z1 z2 z3 ai b5 aj b6 l m;refine Zq 19 [0,1,2,3,4,5,6,7,8,9,10,11,12,13,14,15,16,17,18,19] (by kernel_rfl) (by kernel_rfl) ?_;repeat ((first | (refine Zc (v:=?_) rfl rfl rfl ?_ ?_;rotate_left;(· (intro _ E;go_simp;(try go_bits);(try with_reducible rfl)))) | (refine Zg (v:=?_) rfl rfl rfl ?_ ?_;rotate_left;(· (intro _ E;go_simp;(try go_bits);(try with_reducible rfl)))) | refine Zh rfl rfl rfl ?_);(try simp only [Act.put,pu1,pu2,pu3,pu4,pu5,pu6]))
        refine Zd rfl rfl (fun KR hKR=>?_);go_simp;(with_reducible refine (XJ _ _ (canF mi) (canF z) _ (H.below f) (b7.below f) bn bo).mono ?_);rw [Zu,Zu];rintro _ w6 ⟨v6,rfl,e6,ac⟩;have h:=Za f ac f.size;refine hKR.out _ _ (Or.inr h) ?_;clear hKR KR;(try simp only [Act.put,pu1,pu2,pu3,pu4,pu5,pu6]);repeat ((first | (refine Zc (v:=?_) rfl rfl rfl ?_ ?_;rotate_left;(· (intro _ E;go_simp;(try go_bits);(try with_reducible rfl)))) | (refine Zg (v:=?_) rfl rfl rfl ?_ ?_;rotate_left;(· (intro _ E;go_simp;(try go_bits);(try with_reducible rfl)))) | refine Zh rfl rfl rfl ?_);(try simp only [Act.put,pu1,pu2,pu3,pu4,pu5,pu6]))
        refine Zd rfl rfl (fun KR hKR=>?_);go_simp;(with_reducible refine (Vj _ _ (canF xi) (canF (mi * z)) _ (c.below h) e6 a4 bp).mono ?_);rw [Zu,Zu];rintro _ w7 ⟨v7,rfl,e7,cd⟩;have a8:=Za h cd h.size;obtain ⟨B9,l9,k9,af,ag,ah,rfl,_,_⟩:=id e7;have N:=hO.below a8;obtain ⟨_,_,_,_,⟨c0,c1,c2,c3⟩,⟨f0,f1,f2,f3⟩,-⟩:=N.at_ bq;refine hKR.out _ _ (Or.inr a8) ?_;clear hKR KR;(try simp only [Act.put,pu1,pu2,pu3,pu4,pu5,pu6]);repeat ((first | (refine Zc (v:=?_) rfl rfl rfl ?_ ?_;rotate_left;(· (intro _ E;go_simp;(try go_bits);(try with_reducible rfl)))) | (refine Zg (v:=?_) rfl rfl rfl ?_ ?_;rotate_left;(· (intro _ E;go_simp;(try go_bits);(try with_reducible rfl)))) | refine Zh rfl rfl rfl ?_);(try simp only [Act.put,pu1,pu2,pu3,pu4,pu5,pu6]))
        refine Zd rfl rfl (fun KR hKR=>?_);go_simp;refine hKR.out _ _ (Or.inl (by decide)) ?_;clear hKR KR;(try simp only [Act.put,pu1,pu2,pu3,pu4,pu5,pu6]);refine Zz ?_;clear C0 C1 C2 C3 D0 D1 D2 D3 E0 E1 E2 E3 U0 U1;obtain ⟨ca,cb⟩:=N.set_ (k:=i) (by rw [Zm];exact hil) e7;rw [bl.out] at ca;have ct:=cb.bk (a5.later a8) (by decide);have br:=Zw (Za y a8 y.size) bv (i * 4) (i * 4+1) (i * 4+2) (i * 4+3) (.bool (canF (xi - mi * z)).num.neg) (.slice B9 l9 k9) (.bool (canF (xi - mi * z)).den.neg) (.slice af ag ah);clear hO N a5 y f h a8 e6 e7 ac cd c0 c1 c2 c3 f0 f1 f2 f3 c H b7 cb a4 bn bo bp bq bl;go_wp2;go_roundw
        case rel=>exact ⟨i+1,by omega,by go_num,ca,ct,br⟩
        case measure=>simp [intOf];omega
     ·obtain rfl:n=i:=by omega
      rw [ZT fun j hj=>Zzd hj,← am.out] at hO;go_wp2;go_roundw
      case rel=>exact ⟨t+1,by omega,by go_num,hO,a⟩
      case measure=>simp [intOf];omega
  ·obtain rfl:T=t:=by omega
   go_wp2;go_ret;exact ⟨_,_,rfl,fun r hr=>by rw [← ci.out];exact ba.out r hr,ap.out _ (JY _),hO,a⟩
namespace Pl
def X5 (k:Nat) (M X:Nat→Rat) (i:Nat):Rat:=X k - ZO (fun i=>if i=k then 0 else M i * X i) i
theorem Zgf {k:Nat} {M X:Nat→Rat}:X5 k M X 0=X k:=by unfold X5;rw [YK];grind
theorem Zbk {k i:Nat} {M X:Nat→Rat} (h:i=k∨M i=0∨X i=0):X5 k M X i=X5 k M X (i+1):=by
 unfold X5;rw [ZC];by_cases e:i=k
 ·rw [if_pos e];grind
 ·rw [if_neg e];rcases h with h | h | h
  ·exact absurd h e
  ·rw [h];grind
  ·rw [h];grind
theorem Zrn {k i:Nat} {M X:Nat→Rat} (h:i≠k):X5 k M X (i+1)=X5 k M X i - M i * X i:=by
 unfold X5;rw [ZC,if_neg h];grind
theorem Ydd {n k i E:Nat} {M X:Nat→Rat} (hE:1≤E) (hn:n≤7) (hk:k < n) (hx:∀i,i < n→Sz (22 * E) (X i)) (hm:∀i,i < n→Sz E (M i)) (hi:i≤n):Sz (200 * E) (X5 k M X i):=by
 have h1:Sz (1+i * (23 * E+1)) (ZO (fun i=>if i=k then 0 else M i * X i) i):=Zjg fun j hj=>by
  split
  ·exact Sz_zero.mono (by omega)
  ·exact (XN (hm j (by omega)) (hx j (by omega))).mono (by omega)
 have h2:i * (23 * E+1)≤7 * (23 * E+1):=JS _ (by omega);exact (Zcy (hx k hk) h1).mono (by omega)
end Pl
def Yai (w:World) (g:Nat) (q:Rat):Prop:=
 ∃A n c A' n' c',Bk w g 46 [.bool (canF q).num.neg,.slice A n c,.bool (canF q).den.neg,.slice A' n' c']∧Zt w (.agg #[.bool (canF q).num.neg,.slice A n c,.bool (canF q).den.neg,.slice A' n' c']) (canF q)
theorem Yai.below {w w':World} {g:Nat} {q:Rat} (h:Yai w g q) (hb:Below w.heap.size w w'):Yai w' g q:=by
 obtain ⟨A,n,c,A',n',c',h1,h2⟩:=h;exact ⟨A,n,c,A',n',c',h1.later hb,h2.below hb⟩
theorem Zro (base bi g n K:Nat) (Cs:Mx) (v:Value) (es:List En) (w:World) (hB:Zna base bi w g n K Cs) (h:Vf w v es) (hgo:Pl.Good n es) (hrs:∀(k:Nat) (e:En),es[k]? =some e→e.f.Rs K):
 Calls Tryz.prog 140 #[.pointer (some ⟨g,0,none⟩),v] w fun o w'=>∃v' x,o= .returned (.tuple #[v',.int .i64 0])∧(∀r,r < n→Xz n Cs x r=Wl es r)∧(∀i,i < n→Sz (5^n * K) (x i))∧Ut w.heap.size w' v' (spV x n)∧Below w.heap.size w w':=by
 have HB:=JZ hB;obtain ⟨T,gc,cc,k,R,C,im,V,L,Um,CC,s0,s1,s2,s3,vu,hX,⟨s,hT,hE,t⟩,hU,hF,-⟩:=hB;have y1:w.cell? ⟨g,0,none⟩=some (.int .i64 (n:Int)):=hX.cellAt 0 rfl;have u:=hF.n7;have p:Hid (1≤K):=JZ (Nat.pos_of_ne_zero fun e=>by have:=hF.e1;subst e;simp at this);have HE:Hid (5^n * K≤4000000):=JZ hE;have q:Hid (K≤4000000):=JZ (JW (Nat.le_mul_of_pos_left K (Nat.pow_pos (by decide))) hE);clear hX hU hF t hE hT s;go_enter Tryz.func140,Tryz.ntmps140;go_wp2_with fail;refine (Wo v es n K _ h (by omega) hrs (by have:=q.out;omega) hgo).mono ?_;rintro _ w1 ⟨v1,rfl,e1,b⟩;obtain ⟨A1,c1,rfl⟩:=e1.slice;clear y1 h;go_wp2_with fail;refine (Zrm base bi g n K Cs _ (Wl es) _ (HB.out.below b) e1.frs (fun i _=>Sz_col hrs p.out i)).mono ?_;rintro _ w2 ⟨v2,x,rfl,hx,j,e2,l⟩;have HX:=JZ hx;have c:=JZ j;have a:=Za b l b.size;obtain ⟨A2,c2,rfl⟩:=e2.slice;clear e1 hx j l;go_wp2_with fail;refine (YI _ (Yj n x) (5^n * K) _ e2.frs (by rw [Zm];omega) (Zbc fun i hi=>c.out i hi) (by have:=HE.out;omega)).mono ?_;rw [Zm,Wm (g:=x) fun i hi=>YH hi];rintro _ w3 ⟨v3,rfl,e3,m⟩;have d:=Za a m a.size;have e3:Ut w.heap.size w3 v3 (spV x n):=by
  obtain ⟨cs,g1,g2⟩:=e3;exact ⟨cs,Wy g1 a.size,g2⟩
 clear e2 b a m;go_wp2;go_ret2;exact ⟨_,x,rfl,HX.out,c.out,e3,d⟩
theorem Znb (base bi g n K:Nat) (Cs:Mx) (v:Value) (es:List En) (w:World) (hB:Zna base bi w g n K Cs) (h:Vf w v es) (hgo:Pl.Good n es) (hrs:∀(k:Nat) (e:En),es[k]? =some e→e.f.Rs K):
 Calls Tryz.prog 123 #[.pointer (some ⟨g,0,none⟩),v] w fun o w'=>∃v' y,o= .returned (.tuple #[v',.int .i64 0])∧(∀c,c < n→Xz n (trM Cs) y c=Wl es c)∧(∀i,i < n→Sz (5^n * K) (y i))∧Ut w.heap.size w' v' (spV y n)∧Below w.heap.size w w':=by
 obtain ⟨T,gc,cc,k,R,C,im,V,L,Um,CC,s0,s1,s2,s3,vu,hX,⟨dj,hT,hE,cq⟩,hU,hF,hO,i0,i1,v2,v3,bl⟩:=hB;obtain ⟨Au,cu,rfl,cr,dx⟩:=bl.shape;have b9:=Yah hX i0 i1 v2 v3;have bs:=hF.n7;have ba:1≤K:=Nat.pos_of_ne_zero fun e=>by have:=hF.e1;subst e;simp at this
 obtain ⟨d,hd⟩:∃d,d=Wl es:=⟨_,rfl⟩;have bb:∀r,r < n→Sz K (d r):=fun r _=>by rw [hd];exact Sz_col hrs ba r
 have hy:∀c,c < n→Xz n (trM (CC 0)) (solT n R C L Um (cN n T k im d T)) c=cN n T k im d T c:=hF.fac.solT _;have bt:=JZ (hU.cB bs ba bb hy);have bc:=JZ (hU.yB bb hy);have bu:=JZ (hU.solvesT hy T (JY _));have cz:=JZ hU.imB;have d0:=JZ hU.kn;have d3:=JZ hU.nz;have HE:=JZ hE;have d4:Hid (1≤5^n * K):=JZ hF.e1;have d5:=JZ bs;have d6:=JZ cq;have bv:=JZ bl;have HD:=JZ hd;have d7:=JZ b9;have HF:=JZ hF;have HY:Hid (w.cell? ⟨g,6,none⟩=some (.slice Au T cu)):=JZ (hX.cellAt 6 rfl);have y1:w.cell? ⟨g,0,none⟩=some (.int .i64 (n:Int)):=hX.cellAt 0 rfl;have d8:Hid (K≤4000000):=JZ (JW (Nat.le_mul_of_pos_left K (Nat.pow_pos (by decide))) hE);have d9:=JZ hgo;have da:=JZ hrs;clear hX hU hF cq hE dj bl hO i0 i1 v2 v3 b9 hy bb hd ba hgo hrs;go_enter Tryz.func123,Tryz.ntmps123;go_wp2_with fail;refine (Wo v es n K _ h (by omega) da.out (by have:=d8.out;omega) d9.out).mono ?_;rintro _ w1 ⟨v1,rfl,e1,bq⟩;obtain ⟨A5,c5,ct⟩:=e1.slice;rw [Zm] at ct;subst ct;obtain ⟨-,dy,dz⟩:=e1.frs.len;rw [← HD.out] at e1;clear y1 h;have y2:=Zf bq HY.out;go_wp2;clear y2
 go_loopw [8] (fun x wr=>∃(j:Nat) (tz:Int),j≤T∧tz=(T:Int) - 1 - j∧x= .int .i64 tz∧Z4 w.heap.size wr (.slice A5 n c5) (Yj n (cN n T k im d j))∧Below w.heap.size w wr) (fun x _=>(intOf x+1).toNat)
 case atStart=>exact ⟨0,(T:Int) - 1,by omega,by omega,rfl,e1,bq⟩
 case round=>
  clear e1 bq;obtain ⟨j,tz,hj,bn,rfl,hO,a⟩:=hrel;rcases Int.lt_or_le tz 0 with hneg | aj
  ·obtain rfl:T=j:=by omega
   clear bn;have HO:=JZ hO;clear hO;go_wp2_with fail;refine (Zhq g 2 _ n (5^n * K) (trM (CC 0)) R C L Um _ _ (d7.out.below a) HO.out.frs HF.out (fun i hi=>(bt.out T (JY _) i hi).mono (by omega)) bc.out).mono ?_;rintro _ w2 ⟨v2,rfl,e2,cw⟩;have D:=Za a cw a.size;obtain ⟨A2,c2,rfl⟩:=e2.slice;obtain ⟨y,b6⟩:∃y,y=solT n R C L Um (cN n T k im d T):=⟨_,rfl⟩;have bd:=JZ b6;rw [← b6] at e2;rw [← b6];clear a cw b6;go_wp2_with fail;refine (YI _ (Yj n y) (5^n * K) _ e2.frs (by rw [Zm];omega) (Zbc fun i hi=>by rw [bd.out];exact bc.out i hi) (by have:=HE.out;omega)).mono ?_;rw [Zm,Wm (g:=y) fun i hi=>YH hi];rintro _ w3 ⟨v3,rfl,e3,p⟩;have m:=Za D p D.size;have e3:Ut w.heap.size w3 v3 (spV y n):=by
    obtain ⟨cs,g1,g2⟩:=e3;exact ⟨cs,Wy g1 D.size,g2⟩
   clear e2 D p;go_wp2;go_ret2;exact ⟨_,y,rfl,fun c hc=>by
    have:=bu.out c hc;rw [Nat.sub_self] at this;rw [← d6.out,bd.out,this,← HD.out];rfl,fun i hi=>by rw [bd.out];exact bc.out i hi,e3,m⟩
  ·obtain ⟨t,rfl⟩:=JT aj;have ai:t < T:=(by omega);have be:=JZ bn;clear bn aj;have Z:=d0.out t ai;have aj:0 < n:=(by omega);obtain ⟨gx,cx,cv,dk,dl,-,-⟩:=hO.shape (by rw [Zm];omega);rw [Zm] at cv;injection cv with a1 a2 a3;subst a1;clear a2 a3 cx;obtain ⟨gu,B,d',rfl,-,⟨u0,u1⟩,⟨d1,d2⟩,bo⟩:=bv.out.elem a ai;obtain ⟨X,b7⟩:∃X,X=cN n T k im d j:=⟨_,rfl⟩;obtain ⟨M,ae⟩:∃M,M=im t:=⟨_,rfl⟩;obtain ⟨kt,b8⟩:∃kt,kt=k t:=⟨_,rfl⟩;have bw:Hid (Yj n (cN n T k im d (j+1))=Yj n (Zmm n kt M X)):=JZ (by
    rw [b7,ae,b8,show t=T - 1 - j by have:=be.out;omega];rfl)
   have bf:Hid (∀i,i < n→Sz (22 * (5^n * K)) (X i)):=JZ fun i hi=>by rw [b7];exact bt.out j hj i hi
   have b0:Hid (∀i,i < n→Sz (5^n * K) (M i)):=JZ fun i hi=>by rw [ae];exact cz.out t ai i hi
   have db:Hid (M kt≠0):=JZ (by rw [ae,b8];exact d3.out t ai);rw [← b7] at hO;rw [← ae] at bo;rw [← b8] at Z u0;have bg:Hid (Xh w (.slice B n d') (Yj n M)):=JZ (by
    obtain ⟨_,B',eb,au,-,⟨-,e2⟩,-,h3⟩:=bv.out.elem (JR _ _) ai;injection au with au;injection au with au;subst au;have e3:=Zf a e2;rw [u1] at e3;injection e3 with e3;injection e3 with b1 b2 b3;subst b1 b3;rw [ae];exact h3)
   clear b7 ae b8;have bx:∀i,X5 kt M X i=X kt - ZO (fun i=>if i=kt then 0 else M i * X i) i:=fun _=>rfl
   have ca:Hid (∀i,i≤n→Sz (200 * (5^n * K)) (X5 kt M X i)):=JZ fun i hi=>Ydd d4.out (by have:=d5.out;omega) Z bf.out b0.out hi
   clear bx;have e0:T≤cu:=(by have:=cr;omega);obtain ⟨W1,dm,hV,av⟩:∃W1,wr.alloc (.cells #[.int .i64 (kt:Int),.slice B n d'] 166)=W1∧Bk W1 wr.heap.size 166 [.int .i64 (kt:Int),.slice B n d']∧Below wr.heap.size wr W1:=⟨_,rfl,Bk.new wr _ _,Zb wr _⟩;have bh:=hO.below av;have cb:=bo.below av;have ab:=Za a av a.size;obtain ⟨s,A,_,_⟩:=hV.two;have cd:(Yj n X)[kt]? =some (canF (X kt)):=ZK Z;obtain ⟨bz,oz,A6,n6,c6,A7,n7,c7,hA,_,⟨t0,t1,t2,t3⟩,F⟩:=bh.frs.elem (JR _ _) cd;injection hA with hA;injection hA with hA1 hA2;subst hA1;subst hA2;simp only [Nat.zero_add] at t0 t1 t2 t3;have e4:(kt:Int) < n:=(by omega);have y2:=Zf a HY.out;have hR:=Bk.new W1 46 [.bool (canF (X kt)).num.neg,.slice A6 n6 c6,.bool (canF (X kt)).den.neg,.slice A7 n7 c7];have ak:=Zb W1 (.cells #[.bool (canF (X kt)).num.neg,.slice A6 n6 c6,.bool (canF (X kt)).den.neg,.slice A7 n7 c7] 46);have e5:gx < W1.heap.size:=Nat.lt_of_lt_of_le dl av.size;have dc:w.heap.size≤W1.heap.size:=ab.size;have dw:w.heap.size≤wr.heap.size:=a.size;have e8:(t:Int) < T:=(by omega);clear hO a bo
   go_upto_region 8 with (fail)
   clear u0 u1 y2;clear dm;go_wp2;clear s A t0 t1 t2 t3;have ce:=bh.below ak;have cf:=hV.later ak;have cg:=F.below ak;have D:=Za ab ak ab.size;clear bh cb hV F ab ak av;generalize W1.alloc (.cells #[.bool (canF (X kt)).num.neg,.slice A6 n6 c6,.bool (canF (X kt)).den.neg,.slice A7 n7 c7] 46)=W2 at *;generalize W1.heap.size=gr at *;generalize wr.heap.size=dv at *
   go_loopw [48] (fun x wx=>∃i:Nat,i≤n∧x= .int .i64 i∧Z4 w.heap.size wx (.slice (some ⟨gx,0,none⟩) n c5) (Yj n X)∧Bk wx dv 166 [.int .i64 (kt:Int),.slice B n d']∧Yai wx gr (X5 kt M X i)∧Below w.heap.size w wx) (fun x _=>n - (intOf x).toNat)
   case atStart=>exact ⟨0,by omega,rfl,ce,cf,⟨A6,n6,c6,A7,n7,c7,by rw [Zgf];exact hR,by rw [Zgf];exact cg⟩,D⟩
   case round=>
    clear ce cf hR cg D;obtain ⟨i,hi,rfl,hO,hV,a6,a⟩:=hrel;rcases JX i n with hil | hil
    ·obtain ⟨s,A,_,_⟩:=hV.two;have e9:(i:Int) < n:=(by omega);by_cases br:i=kt
     ·have al:Hid (X5 kt M X i=X5 kt M X (i+1)):=JZ (Zbk (.inl br));subst br;rw [al.out] at a6;go_wp2;go_roundw
      case rel=>exact ⟨i+1,by omega,by go_num,hO,hV,a6,a⟩
      case measure=>simp [intOf];omega
     ·have dd:=JZ br;have ea:(i:Int)≠kt:=(by omega);obtain ⟨bm,om,A8,n8,c8,A9,n9,c9,rfl,_,⟨z0,z1,z2,z3⟩,O⟩:=bg.out.elem a (ZK hil);have am:qs (M i)=0∨qs (M i)=1∨qs (M i)= -1:=(by have:=Ul (M i);omega);by_cases ay:qs (M i)=0
      ·have al:Hid (X5 kt M X i=X5 kt M X (i+1)):=JZ (Zbk (.inr (.inl (Yp.1 ay))));clear am;go_wp2_with fail;refine (Zx _ (canF (M i)) _ O).mono ?_;rw [Zu,ay];rintro _ w3 ⟨rfl,p⟩;have a0:=hO.below p;have a4:=a6.below p;rw [al.out] at a4;have a5:=hV.later p;have m:=Za a p a.size;clear hO hV a6 a p ay z0 z1 z2 z3 O s A;go_wp2;go_roundw
       case rel=>exact ⟨i+1,by omega,by go_num,a0,a5,a4,m⟩
       case measure=>simp [intOf];omega
      ·have de:(qs (M i) !=0)=true:=(by simpa using ay);clear am ay;go_wp2_with fail;refine (Zx _ (canF (M i)) _ O).mono ?_;rw [Zu];rintro _ w3 ⟨rfl,p⟩;have a0:=hO.below p;have a4:=a6.below p;have a5:=hV.later p;have m:=Za a p a.size;clear hO hV a6 a p z0 z1 z2 z3 O s A;obtain ⟨s,A,_,_⟩:=a5.two;obtain ⟨b',o',A4,n4,c4,A5,n5,dn,hA,_,⟨P,a7,S,a8⟩,F⟩:=a0.frs.elem (JR _ _) (ZK hil);injection hA with hA;injection hA with hA1 hA2;subst hA1;subst hA2;simp only [Nat.zero_add] at P a7 S a8;have am:qs (X i)=0∨qs (X i)=1∨qs (X i)= -1:=(by have:=Ul (X i);omega);by_cases az:qs (X i)=0
       ·have al:Hid (X5 kt M X i=X5 kt M X (i+1)):=JZ (Zbk (.inr (.inr (Yp.1 az))));clear am;go_wp2_with fail;refine (Zx _ (canF (X i)) _ F).mono ?_;rw [Zu,az];rintro _ w4 ⟨rfl,G⟩;have df:=a0.below G;have b4:=a4.below G;rw [al.out] at b4;have an:=a5.later G;have I:=Za m G m.size;clear a0 a5 a4 m G az P a7 S a8 F s A;go_wp2;go_roundw
        case rel=>exact ⟨i+1,by omega,by go_num,df,an,b4,I⟩
        case measure=>simp [intOf];omega
       ·have dg:(qs (X i) !=0)=true:=(by simpa using az);clear am az;go_wp2_with fail;refine (Zx _ (canF (X i)) _ F).mono ?_;rw [Zu];rintro _ w4 ⟨rfl,G⟩;have hO:=a0.below G;have b4:=a4.below G;have an:=a5.later G;have I:=Za m G m.size;clear a0 a5 a4 m G P a7 S a8 F s A;obtain ⟨s,A,_,_⟩:=an.two;obtain ⟨b',o',A4,n4,c4,A5,n5,dn,hA,_,⟨P,a7,S,a8⟩,F⟩:=hO.frs.elem (JR _ _) (ZK hil);injection hA with hA;injection hA with hA1 hA2;subst hA1;subst hA2;obtain ⟨b',o',A8,n8,c8,A9,n9,c9,hA,_,⟨z0,z1,z2,z3⟩,O⟩:=bg.out.elem I (ZK hil);injection hA with hA;injection hA with hA1 hA2;subst hA1;subst hA2;simp only [Nat.zero_add] at P a7 S a8;obtain ⟨dp,dq,dr,ds,dt,du,a9,aa⟩:=b4;obtain ⟨t0,t1,t2,t3⟩:=a9.four;have ao:Hid (X5 kt M X (i+1)=X5 kt M X i - M i * X i):=JZ (Zrn dd.out);obtain ⟨rr,J⟩:∃rr,rr=X5 kt M X i:=⟨_,rfl⟩;obtain ⟨xi,aw⟩:∃xi,xi=X i:=⟨_,rfl⟩;obtain ⟨mi,U⟩:∃mi,mi=M i:=⟨_,rfl⟩;have ch:(canF xi).Sm:=(by rw [aw];exact (bf.out i hil).rs.sm (by have:=HE.out;omega));have ci:(canF mi).Sm:=(by rw [U];exact (b0.out i hil).rs.sm (by have:=HE.out;omega));have ap:(canF rr).Sm:=(by rw [J];exact (ca.out i hi).rs.sm (by have:=HE.out;omega));have cj:(canF (mi * xi)).Sm:=(XN (by rw [U];exact b0.out i hil) (by rw [aw];exact bf.out i hil)).rs.sm (by have:=HE.out;omega);have ck:=JZ J;have cl:=JZ aw;have cm:=JZ U;rw [← aw] at P S F;rw [← U] at z0 z2 O;rw [← J] at t0 t2 aa a9;clear aw U J
        go_upto_region 13 with (fail)
        clear de dg;have C0:=Zp t0;have C1:=Zp t1;have C2:=Zp t2;have C3:=Zp t3;have D0:=Zp z0;have D1:=Zp z1;have D2:=Zp z2;have D3:=Zp z3;have E0:=Zp P;have E1:=Zp a7;have E2:=Zp S;have E3:=Zp a8;have U0:=Zp s;have U1:=Zp A;have E:=Zj w4;clear t0 t1 t2 t3 z0 z1 z2 z3 P a7 S a8 s A;refine Zq 12 [0,1,2,3,4,5,6,7,8,9,10,11,12] (by kernel_rfl) (by kernel_rfl) ?_;repeat ((first | (refine Zc (v:=?_) rfl rfl rfl ?_ ?_;rotate_left;(· (intro _ N;go_simp;(try go_bits);(try with_reducible rfl)))) | (refine Zg (v:=?_) rfl rfl rfl ?_ ?_;rotate_left;(· (intro _ N;go_simp;(try go_bits);(try with_reducible rfl)))) | refine Zh rfl rfl rfl ?_);(try simp only [Act.put,pu1,pu2,pu3,pu4,pu5,pu6]))
        refine Zd rfl rfl (fun KR hKR=>?_);go_simp;(with_reducible refine (XJ _ _ (canF mi) (canF xi) _ (O.below E) (F.below E) ci ch).mono ?_);rw [Zu,Zu];rintro _ w6 ⟨v6,rfl,e6,ax⟩;have H:=Za E ax E.size;refine hKR.out _ _ (Or.inr H) ?_;clear hKR KR;(try simp only [Act.put,pu1,pu2,pu3,pu4,pu5,pu6]);repeat ((first | (refine Zc (v:=?_) rfl rfl rfl ?_ ?_;rotate_left;(· (intro _ N;go_simp;(try go_bits);(try with_reducible rfl)))) | (refine Zg (v:=?_) rfl rfl rfl ?_ ?_;rotate_left;(· (intro _ N;go_simp;(try go_bits);(try with_reducible rfl)))) | refine Zh rfl rfl rfl ?_);(try simp only [Act.put,pu1,pu2,pu3,pu4,pu5,pu6]))
        refine Zd rfl rfl (fun KR hKR=>?_);go_simp;(with_reducible refine (Vj _ _ (canF rr) (canF (mi * xi)) _ (aa.below H) e6 ap cj).mono ?_);rw [Zu,Zu];rintro _ w7 ⟨v7,rfl,e7,cy⟩;have ac:=Za H cy H.size;obtain ⟨B9,l9,k9,af,ag,ah,rfl,_,_⟩:=id e7;have aq:=a9.later ac;obtain ⟨c0,c1,c2,c3⟩:=aq.four;obtain ⟨f0,f1,f2,f3⟩:=aq.fourF;refine hKR.out _ _ (Or.inr ac) ?_;clear hKR KR;(try simp only [Act.put,pu1,pu2,pu3,pu4,pu5,pu6]);repeat ((first | (refine Zc (v:=?_) rfl rfl rfl ?_ ?_;rotate_left;(· (intro _ N;go_simp;(try go_bits);(try with_reducible rfl)))) | (refine Zg (v:=?_) rfl rfl rfl ?_ ?_;rotate_left;(· (intro _ N;go_simp;(try go_bits);(try with_reducible rfl)))) | refine Zh rfl rfl rfl ?_);(try simp only [Act.put,pu1,pu2,pu3,pu4,pu5,pu6]))
        refine Zd rfl rfl (fun KR hKR=>?_);go_simp;refine hKR.out _ _ (Or.inl (by decide)) ?_;clear hKR KR;(try simp only [Act.put,pu1,pu2,pu3,pu4,pu5,pu6]);refine Zz ?_;clear C0 C1 C2 C3 D0 D1 D2 D3 E0 E1 E2 E3 U0 U1;have cn:=Yq (w:=w7) (g:=gr) (i:=0) (j:=1) (k:=2) (l:=3) (x:= .bool (canF (rr - mi * xi)).num.neg) (y:= .slice B9 l9 k9) (z:= .bool (canF (rr - mi * xi)).den.neg) (u:= .slice af ag ah);have ad:=aq.but4 (.bool (canF (rr - mi * xi)).num.neg) (.slice B9 l9 k9) (.bool (canF (rr - mi * xi)).den.neg) (.slice af ag ah);have b5:=(hO.below ac).others cn (ad.keep (by decide)) (fun b hb e=>by simp [Value.ownBlock] at hb;injection e with e;omega);have dh:=ad.bk (an.later ac) (by decide);have ar:=ZG (Za I ac I.size) dc (.bool (canF (rr - mi * xi)).num.neg) (.slice B9 l9 k9) (.bool (canF (rr - mi * xi)).den.neg) (.slice af ag ah);have di:Yai _ gr (X5 kt M X (i+1)):=⟨B9,l9,k9,af,ag,ah,by rw [ao.out,← ck.out,← cm.out,← cl.out];exact aq.set4 _ _ _ _,by rw [ao.out,← ck.out,← cm.out,← cl.out];exact e7.keep (ad.keep (by decide))⟩;clear hO aq an I E H ac e6 e7 ax cy c0 c1 c2 c3 f0 f1 f2 f3 F O aa ad cn ch ci ap cj a9;go_wp2;go_roundw
        case rel=>exact ⟨i+1,by omega,by go_num,b5,dh,di,ar⟩
        case measure=>simp [intOf];omega
    ·obtain rfl:n=i:=by omega
     obtain ⟨dp,dq,dr,ds,dt,du,a9,aa⟩:=a6;obtain ⟨t0,t1,t2,t3⟩:=a9.four;obtain ⟨s,A,_,_⟩:=hV.two;obtain ⟨bm,om,A8,n8,c8,A9,n9,c9,rfl,_,⟨z0,z1,z2,z3⟩,bp⟩:=bg.out.elem a (ZK Z);have ao:Hid ((Yj n X).set kt (canF (X5 kt M X n / M kt))=Yj n (Zmm n kt M X)):=JZ (by
      rw [Vg Z];exact ZT fun i hi=>rfl)
     obtain ⟨rr,J⟩:∃rr,rr=X5 kt M X n:=⟨_,rfl⟩;obtain ⟨mk,Y⟩:∃mk,mk=M kt:=⟨_,rfl⟩;have co:(canF mk).Sm:=(by rw [Y];exact (b0.out kt Z).rs.sm (by have:=HE.out;omega));have ap:(canF rr).Sm:=(by rw [J];exact (ca.out n (JY _)).rs.sm (by have:=HE.out;omega));have cp:(canF mk).q≠0:=(by rw [Zu,Y];exact db.out);rw [← J,← Y] at ao;rw [← Y] at z0 z2 bp;rw [← J] at t0 t2 aa;clear Y J a9
     go_upto_region 15 with (fail)
     have C0:=Zp t0;have C1:=Zp t1;have C2:=Zp t2;have C3:=Zp t3;have D0:=Zp z0;have D1:=Zp z1;have D2:=Zp z2;have D3:=Zp z3;have U0:=Zp s;have U1:=Zp A;have E:=Zj wr;clear t0 t1 t2 t3 z0 z1 z2 z3 s A;refine Zq 15 [0,1,2,3,4,5,6,7,8,9,10,11,12,13,14,15] (by kernel_rfl) (by kernel_rfl) ?_;repeat ((first | (refine Zc (v:=?_) rfl rfl rfl ?_ ?_;rotate_left;(· (intro _ N;go_simp;(try go_bits);(try with_reducible rfl)))) | (refine Zg (v:=?_) rfl rfl rfl ?_ ?_;rotate_left;(· (intro _ N;go_simp;(try go_bits);(try with_reducible rfl)))) | refine Zh rfl rfl rfl ?_);(try simp only [Act.put,pu1,pu2,pu3,pu4,pu5,pu6]))
     refine Zd rfl rfl (fun KR hKR=>?_);go_simp;(with_reducible refine (VY _ _ (canF rr) (canF mk) _ (aa.below E) (bp.below E) ap co cp).mono ?_);rw [Zu,Zu];rintro _ w6 ⟨v6,rfl,e6,ax⟩;have H:=Za E ax E.size;obtain ⟨B9,l9,k9,af,ag,ah,rfl,_,_⟩:=id e6;have bj:=hO.below H;obtain ⟨_,_,_,_,⟨c0,c1,c2,c3⟩,⟨f0,f1,f2,f3⟩,-⟩:=bj.at_ cd;refine hKR.out _ _ (Or.inr H) ?_;clear hKR KR;(try simp only [Act.put,pu1,pu2,pu3,pu4,pu5,pu6]);repeat ((first | (refine Zc (v:=?_) rfl rfl rfl ?_ ?_;rotate_left;(· (intro _ N;go_simp;(try go_bits);(try with_reducible rfl)))) | (refine Zg (v:=?_) rfl rfl rfl ?_ ?_;rotate_left;(· (intro _ N;go_simp;(try go_bits);(try with_reducible rfl)))) | refine Zh rfl rfl rfl ?_);(try simp only [Act.put,pu1,pu2,pu3,pu4,pu5,pu6]))
     refine Zd rfl rfl (fun KR hKR=>?_);go_simp;refine hKR.out _ _ (Or.inl (by decide)) ?_;clear hKR KR;(try simp only [Act.put,pu1,pu2,pu3,pu4,pu5,pu6]);refine Zz ?_;clear C0 C1 C2 C3 D0 D1 D2 D3 U0 U1;obtain ⟨b5,ad⟩:=bj.set_ (k:=kt) (by rw [Zm];exact Z) e6;rw [ao.out,← bw.out] at b5;have ar:=Zw (Za a H a.size) dk (kt * 4) (kt * 4+1) (kt * 4+2) (kt * 4+3) (.bool (canF (rr / mk)).num.neg) (.slice B9 l9 k9) (.bool (canF (rr / mk)).den.neg) (.slice af ag ah);clear hO bj hV a E H e6 ax c0 c1 c2 c3 f0 f1 f2 f3 aa bp ad ap co cp;go_wp2;go_roundw
     case rel=>exact ⟨j+1,(t:Int) - 1,by have:=be.out;omega,by have:=be.out;omega,by go_num,b5,ar⟩
     case measure=>simp [intOf]
def Zvv (w:World) (e:Nat) (p:LPd) (ph pv:Int) (vb vB vz:Value):Prop:=
 ∃A n c A' n' c' A'' n'' c'',Bk w e 129 [.slice A n c,.slice A' n' c',.slice A'' n'' c'',.int .i64 ph,vb,.int .i64 pv,vB,vz]∧Xh w (.slice A n c) p.cost∧XO w (.slice A' n' c') p.cols∧Xh w (.slice A'' n'' c'') p.right
theorem Zvv.below {w w':World} {e:Nat} {p:LPd} {ph pv:Int} {vb vB vz:Value} (h:Zvv w e p ph pv vb vB vz) (hb:Below w.heap.size w w'):Zvv w' e p ph pv vb vB vz:=by
 obtain ⟨A,n,c,A',n',c',a,b,d,h1,h2,h3,h4⟩:=h;exact ⟨A,n,c,A',n',c',a,b,d,h1.later hb,h2.below hb,h3.below hb,h4.below hb⟩
theorem Zvv.cells {w:World} {e:Nat} {p:LPd} {ph pv:Int} {vb vB vz:Value} (h:Zvv w e p ph pv vb vB vz):w.cell? ⟨e,3,none⟩=some (.int .i64 ph)∧w.cell? ⟨e,4,none⟩=some vb∧w.cell? ⟨e,5,none⟩=some (.int .i64 pv)∧w.cell? ⟨e,6,none⟩=some vB∧w.cell? ⟨e,7,none⟩=some vz:=by
 obtain ⟨A,n,c,A',n',c',a,b,d,h1,h2,h3,h4⟩:=h;exact ⟨h1.cellAt 3 rfl,h1.cellAt 4 rfl,h1.cellAt 5 rfl,h1.cellAt 6 rfl,h1.cellAt 7 rfl⟩
def Pl.LPd.Ft (p:LPd) (K:Nat):Prop:=p.Fit K∧p.right.length≤7∧5^p.right.length * K≤4000000
theorem Pl.LPd.Ft.k {p:LPd} {K:Nat} (h:p.Ft K):1≤K∧K≤4000000:=⟨h.1.k1,JW h.1.le h.2.2⟩
theorem WX {w w':World} {g:Nat} {x y z u:Value} {b b':Bool} {A A':Option Addr} {n c n' c':Nat} {f:RF} {P:RF→Prop} (hB:Bk w' g 46 [x,y,z,u]) (hm:Zt w' (.agg #[.bool b,.slice A n c,.bool b',.slice A' n' c']) f) (hb:Below w.heap.size w w') (hg:w.heap.size≤g) (hP:P f):
 ∃v' f',Ending.returned (.agg [.bool b,.slice A n c,.bool b',.slice A' n' c'].toArray)= .returned v'∧Zt ((((w'.setCell ⟨g,0,none⟩ (.bool b)).setCell ⟨g,1,none⟩ (.slice A n c)).setCell ⟨g,2,none⟩ (.bool b')).setCell ⟨g,3,none⟩ (.slice A' n' c')) v' f'∧P f'∧Below w.heap.size w ((((w'.setCell ⟨g,0,none⟩ (.bool b)).setCell ⟨g,1,none⟩ (.slice A n c)).setCell ⟨g,2,none⟩ (.bool b')).setCell ⟨g,3,none⟩ (.slice A' n' c')):=
 ⟨_,f,rfl,hm.keep (hB.keep4 (by decide) _ _ _ _),hP,ZG hb hg _ _ _ _⟩
theorem Zen (z:Int) (w:World) (h0: -9223372036854775808≤z) (h1:z≤9223372036854775807):
 Calls Tryz.prog 121 #[.int .i64 z] w fun e w'=>∃v' f,e= .returned v'∧Zt w' v' f∧f=canF (z:Rat)∧Below w.heap.size w w':=by
 obtain ⟨W,hW,hR,g⟩:=YN w (.bool false) (.slice none 0 0) (.bool false) (.slice none 0 0);go_enter Tryz.func121,Tryz.ntmps121;go_wp2_with fail;clear hW;refine (Ww z 1 _ h0 h1 (by omega) (by omega)).mono ?_;rintro _ w1 ⟨v1,hv,e1,b⟩;rw [if_neg (by omega)] at hv e1;subst hv;rw [Zcz] at e1;obtain ⟨B,m,d,B',m',d',rfl,_,_⟩:=id e1;obtain ⟨W2,h,hY,c⟩:=YN w1 (.bool (canF (z:Rat)).num.neg) (.slice B m d) (.bool (canF (z:Rat)).den.neg) (.slice B' m' d');have a:=hR.later (Za b c b.size);obtain ⟨c0,c1,c2,c3⟩:=a.four;obtain ⟨f0,f1,f2,f3⟩:=a.fourF;obtain ⟨x0,x1,x2,x3⟩:=hY.four;go_wp2;clear h;refine Zn Tryz.results121 Tryz.underlying46 (by kernel_rfl) rfl (a.set4 _ _ _ _) rfl ?_;exact WX (P:=fun f=>f=canF (z:Rat)) a (e1.below c) (Za g (Za b c b.size) g.size) (JY _) rfl
theorem Znd (e:Nat) (p:LPd) (K:Nat) (ph pv:Int) (vb vB vz:Value) (j:Int) (w:World) (h:Zvv w e p ph pv vb vB vz) (F:p.Ft K) (hz:lpErr p=0) (h0: -(p.right.length:Int)≤j) (h1:j < p.cols.length):
 Calls Tryz.prog 97 #[.pointer (some ⟨e,0,none⟩),.int .i64 j] w fun o w'=>∃v' es,o= .returned v'∧Vf w' v' es∧p.col j=Wl es∧Pl.Good p.right.length es∧(∀(k:Nat) (e:En),es[k]? =some e→e.f.Rs K)∧Below w.heap.size w w':=by
 obtain ⟨A,n,c,A',n',c',T,J,U,hB,hc,hv,hr⟩:=h;have N:=F.2.1;have H:=F.1.cols;rcases Int.lt_or_le j 0 with hj | hj
 ·obtain ⟨r,V⟩:∃r:Nat,-1 - j=(r:Int):=⟨(-1 - j).toNat,by omega⟩;obtain rfl:j= -1 - (r:Int):=by omega
  have I:r < p.right.length:=by omega
  obtain ⟨f,hf⟩:=Yb (fs:=p.right) (i:=r) I;have O:f.Sm:=(F.1.rs r f hf).sm F.1.kb;obtain ⟨r1,r2,r3⟩:=hr.len;have y2:=hB.cellAt 2 rfl;obtain ⟨b,L,A1,n1,c1,A2,n2,c2,rfl,_,⟨q0,q1,q2,q3⟩,y⟩:=hr.elem (JR _ _) hf;have P:(r:Int) < J:=by omega
  have hq:qAt p.right r=f.q:=Yo hf;have HQ:=JZ hq;have D:Hid (∀s:Rat,s=(if qs f.q < 0 then -1 else 1)→p.col (-1 - (r:Int))=Wl [⟨(r:Int),canF s⟩]∧Pl.Good p.right.length [⟨(r:Int),canF s⟩]∧∀(k:Nat) (e:En),[(⟨(r:Int),canF s⟩:En)][k]? =some e→e.f.Rs K):=JZ fun s hs=>by
   have E:s≠0∧Sz 1 s:=by
    rw [hs];split
    ·exact ⟨by decide,Zoa Sz_one⟩
    ·exact ⟨by decide,Sz_one⟩
   refine ⟨?_,⟨fun k e he=>?_,⟨rfl,trivial⟩,fun k e he=>?_⟩,fun k e he=>?_⟩
   ·rw [LPd.col_neg]
    funext i
    by_cases e:i=r
    ·subst e;rw [if_pos rfl,hq,← hs];show s=if (i:Int)=(i:Int) then (canF s).q else 0
     rw [if_pos rfl,Zu]
    ·rw [if_neg e];show (0:Rat)=if (r:Int)=(i:Int) then (canF s).q else 0
     rw [if_neg (by omega)]
   ·match k,he with
    | 0,he=>simp at he;subst he;constructor <;> simp <;> omega
   ·match k,he with
    | 0,he=>simp at he;subst he;rw [Zu];exact E.1
   ·match k,he with
    | 0,he=>simp at he;subst he;exact (E.2.mono F.1.k1).rs
  have R:qs f.q=0∨qs f.q=1∨qs f.q= -1:=by have:=Ul f.q;omega
  clear hf H F hz hc hv hr;go_enter Tryz.func97,Tryz.ntmps97;go_wp2_with fail;refine (Zx _ f _ y).mono ?_;rintro _ w1 ⟨rfl,v⟩;by_cases hn:qs f.q < 0
  ·have t:=D.out (-1) (by rw [if_pos hn]);have x:=JZ t;clear y2 q0 q1 q2 q3 y t hq;go_wp2_with fail;refine (Ww (-1) 1 _ (by omega) (by omega) (by omega) (by omega)).mono ?_;rintro _ w2 ⟨v2,G,e2,C⟩;rw [if_neg (by omega)] at G e2;subst G;rw [show Rat.divInt (-1) 1=(-1:Rat) by decide] at e2;obtain ⟨B,m,d,B',m',d',rfl,_,_⟩:=id e2;have a:=Za v C v.size;obtain ⟨W2,z,hY,g⟩:=YN w2 (.bool (canF (-1)).num.neg) (.slice B m d) (.bool (canF (-1)).den.neg) (.slice B' m' d');obtain ⟨x0,x1,x2,x3⟩:=hY.four;have e3:=e2.below g;go_wp2;clear z;go_ret;have hZ:=Bk.new W2 83 [.int .i64 (r:Int),.bool (canF (-1)).num.neg,.slice B m d,.bool (canF (-1)).den.neg,.slice B' m' d'];have u:=Zb W2 (.cells #[.int .i64 (r:Int),.bool (canF (-1)).num.neg,.slice B m d,.bool (canF (-1)).den.neg,.slice B' m' d'] 83);obtain ⟨g1,g2,g3⟩:=x.out;exact ⟨_,_,rfl,Vf.one hZ (e3.below u),g1,g2,g3,Za a (Za g u g.size) a.size⟩
  ·have t:=D.out 1 (by rw [if_neg hn]);have x:=JZ t;clear y2 q0 q1 q2 q3 y t hq;go_wp2_with fail;refine (VN _).mono ?_;rintro _ w2 ⟨v2,rfl,e2,C⟩;obtain ⟨B,m,d,B',m',d',rfl,_,_⟩:=id e2;have a:=Za v C v.size;obtain ⟨W2,z,hY,g⟩:=YN w2 (.bool (canF 1).num.neg) (.slice B m d) (.bool (canF 1).den.neg) (.slice B' m' d');obtain ⟨x0,x1,x2,x3⟩:=hY.four;have e3:=e2.below g;go_wp2;clear z;go_ret;have hZ:=Bk.new W2 83 [.int .i64 (r:Int),.bool (canF 1).num.neg,.slice B m d,.bool (canF 1).den.neg,.slice B' m' d'];have u:=Zb W2 (.cells #[.int .i64 (r:Int),.bool (canF 1).num.neg,.slice B m d,.bool (canF 1).den.neg,.slice B' m' d'] 83);obtain ⟨g1,g2,g3⟩:=x.out;exact ⟨_,_,rfl,Vf.one hZ (e3.below u),g1,g2,g3,Za a (Za g u g.size) a.size⟩
 ·obtain ⟨jn,rfl⟩:=JT hj;obtain ⟨es,l⟩:=Xb (cs:=p.cols) (i:=jn) (by omega);obtain ⟨l1,l2,l3⟩:=hv.len;have y1:=hB.cellAt 1 rfl;obtain ⟨b,L,A1,c1,rfl,_,x0,M⟩:=hv.elem (JR _ _) l;obtain ⟨z1,z2,z3,z4,z5⟩:=YA hz;have HG:Hid (p.col (jn:Int)=Wl es∧Pl.Good p.right.length es∧∀(k:Nat) (e:En),es[k]? =some e→e.f.Rs K):=JZ ⟨LPd.col_pos l,⟨z4 jn es l,(z5 jn es l).2,(z5 jn es l).1⟩,(F.1.ok.2.2 jn es l).2⟩;have S:(jn:Int) < n':=by omega
  clear l hz F z1 z2 z3 z4 z5 hc hr hB hv l1;go_enter Tryz.func97,Tryz.ntmps97;go_wp2;go_ret;exact ⟨_,es,rfl,M,HG.out.1,HG.out.2.1,HG.out.2.2,JR _ _⟩
theorem Zgh (e:Nat) (p:LPd) (K m cb base bi gB:Nat) (Cs:Mx) (ph pv:Int) (Ab:Option Addr) (vz v:Value) (es:List En) (w:World) (h:Zvv w e p ph pv (.slice Ab m cb) (.pointer (some ⟨gB,0,none⟩)) vz) (hB:Zna base bi w gB m K Cs) (hv:Vf w v es) (hgo:Pl.Good m es) (hrs:∀(k:Nat) (e:En),es[k]? =some e→e.f.Rs K) (hm:m≤7) (hE:5^m * K≤4000000):
 Calls Tryz.prog 99 #[.pointer (some ⟨e,0,none⟩),v] w fun o w'=>∃v' x,o= .returned v'∧(∀r,r < m→Xz m Cs x r=Wl es r)∧(∀i,i < m→Sz (5^m * K) (x i))∧Z4 w.heap.size w' v' (Yj m x)∧Below w.heap.size w w':=by
 obtain ⟨-,y4,-,y6,-⟩:=h.cells;have l:=JZ hE;clear h hE;go_enter Tryz.func99,Tryz.ntmps99;go_wp2_with fail;refine (Zro base bi gB m K Cs v es _ hB hv hgo hrs).mono ?_;rintro _ w1 ⟨v1,x,rfl,hx,d,e1,a⟩;have HX:=JZ hx;have b:=JZ d;have q:=Zf a y4;obtain ⟨A1,n1,c1,rfl⟩:∃A n c,v1= .slice A n c:=by obtain ⟨A,c,e,_⟩:=e1.vec.shape;exact ⟨A,_,c,e⟩
 clear y4 y6 hB hv hx d hgo hrs;go_wp2_with fail;refine (Wo _ (spV x m) m (5^m * K) _ e1.vec (by omega) (Zaf b.out) (by have:=l.out;omega) (Zae x m)).mono ?_;rw [ZT (g:=x) fun i hi=>by rw [Zdm,if_pos hi]];rintro _ w2 ⟨v2,rfl,e2,j⟩;have s:=Za a j a.size;obtain ⟨A2,n2,c2,rfl⟩:=e2.sliceN;have e3:=e2.monoB a.size;clear e1 e2 a j q;go_wp2;go_ret;exact ⟨_,x,rfl,HX.out,b.out,e3,s⟩
theorem Zkz (e:Nat) (p:LPd) (K:Nat) (ph pv:Int) (vb vB vz:Value) (j:Int) (w:World) (h:Zvv w e p ph pv vb vB vz) (F:p.Ft K) (hj:j < p.cost.length):
 Calls Tryz.prog 122 #[.pointer (some ⟨e,0,none⟩),.int .i64 j] w fun o w'=>∃v' f,o= .returned v'∧Zt w' v' f∧(f.q=VL p ph j∧f.Rs K)∧Below w.heap.size w w':=by
 obtain ⟨W,hW,hR,k⟩:=YN w (.bool false) (.slice none 0 0) (.bool false) (.slice none 0 0);have h':=h.below k;obtain ⟨A,n,c,A',n',c',y,z,C,hB,hc,-,-⟩:=h';have y3:=hB.cellAt 3 rfl;have y0:=hB.cellAt 0 rfl;have HF:=JZ F;have v:=F.1.cols;have u:=F.1.cl;clear h F;by_cases h1:ph=2∧0≤j
 ·obtain ⟨rfl,r⟩:=h1;rw [Zqx r];obtain ⟨jn,rfl⟩:=JT r;rw [JP];obtain ⟨f,hf⟩:=Yb (fs:=p.cost) (i:=jn) (by omega);have HQ:Hid (f.q=qAt p.cost jn∧f.Rs K):=JZ ⟨(Yo hf).symm,HF.out.1.cs jn f hf⟩;obtain ⟨r1,r2,r3⟩:=hc.len;obtain ⟨b,D,B1,n1,k1,B2,n2,k2,rfl,_,⟨q0,q1,q2,q3⟩,t⟩:=hc.elem (JR _ _) hf;have x:(jn:Int) < n:=by omega
  obtain ⟨c0,c1,c2,c3⟩:=hR.four;obtain ⟨f0,f1,f2,f3⟩:=hR.fourF;clear hf hc hj;go_enter Tryz.func122,Tryz.ntmps122;go_wp2;clear hW;refine Zn Tryz.results122 Tryz.underlying46 (by kernel_rfl) rfl (hR.set4 _ _ _ _) rfl ?_;exact WX (P:=fun f'=>f'.q=qAt p.cost jn∧f'.Rs K) hR t k (JY _) HQ.out
 ·by_cases h2:ph=1∧j < 0
  ·obtain ⟨rfl,r⟩:=h2;rw [Zus r];clear hc y0;go_enter Tryz.func122,Tryz.ntmps122;go_wp2_with fail;clear hW y3;refine (Zen 1 _ (by omega) (by omega)).mono ?_;rintro _ w1 ⟨v1,s,rfl,e1,rfl,g⟩;obtain ⟨B,m,d,B',m',d',rfl,_,_⟩:=id e1;have a:=hR.later g;obtain ⟨c0,c1,c2,c3⟩:=a.four;obtain ⟨f0,f1,f2,f3⟩:=a.fourF;go_wp2;refine Zn Tryz.results122 Tryz.underlying46 (by kernel_rfl) rfl (a.set4 _ _ _ _) rfl ?_;exact WX (P:=fun f'=>f'.q=1∧f'.Rs K) a e1 (Za k g k.size) (JY _) ⟨by rw [Zu];rfl,((show Sz 1 ((1:Int):Rat) from Sz_one).mono HF.out.1.k1).rs⟩
  ·rw [Zqy h2 h1];have HZ:=JZ HF.out.1.k1;have l:Calls Tryz.prog 121 #[.int .i64 0] W fun e w'=>∃v' f,e= .returned v'∧Zt w' v' f∧f=canF ((0:Int):Rat)∧Below W.heap.size W w':=Zen 0 W (by omega) (by omega)
   by_cases c2:ph=2
   ·subst c2;have r:j < 0:=(by omega);clear hc y0;go_enter Tryz.func122,Tryz.ntmps122;go_wp2_with fail;clear hW y3;refine l.mono ?_;clear l;rintro _ w1 ⟨v1,s,rfl,e1,rfl,g⟩;obtain ⟨B,m,d,B',m',d',rfl,_,_⟩:=id e1;have a:=hR.later g;obtain ⟨c0,c1,c2,c3⟩:=a.four;obtain ⟨f0,f1,f2,f3⟩:=a.fourF;go_wp2;refine Zn Tryz.results122 Tryz.underlying46 (by kernel_rfl) rfl (a.set4 _ _ _ _) rfl ?_;exact WX (P:=fun f'=>f'.q=0∧f'.Rs K) a e1 (Za k g k.size) (JY _) ⟨by rw [Zu];rfl,((show Sz 1 ((0:Int):Rat) from Sz_zero).mono HZ.out).rs⟩
   ·by_cases c1:ph=1
    ·subst c1;have r:0≤j:=(by omega);clear hc y0;go_enter Tryz.func122,Tryz.ntmps122;go_wp2_with fail;clear hW y3;refine l.mono ?_;clear l;rintro _ w1 ⟨v1,s,rfl,e1,rfl,g⟩;obtain ⟨B,m,d,B',m',d',rfl,_,_⟩:=id e1;have a:=hR.later g;obtain ⟨c0,c1,c2,c3⟩:=a.four;obtain ⟨f0,f1,f2,f3⟩:=a.fourF;go_wp2;refine Zn Tryz.results122 Tryz.underlying46 (by kernel_rfl) rfl (a.set4 _ _ _ _) rfl ?_;exact WX (P:=fun f'=>f'.q=0∧f'.Rs K) a e1 (Za k g k.size) (JY _) ⟨by rw [Zu];rfl,((show Sz 1 ((0:Int):Rat) from Sz_zero).mono HZ.out).rs⟩
    ·have h3:(ph==2)=false:=(by simpa using c2);have h4:(ph==1)=false:=(by simpa using c1);clear hc y0 h1 h2;go_enter Tryz.func122,Tryz.ntmps122;go_wp2_with fail;clear hW y3;refine l.mono ?_;clear l;rintro _ w1 ⟨v1,s,rfl,e1,rfl,g⟩;obtain ⟨B,m,d,B',m',d',rfl,_,_⟩:=id e1;have a:=hR.later g;obtain ⟨c0,c1,c2,c3⟩:=a.four;obtain ⟨f0,f1,f2,f3⟩:=a.fourF;go_wp2;refine Zn Tryz.results122 Tryz.underlying46 (by kernel_rfl) rfl (a.set4 _ _ _ _) rfl ?_;exact WX (P:=fun f'=>f'.q=0∧f'.Rs K) a e1 (Za k g k.size) (JY _) ⟨by rw [Zu];rfl,((show Sz 1 ((0:Int):Rat) from Sz_zero).mono HZ.out).rs⟩
namespace Pl
theorem Yfu {m:Nat} (h:m≤3):5^m * 32≤4000:=by
 have:m=0∨m=1∨m=2∨m=3:=by omega
 rcases this with rfl | rfl | rfl | rfl <;> decide
theorem Ych.ft {p:LPd} (hok:Ych p) (hr:RsL 32 p.right):p.Ft 32:=by
 have h1:=hok.2.1;have h2:=hok.2.2.1;have h3:=Yfu h1;exact ⟨⟨hok.ok (by decide) hr,(YA hok.err).2.2.2.1,by omega,hok.2.2.2.1,by omega,by decide,by omega⟩,by omega,by omega⟩
end Pl
end Go.Proofs.YtgbhebappffbdaaGreat
