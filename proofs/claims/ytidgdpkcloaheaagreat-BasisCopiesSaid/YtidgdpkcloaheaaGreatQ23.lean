/- Lemmas of the claim; no condition. -/
import Derived.Test.YtidgdpkcloaheaaGreatQ22
set_option linter.all false
set_option maxRecDepth 100000
set_option maxHeartbeats 40000000
namespace Go.Proofs.YtidgdpkcloaheaaGreat
open Go.RowKit
open Pl
attribute [local go_sem ↓] Go.wp_at_zero Go.wp_at_succ
section
def Zlc [Old] (base bi:Nat) (w:World) (v:Value) (T n:Nat) (k:Nat→Nat) (im:Mx):Prop:=
 ∃cs,w.ownsRow base 87 2 v T cs∧∀t,t < T→∃u,cs[t * 2]? =some (.int .i64 (k t:Int))∧cs[t * 2+1]? =some u∧YL bi w u (YT n (im t))
section
variable {base bi:Nat} {w w':World} {v:Value} {T n:Nat} {k:Nat→Nat} {im:Mx}
theorem Zlc.below [Old] (h:Zlc base bi w v T n k im) (hb:Below w.heap.size w w'):Zlc base bi w' v T n k im:=by
 obtain ⟨cs,h1,h2⟩:=h;exact ⟨cs,own_below h1 hb,fun t ht=>by
  obtain ⟨u,e1,e2,e3⟩:=h2 t ht;exact ⟨u,e1,e2,e3.below hb⟩⟩
theorem Zlc.nil [Old] (base bi:Nat) (w:World) (n:Nat) (k:Nat→Nat) (im:Mx):Zlc base bi w (.slice none 0 0) 0 n k im:=⟨[],World.ownsRow_nil _ _ _ _,fun t ht=>absurd ht (by omega)⟩
end
def Zse [Old] (base bi:Nat) (w:World) (g n K:Nat) (Cs:Mx):Prop:=
 ∃(T gc cc:Nat) (k R C:Nat→Nat) (im V L Um:Mx) (CC:Nat→Mx) (s0 s1 s2 s3 vu:Value),
  Bk w g 74 [.int .i64 (n:Int),.slice (some ⟨gc,0,none⟩) n cc,s0,s1,s2,s3,vu]∧(base≤g∧T≤16∧5^n * K≤4000000∧CC T=Cs)∧Ups n K T k im V CC∧Znq n (5^n * K) (trM (CC 0)) R C L Um∧
  Yl base w (.slice (some ⟨gc,0,none⟩) n cc) (vcL n Cs)∧ZJ base w s0 (Zdg n R)∧ZJ base w s1 (Zdg n C)∧Yl (gc+1) w s2 (vcL n L)∧Yl (gc+1) w s3 (vcL n Um)∧Zlc base bi w vu T n k im
section
variable {base bi g n K:Nat} {w w':World} {Cs:Mx}
theorem Zse.below [Old] (h:Zse base bi w g n K Cs) (hb:Below w.heap.size w w'):Zse base bi w' g n K Cs:=by
 obtain ⟨T,gc,cc,k,R,C,im,V,L,Um,CC,s0,s1,s2,s3,vu,h1,h2,h3,h4,h5,h6,h7,h8,h9,a⟩:=h;exact ⟨T,gc,cc,k,R,C,im,V,L,Um,CC,s0,s1,s2,s3,vu,h1.later hb,h2,h3,h4,h5.below hb,h6.below hb,h7.below hb,h8.below hb,h9.below hb,a.below hb⟩
theorem ZJ.nshape {base:Nat} {w:World} {v:Value} {n:Nat} {R:Nat→Nat} (h:ZJ base w v (Zdg n R)):∃A c,v= .slice A n c:=by
 obtain ⟨A,m,c,rfl⟩:=h.sliceN;have:=h.len;rw [Zba] at this;subst this;exact ⟨A,c,rfl⟩
theorem Yl.nshape [Old] {base:Nat} {w:World} {v:Value} {n:Nat} {L:Mx} (h:Yl base w v (vcL n L)):∃A c,v= .slice A n c:=by
 obtain ⟨A,c,rfl⟩:=h.slice;rw [UI];exact ⟨A,c,rfl⟩
theorem Zvt [Old] {w:World} {g n:Nat} {vn vc s0 s1 s2 s3 vu:Value} {R C:Nat→Nat} {L Um:Mx} {b0 b1 b2 b3:Nat} (h:Bk w g 74 [vn,vc,s0,s1,s2,s3,vu]) (h6:ZJ b0 w s0 (Zdg n R)) (h7:ZJ b1 w s1 (Zdg n C)) (h8:Yl b2 w s2 (vcL n L)) (h9:Yl b3 w s3 (vcL n Um)):Zwy w g 2 n R C L Um:=by
 obtain ⟨A0,c0,rfl⟩:=h6.nshape;obtain ⟨A1,c1,rfl⟩:=h7.nshape;obtain ⟨A2,c2,rfl⟩:=h8.nshape;obtain ⟨A3,c3,rfl⟩:=h9.nshape;exact ⟨A0,c0,A1,c1,A2,c2,A3,c3,⟨h.cellAt 2 rfl,h.cellAt 3 rfl,h.cellAt 4 rfl,h.cellAt 5 rfl⟩,h6.ints,h7.ints,h8.vecs,h9.vecs⟩
end
namespace Pl
def Yu (cols:List (List En)):Mx:=fun c=>XZ (cols.getD c [])
theorem Wu {cols:List (List En)} {k:Nat} {c:List En} (h:cols[k]? =some c):Yu cols k=XZ c:=by unfold Yu;simp [List.getD,h]
theorem Good.enI {n:Nat} {es:List En} (h:Good n es) (hn:n≤4096):EnI es:=fun k e he=>by have:=h.1 k e he;omega
end Pl
def Zxa [Old] (n K:Nat) (Cs:Mx) (w:World) (o:Ending) (w':World):Prop:=
 Below w.heap.size w w'∧((∃g,o= .returned (.tuple #[.pointer (some ⟨g,0,none⟩),.int .i64 0])∧XA n Cs∧∀bi,Zse w.heap.size bi w' g n K Cs)∨(o= .returned (.tuple #[.pointer none,.int .i64 13])∧¬XA n Cs))
end
namespace Pl
def U3 (k:Nat) (im x:Nat→Rat) (i:Nat):Nat→Rat:=fun j=>if j=k then x k / im k else if j < i then x j - im j * (x k / im k) else x j
theorem Zra {k n:Nat} {im x:Nat→Rat} {j:Nat} (hj:j < n):U3 k im x n j=Zkh k im x j:=by
 unfold U3 Zkh;by_cases e:j=k
 ·rw [if_pos e,if_pos e]
 ·rw [if_neg e,if_neg e,if_pos hj]
theorem Zfn {k i:Nat} {im x:Nat→Rat} (h:i=k∨im i=0) (j:Nat):U3 k im x i j=U3 k im x (i+1) j:=by
 unfold U3;by_cases e:j=k
 ·rw [if_pos e,if_pos e]
 ·rw [if_neg e,if_neg e];by_cases e2:j < i
  ·rw [if_pos e2,if_pos (by omega)]
  ·rw [if_neg e2];by_cases e3:j=i
   ·subst e3;rw [if_pos (by omega)];rcases h with h | h
    ·exact absurd h e
    ·rw [h];grind
   ·rw [if_neg (by omega)]
theorem Zod {k i:Nat} {im x:Nat→Rat} (h:i≠k) (j:Nat):U3 k im x (i+1) j=if j=i then x i - im i * (x k / im k) else U3 k im x i j:=by
 unfold U3;by_cases e:j=i
 ·subst e;rw [if_pos rfl,if_neg h,if_pos (by omega)]
 ·rw [if_neg e];by_cases e2:j=k
  ·rw [if_pos e2,if_pos e2]
  ·rw [if_neg e2,if_neg e2];by_cases e3:j < i
   ·rw [if_pos e3,if_pos (by omega)]
   ·rw [if_neg e3,if_neg (by omega)]
theorem Zoe {k i:Nat} {im x:Nat→Rat} (h:i≠k):U3 k im x i i=x i:=by unfold U3;rw [if_neg h,if_neg (by omega)]
theorem Zvu {k i:Nat} {im x:Nat→Rat}:U3 k im x i k=x k / im k:=by unfold U3;rw [if_pos rfl]
end Pl
theorem Zlc.shape [Old] {base bi:Nat} {w:World} {v:Value} {T n:Nat} {k:Nat→Nat} {im:Mx} (h:Zlc base bi w v T n k im):∃A c,v= .slice A T c∧T≤c∧c≤9223372036854775807:=by
 obtain ⟨cs,h1,_⟩:=h;exact (X9.of_own h1).shape
theorem Zlc.elem [Old] {base bi:Nat} {w wr:World} {A:Option Addr} {c T n:Nat} {k:Nat→Nat} {im:Mx} (h:Zlc base bi w (.slice A T c) T n k im) (hb:Below w.heap.size w wr) {t:Nat} (ht:t < T):
 ∃gu B d,A=some ⟨gu,0,none⟩∧gu < w.heap.size∧(wr.cell? ⟨gu,t * 2,none⟩=some (.int .i64 (k t:Int))∧wr.cell? ⟨gu,t * 2+1,none⟩=some (.slice B n d))∧(n≤d∧d≤9223372036854775807)∧Zbn wr (.slice B n d) (YT n (im t)):=by
 obtain ⟨cs,h1,h2⟩:=h;obtain ⟨u,e1,e2,e3⟩:=h2 t ht;obtain ⟨B,d,rfl⟩:=e3.slice;rw [Zu] at e2 e3;rcases h1.2 with ⟨e,hz⟩ | ⟨g',cap,cur,hv,hb',hg,hnc,hcm,hcs,htake⟩
 ·omega
 ·injection hv with a1 a2 a3;subst a1;obtain ⟨_,l2,l3⟩:=e3.frs.len;exact ⟨g',B,d,rfl,Ye hg,⟨ZH hb (Zw h1 e1).1,ZH hb (Zw h1 e2).1⟩,⟨l2,l3⟩,e3.frs.below hb⟩
theorem Zkr [Old] (base bi g n K:Nat) (Cs:Mx) (vc:Value) (b:Nat→Rat) (w:World) (hB:Zse base bi w g n K Cs) (h2:Zbn w vc (YT n b)) (hb:∀i,i < n→Sz K (b i)) (hOl:Zb w:=by (repeat (first | assumption | exact Zb.up (by assumption) hOl | exact Zb.up (Hid.out (by assumption)) hOl | with_reducible refine Zb.set ?_ _ _ | with_reducible refine Zb.mk_ ?_ _ | with_reducible refine Zb.dr ?_ | with_reducible refine Zb.drN ?_ | refine Zb.up (by assumption) ?_ | refine Zb.up (Hid.out (by assumption)) ?_))) (hO:Old.n≤base:=by first | assumption | exact Nat.zero_le _ | omega | ((first | with_reducible refine Zb.le ?_ | with_reducible refine Zb.le1 ?_ | with_reducible refine Zb.le2 ?_ | with_reducible refine Zb.le3 ?_);repeat (first | assumption | exact Zb.up (by assumption) hOl | exact Zb.up (Hid.out (by assumption)) hOl | with_reducible refine Zb.set ?_ _ _ | with_reducible refine Zb.mk_ ?_ _ | with_reducible refine Zb.dr ?_ | with_reducible refine Zb.drN ?_ | refine Zb.up (by assumption) ?_ | refine Zb.up (Hid.out (by assumption)) ?_))):
 Calls Tryz.prog 43 #[.pointer (some ⟨g,0,none⟩),vc] w fun o w'=>∃v' x,o= .returned v'∧(∀r,r < n→XV n Cs x r=b r)∧(∀i,i < n→Sz (5^n * K) (x i))∧YL w.heap.size w' v' (YT n x)∧Below w.heap.size w w':=by
 have d4:=hOl.le;obtain ⟨T,gc,cc,k,R,C,im,V,L,Um,CC,s0,s1,s2,s3,vu,hX,⟨db,hT,hE,bs⟩,hU,hF,hO,i0,i1,v2,v3,ay⟩:=hB;obtain ⟨Au,cu,rfl,cy,cz⟩:=ay.shape;have al:=Zvt hX i0 i1 v2 v3;obtain ⟨x0,P⟩:∃x0,x0=solQ n R C L Um b:=⟨_,rfl⟩;have ad:∀r,r < n→XV n (CC 0) x0 r=b r:=by rw [P];exact hF.fac.solQ b
 have ap:=JZ (hU.xB ad hb);have ba:=JZ (hU.solves ad T (JY _));have ce:=JZ hU.imB;have cf:=JZ hU.kn;have cg:=JZ hU.nz;have HE:=JZ hE;have ch:Hid (K≤5^n * K):=JZ (Nat.le_mul_of_pos_left K (Nat.pow_pos (by decide)));have ci:=JZ bs;have bb:=JZ ay;have cj:∀i,i < n→Sz (5^n * K) (solQ n R C L Um b i):=fun i hi=>by rw [← P];exact hU.xB ad hb 0 (Nat.zero_le _) i hi
 have ck:=JZ P;obtain ⟨y0,y1⟩:w.cell? ⟨g,6,none⟩=some (.slice Au T cu)∧w.cell? ⟨g,0,none⟩=some (.int .i64 (n:Int)):=⟨hX.cellAt 6 rfl,hX.cellAt 0 rfl⟩;have d5:=hF.n7;have HF:=JZ hF;have cl:=JZ al;have cm:K≤30 * (5^n * K):=by have:=ch.out;omega
 clear hU ad hE bs ay hX hO i0 i1 v2 v3 al hF P;go_enter Tryz.func43,Tryz.ntmps43;go_wp2_with fail;refine (Zfg g 2 vc n (5^n * K) K (trM (CC 0)) R C L Um b _ cl.out h2 HF.out hb cm cj).mono ?_;rintro _ w1 ⟨v1,rfl,e1,b8⟩;rw [← ck.out] at e1;obtain ⟨A5,c5,bt⟩:=e1.slice;rw [Zu] at bt;subst bt;obtain ⟨-,d0,d3⟩:=e1.frs.len;have y2:=ZH b8 y0;clear y0 y1 h2;go_wp2;clear y2
 go_loopw [19] (fun x wr=>∃t:Nat,t≤T∧x= .int .i64 t∧YL w.heap.size wr (.slice A5 n c5) (YT n (xN k im x0 t))∧Below w.heap.size w wr) (fun x _=>T - (intOf x).toNat)
 case atStart=>exact ⟨0,by omega,rfl,e1,b8⟩
 case round=>
  clear e1 b8;obtain ⟨t,ht,rfl,hO,a⟩:=hrel;rcases JX t T with htl | htl
  ·have A:=cf.out t htl;obtain ⟨gx,cx,bu,bv,cv,-,-⟩:=hO.shape (by rw [Zu];omega);rw [Zu] at bu;injection bu with a1 a2 a3;subst a1;clear a2 a3 cx;obtain ⟨gu,B,d,rfl,-,⟨u0,u1⟩,⟨d1,d2⟩,az⟩:=bb.out.elem a htl;obtain ⟨X,a9⟩:∃X,X=xN k im x0 t:=⟨_,rfl⟩;obtain ⟨M,O⟩:∃M,M=im t:=⟨_,rfl⟩;obtain ⟨kt,aa⟩:∃kt,kt=k t:=⟨_,rfl⟩;have am:Hid (YT n (xN k im x0 (t+1))=YT n (Zkh kt M X)):=JZ (by rw [a9,O,aa];rfl);have bc:Hid (∀i,i < n→Sz (5^n * K) (X i)):=JZ fun i hi=>by rw [a9];exact ap.out t ht i hi
   have aq:Hid (∀i,i < n→Sz (5^n * K) (M i)):=JZ fun i hi=>by rw [O];exact ce.out t htl i hi
   have cn:Hid (∀i,i < n→Sz (5^n * K) (Zkh kt M X i)):=JZ fun i hi=>by
    have:=ap.out (t+1) (by omega) i hi;rw [a9,O,aa];exact this
   have co:Hid (M kt≠0):=JZ (by rw [O,aa];exact cg.out t htl);rw [← a9] at hO;rw [← O] at az;have bd:Hid (Zbn w (.slice B n d) (YT n M)):=JZ (by
    obtain ⟨_,B',d',ab,-,⟨-,e2⟩,-,h3⟩:=bb.out.elem (JR _ _) htl;injection ab with ab;injection ab with ab;subst ab;have e3:=ZH a e2;rw [u1] at e3;injection e3 with e3;injection e3 with b1 b2 b3;subst b1 b3;rw [O];exact h3)
   rw [← aa] at A u0;clear a9 O aa;obtain ⟨W1,bw,hV,b0⟩:∃W1,wr.alloc (.cells #[.int .i64 (kt:Int),.slice B n d] 87)=W1∧Bk W1 wr.heap.size 87 [.int .i64 (kt:Int),.slice B n d]∧Below wr.heap.size wr W1:=⟨_,rfl,Bk.new wr _ _,Zd wr _⟩;have S:=hO.below b0;have U:=az.below b0;have u:=Za a b0 a.size;obtain ⟨l,m,_,_⟩:=hV.two;have Y:(YT n X)[kt]? =some (canF (X kt)):=Z7 A;obtain ⟨bz,oz,A6,n6,c6,A7,n7,c7,hA,_,⟨t0,t1,t2,t3⟩,c⟩:=S.frs.elem (JR _ _) Y;injection hA with hA;injection hA with hA1 hA2;subst hA1;subst hA2;simp only [Nat.zero_add] at t0 t1 t2 t3;have d6:(kt:Int) < n:=(by omega);have d7:(t:Int) < T:=(by omega);have Z:qs (X kt)=0∨qs (X kt)=1∨qs (X kt)= -1:=(by have:=Zjl (X kt);omega);clear hO a az;by_cases p:qs (X kt)=0
   ·have cp:=JZ (Yz.1 p);clear Z;go_wp2_with fail;clear bw;refine (Yd _ (canF (X kt)) _ c).mono ?_;rw [ZG,p];rintro _ w2 ⟨rfl,s⟩;have a0:=S.below s;have F:=Za u s u.size;clear S u U hV t0 t1 t2 t3 c l m u0 u1 s p;go_wp2;go_roundw
    case rel=>exact ⟨t+1,by omega,by go_num,by rw [am.out,Yf fun i hi=>Znr cp.out i];exact a0,F⟩
    case measure=>simp [intOf];omega
   ·have ar:(qs (X kt)==0)=false:=(by simpa using p);clear Z p;go_wp2_with fail;clear bw;refine (Yd _ (canF (X kt)) _ c).mono ?_;rw [ZG];rintro _ w2 ⟨rfl,s⟩;have a0:=S.below s;have an:=U.below s;have au:=hV.later s;have F:=Za u s u.size;have be:=c.below s;have d8:w.heap.size < wr.heap.size∧gx < wr.heap.size:=⟨by omega,cv⟩;clear S u U hV t0 t1 t2 t3 c l m u0 u1;obtain ⟨l,m,_,_⟩:=au.two;obtain ⟨bz,oz,A6,n6,c6,A7,n7,c7,hA,_,⟨t0,t1,t2,t3⟩,c⟩:=a0.frs.elem (JR _ _) Y;injection hA with hA;injection hA with hA1 hA2;subst hA1;subst hA2;simp only [Nat.zero_add] at t0 t1 t2 t3;obtain ⟨bm,om,A8,n8,c8,A9,n9,c9,rfl,_,⟨z0,z1,z2,z3⟩,b4⟩:=an.elem (JR _ _) (Z7 A);obtain ⟨xk,ae⟩:∃xk,xk=X kt:=⟨_,rfl⟩;obtain ⟨mk,G⟩:∃mk,mk=M kt:=⟨_,rfl⟩;have cq:=JZ ae;have cr:=JZ G;have a4:(canF xk).Sm:=(by rw [ae];exact (bc.out kt A).rs.sm (by have:=HE.out;omega));have bf:(canF mk).Sm:=(by rw [G];exact (aq.out kt A).rs.sm (by have:=HE.out;omega));have bg:(canF mk).q≠0:=(by rw [ZG,G];exact co.out);rw [← ae] at t0 t2 c Y;rw [← G] at z0 z2 b4;have hO:=a0;clear ae G a0 an be s;have cs:Hid ((YT n X).set kt (canF (xk / mk))=YT n (U3 kt M X 0)):=JZ (by
     rw [V9 A];exact Yf fun i hi=>by
      unfold U3;rw [cq.out,cr.out];by_cases e:i=kt
      ·rw [if_pos e,if_pos e]
      ·rw [if_neg e,if_neg e,if_neg (by omega)])
    go_upto_region 6 with (fail)
    clear ar;have C0:=Zr t0;have C1:=Zr t1;have C2:=Zr t2;have C3:=Zr t3;have D0:=Zr z0;have D1:=Zr z1;have D2:=Zr z2;have D3:=Zr z3;have U0:=Zr l;have U1:=Zr m;have f:=Zj w2;clear t0 t1 t2 t3 z0 z1 z2 z3 l m;refine Zt 19 [0,1,2,3,4,5,6,7,8,9,10,11,12,13,14,15,16,17,18,19] (by kernel_rfl) (by kernel_rfl) ?_;repeat ((first | (refine Zc (v:=?_) rfl rfl rfl ?_ ?_;rotate_left;(· (intro _ E;go_simp;(try go_bits);(try with_reducible rfl)))) | (refine Ze (v:=?_) rfl rfl rfl ?_ ?_;rotate_left;(· (intro _ E;go_simp;(try go_bits);(try with_reducible rfl)))) | refine Zf rfl rfl rfl ?_);(try simp only [Act.put,pu1,pu2,pu3,pu4,pu5,pu6]))
    refine Zg rfl rfl (fun KR hKR=>?_);go_simp;(with_reducible refine (UX _ _ (canF xk) (canF mk) _ (c.below f) (b4.below f) a4 bf bg).mono ?_);rw [ZG,ZG];rintro _ w6 ⟨v6,rfl,e6,ac⟩;have h:=Za f ac f.size;obtain ⟨B9,l9,k9,af,ag,ah,rfl,_,_⟩:=id e6;have av:=hO.below h;obtain ⟨_,_,_,_,⟨c0,c1,c2,c3⟩,⟨f0,f1,f2,f3⟩,-⟩:=av.at_ Y;refine hKR.out _ _ (Or.inr h) ?_;clear hKR KR;(try simp only [Act.put,pu1,pu2,pu3,pu4,pu5,pu6]);repeat ((first | (refine Zc (v:=?_) rfl rfl rfl ?_ ?_;rotate_left;(· (intro _ E;go_simp;(try go_bits);(try with_reducible rfl)))) | (refine Ze (v:=?_) rfl rfl rfl ?_ ?_;rotate_left;(· (intro _ E;go_simp;(try go_bits);(try with_reducible rfl)))) | refine Zf rfl rfl rfl ?_);(try simp only [Act.put,pu1,pu2,pu3,pu4,pu5,pu6]))
    refine Zg rfl rfl (fun KR hKR=>?_);go_simp;refine hKR.out _ _ (Or.inl (by decide)) ?_;clear hKR KR;(try simp only [Act.put,pu1,pu2,pu3,pu4,pu5,pu6]);refine Zv ?_;clear C0 C1 C2 C3 D0 D1 D2 D3 U0 U1;obtain ⟨N,bx⟩:=av.set_ (k:=kt) (by rw [Zu];exact A) e6;rw [cs.out] at N;have bh:=bx.bk (au.later h) (by decide);have ao:=ZB (Za F h F.size) bv (kt * 4) (kt * 4+1) (kt * 4+2) (kt * 4+3) (.bool (canF (xk / mk)).num.neg) (.slice B9 l9 k9) (.bool (canF (xk / mk)).den.neg) (.slice af ag ah);generalize ((((w6.setCell ⟨gx,kt * 4,none⟩ (.bool (canF (xk / mk)).num.neg)).setCell ⟨gx,kt * 4+1,none⟩ (.slice B9 l9 k9)).setCell ⟨gx,kt * 4+2,none⟩ (.bool (canF (xk / mk)).den.neg)).setCell ⟨gx,kt * 4+3,none⟩ (.slice af ag ah))=W7 at *;generalize wr.heap.size=cw at *;clear hO av e6 ac f h bx F au c b4 Y a4 bf bg c0 c1 c2 c3 f0 f1 f2 f3;go_wp2
    go_loopw [51] (fun x wx=>∃i:Nat,i≤n∧x= .int .i64 i∧YL w.heap.size wx (.slice (some ⟨gx,0,none⟩) n c5) (YT n (U3 kt M X i))∧Bk wx cw 87 [.int .i64 (kt:Int),.slice (some ⟨bm,om,none⟩) n d]∧Below w.heap.size w wx) (fun x _=>n - (intOf x).toNat)
    case atStart=>exact ⟨0,by omega,rfl,N,bh,ao⟩
    case round=>
     clear N bh ao;obtain ⟨i,hi,rfl,hO,hV,a⟩:=hrel;rcases JX i n with hil | hil
     ·obtain ⟨l,m,_,_⟩:=hV.two;have d9:(i:Int) < n:=(by omega);by_cases b9:i=kt
      ·have aw:Hid (YT n (U3 kt M X i)=YT n (U3 kt M X (i+1))):=JZ (Yf fun j _=>Zfn (.inl b9) j);subst b9;rw [aw.out] at hO;go_wp2;go_roundw
       case rel=>exact ⟨i+1,by omega,by go_num,hO,hV,a⟩
       case measure=>simp [intOf];omega
      ·have bj:=JZ b9;have da:(i:Int)≠kt:=(by omega);obtain ⟨b',o',A8,n8,c8,A9,n9,c9,hA,_,⟨z0,z1,z2,z3⟩,H⟩:=bd.out.elem a (Z7 hil);injection hA with hA;injection hA with hA1 hA2;subst hA1;subst hA2;have Z:qs (M i)=0∨qs (M i)=1∨qs (M i)= -1:=(by have:=Zjl (M i);omega);by_cases p:qs (M i)=0
       ·have aw:Hid (YT n (U3 kt M X i)=YT n (U3 kt M X (i+1))):=JZ (Yf fun j _=>Zfn (.inr (Yz.1 p)) j);clear Z;go_wp2_with fail;refine (Yd _ (canF (M i)) _ H).mono ?_;rw [ZG,p];rintro _ w3 ⟨rfl,D⟩;have J:=hO.below D;rw [aw.out] at J;have a5:=hV.later D;have y:=Za a D a.size;clear hO hV a D p z0 z1 z2 z3 H l m;go_wp2;go_roundw
        case rel=>exact ⟨i+1,by omega,by go_num,J,a5,y⟩
        case measure=>simp [intOf];omega
       ·have ar:(qs (M i) !=0)=true:=(by simpa using p);clear Z p;go_wp2_with fail;refine (Yd _ (canF (M i)) _ H).mono ?_;rw [ZG];rintro _ w3 ⟨rfl,D⟩;have J:=hO.below D;have a5:=hV.later D;have y:=Za a D a.size;clear hO hV a D z0 z1 z2 z3 H l m;obtain ⟨l,m,_,_⟩:=a5.two;obtain ⟨b',o',A8,n8,c8,A9,n9,c9,hA,_,⟨z0,z1,z2,z3⟩,H⟩:=bd.out.elem y (Z7 hil);injection hA with hA;injection hA with hA1 hA2;subst hA1;subst hA2;obtain ⟨b',o',A4,n4,c4,A5,n5,dc,hA,_,⟨ai,b5,aj,b6⟩,c⟩:=J.frs.elem (JR _ _) (Z7 hil);injection hA with hA;injection hA with hA1 hA2;subst hA1;subst hA2;obtain ⟨b',o',A6,n6,c6,A7,n7,c7,hA,_,⟨t0,t1,t2,t3⟩,b7⟩:=J.frs.elem (JR _ _) (Z7 A);injection hA with hA;injection hA with hA1 hA2;subst hA1;subst hA2;simp only [Nat.zero_add] at ai b5 aj b6 t0 t1 t2 t3;obtain ⟨xi,ak⟩:∃xi,xi=U3 kt M X i i:=⟨_,rfl⟩;obtain ⟨mi,I⟩:∃mi,mi=M i:=⟨_,rfl⟩;obtain ⟨z,hz⟩:∃z,z=U3 kt M X i kt:=⟨_,rfl⟩;have a6:xi=X i:=(by rw [ak,Zoe bj.out]);have ax:z=X kt / M kt:=(by rw [hz,Zvu]);have bl:Hid ((YT n (U3 kt M X i)).set i (canF (xi - mi * z))=YT n (U3 kt M X (i+1))):=JZ (by
         rw [V9 hil];exact Yf fun j hj=>by rw [Zod bj.out,a6,I,ax])
        have a4:(canF xi).Sm:=(by rw [a6];exact (bc.out i hil).rs.sm (by have:=HE.out;omega));have bn:(canF mi).Sm:=(by rw [I];exact (aq.out i hil).rs.sm (by have:=HE.out;omega));have a7:Sz (5^n * K) z:=by
         have:=cn.out kt A;unfold Zkh at this;rw [if_pos rfl] at this;rw [ax];exact this
        have bo:(canF z).Sm:=a7.rs.sm (by have:=HE.out;omega);have bp:(canF (mi * z)).Sm:=(V5 (by rw [I];exact aq.out i hil) a7).rs.sm (by have:=HE.out;omega);have bq:(YT n (U3 kt M X i))[i]? =some (canF xi):=(by rw [ak];exact Z7 hil);rw [← ak] at ai aj c;rw [← I] at z0 z2 H;rw [← hz] at t0 t2 b7;have hO:=J;clear ak I hz a6 ax a7 J
        go_upto_region 11 with (fail)
        clear ar;have C0:=Zr t0;have C1:=Zr t1;have C2:=Zr t2;have C3:=Zr t3;have D0:=Zr z0;have D1:=Zr z1;have D2:=Zr z2;have D3:=Zr z3;have E0:=Zr ai;have E1:=Zr b5;have E2:=Zr aj;have E3:=Zr b6;have U0:=Zr l;have U1:=Zr m;have f:=Zj w3;clear t0 t1 t2 t3 z0 z1 z2 z3 ai b5 aj b6 l m;refine Zt 19 [0,1,2,3,4,5,6,7,8,9,10,11,12,13,14,15,16,17,18,19] (by kernel_rfl) (by kernel_rfl) ?_;repeat ((first | (refine Zc (v:=?_) rfl rfl rfl ?_ ?_;rotate_left;(· (intro _ E;go_simp;(try go_bits);(try with_reducible rfl)))) | (refine Ze (v:=?_) rfl rfl rfl ?_ ?_;rotate_left;(· (intro _ E;go_simp;(try go_bits);(try with_reducible rfl)))) | refine Zf rfl rfl rfl ?_);(try simp only [Act.put,pu1,pu2,pu3,pu4,pu5,pu6]))
        refine Zg rfl rfl (fun KR hKR=>?_);go_simp;(with_reducible refine (Zcq _ _ (canF mi) (canF z) _ (H.below f) (b7.below f) bn bo).mono ?_);rw [ZG,ZG];rintro _ w6 ⟨v6,rfl,e6,ac⟩;have h:=Za f ac f.size;refine hKR.out _ _ (Or.inr h) ?_;clear hKR KR;(try simp only [Act.put,pu1,pu2,pu3,pu4,pu5,pu6]);repeat ((first | (refine Zc (v:=?_) rfl rfl rfl ?_ ?_;rotate_left;(· (intro _ E;go_simp;(try go_bits);(try with_reducible rfl)))) | (refine Ze (v:=?_) rfl rfl rfl ?_ ?_;rotate_left;(· (intro _ E;go_simp;(try go_bits);(try with_reducible rfl)))) | refine Zf rfl rfl rfl ?_);(try simp only [Act.put,pu1,pu2,pu3,pu4,pu5,pu6]))
        refine Zg rfl rfl (fun KR hKR=>?_);go_simp;(with_reducible refine (Zcv _ _ (canF xi) (canF (mi * z)) _ (c.below h) e6 a4 bp).mono ?_);rw [ZG,ZG];rintro _ w7 ⟨v7,rfl,e7,cd⟩;have a8:=Za h cd h.size;obtain ⟨B9,l9,k9,af,ag,ah,rfl,_,_⟩:=id e7;have N:=hO.below a8;obtain ⟨_,_,_,_,⟨c0,c1,c2,c3⟩,⟨f0,f1,f2,f3⟩,-⟩:=N.at_ bq;refine hKR.out _ _ (Or.inr a8) ?_;clear hKR KR;(try simp only [Act.put,pu1,pu2,pu3,pu4,pu5,pu6]);repeat ((first | (refine Zc (v:=?_) rfl rfl rfl ?_ ?_;rotate_left;(· (intro _ E;go_simp;(try go_bits);(try with_reducible rfl)))) | (refine Ze (v:=?_) rfl rfl rfl ?_ ?_;rotate_left;(· (intro _ E;go_simp;(try go_bits);(try with_reducible rfl)))) | refine Zf rfl rfl rfl ?_);(try simp only [Act.put,pu1,pu2,pu3,pu4,pu5,pu6]))
        refine Zg rfl rfl (fun KR hKR=>?_);go_simp;refine hKR.out _ _ (Or.inl (by decide)) ?_;clear hKR KR;(try simp only [Act.put,pu1,pu2,pu3,pu4,pu5,pu6]);refine Zv ?_;clear C0 C1 C2 C3 D0 D1 D2 D3 E0 E1 E2 E3 U0 U1;obtain ⟨ca,cb⟩:=N.set_ (k:=i) (by rw [Zu];exact hil) e7;rw [bl.out] at ca;have ct:=cb.bk (a5.later a8) (by decide);have br:=ZB (Za y a8 y.size) bv (i * 4) (i * 4+1) (i * 4+2) (i * 4+3) (.bool (canF (xi - mi * z)).num.neg) (.slice B9 l9 k9) (.bool (canF (xi - mi * z)).den.neg) (.slice af ag ah);clear hO N a5 y f h a8 e6 e7 ac cd c0 c1 c2 c3 f0 f1 f2 f3 c H b7 cb a4 bn bo bp bq bl;go_wp2;go_roundw
        case rel=>exact ⟨i+1,by omega,by go_num,ca,ct,br⟩
        case measure=>simp [intOf];omega
     ·obtain rfl:n=i:=by omega
      rw [Yf fun j hj=>Zra hj,← am.out] at hO;go_wp2;go_roundw
      case rel=>exact ⟨t+1,by omega,by go_num,hO,a⟩
      case measure=>simp [intOf];omega
  ·obtain rfl:T=t:=by omega
   go_wp2;go_ret;exact ⟨_,_,rfl,fun r hr=>by rw [← ci.out];exact ba.out r hr,ap.out _ (JY _),hO,a⟩
theorem Zks [Old] (base bi g n K:Nat) (Cs:Mx) (v:Value) (es:List En) (w:World) (hB:Zse base bi w g n K Cs) (h:Wy w v es) (hgo:Pl.Good n es) (hrs:∀(k:Nat) (e:En),es[k]? =some e→e.f.Rs K) (hOl:Zb w:=by (repeat (first | assumption | exact Zb.up (by assumption) hOl | exact Zb.up (Hid.out (by assumption)) hOl | with_reducible refine Zb.set ?_ _ _ | with_reducible refine Zb.mk_ ?_ _ | with_reducible refine Zb.dr ?_ | with_reducible refine Zb.drN ?_ | refine Zb.up (by assumption) ?_ | refine Zb.up (Hid.out (by assumption)) ?_))) (hO:Old.n≤base:=by first | assumption | exact Nat.zero_le _ | omega | ((first | with_reducible refine Zb.le ?_ | with_reducible refine Zb.le1 ?_ | with_reducible refine Zb.le2 ?_ | with_reducible refine Zb.le3 ?_);repeat (first | assumption | exact Zb.up (by assumption) hOl | exact Zb.up (Hid.out (by assumption)) hOl | with_reducible refine Zb.set ?_ _ _ | with_reducible refine Zb.mk_ ?_ _ | with_reducible refine Zb.dr ?_ | with_reducible refine Zb.drN ?_ | refine Zb.up (by assumption) ?_ | refine Zb.up (Hid.out (by assumption)) ?_))):
 Calls Tryz.prog 16 #[.pointer (some ⟨g,0,none⟩),v] w fun o w'=>∃v' x,o= .returned (.tuple #[v',.int .i64 0])∧(∀r,r < n→XV n Cs x r=XZ es r)∧(∀i,i < n→Sz (5^n * K) (x i))∧Wz w.heap.size w' v' (spV x n)∧Below w.heap.size w w':=by
 have u:=hOl.le;have HB:=JZ hB;obtain ⟨T,gc,cc,k,R,C,im,V,L,Um,CC,s0,s1,s2,s3,vu,hX,⟨s,hT,hE,t⟩,hU,hF,-⟩:=hB;have y1:w.cell? ⟨g,0,none⟩=some (.int .i64 (n:Int)):=hX.cellAt 0 rfl;have y:=hF.n7;have p:Hid (1≤K):=JZ (Nat.pos_of_ne_zero fun e=>by have:=hF.e1;subst e;simp at this);have HE:Hid (5^n * K≤4000000):=JZ hE;have q:Hid (K≤4000000):=JZ (JW (Nat.le_mul_of_pos_left K (Nat.pow_pos (by decide))) hE);clear hX hU hF t hE hT s;go_enter Tryz.func16,Tryz.ntmps16;go_wp2_with fail;refine (Zgx v es n K _ h (by omega) hrs (by have:=q.out;omega) hgo).mono ?_;rintro _ w1 ⟨v1,rfl,e1,b⟩;obtain ⟨A1,c1,rfl⟩:=e1.slice;clear y1 h;go_wp2_with fail;refine (Zkr base bi g n K Cs _ (XZ es) _ (HB.out.below b) e1.frs (fun i _=>Sz_col hrs p.out i)).mono ?_;rintro _ w2 ⟨v2,x,rfl,hx,j,e2,l⟩;have HX:=JZ hx;have c:=JZ j;have a:=Za b l b.size;obtain ⟨A2,c2,rfl⟩:=e2.slice;clear e1 hx j l;go_wp2_with fail;refine (Wq _ (YT n x) (5^n * K) _ e2.frs (by rw [Zu];omega) (Ztl fun i hi=>c.out i hi) (by have:=HE.out;omega)).mono ?_;rw [Zu,WM (g:=x) fun i hi=>Zpu hi];rintro _ w3 ⟨v3,rfl,e3,m⟩;have d:=Za a m a.size;have e3:Wz w.heap.size w3 v3 (spV x n):=by
  obtain ⟨cs,g1,g2⟩:=e3;exact ⟨cs,WX g1 a.size,g2⟩
 clear e2 b a m;go_wp2;go_ret2;exact ⟨_,x,rfl,HX.out,c.out,e3,d⟩
end Go.Proofs.YtidgdpkcloaheaaGreat
