/- Contracts and plain facts that the claim is built on, joined out of smaller texts; no condition. -/
import Derived.Test.YtncmobkhenfhpaaGreatB36
set_option linter.unusedVariables false
set_option linter.unusedSimpArgs false
set_option maxRecDepth 100000
set_option maxHeartbeats 40000000
namespace Go.Proofs.YtncmobkhenfhpaaGreat
open Go.RowKit
open Pl
attribute [local go_sem ↓] Go.wp_at_zero Go.wp_at_succ
section
section
variable {P:Program} {ops:Array Oper} {Q:Exit→Act→World→Prop} {S:World→Prop} {n:Nat}
def depB (ops:Array Oper) (i k:Nat):Bool:=match ops[i]? with
 | some o=>o.after.any fun e=>Region.binds .any e && e.on==k
 | none=>false
def BagStep (P:Program) (ops:Array Oper) (Q:Exit→Act→World→Prop) (S:World→Prop) (n:Nat) (l:List Nat) (a:Act) (d1 d2 d3 d4 d5:Nat) (R:(Nat→Prop)→Value→Value→Value→Value→Value→World→Prop) (i:Nat):Prop:=
 ∀D s1 s2 s3 s4 s5 w,¬D i→(∀k∈l,depB ops i k=true→D k)→R D s1 s2 s3 s4 s5 w→wpAlone P ops Q S n i (fun a' w'=>∃s1 s2 s3 s4 s5,a'=put5 a d1 s1 d2 s2 d3 s3 d4 s4 d5 s5∧R (fun k=>D k∨k=i) s1 s2 s3 s4 s5 w') (put5 a d1 s1 d2 s2 d3 s3 d4 s4 d5 s5) w
theorem plan_bagS {l:List Nat} {p:Plan} {a:Act} {w:World} (d1 d2 d3 d4 d5:Nat) (s1 s2 s3 s4 s5:Value) (R:(Nat→Prop)→Value→Value→Value→Value→Value→World→Prop) (ha:a=put5 a d1 s1 d2 s2 d3 s3 d4 s4 d5 s5) (hl:l.Nodup) (h0:R (fun _=>False) s1 s2 s3 s4 s5 w)
 (hs:∀i∈l,BagStep P ops Q S n l a d1 d2 d3 d4 d5 R i)
 (h1:∀D s1 s2 s3 s4 s5 w,(∀k∈l,D k)→R D s1 s2 s3 s4 s5 w→wpPlan P ops Q S n p (put5 a d1 s1 d2 s2 d3 s3 d4 s4 d5 s5) w):wpPlan P ops Q S n (.bag l p) a w:=
 plan_bag5 d1 d2 d3 d4 d5 s1 s2 s3 s4 s5 R ha hl h0 (fun D s1 s2 s3 s4 s5 w i oi hi hn ho hd hr=>hs i hi D s1 s2 s3 s4 s5 w hn (fun k hk hb=>by
  unfold depB at hb
  rw [ho] at hb
  simp only [Array.any_eq_true,Bool.and_eq_true,beq_iff_eq] at hb
  obtain ⟨j,hj,h1,h2⟩:=hb
  subst h2
  exact hd _ (Array.getElem_mem hj) h1 hk) hr) h1
theorem BagStep.mk {l:List Nat} {a:Act} {d1 d2 d3 d4 d5:Nat} {R:(Nat→Prop)→Value→Value→Value→Value→Value→World→Prop} {i:Nat} {o:Oper} (ho:ops[i]? =some o)
 (h:∀D s1 s2 s3 s4 s5 w b,b=put5 a d1 s1 d2 s2 d3 s3 d4 s4 d5 s5→¬D i→(∀k∈l,depB ops i k=true→D k)→R D s1 s2 s3 s4 s5 w→∀K':Act→World→Prop,Shut (∀a' w',(n≤i∨S w')→(∃s1 s2 s3 s4 s5,a'=put5 a d1 s1 d2 s2 d3 s3 d4 s4 d5 s5∧R (fun k=>D k∨k=i) s1 s2 s3 s4 s5 w')→K' a' w')→if Region.wanted o (yielded ops b.tmps)=true then Oper.wp P o b w K' Q else K' (b.put o.dst undef) w):BagStep P ops Q S n l a d1 d2 d3 d4 d5 R i:=
 fun D s1 s2 s3 s4 s5 w hn hd hr=>alone_step ho (h D s1 s2 s3 s4 s5 w _ rfl hn hd hr)
end
end
namespace Pl
def updP (k:Nat) (im x:Nat→Rat) (i:Nat):Nat→Rat:=fun j=>if j=k then x k / im k else if j < i then x j - im j * (x k / im k) else x j
theorem updP_all {k n:Nat} {im x:Nat→Rat} {j:Nat} (hj:j < n):updP k im x n j=upd1 k im x j:=by
 unfold updP upd1
 by_cases e:j=k
 ·rw [if_pos e,if_pos e]
 ·rw [if_neg e,if_neg e,if_pos hj]
theorem updP_skip {k i:Nat} {im x:Nat→Rat} (h:i=k∨im i=0) (j:Nat):updP k im x i j=updP k im x (i+1) j:=by
 unfold updP
 by_cases e:j=k
 ·rw [if_pos e,if_pos e]
 ·rw [if_neg e,if_neg e]
  by_cases e2:j < i
  ·rw [if_pos e2,if_pos (by omega)]
  ·rw [if_neg e2]
   by_cases e3:j=i
   ·subst e3
    rw [if_pos (by omega)]
    rcases h with h | h
    ·exact absurd h e
    ·rw [h];grind
   ·rw [if_neg (by omega)]
theorem updP_next {k i:Nat} {im x:Nat→Rat} (h:i≠k) (j:Nat):updP k im x (i+1) j=if j=i then x i - im i * (x k / im k) else updP k im x i j:=by
 unfold updP
 by_cases e:j=i
 ·subst e
  rw [if_pos rfl,if_neg h,if_pos (by omega)]
 ·rw [if_neg e]
  by_cases e2:j=k
  ·rw [if_pos e2,if_pos e2]
  ·rw [if_neg e2,if_neg e2]
   by_cases e3:j < i
   ·rw [if_pos e3,if_pos (by omega)]
   ·rw [if_neg e3,if_neg (by omega)]
theorem updP_left {k i:Nat} {im x:Nat→Rat} (h:i≠k):updP k im x i i=x i:=by unfold updP;rw [if_neg h,if_neg (by omega)]
theorem updP_k {k i:Nat} {im x:Nat→Rat}:updP k im x i k=x k / im k:=by unfold updP;rw [if_pos rfl]
end Pl
theorem UpsO.shape {base bi:Nat} {w:World} {v:Value} {T n:Nat} {k:Nat→Nat} {im:Mx} (h:UpsO base bi w v T n k im):∃A c,v= .slice A T c∧T≤c∧c≤9223372036854775807:=by
 obtain ⟨cs,h1,_⟩:=h
 exact (RowM.of_own h1).shape
theorem UpsO.elem {base bi:Nat} {w wr:World} {A:Option Addr} {c T n:Nat} {k:Nat→Nat} {im:Mx} (h:UpsO base bi w (.slice A T c) T n k im) (hb:Below w.heap.size w wr) {t:Nat} (ht:t < T):
 ∃gu B d,A=some ⟨gu,0,none⟩∧gu < w.heap.size∧(wr.cell? ⟨gu,t * 2,none⟩=some (.int .i64 (k t:Int))∧wr.cell? ⟨gu,t * 2+1,none⟩=some (.slice B n d))∧(n≤d∧d≤9223372036854775807)∧FrsM wr (.slice B n d) (canL n (im t)):=by
 obtain ⟨cs,h1,h2⟩:=h
 obtain ⟨u,e1,e2,e3⟩:=h2 t ht
 obtain ⟨B,d,rfl⟩:=e3.slice
 rw [canL_length] at e2 e3
 rcases h1.2 with ⟨e,hz⟩ | ⟨g',cap,cur,hv,hb',hg,hnc,hcm,hcs,htake⟩
 ·omega
 ·injection hv with a1 a2 a3
  subst a1
  obtain ⟨_,l2,l3⟩:=e3.frs.len
  exact ⟨g',B,d,rfl,lt_heap hg,⟨cell_keep hb (row_cell h1 e1).1,cell_keep hb (row_cell h1 e2).1⟩,⟨l2,l3⟩,e3.frs.below hb⟩
theorem bsolve_own (base bi g n K:Nat) (Cs:Mx) (vc:Value) (b:Nat→Rat) (w:World) (hB:BasO base bi w g n K Cs) (h2:FrsM w vc (canL n b)) (hb:∀i,i < n→Sz K (b i)):
 Calls Tryz.prog 122 #[.pointer (some ⟨g,0,none⟩),vc] w fun o w'=>∃v' x,o= .returned v'∧(∀r,r < n→mulC n Cs x r=b r)∧(∀i,i < n→Sz (5^n * K) (x i))∧FrsO w.heap.size w' v' (canL n x)∧Below w.heap.size w w':=by
 obtain ⟨T,gc,cc,k,R,C,im,V,L,Um,CC,s0,s1,s2,s3,vu,hX,⟨hge,hT,hE,hCC⟩,hU,hF,hO,i0,i1,v2,v3,hup⟩:=hB
 obtain ⟨Au,cu,rfl,hcu1,hcu2⟩:=hup.shape
 have hfac:=fac_of hX i0 i1 v2 v3
 obtain ⟨x0,hx0e⟩:∃x0,x0=solQ n R C L Um b:=⟨_,rfl⟩
 have hx0:∀r,r < n→mulC n (CC 0) x0 r=b r:=by rw [hx0e];exact hF.fac.solQ b
 have HXB:=Lib.hid (hU.xB hx0 hb)
 have HSOL:=Lib.hid (hU.solves hx0 T (Nat.le_refl _))
 have HIM:=Lib.hid hU.imB
 have HKN:=Lib.hid hU.kn
 have HNZ:=Lib.hid hU.nz
 have HE:=Lib.hid hE
 have HE1:Hid (K≤5^n * K):=Lib.hid (Nat.le_mul_of_pos_left K (Nat.pow_pos (by decide)))
 have HCC:=Lib.hid hCC
 have HUP:=Lib.hid hup
 have hxx:∀i,i < n→Sz (5^n * K) (solQ n R C L Um b i):=fun i hi=>by rw [← hx0e];exact hU.xB hx0 hb 0 (Nat.zero_le _) i hi
 have HX0:=Lib.hid hx0e
 obtain ⟨y0,y1⟩:w.cell? ⟨g,6,none⟩=some (.slice Au T cu)∧w.cell? ⟨g,0,none⟩=some (.int .i64 (n:Int)):=⟨hX.cellAt 6 rfl,hX.cellAt 0 rfl⟩
 have hn7:=hF.n7
 have HF:=Lib.hid hF
 have HFA:=Lib.hid hfac
 have hbJ:K≤30 * (5^n * K):=by have:=HE1.out;omega
 clear hU hx0 hE hCC hup hX hO i0 i1 v2 v3 hfac hF hx0e
 go_enter Tryz.func122,Tryz.ntmps122
 go_wp2_with fail
 refine (facSolve_own g 2 vc n (5^n * K) K (trM (CC 0)) R C L Um b _ HFA.out h2 HF.out hb hbJ hxx).mono ?_
 rintro _ w1 ⟨v1,rfl,e1,hb1⟩
 rw [← HX0.out] at e1
 obtain ⟨A5,c5,hv5⟩:=e1.slice
 rw [canL_length] at hv5
 subst hv5
 obtain ⟨-,hc51,hc52⟩:=e1.frs.len
 have y2:=cell_keep hb1 y0
 clear y0 y1 h2
 go_wp2
 clear y2
 go_loopw [19] (fun x wr=>∃t:Nat,t≤T∧x= .int .i64 t∧FrsO w.heap.size wr (.slice A5 n c5) (canL n (xN k im x0 t))∧Below w.heap.size w wr) (fun x _=>T - (intOf x).toNat)
 case atStart=>exact ⟨0,by omega,rfl,e1,hb1⟩
 case round=>
  clear e1 hb1
  obtain ⟨t,ht,rfl,hO,hbe⟩:=hrel
  rcases Nat.lt_or_ge t T with htl | htl
  ·have hkn:=HKN.out t htl
   obtain ⟨gx,cx,hvx,hx1,hx2,-,-⟩:=hO.shape (by rw [canL_length];omega)
   rw [canL_length] at hvx
   injection hvx with a1 a2 a3
   subst a1
   clear a2 a3 cx
   obtain ⟨gu,B,d,rfl,-,⟨u0,u1⟩,⟨d1,d2⟩,him⟩:=HUP.out.elem hbe htl
   obtain ⟨X,hXe⟩:∃X,X=xN k im x0 t:=⟨_,rfl⟩
   obtain ⟨M,hMe⟩:∃M,M=im t:=⟨_,rfl⟩
   obtain ⟨kt,hke⟩:∃kt,kt=k t:=⟨_,rfl⟩
   have HNXT:Hid (canL n (xN k im x0 (t+1))=canL n (upd1 kt M X)):=Lib.hid (by rw [hXe,hMe,hke];rfl)
   have HSX:Hid (∀i,i < n→Sz (5^n * K) (X i)):=Lib.hid fun i hi=>by rw [hXe];exact HXB.out t ht i hi
   have HSM:Hid (∀i,i < n→Sz (5^n * K) (M i)):=Lib.hid fun i hi=>by rw [hMe];exact HIM.out t htl i hi
   have HSU:Hid (∀i,i < n→Sz (5^n * K) (upd1 kt M X i)):=Lib.hid fun i hi=>by
    have:=HXB.out (t+1) (by omega) i hi
    rw [hXe,hMe,hke];exact this
   have HM0:Hid (M kt≠0):=Lib.hid (by rw [hMe,hke];exact HNZ.out t htl)
   rw [← hXe] at hO
   rw [← hMe] at him
   have HIW:Hid (FrsM w (.slice B n d) (canL n M)):=Lib.hid (by
    obtain ⟨_,B',d',hA',-,⟨-,e2⟩,-,h3⟩:=HUP.out.elem (Below.refl _ _) htl
    injection hA' with hA'
    injection hA' with hA'
    subst hA'
    have e3:=cell_keep hbe e2
    rw [u1] at e3
    injection e3 with e3
    injection e3 with b1 b2 b3
    subst b1 b3
    rw [hMe];exact h3)
   rw [← hke] at hkn u0
   clear hXe hMe hke
   obtain ⟨W1,hW1,hV,hbn⟩:∃W1,wr.alloc (.cells #[.int .i64 (kt:Int),.slice B n d] 146)=W1∧Bk W1 wr.heap.size 146 [.int .i64 (kt:Int),.slice B n d]∧Below wr.heap.size wr W1:=⟨_,rfl,Bk.new wr _ _,below_new wr _⟩
   have hO1:=hO.below hbn
   have him1:=him.below hbn
   have hbe1:=below_then hbe hbn hbe.size
   obtain ⟨w0',w1',_,_⟩:=hV.two
   have hgk:(canL n X)[kt]? =some (canF (X kt)):=canL_get hkn
   obtain ⟨bz,oz,A6,n6,c6,A7,n7,c7,hA,_,⟨t0,t1,t2,t3⟩,hmx⟩:=hO1.frs.elem (Below.refl _ _) hgk
   injection hA with hA
   injection hA with hA1 hA2
   subst hA1;subst hA2
   simp only [Nat.zero_add] at t0 t1 t2 t3
   have hkI:(kt:Int) < n:=by omega
   have htI:(t:Int) < T:=by omega
   have hq3:qs (X kt)=0∨qs (X kt)=1∨qs (X kt)= -1:=by have:=qs_bd (X kt);omega
   clear hO hbe him
   by_cases hq0:qs (X kt)=0
   ·have HQ0:=Lib.hid (qs_zero.1 hq0)
    clear hq3
    go_wp2_with fail
    clear hW1
    refine (signF_any _ (canF (X kt)) _ hmx).mono ?_
    rw [canF_q,hq0]
    rintro _ w2 ⟨rfl,hb2⟩
    have hO2:=hO1.below hb2
    have hbe2:=below_then hbe1 hb2 hbe1.size
    clear hO1 hbe1 him1 hV t0 t1 t2 t3 hmx w0' w1' u0 u1 hb2 hq0
    go_wp2
    go_roundw
    case rel=>exact ⟨t+1,by omega,by go_num,by rw [HNXT.out,canL_congr fun i hi=>upd1_zero HQ0.out i];exact hO2,hbe2⟩
    case measure=>simp [intOf];omega
   ·have hqe:(qs (X kt)==0)=false:=by simpa using hq0
    clear hq3 hq0
    go_wp2_with fail
    clear hW1
    refine (signF_any _ (canF (X kt)) _ hmx).mono ?_
    rw [canF_q]
    rintro _ w2 ⟨rfl,hb2⟩
    have hO2:=hO1.below hb2
    have him2:=him1.below hb2
    have hV2:=hV.later hb2
    have hbe2:=below_then hbe1 hb2 hbe1.size
    have hmx2:=hmx.below hb2
    have hgv:w.heap.size < wr.heap.size∧gx < wr.heap.size:=⟨by omega,hx2⟩
    clear hO1 hbe1 him1 hV t0 t1 t2 t3 hmx w0' w1' u0 u1
    obtain ⟨w0',w1',_,_⟩:=hV2.two
    obtain ⟨bz,oz,A6,n6,c6,A7,n7,c7,hA,_,⟨t0,t1,t2,t3⟩,hmx⟩:=hO2.frs.elem (Below.refl _ _) hgk
    injection hA with hA
    injection hA with hA1 hA2
    subst hA1;subst hA2
    simp only [Nat.zero_add] at t0 t1 t2 t3
    obtain ⟨bm,om,A8,n8,c8,A9,n9,c9,rfl,_,⟨z0,z1,z2,z3⟩,hmk⟩:=him2.elem (Below.refl _ _) (canL_get hkn)
    obtain ⟨xk,hxk⟩:∃xk,xk=X kt:=⟨_,rfl⟩
    obtain ⟨mk,hmke⟩:∃mk,mk=M kt:=⟨_,rfl⟩
    have HXK:=Lib.hid hxk
    have HMK:=Lib.hid hmke
    have hsx:(canF xk).Sm:=by rw [hxk];exact (HSX.out kt hkn).rs.sm (by have:=HE.out;omega)
    have hsm:(canF mk).Sm:=by rw [hmke];exact (HSM.out kt hkn).rs.sm (by have:=HE.out;omega)
    have hm0:(canF mk).q≠0:=by rw [canF_q,hmke];exact HM0.out
    rw [← hxk] at t0 t2 hmx hgk
    rw [← hmke] at z0 z2 hmk
    have hO:=hO2
    clear hxk hmke hO2 him2 hmx2 hb2
    have HST:Hid ((canL n X).set kt (canF (xk / mk))=canL n (updP kt M X 0)):=Lib.hid (by
     rw [canL_set hkn]
     exact canL_congr fun i hi=>by
      unfold updP
      rw [HXK.out,HMK.out]
      by_cases e:i=kt
      ·rw [if_pos e,if_pos e]
      ·rw [if_neg e,if_neg e,if_neg (by omega)])
    go_upto_region 6 with (fail)
    clear hqe
    have C0:=stab t0
    have C1:=stab t1
    have C2:=stab t2
    have C3:=stab t3
    have D0:=stab z0
    have D1:=stab z1
    have D2:=stab z2
    have D3:=stab z3
    have U0:=stab w0'
    have U1:=stab w1'
    have hS0:=below_drew' w2
    clear t0 t1 t2 t3 z0 z1 z2 z3 w0' w1'
    refine region_seq 19 [0,1,2,3,4,5,6,7,8,9,10,11,12,13,14,15,16,17,18,19] (by kernel_rfl) (by kernel_rfl) ?_
    repeat ((first | (refine seq_takeP (v:=?_) rfl rfl rfl ?_ ?_;rotate_left;(· (intro _ hSw;go_simp;(try go_bits);(try with_reducible rfl)))) | (refine seq_take (v:=?_) rfl rfl rfl ?_ ?_;rotate_left;(· (intro _ hSw;go_simp;(try go_bits);(try with_reducible rfl)))) | refine seq_skip rfl rfl rfl ?_);(try simp only [Act.put,pu1,pu2,pu3,pu4,pu5,pu6]))
    refine seq_step rfl rfl (fun KR hKR=>?_)
    go_simp
    with_reducible refine (divF_any _ _ (canF xk) (canF mk) _ (hmx.below hS0) (hmk.below hS0) hsx hsm hm0).mono ?_
    rw [canF_q,canF_q]
    rintro _ w6 ⟨v6,rfl,e6,hb6⟩
    have hS6:=below_then hS0 hb6 hS0.size
    obtain ⟨B9,l9,k9,B9',l9',k9',rfl,_,_⟩:=id e6
    have hO6:=hO.below hS6
    obtain ⟨_,_,_,_,⟨c0,c1,c2,c3⟩,⟨f0,f1,f2,f3⟩,-⟩:=hO6.at_ hgk
    refine hKR.out _ _ (Or.inr hS6) ?_
    clear hKR KR
    (try simp only [Act.put,pu1,pu2,pu3,pu4,pu5,pu6])
    repeat ((first | (refine seq_takeP (v:=?_) rfl rfl rfl ?_ ?_;rotate_left;(· (intro _ hSw;go_simp;(try go_bits);(try with_reducible rfl)))) | (refine seq_take (v:=?_) rfl rfl rfl ?_ ?_;rotate_left;(· (intro _ hSw;go_simp;(try go_bits);(try with_reducible rfl)))) | refine seq_skip rfl rfl rfl ?_);(try simp only [Act.put,pu1,pu2,pu3,pu4,pu5,pu6]))
    refine seq_step rfl rfl (fun KR hKR=>?_)
    go_simp
    refine hKR.out _ _ (Or.inl (by decide)) ?_
    clear hKR KR
    (try simp only [Act.put,pu1,pu2,pu3,pu4,pu5,pu6])
    refine seq_done ?_
    clear C0 C1 C2 C3 D0 D1 D2 D3 U0 U1
    obtain ⟨hO7,hk7⟩:=hO6.set_ (k:=kt) (by rw [canL_length];exact hkn) e6
    rw [HST.out] at hO7
    have hV7:=hk7.bk (hV2.later hS6) (by decide)
    have hbe7:=below_set4' (below_then hbe2 hS6 hbe2.size) hx1 (kt * 4) (kt * 4+1) (kt * 4+2) (kt * 4+3) (.bool (canF (xk / mk)).num.neg) (.slice B9 l9 k9) (.bool (canF (xk / mk)).den.neg) (.slice B9' l9' k9')
    generalize ((((w6.setCell ⟨gx,kt * 4,none⟩ (.bool (canF (xk / mk)).num.neg)).setCell ⟨gx,kt * 4+1,none⟩ (.slice B9 l9 k9)).setCell ⟨gx,kt * 4+2,none⟩ (.bool (canF (xk / mk)).den.neg)).setCell ⟨gx,kt * 4+3,none⟩ (.slice B9' l9' k9'))=W7 at *
    generalize wr.heap.size=gup at *
    clear hO hO6 e6 hb6 hS0 hS6 hk7 hbe2 hV2 hmx hmk hgk hsx hsm hm0 c0 c1 c2 c3 f0 f1 f2 f3
    go_wp2
    go_loopw [51] (fun x wx=>∃i:Nat,i≤n∧x= .int .i64 i∧FrsO w.heap.size wx (.slice (some ⟨gx,0,none⟩) n c5) (canL n (updP kt M X i))∧Bk wx gup 146 [.int .i64 (kt:Int),.slice (some ⟨bm,om,none⟩) n d]∧Below w.heap.size w wx) (fun x _=>n - (intOf x).toNat)
    case atStart=>exact ⟨0,by omega,rfl,hO7,hV7,hbe7⟩
    case round=>
     clear hO7 hV7 hbe7
     obtain ⟨i,hi,rfl,hO,hV,hbe⟩:=hrel
     rcases Nat.lt_or_ge i n with hil | hil
     ·obtain ⟨w0',w1',_,_⟩:=hV.two
      have hiI:(i:Int) < n:=by omega
      by_cases hik:i=kt
      ·have HSK:Hid (canL n (updP kt M X i)=canL n (updP kt M X (i+1))):=Lib.hid (canL_congr fun j _=>updP_skip (.inl hik) j)
       subst hik
       rw [HSK.out] at hO
       go_wp2
       go_roundw
       case rel=>exact ⟨i+1,by omega,by go_num,hO,hV,hbe⟩
       case measure=>simp [intOf];omega
      ·have HIK:=Lib.hid hik
       have hne:(i:Int)≠kt:=by omega
       obtain ⟨b',o',A8,n8,c8,A9,n9,c9,hA,_,⟨z0,z1,z2,z3⟩,hmi⟩:=HIW.out.elem hbe (canL_get hil)
       injection hA with hA
       injection hA with hA1 hA2
       subst hA1;subst hA2
       have hq3:qs (M i)=0∨qs (M i)=1∨qs (M i)= -1:=by have:=qs_bd (M i);omega
       by_cases hq0:qs (M i)=0
       ·have HSK:Hid (canL n (updP kt M X i)=canL n (updP kt M X (i+1))):=Lib.hid (canL_congr fun j _=>updP_skip (.inr (qs_zero.1 hq0)) j)
        clear hq3
        go_wp2_with fail
        refine (signF_any _ (canF (M i)) _ hmi).mono ?_
        rw [canF_q,hq0]
        rintro _ w3 ⟨rfl,hb3⟩
        have hO3:=hO.below hb3
        rw [HSK.out] at hO3
        have hV3:=hV.later hb3
        have hbe3:=below_then hbe hb3 hbe.size
        clear hO hV hbe hb3 hq0 z0 z1 z2 z3 hmi w0' w1'
        go_wp2
        go_roundw
        case rel=>exact ⟨i+1,by omega,by go_num,hO3,hV3,hbe3⟩
        case measure=>simp [intOf];omega
       ·have hqe:(qs (M i) !=0)=true:=by simpa using hq0
        clear hq3 hq0
        go_wp2_with fail
        refine (signF_any _ (canF (M i)) _ hmi).mono ?_
        rw [canF_q]
        rintro _ w3 ⟨rfl,hb3⟩
        have hO3:=hO.below hb3
        have hV3:=hV.later hb3
        have hbe3:=below_then hbe hb3 hbe.size
        clear hO hV hbe hb3 z0 z1 z2 z3 hmi w0' w1'
        obtain ⟨w0',w1',_,_⟩:=hV3.two
        obtain ⟨b',o',A8,n8,c8,A9,n9,c9,hA,_,⟨z0,z1,z2,z3⟩,hmi⟩:=HIW.out.elem hbe3 (canL_get hil)
        injection hA with hA
        injection hA with hA1 hA2
        subst hA1;subst hA2
        obtain ⟨b',o',A4,n4,c4,A5,n5,c5',hA,_,⟨x0',x1',x2',x3'⟩,hmx⟩:=hO3.frs.elem (Below.refl _ _) (canL_get hil)
        injection hA with hA
        injection hA with hA1 hA2
        subst hA1;subst hA2
        obtain ⟨b',o',A6,n6,c6,A7,n7,c7,hA,_,⟨t0,t1,t2,t3⟩,hmz⟩:=hO3.frs.elem (Below.refl _ _) (canL_get hkn)
        injection hA with hA
        injection hA with hA1 hA2
        subst hA1;subst hA2
        simp only [Nat.zero_add] at x0' x1' x2' x3' t0 t1 t2 t3
        obtain ⟨xi,hxi⟩:∃xi,xi=updP kt M X i i:=⟨_,rfl⟩
        obtain ⟨mi,hmie⟩:∃mi,mi=M i:=⟨_,rfl⟩
        obtain ⟨z,hz⟩:∃z,z=updP kt M X i kt:=⟨_,rfl⟩
        have hxi2:xi=X i:=by rw [hxi,updP_left HIK.out]
        have hz2:z=X kt / M kt:=by rw [hz,updP_k]
        have HNX:Hid ((canL n (updP kt M X i)).set i (canF (xi - mi * z))=canL n (updP kt M X (i+1))):=Lib.hid (by
         rw [canL_set hil]
         exact canL_congr fun j hj=>by rw [updP_next HIK.out,hxi2,hmie,hz2])
        have hsx:(canF xi).Sm:=by rw [hxi2];exact (HSX.out i hil).rs.sm (by have:=HE.out;omega)
        have hsi:(canF mi).Sm:=by rw [hmie];exact (HSM.out i hil).rs.sm (by have:=HE.out;omega)
        have hszz:Sz (5^n * K) z:=by
         have:=HSU.out kt hkn
         unfold upd1 at this
         rw [if_pos rfl] at this
         rw [hz2];exact this
        have hsz:(canF z).Sm:=hszz.rs.sm (by have:=HE.out;omega)
        have hsP:(canF (mi * z)).Sm:=(Sz_mul (by rw [hmie];exact HSM.out i hil) hszz).rs.sm (by have:=HE.out;omega)
        have hgi:(canL n (updP kt M X i))[i]? =some (canF xi):=by rw [hxi];exact canL_get hil
        rw [← hxi] at x0' x2' hmx
        rw [← hmie] at z0 z2 hmi
        rw [← hz] at t0 t2 hmz
        have hO:=hO3
        clear hxi hmie hz hxi2 hz2 hszz hO3
        go_upto_region 11 with (fail)
        clear hqe
        have C0:=stab t0
        have C1:=stab t1
        have C2:=stab t2
        have C3:=stab t3
        have D0:=stab z0
        have D1:=stab z1
        have D2:=stab z2
        have D3:=stab z3
        have E0:=stab x0'
        have E1:=stab x1'
        have E2:=stab x2'
        have E3:=stab x3'
        have U0:=stab w0'
        have U1:=stab w1'
        have hS0:=below_drew' w3
        clear t0 t1 t2 t3 z0 z1 z2 z3 x0' x1' x2' x3' w0' w1'
        refine region_seq 19 [0,1,2,3,4,5,6,7,8,9,10,11,12,13,14,15,16,17,18,19] (by kernel_rfl) (by kernel_rfl) ?_
        repeat ((first | (refine seq_takeP (v:=?_) rfl rfl rfl ?_ ?_;rotate_left;(· (intro _ hSw;go_simp;(try go_bits);(try with_reducible rfl)))) | (refine seq_take (v:=?_) rfl rfl rfl ?_ ?_;rotate_left;(· (intro _ hSw;go_simp;(try go_bits);(try with_reducible rfl)))) | refine seq_skip rfl rfl rfl ?_);(try simp only [Act.put,pu1,pu2,pu3,pu4,pu5,pu6]))
        refine seq_step rfl rfl (fun KR hKR=>?_)
        go_simp
        with_reducible refine (mulF_any _ _ (canF mi) (canF z) _ (hmi.below hS0) (hmz.below hS0) hsi hsz).mono ?_
        rw [canF_q,canF_q]
        rintro _ w6 ⟨v6,rfl,e6,hb6⟩
        have hS6:=below_then hS0 hb6 hS0.size
        refine hKR.out _ _ (Or.inr hS6) ?_
        clear hKR KR
        (try simp only [Act.put,pu1,pu2,pu3,pu4,pu5,pu6])
        repeat ((first | (refine seq_takeP (v:=?_) rfl rfl rfl ?_ ?_;rotate_left;(· (intro _ hSw;go_simp;(try go_bits);(try with_reducible rfl)))) | (refine seq_take (v:=?_) rfl rfl rfl ?_ ?_;rotate_left;(· (intro _ hSw;go_simp;(try go_bits);(try with_reducible rfl)))) | refine seq_skip rfl rfl rfl ?_);(try simp only [Act.put,pu1,pu2,pu3,pu4,pu5,pu6]))
        refine seq_step rfl rfl (fun KR hKR=>?_)
        go_simp
        with_reducible refine (subF_any _ _ (canF xi) (canF (mi * z)) _ (hmx.below hS6) e6 hsx hsP).mono ?_
        rw [canF_q,canF_q]
        rintro _ w7 ⟨v7,rfl,e7,hb7⟩
        have hS7:=below_then hS6 hb7 hS6.size
        obtain ⟨B9,l9,k9,B9',l9',k9',rfl,_,_⟩:=id e7
        have hO7:=hO.below hS7
        obtain ⟨_,_,_,_,⟨c0,c1,c2,c3⟩,⟨f0,f1,f2,f3⟩,-⟩:=hO7.at_ hgi
        refine hKR.out _ _ (Or.inr hS7) ?_
        clear hKR KR
        (try simp only [Act.put,pu1,pu2,pu3,pu4,pu5,pu6])
        repeat ((first | (refine seq_takeP (v:=?_) rfl rfl rfl ?_ ?_;rotate_left;(· (intro _ hSw;go_simp;(try go_bits);(try with_reducible rfl)))) | (refine seq_take (v:=?_) rfl rfl rfl ?_ ?_;rotate_left;(· (intro _ hSw;go_simp;(try go_bits);(try with_reducible rfl)))) | refine seq_skip rfl rfl rfl ?_);(try simp only [Act.put,pu1,pu2,pu3,pu4,pu5,pu6]))
        refine seq_step rfl rfl (fun KR hKR=>?_)
        go_simp
        refine hKR.out _ _ (Or.inl (by decide)) ?_
        clear hKR KR
        (try simp only [Act.put,pu1,pu2,pu3,pu4,pu5,pu6])
        refine seq_done ?_
        clear C0 C1 C2 C3 D0 D1 D2 D3 E0 E1 E2 E3 U0 U1
        obtain ⟨hO8,hk8⟩:=hO7.set_ (k:=i) (by rw [canL_length];exact hil) e7
        rw [HNX.out] at hO8
        have hV8:=hk8.bk (hV3.later hS7) (by decide)
        have hbe8:=below_set4' (below_then hbe3 hS7 hbe3.size) hx1 (i * 4) (i * 4+1) (i * 4+2) (i * 4+3) (.bool (canF (xi - mi * z)).num.neg) (.slice B9 l9 k9) (.bool (canF (xi - mi * z)).den.neg) (.slice B9' l9' k9')
        clear hO hO7 hV3 hbe3 hS0 hS6 hS7 e6 e7 hb6 hb7 c0 c1 c2 c3 f0 f1 f2 f3 hmx hmi hmz hk8 hsx hsi hsz hsP hgi HNX
        go_wp2
        go_roundw
        case rel=>exact ⟨i+1,by omega,by go_num,hO8,hV8,hbe8⟩
        case measure=>simp [intOf];omega
     ·obtain rfl:n=i:=by omega
      rw [canL_congr fun j hj=>updP_all hj,← HNXT.out] at hO
      go_wp2
      go_roundw
      case rel=>exact ⟨t+1,by omega,by go_num,hO,hbe⟩
      case measure=>simp [intOf];omega
  ·obtain rfl:T=t:=by omega
   go_wp2
   go_ret
   exact ⟨_,_,rfl,fun r hr=>by rw [← HCC.out];exact HSOL.out r hr,HXB.out _ (Nat.le_refl _),hO,hbe⟩
end Go.Proofs.YtncmobkhenfhpaaGreat
