/- Contracts and plain facts that the claim is built on, joined out of smaller texts; no condition. -/
import Derived.Test.YtncmobkhenfhpaaGreatB35
set_option linter.unusedVariables false
set_option linter.unusedSimpArgs false
set_option maxRecDepth 100000
set_option maxHeartbeats 40000000
namespace Go.Proofs.YtncmobkhenfhpaaGreat
open Go.RowKit
open Pl
attribute [local go_sem ↓] Go.wp_at_zero Go.wp_at_succ
namespace Pl
def restQ (k:Nat) (M X:Nat→Rat) (i:Nat):Rat:=X k - sumN (fun i=>if i=k then 0 else M i * X i) i
theorem restQ_zero {k:Nat} {M X:Nat→Rat}:restQ k M X 0=X k:=by unfold restQ;rw [sumN_zero];grind
theorem restQ_skip {k i:Nat} {M X:Nat→Rat} (h:i=k∨M i=0∨X i=0):restQ k M X i=restQ k M X (i+1):=by
 unfold restQ
 rw [sumN_succ]
 by_cases e:i=k
 ·rw [if_pos e];grind
 ·rw [if_neg e]
  rcases h with h | h | h
  ·exact absurd h e
  ·rw [h];grind
  ·rw [h];grind
theorem restQ_next {k i:Nat} {M X:Nat→Rat} (h:i≠k):restQ k M X (i+1)=restQ k M X i - M i * X i:=by
 unfold restQ
 rw [sumN_succ,if_neg h];grind
theorem restQ_B {n k i E:Nat} {M X:Nat→Rat} (hE:1≤E) (hn:n≤7) (hk:k < n) (hx:∀i,i < n→Sz (22 * E) (X i)) (hm:∀i,i < n→Sz E (M i)) (hi:i≤n):Sz (200 * E) (restQ k M X i):=by
 have h1:Sz (1+i * (23 * E+1)) (sumN (fun i=>if i=k then 0 else M i * X i) i):=Sz_sum fun j hj=>by
  split
  ·exact Sz_zero.mono (by omega)
  ·exact (Sz_mul (hm j (by omega)) (hx j (by omega))).mono (by omega)
 have h2:i * (23 * E+1)≤7 * (23 * E+1):=Nat.mul_le_mul_right _ (by omega)
 exact (Sz_sub (hx k hk) h1).mono (by omega)
end Pl
def RstQ (w:World) (g:Nat) (q:Rat):Prop:=
 ∃A n c A' n' c',Bk w g 48 [.bool (canF q).num.neg,.slice A n c,.bool (canF q).den.neg,.slice A' n' c']∧FracM w (.agg #[.bool (canF q).num.neg,.slice A n c,.bool (canF q).den.neg,.slice A' n' c']) (canF q)
theorem RstQ.below {w w':World} {g:Nat} {q:Rat} (h:RstQ w g q) (hb:Below w.heap.size w w'):RstQ w' g q:=by
 obtain ⟨A,n,c,A',n',c',h1,h2⟩:=h
 exact ⟨A,n,c,A',n',c',h1.later hb,h2.below hb⟩
theorem solveB_own (base bi g n K:Nat) (Cs:Mx) (v:Value) (es:List En) (w:World) (hB:BasO base bi w g n K Cs) (h:VecM w v es) (hgo:Pl.Good n es) (hrs:∀(k:Nat) (e:En),es[k]? =some e→e.f.Rs K):
 Calls Tryz.prog 118 #[.pointer (some ⟨g,0,none⟩),v] w fun o w'=>∃v' x,o= .returned (.tuple #[v',.int .i64 0])∧(∀r,r < n→mulC n Cs x r=colQ es r)∧(∀i,i < n→Sz (5^n * K) (x i))∧VecO w.heap.size w' v' (spV x n)∧Below w.heap.size w w':=by
 have HB:=Lib.hid hB
 obtain ⟨T,gc,cc,k,R,C,im,V,L,Um,CC,s0,s1,s2,s3,vu,hX,⟨hge,hT,hE,hCC⟩,hU,hF,-⟩:=hB
 have y1:w.cell? ⟨g,0,none⟩=some (.int .i64 (n:Int)):=hX.cellAt 0 rfl
 have hn7:=hF.n7
 have HE1:Hid (1≤K):=Lib.hid (Nat.pos_of_ne_zero fun e=>by have:=hF.e1;subst e;simp at this)
 have HE:Hid (5^n * K≤4000000):=Lib.hid hE
 have HK2:Hid (K≤4000000):=Lib.hid (Nat.le_trans (Nat.le_mul_of_pos_left K (Nat.pow_pos (by decide))) hE)
 clear hX hU hF hCC hE hT hge
 go_enter Tryz.func118,Tryz.ntmps118
 go_wp2_with fail
 refine (toDense_own v es n K _ h (by omega) hrs (by have:=HK2.out;omega) hgo).mono ?_
 rintro _ w1 ⟨v1,rfl,e1,hb1⟩
 obtain ⟨A1,c1,rfl⟩:=e1.slice
 clear y1 h
 go_wp2_with fail
 refine (bsolve_own base bi g n K Cs _ (colQ es) _ (HB.out.below hb1) e1.frs (fun i _=>Sz_col hrs HE1.out i)).mono ?_
 rintro _ w2 ⟨v2,x,rfl,hx,hsx,e2,hb2⟩
 have HX:=Lib.hid hx
 have HSX:=Lib.hid hsx
 have hbe2:=below_then hb1 hb2 hb1.size
 obtain ⟨A2,c2,rfl⟩:=e2.slice
 clear e1 hx hsx hb2
 go_wp2_with fail
 refine (fromDense_own _ (canL n x) (5^n * K) _ e2.frs (by rw [canL_length];omega) (canL_rs fun i hi=>HSX.out i hi) (by have:=HE.out;omega)).mono ?_
 rw [canL_length,spV_congr (g:=x) fun i hi=>canL_qAt hi]
 rintro _ w3 ⟨v3,rfl,e3,hb3⟩
 have hbe3:=below_then hbe2 hb3 hbe2.size
 have e3:VecO w.heap.size w3 v3 (spV x n):=by
  obtain ⟨cs,g1,g2⟩:=e3
  exact ⟨cs,row_mono g1 hbe2.size,g2⟩
 clear e2 hb1 hbe2 hb3
 go_wp2
 go_ret2
 exact ⟨_,x,rfl,HX.out,HSX.out,e3,hbe3⟩
theorem solveTB_own (base bi g n K:Nat) (Cs:Mx) (v:Value) (es:List En) (w:World) (hB:BasO base bi w g n K Cs) (h:VecM w v es) (hgo:Pl.Good n es) (hrs:∀(k:Nat) (e:En),es[k]? =some e→e.f.Rs K):
 Calls Tryz.prog 109 #[.pointer (some ⟨g,0,none⟩),v] w fun o w'=>∃v' y,o= .returned (.tuple #[v',.int .i64 0])∧(∀c,c < n→mulC n (trM Cs) y c=colQ es c)∧(∀i,i < n→Sz (5^n * K) (y i))∧VecO w.heap.size w' v' (spV y n)∧Below w.heap.size w w':=by
 obtain ⟨T,gc,cc,k,R,C,im,V,L,Um,CC,s0,s1,s2,s3,vu,hX,⟨hge,hT,hE,hCC⟩,hU,hF,hO,i0,i1,v2,v3,hup⟩:=hB
 obtain ⟨Au,cu,rfl,hcu1,hcu2⟩:=hup.shape
 have hfac:=fac_of hX i0 i1 v2 v3
 have hn7:=hF.n7
 have hK1:1≤K:=Nat.pos_of_ne_zero fun e=>by have:=hF.e1;subst e;simp at this
 obtain ⟨d,hd⟩:∃d,d=colQ es:=⟨_,rfl⟩
 have hdB:∀r,r < n→Sz K (d r):=fun r _=>by rw [hd];exact Sz_col hrs hK1 r
 have hy:∀c,c < n→mulC n (trM (CC 0)) (solT n R C L Um (cN n T k im d T)) c=cN n T k im d T c:=hF.fac.solT _
 have HCB:=Lib.hid (hU.cB hn7 hK1 hdB hy)
 have HYB:=Lib.hid (hU.yB hdB hy)
 have HSOL:=Lib.hid (hU.solvesT hy T (Nat.le_refl _))
 have HIM:=Lib.hid hU.imB
 have HKN:=Lib.hid hU.kn
 have HNZ:=Lib.hid hU.nz
 have HE:=Lib.hid hE
 have HE1:Hid (1≤5^n * K):=Lib.hid hF.e1
 have HN7:=Lib.hid hn7
 have HCC:=Lib.hid hCC
 have HUP:=Lib.hid hup
 have HD:=Lib.hid hd
 have HFA:=Lib.hid hfac
 have HF:=Lib.hid hF
 have HY:Hid (w.cell? ⟨g,6,none⟩=some (.slice Au T cu)):=Lib.hid (hX.cellAt 6 rfl)
 have y1:w.cell? ⟨g,0,none⟩=some (.int .i64 (n:Int)):=hX.cellAt 0 rfl
 have HK2:Hid (K≤4000000):=Lib.hid (Nat.le_trans (Nat.le_mul_of_pos_left K (Nat.pow_pos (by decide))) hE)
 have HGO:=Lib.hid hgo
 have HRS:=Lib.hid hrs
 clear hX hU hF hCC hE hge hup hO i0 i1 v2 v3 hfac hy hdB hd hK1 hgo hrs
 go_enter Tryz.func109,Tryz.ntmps109
 go_wp2_with fail
 refine (toDense_own v es n K _ h (by omega) HRS.out (by have:=HK2.out;omega) HGO.out).mono ?_
 rintro _ w1 ⟨v1,rfl,e1,hb1⟩
 obtain ⟨A5,c5,hv5⟩:=e1.slice
 rw [canL_length] at hv5
 subst hv5
 obtain ⟨-,hc51,hc52⟩:=e1.frs.len
 rw [← HD.out] at e1
 clear y1 h
 have y2:=cell_keep hb1 HY.out
 go_wp2
 clear y2
 go_loopw [8] (fun x wr=>∃(j:Nat) (tz:Int),j≤T∧tz=(T:Int) - 1 - j∧x= .int .i64 tz∧FrsO w.heap.size wr (.slice A5 n c5) (canL n (cN n T k im d j))∧Below w.heap.size w wr) (fun x _=>(intOf x+1).toNat)
 case atStart=>exact ⟨0,(T:Int) - 1,by omega,by omega,rfl,e1,hb1⟩
 case round=>
  clear e1 hb1
  obtain ⟨j,tz,hj,htz,rfl,hO,hbe⟩:=hrel
  rcases Int.lt_or_le tz 0 with hneg | hpos
  ·obtain rfl:T=j:=by omega
   clear htz
   have HO:=Lib.hid hO
   clear hO
   go_wp2_with fail
   refine (facSolveT_own g 2 _ n (5^n * K) (trM (CC 0)) R C L Um _ _ (HFA.out.below hbe) HO.out.frs HF.out (fun i hi=>(HCB.out T (Nat.le_refl _) i hi).mono (by omega)) HYB.out).mono ?_
   rintro _ w2 ⟨v2,rfl,e2,hb2⟩
   have hbe2:=below_then hbe hb2 hbe.size
   obtain ⟨A2,c2,rfl⟩:=e2.slice
   obtain ⟨y,hyy⟩:∃y,y=solT n R C L Um (cN n T k im d T):=⟨_,rfl⟩
   have HYY:=Lib.hid hyy
   rw [← hyy] at e2
   rw [← hyy]
   clear hbe hb2 hyy
   go_wp2_with fail
   refine (fromDense_own _ (canL n y) (5^n * K) _ e2.frs (by rw [canL_length];omega) (canL_rs fun i hi=>by rw [HYY.out];exact HYB.out i hi) (by have:=HE.out;omega)).mono ?_
   rw [canL_length,spV_congr (g:=y) fun i hi=>canL_qAt hi]
   rintro _ w3 ⟨v3,rfl,e3,hb3⟩
   have hbe3:=below_then hbe2 hb3 hbe2.size
   have e3:VecO w.heap.size w3 v3 (spV y n):=by
    obtain ⟨cs,g1,g2⟩:=e3
    exact ⟨cs,row_mono g1 hbe2.size,g2⟩
   clear e2 hbe2 hb3
   go_wp2
   go_ret2
   exact ⟨_,y,rfl,fun c hc=>by
    have:=HSOL.out c hc
    rw [Nat.sub_self] at this
    rw [← HCC.out,HYY.out,this,← HD.out];rfl,fun i hi=>by rw [HYY.out];exact HYB.out i hi,e3,hbe3⟩
  ·obtain ⟨t,rfl⟩:=Int.eq_ofNat_of_zero_le hpos
   have htl:t < T:=by omega
   have HTZ:=Lib.hid htz
   clear htz hpos
   have hkn:=HKN.out t htl
   have hpos:0 < n:=by omega
   obtain ⟨gx,cx,hvx,hx1,hx2,-,-⟩:=hO.shape (by rw [canL_length];omega)
   rw [canL_length] at hvx
   injection hvx with a1 a2 a3
   subst a1
   clear a2 a3 cx
   obtain ⟨gu,B,d',rfl,-,⟨u0,u1⟩,⟨d1,d2⟩,him⟩:=HUP.out.elem hbe htl
   obtain ⟨X,hXe⟩:∃X,X=cN n T k im d j:=⟨_,rfl⟩
   obtain ⟨M,hMe⟩:∃M,M=im t:=⟨_,rfl⟩
   obtain ⟨kt,hke⟩:∃kt,kt=k t:=⟨_,rfl⟩
   have HNXT:Hid (canL n (cN n T k im d (j+1))=canL n (back1 n kt M X)):=Lib.hid (by
    rw [hXe,hMe,hke,show t=T - 1 - j by have:=HTZ.out;omega];rfl)
   have HSX:Hid (∀i,i < n→Sz (22 * (5^n * K)) (X i)):=Lib.hid fun i hi=>by rw [hXe];exact HCB.out j hj i hi
   have HSM:Hid (∀i,i < n→Sz (5^n * K) (M i)):=Lib.hid fun i hi=>by rw [hMe];exact HIM.out t htl i hi
   have HM0:Hid (M kt≠0):=Lib.hid (by rw [hMe,hke];exact HNZ.out t htl)
   rw [← hXe] at hO
   rw [← hMe] at him
   rw [← hke] at hkn u0
   have HIW:Hid (FrsM w (.slice B n d') (canL n M)):=Lib.hid (by
    obtain ⟨_,B',d'',hA',-,⟨-,e2⟩,-,h3⟩:=HUP.out.elem (Below.refl _ _) htl
    injection hA' with hA'
    injection hA' with hA'
    subst hA'
    have e3:=cell_keep hbe e2
    rw [u1] at e3
    injection e3 with e3
    injection e3 with b1 b2 b3
    subst b1 b3
    rw [hMe];exact h3)
   clear hXe hMe hke
   have RST0:∀i,restQ kt M X i=X kt - sumN (fun i=>if i=kt then 0 else M i * X i) i:=fun _=>rfl
   have HSR:Hid (∀i,i≤n→Sz (200 * (5^n * K)) (restQ kt M X i)):=Lib.hid fun i hi=>restQ_B HE1.out (by have:=HN7.out;omega) hkn HSX.out HSM.out hi
   clear RST0
   have hcu:T≤cu:=by have:=hcu1;omega
   obtain ⟨W1,hW1,hV,hbn⟩:∃W1,wr.alloc (.cells #[.int .i64 (kt:Int),.slice B n d'] 146)=W1∧Bk W1 wr.heap.size 146 [.int .i64 (kt:Int),.slice B n d']∧Below wr.heap.size wr W1:=⟨_,rfl,Bk.new wr _ _,below_new wr _⟩
   have hO1:=hO.below hbn
   have him1:=him.below hbn
   have hbe1:=below_then hbe hbn hbe.size
   obtain ⟨w0',w1',_,_⟩:=hV.two
   have hgk:(canL n X)[kt]? =some (canF (X kt)):=canL_get hkn
   obtain ⟨bz,oz,A6,n6,c6,A7,n7,c7,hA,_,⟨t0,t1,t2,t3⟩,hmx⟩:=hO1.frs.elem (Below.refl _ _) hgk
   injection hA with hA
   injection hA with hA1 hA2
   subst hA1;subst hA2
   simp only [Nat.zero_add] at t0 t1 t2 t3
   have hkI:(kt:Int) < n:=by omega
   have y2:=cell_keep hbe HY.out
   have hR:=Bk.new W1 48 [.bool (canF (X kt)).num.neg,.slice A6 n6 c6,.bool (canF (X kt)).den.neg,.slice A7 n7 c7]
   have hbr:=below_new W1 (.cells #[.bool (canF (X kt)).num.neg,.slice A6 n6 c6,.bool (canF (X kt)).den.neg,.slice A7 n7 c7] 48)
   have hgW:gx < W1.heap.size:=Nat.lt_of_lt_of_le hx2 hbn.size
   have hsW:w.heap.size≤W1.heap.size:=hbe1.size
   have hsr0:w.heap.size≤wr.heap.size:=hbe.size
   have htI:(t:Int) < T:=by omega
   clear hO hbe him
   go_upto_region 8 with (fail)
   clear u0 u1 y2
   clear hW1
   go_wp2
   clear w0' w1' t0 t1 t2 t3
   have hO2:=hO1.below hbr
   have hV2:=hV.later hbr
   have hm2:=hmx.below hbr
   have hbe2:=below_then hbe1 hbr hbe1.size
   clear hO1 him1 hV hmx hbe1 hbr hbn
   generalize W1.alloc (.cells #[.bool (canF (X kt)).num.neg,.slice A6 n6 c6,.bool (canF (X kt)).den.neg,.slice A7 n7 c7] 48)=W2 at *
   generalize W1.heap.size=gr at *
   generalize wr.heap.size=gup at *
   go_loopw [48] (fun x wx=>∃i:Nat,i≤n∧x= .int .i64 i∧FrsO w.heap.size wx (.slice (some ⟨gx,0,none⟩) n c5) (canL n X)∧Bk wx gup 146 [.int .i64 (kt:Int),.slice B n d']∧RstQ wx gr (restQ kt M X i)∧Below w.heap.size w wx) (fun x _=>n - (intOf x).toNat)
   case atStart=>exact ⟨0,by omega,rfl,hO2,hV2,⟨A6,n6,c6,A7,n7,c7,by rw [restQ_zero];exact hR,by rw [restQ_zero];exact hm2⟩,hbe2⟩
   case round=>
    clear hO2 hV2 hR hm2 hbe2
    obtain ⟨i,hi,rfl,hO,hV,hRA,hbe⟩:=hrel
    rcases Nat.lt_or_ge i n with hil | hil
    ·obtain ⟨w0',w1',_,_⟩:=hV.two
     have hiI:(i:Int) < n:=by omega
     by_cases hik:i=kt
     ·have HSK:Hid (restQ kt M X i=restQ kt M X (i+1)):=Lib.hid (restQ_skip (.inl hik))
      subst hik
      rw [HSK.out] at hRA
      go_wp2
      go_roundw
      case rel=>exact ⟨i+1,by omega,by go_num,hO,hV,hRA,hbe⟩
      case measure=>simp [intOf];omega
     ·have HIK:=Lib.hid hik
      have hne:(i:Int)≠kt:=by omega
      obtain ⟨bm,om,A8,n8,c8,A9,n9,c9,rfl,_,⟨z0,z1,z2,z3⟩,hmi⟩:=HIW.out.elem hbe (canL_get hil)
      have hq3:qs (M i)=0∨qs (M i)=1∨qs (M i)= -1:=by have:=qs_bd (M i);omega
      by_cases hq0:qs (M i)=0
      ·have HSK:Hid (restQ kt M X i=restQ kt M X (i+1)):=Lib.hid (restQ_skip (.inr (.inl (qs_zero.1 hq0))))
       clear hq3
       go_wp2_with fail
       refine (signF_any _ (canF (M i)) _ hmi).mono ?_
       rw [canF_q,hq0]
       rintro _ w3 ⟨rfl,hb3⟩
       have hO3:=hO.below hb3
       have hR3:=hRA.below hb3
       rw [HSK.out] at hR3
       have hV3:=hV.later hb3
       have hbe3:=below_then hbe hb3 hbe.size
       clear hO hV hRA hbe hb3 hq0 z0 z1 z2 z3 hmi w0' w1'
       go_wp2
       go_roundw
       case rel=>exact ⟨i+1,by omega,by go_num,hO3,hV3,hR3,hbe3⟩
       case measure=>simp [intOf];omega
      ·have hqe:(qs (M i) !=0)=true:=by simpa using hq0
       clear hq3 hq0
       go_wp2_with fail
       refine (signF_any _ (canF (M i)) _ hmi).mono ?_
       rw [canF_q]
       rintro _ w3 ⟨rfl,hb3⟩
       have hO3:=hO.below hb3
       have hR3:=hRA.below hb3
       have hV3:=hV.later hb3
       have hbe3:=below_then hbe hb3 hbe.size
       clear hO hV hRA hbe hb3 z0 z1 z2 z3 hmi w0' w1'
       obtain ⟨w0',w1',_,_⟩:=hV3.two
       obtain ⟨b',o',A4,n4,c4,A5,n5,c5',hA,_,⟨x0',x1',x2',x3'⟩,hmx⟩:=hO3.frs.elem (Below.refl _ _) (canL_get hil)
       injection hA with hA
       injection hA with hA1 hA2
       subst hA1;subst hA2
       simp only [Nat.zero_add] at x0' x1' x2' x3'
       have hq3:qs (X i)=0∨qs (X i)=1∨qs (X i)= -1:=by have:=qs_bd (X i);omega
       by_cases hp0:qs (X i)=0
       ·have HSK:Hid (restQ kt M X i=restQ kt M X (i+1)):=Lib.hid (restQ_skip (.inr (.inr (qs_zero.1 hp0))))
        clear hq3
        go_wp2_with fail
        refine (signF_any _ (canF (X i)) _ hmx).mono ?_
        rw [canF_q,hp0]
        rintro _ w4 ⟨rfl,hb4⟩
        have hO4:=hO3.below hb4
        have hR4:=hR3.below hb4
        rw [HSK.out] at hR4
        have hV4:=hV3.later hb4
        have hbe4:=below_then hbe3 hb4 hbe3.size
        clear hO3 hV3 hR3 hbe3 hb4 hp0 x0' x1' x2' x3' hmx w0' w1'
        go_wp2
        go_roundw
        case rel=>exact ⟨i+1,by omega,by go_num,hO4,hV4,hR4,hbe4⟩
        case measure=>simp [intOf];omega
       ·have hpe:(qs (X i) !=0)=true:=by simpa using hp0
        clear hq3 hp0
        go_wp2_with fail
        refine (signF_any _ (canF (X i)) _ hmx).mono ?_
        rw [canF_q]
        rintro _ w4 ⟨rfl,hb4⟩
        have hO:=hO3.below hb4
        have hR4:=hR3.below hb4
        have hV4:=hV3.later hb4
        have hbe4:=below_then hbe3 hb4 hbe3.size
        clear hO3 hV3 hR3 hbe3 hb4 x0' x1' x2' x3' hmx w0' w1'
        obtain ⟨w0',w1',_,_⟩:=hV4.two
        obtain ⟨b',o',A4,n4,c4,A5,n5,c5',hA,_,⟨x0',x1',x2',x3'⟩,hmx⟩:=hO.frs.elem (Below.refl _ _) (canL_get hil)
        injection hA with hA
        injection hA with hA1 hA2
        subst hA1;subst hA2
        obtain ⟨b',o',A8,n8,c8,A9,n9,c9,hA,_,⟨z0,z1,z2,z3⟩,hmi⟩:=HIW.out.elem hbe4 (canL_get hil)
        injection hA with hA
        injection hA with hA1 hA2
        subst hA1;subst hA2
        simp only [Nat.zero_add] at x0' x1' x2' x3'
        obtain ⟨A6',n6',c6',A7',n7',c7',hRB,hmr⟩:=hR4
        obtain ⟨t0,t1,t2,t3⟩:=hRB.four
        have HNX:Hid (restQ kt M X (i+1)=restQ kt M X i - M i * X i):=Lib.hid (restQ_next HIK.out)
        obtain ⟨rr,hrr⟩:∃rr,rr=restQ kt M X i:=⟨_,rfl⟩
        obtain ⟨xi,hxi⟩:∃xi,xi=X i:=⟨_,rfl⟩
        obtain ⟨mi,hmie⟩:∃mi,mi=M i:=⟨_,rfl⟩
        have hsx:(canF xi).Sm:=by rw [hxi];exact (HSX.out i hil).rs.sm (by have:=HE.out;omega)
        have hsi:(canF mi).Sm:=by rw [hmie];exact (HSM.out i hil).rs.sm (by have:=HE.out;omega)
        have hsr:(canF rr).Sm:=by rw [hrr];exact (HSR.out i hi).rs.sm (by have:=HE.out;omega)
        have hsP:(canF (mi * xi)).Sm:=(Sz_mul (by rw [hmie];exact HSM.out i hil) (by rw [hxi];exact HSX.out i hil)).rs.sm (by have:=HE.out;omega)
        have HRR:=Lib.hid hrr
        have HXI:=Lib.hid hxi
        have HMI:=Lib.hid hmie
        rw [← hxi] at x0' x2' hmx
        rw [← hmie] at z0 z2 hmi
        rw [← hrr] at t0 t2 hmr hRB
        clear hxi hmie hrr
        go_upto_region 13 with (fail)
        clear hqe hpe
        have C0:=stab t0
        have C1:=stab t1
        have C2:=stab t2
        have C3:=stab t3
        have D0:=stab z0
        have D1:=stab z1
        have D2:=stab z2
        have D3:=stab z3
        have E0:=stab x0'
        have E1:=stab x1'
        have E2:=stab x2'
        have E3:=stab x3'
        have U0:=stab w0'
        have U1:=stab w1'
        have hS0:=below_drew' w4
        clear t0 t1 t2 t3 z0 z1 z2 z3 x0' x1' x2' x3' w0' w1'
        refine region_seq 12 [0,1,2,3,4,5,6,7,8,9,10,11,12] (by kernel_rfl) (by kernel_rfl) ?_
        repeat ((first | (refine seq_takeP (v:=?_) rfl rfl rfl ?_ ?_;rotate_left;(· (intro _ hSw;go_simp;(try go_bits);(try with_reducible rfl)))) | (refine seq_take (v:=?_) rfl rfl rfl ?_ ?_;rotate_left;(· (intro _ hSw;go_simp;(try go_bits);(try with_reducible rfl)))) | refine seq_skip rfl rfl rfl ?_);(try simp only [Act.put,pu1,pu2,pu3,pu4,pu5,pu6]))
        refine seq_step rfl rfl (fun KR hKR=>?_)
        go_simp
        with_reducible refine (mulF_any _ _ (canF mi) (canF xi) _ (hmi.below hS0) (hmx.below hS0) hsi hsx).mono ?_
        rw [canF_q,canF_q]
        rintro _ w6 ⟨v6,rfl,e6,hb6⟩
        have hS6:=below_then hS0 hb6 hS0.size
        refine hKR.out _ _ (Or.inr hS6) ?_
        clear hKR KR
        (try simp only [Act.put,pu1,pu2,pu3,pu4,pu5,pu6])
        repeat ((first | (refine seq_takeP (v:=?_) rfl rfl rfl ?_ ?_;rotate_left;(· (intro _ hSw;go_simp;(try go_bits);(try with_reducible rfl)))) | (refine seq_take (v:=?_) rfl rfl rfl ?_ ?_;rotate_left;(· (intro _ hSw;go_simp;(try go_bits);(try with_reducible rfl)))) | refine seq_skip rfl rfl rfl ?_);(try simp only [Act.put,pu1,pu2,pu3,pu4,pu5,pu6]))
        refine seq_step rfl rfl (fun KR hKR=>?_)
        go_simp
        with_reducible refine (subF_any _ _ (canF rr) (canF (mi * xi)) _ (hmr.below hS6) e6 hsr hsP).mono ?_
        rw [canF_q,canF_q]
        rintro _ w7 ⟨v7,rfl,e7,hb7⟩
        have hS7:=below_then hS6 hb7 hS6.size
        obtain ⟨B9,l9,k9,B9',l9',k9',rfl,_,_⟩:=id e7
        have hR7:=hRB.later hS7
        obtain ⟨c0,c1,c2,c3⟩:=hR7.four
        obtain ⟨f0,f1,f2,f3⟩:=hR7.fourF
        refine hKR.out _ _ (Or.inr hS7) ?_
        clear hKR KR
        (try simp only [Act.put,pu1,pu2,pu3,pu4,pu5,pu6])
        repeat ((first | (refine seq_takeP (v:=?_) rfl rfl rfl ?_ ?_;rotate_left;(· (intro _ hSw;go_simp;(try go_bits);(try with_reducible rfl)))) | (refine seq_take (v:=?_) rfl rfl rfl ?_ ?_;rotate_left;(· (intro _ hSw;go_simp;(try go_bits);(try with_reducible rfl)))) | refine seq_skip rfl rfl rfl ?_);(try simp only [Act.put,pu1,pu2,pu3,pu4,pu5,pu6]))
        refine seq_step rfl rfl (fun KR hKR=>?_)
        go_simp
        refine hKR.out _ _ (Or.inl (by decide)) ?_
        clear hKR KR
        (try simp only [Act.put,pu1,pu2,pu3,pu4,pu5,pu6])
        refine seq_done ?_
        clear C0 C1 C2 C3 D0 D1 D2 D3 E0 E1 E2 E3 U0 U1
        have ho8:=others_set4 (w:=w7) (g:=gr) (i:=0) (j:=1) (k:=2) (l:=3) (x:= .bool (canF (rr - mi * xi)).num.neg) (y:= .slice B9 l9 k9) (z:= .bool (canF (rr - mi * xi)).den.neg) (u:= .slice B9' l9' k9')
        have hk8:=hR7.but4 (.bool (canF (rr - mi * xi)).num.neg) (.slice B9 l9 k9) (.bool (canF (rr - mi * xi)).den.neg) (.slice B9' l9' k9')
        have hO8:=(hO.below hS7).others ho8 (hk8.keep (by decide)) (fun b hb e=>by simp [Value.ownBlock] at hb;injection e with e;omega)
        have hV8:=hk8.bk (hV4.later hS7) (by decide)
        have hbe8:=below_set4 (below_then hbe4 hS7 hbe4.size) hsW (.bool (canF (rr - mi * xi)).num.neg) (.slice B9 l9 k9) (.bool (canF (rr - mi * xi)).den.neg) (.slice B9' l9' k9')
        have hR8:RstQ _ gr (restQ kt M X (i+1)):=⟨B9,l9,k9,B9',l9',k9',by rw [HNX.out,← HRR.out,← HMI.out,← HXI.out];exact hR7.set4 _ _ _ _,by rw [HNX.out,← HRR.out,← HMI.out,← HXI.out];exact e7.keep (hk8.keep (by decide))⟩
        clear hO hR7 hV4 hbe4 hS0 hS6 hS7 e6 e7 hb6 hb7 c0 c1 c2 c3 f0 f1 f2 f3 hmx hmi hmr hk8 ho8 hsx hsi hsr hsP hRB
        go_wp2
        go_roundw
        case rel=>exact ⟨i+1,by omega,by go_num,hO8,hV8,hR8,hbe8⟩
        case measure=>simp [intOf];omega
    ·obtain rfl:n=i:=by omega
     obtain ⟨A6',n6',c6',A7',n7',c7',hRB,hmr⟩:=hRA
     obtain ⟨t0,t1,t2,t3⟩:=hRB.four
     obtain ⟨w0',w1',_,_⟩:=hV.two
     obtain ⟨bm,om,A8,n8,c8,A9,n9,c9,rfl,_,⟨z0,z1,z2,z3⟩,hmk⟩:=HIW.out.elem hbe (canL_get hkn)
     have HNX:Hid ((canL n X).set kt (canF (restQ kt M X n / M kt))=canL n (back1 n kt M X)):=Lib.hid (by
      rw [canL_set hkn]
      exact canL_congr fun i hi=>rfl)
     obtain ⟨rr,hrr⟩:∃rr,rr=restQ kt M X n:=⟨_,rfl⟩
     obtain ⟨mk,hmke⟩:∃mk,mk=M kt:=⟨_,rfl⟩
     have hsm:(canF mk).Sm:=by rw [hmke];exact (HSM.out kt hkn).rs.sm (by have:=HE.out;omega)
     have hsr:(canF rr).Sm:=by rw [hrr];exact (HSR.out n (Nat.le_refl _)).rs.sm (by have:=HE.out;omega)
     have hm0:(canF mk).q≠0:=by rw [canF_q,hmke];exact HM0.out
     rw [← hrr,← hmke] at HNX
     rw [← hmke] at z0 z2 hmk
     rw [← hrr] at t0 t2 hmr
     clear hmke hrr hRB
     go_upto_region 15 with (fail)
     have C0:=stab t0
     have C1:=stab t1
     have C2:=stab t2
     have C3:=stab t3
     have D0:=stab z0
     have D1:=stab z1
     have D2:=stab z2
     have D3:=stab z3
     have U0:=stab w0'
     have U1:=stab w1'
     have hS0:=below_drew' wr
     clear t0 t1 t2 t3 z0 z1 z2 z3 w0' w1'
     refine region_seq 15 [0,1,2,3,4,5,6,7,8,9,10,11,12,13,14,15] (by kernel_rfl) (by kernel_rfl) ?_
     repeat ((first | (refine seq_takeP (v:=?_) rfl rfl rfl ?_ ?_;rotate_left;(· (intro _ hSw;go_simp;(try go_bits);(try with_reducible rfl)))) | (refine seq_take (v:=?_) rfl rfl rfl ?_ ?_;rotate_left;(· (intro _ hSw;go_simp;(try go_bits);(try with_reducible rfl)))) | refine seq_skip rfl rfl rfl ?_);(try simp only [Act.put,pu1,pu2,pu3,pu4,pu5,pu6]))
     refine seq_step rfl rfl (fun KR hKR=>?_)
     go_simp
     with_reducible refine (divF_any _ _ (canF rr) (canF mk) _ (hmr.below hS0) (hmk.below hS0) hsr hsm hm0).mono ?_
     rw [canF_q,canF_q]
     rintro _ w6 ⟨v6,rfl,e6,hb6⟩
     have hS6:=below_then hS0 hb6 hS0.size
     obtain ⟨B9,l9,k9,B9',l9',k9',rfl,_,_⟩:=id e6
     have hO6:=hO.below hS6
     obtain ⟨_,_,_,_,⟨c0,c1,c2,c3⟩,⟨f0,f1,f2,f3⟩,-⟩:=hO6.at_ hgk
     refine hKR.out _ _ (Or.inr hS6) ?_
     clear hKR KR
     (try simp only [Act.put,pu1,pu2,pu3,pu4,pu5,pu6])
     repeat ((first | (refine seq_takeP (v:=?_) rfl rfl rfl ?_ ?_;rotate_left;(· (intro _ hSw;go_simp;(try go_bits);(try with_reducible rfl)))) | (refine seq_take (v:=?_) rfl rfl rfl ?_ ?_;rotate_left;(· (intro _ hSw;go_simp;(try go_bits);(try with_reducible rfl)))) | refine seq_skip rfl rfl rfl ?_);(try simp only [Act.put,pu1,pu2,pu3,pu4,pu5,pu6]))
     refine seq_step rfl rfl (fun KR hKR=>?_)
     go_simp
     refine hKR.out _ _ (Or.inl (by decide)) ?_
     clear hKR KR
     (try simp only [Act.put,pu1,pu2,pu3,pu4,pu5,pu6])
     refine seq_done ?_
     clear C0 C1 C2 C3 D0 D1 D2 D3 U0 U1
     obtain ⟨hO8,hk8⟩:=hO6.set_ (k:=kt) (by rw [canL_length];exact hkn) e6
     rw [HNX.out,← HNXT.out] at hO8
     have hbe8:=below_set4' (below_then hbe hS6 hbe.size) hx1 (kt * 4) (kt * 4+1) (kt * 4+2) (kt * 4+3) (.bool (canF (rr / mk)).num.neg) (.slice B9 l9 k9) (.bool (canF (rr / mk)).den.neg) (.slice B9' l9' k9')
     clear hO hO6 hV hbe hS0 hS6 e6 hb6 c0 c1 c2 c3 f0 f1 f2 f3 hmr hmk hk8 hsr hsm hm0
     go_wp2
     go_roundw
     case rel=>exact ⟨j+1,(t:Int) - 1,by have:=HTZ.out;omega,by have:=HTZ.out;omega,by go_num,hO8,hbe8⟩
     case measure=>simp [intOf]
def Keep3 (w w':World):Prop:=∀(b:Nat) (cs:Array Value) (t:TypeId) (fz:Nat × Nat),t≠142→t≠72→t≠146→w.heap[b]? =some (.cells cs t fz)→w'.heap[b]? =some (.cells cs t fz)
theorem Keep3.refl (w:World):Keep3 w w:=fun _ _ _ _ _ _ _ h=>h
theorem Keep3.trans {a b c:World} (h:Keep3 a b) (k:Keep3 b c):Keep3 a c:=fun x cs t fz h1 h2 h3 hx=>k x cs t fz h1 h2 h3 (h x cs t fz h1 h2 h3 hx)
theorem Keep3.of_below {w w':World} (hb:Below w.heap.size w w'):Keep3 w w':=fun b _ _ _ _ _ _ h=>(hb.block b (lt_heap h)).trans h
theorem Keep3.of_but {e:TypeId} {w w':World} (hk:KeepBut e w w') (he:e=142∨e=72∨e=146):Keep3 w w':=fun b cs t fz h1 h2 h3 h=>hk b cs t fz (by rcases he with rfl | rfl | rfl <;> assumption) h
theorem Keep3.bk {w w':World} {g:Nat} {t:TypeId} {cs:List Value} (h:Keep3 w w') (hb:Bk w g t cs) (h1:t≠142) (h2:t≠72) (h3:t≠146):Bk w' g t cs:=h g _ t _ h1 h2 h3 hb
theorem Keep3.own {w w':World} {base:Nat} {t:TypeId} {s n:Nat} {v:Value} {xs:List Value} (h:Keep3 w w') (ho:w.ownsRow base t s v n xs) (h1:t≠142) (h2:t≠72) (h3:t≠146):w'.ownsRow base t s v n xs:=by
 refine ⟨ho.1,?_⟩
 rcases ho.2 with hn | ⟨b,cap,cur,rfl,hb,hg,rest⟩
 ·exact .inl hn
 ·exact .inr ⟨b,cap,cur,rfl,hb,h b _ t _ h1 h2 h3 hg,rest⟩
theorem Keep3.keep {w w':World} (h:Keep3 w w'):Keep w w':=fun b cs fz hb=>h b cs _ fz (by decide) (by decide) (by decide) hb
theorem Keep3.frs {w w':World} {base:Nat} {v:Value} {fs:List RF} (h:Keep3 w w') (ho:FrsO base w v fs):FrsO base w' v fs:=by
 obtain ⟨cs,g1,g2⟩:=ho
 exact ⟨cs,h.own g1 (by decide) (by decide) (by decide),g2.keep h.keep⟩
theorem Keep3.ints {w w':World} {base:Nat} {v:Value} {zs:List Int} (h:Keep3 w w') (ho:IntsO base w v zs):IntsO base w' v zs:=⟨h.own ho.1 (by decide) (by decide) (by decide),ho.2⟩
theorem VecsO.ge {base:Nat} {w:World} {v:Value} {cols:List (List En)} (h:VecsO base w v cols):∀b,v.ownBlock=some b→base≤b:=by
 intro b hb
 obtain ⟨cs,h1,_⟩:=h
 rcases h1.2 with ⟨rfl,_⟩ | ⟨g',cap,cur,rfl,hb',_⟩
 ·simp [Value.ownBlock] at hb
 ·simp [Value.ownBlock] at hb;omega
namespace Pl
theorem vcL_rep {n k:Nat} {Cs:Mx} {f:Nat→Rat} (hk:k < n):(vcL n Cs).set k (spV f n)=vcL n (repC Cs k f):=by
 refine List.ext_getElem? fun i=>?_
 rcases Nat.lt_or_ge i n with e | e
 ·rw [vcL_get e,List.getElem?_set]
  by_cases g:k=i
  ·subst g
   rw [if_pos rfl,vcL_length,if_pos hk]
   congr 1
   exact spV_congr fun r _=>by unfold repC;rw [if_pos rfl]
  ·rw [if_neg g,vcL_get e]
   congr 1
   exact spV_congr fun r _=>by unfold repC;rw [if_neg fun h=>g h.symm]
 ·rw [List.getElem?_eq_none (by rw [List.length_set,vcL_length];exact e),List.getElem?_eq_none (by rw [vcL_length];exact e)]
end Pl
theorem info_upd:(Tryz.prog.info? 146).map (fun i=>(i.zero,i.size,i.bytes))=some (some (.agg #[.int .i64 0,.slice none 0 0]),2,32):=by kernel_rfl
theorem wpList_append_upd {ops:Array Oper} {rest:List Oper} {o:Oper} {a:Act} {Q:Exit→Act→World→Prop} (hgd:o.guard=none) (s x:Operand)
 (ho:o.op= .call { callee:= .builtin .append,args:=#[s,x],argTypes:=#[140,140] })
 (W:World) (base bi:Nat) (v:Value) (T n q:Nat) (k:Nat→Nat) (im:Mx) (y:Nat→Rat) (hs:a.eval s=v) (hown:UpsO base bi W v T n k im) (A:Option Addr) (l c:Nat) (hf:FrsO bi W (.slice A l c) (canL n y))
 (hx:a.eval x= .slice (some ⟨W.heap.size,0,none⟩) 1 1) (hn:T+1≤1099511627776) (hbase:base≤W.heap.size)
 (h:∀v' w',UpsO base bi w' v' (T+1) n (putN k T q) (putN im T y)→KeepBut 146 W w'→Below base W w'→wpList Tryz.prog ops Q rest (a.put o.dst v') w'):
 wpList Tryz.prog ops Q (o::rest) a (W.alloc (.cells #[.int .i64 (q:Int),.slice A l c] 146)):=by
 obtain ⟨cs,h1,h2⟩:=hown
 obtain ⟨i0,hi,hz0,hz1,hz2⟩:=info_parts info_upd
 have hl:cs.length=T * 2:=h1.1
 refine wpList_append_one hgd s x 140 ho 146 i0 _ 2 32 Tryz.underlying140 hi hz0 hz1 hz2 rfl (by decide) W base v T cs [.int .i64 (q:Int),.slice A l c] hs h1 hx rfl (by intro u hu;simp at hu;rcases hu with rfl | rfl <;> rfl) (by unfold maxLen;omega) (by omega) hbase fun v' w' g1 g2 g3=>h v' w' ⟨_,g1,fun t ht=>?_⟩ g2 g3
 by_cases e:t=T
 ·subst e
  refine ⟨.slice A l c,?_,?_,?_⟩
  ·rw [putN_new,List.getElem?_append_right (by omega),hl,Nat.sub_self];rfl
  ·rw [List.getElem?_append_right (by omega),hl,show t * 2+1 - t * 2=1 by omega];rfl
  ·rw [putN_new];exact hf.but g2 (by decide) (by decide)
 ·obtain ⟨u,e1,e2,e3⟩:=h2 t (by omega)
  refine ⟨u,?_,?_,?_⟩
  ·rw [putN_old (by omega),List.getElem?_append_left (by omega)];exact e1
  ·rw [List.getElem?_append_left (by omega)];exact e2
  ·rw [putN_old (by omega)];exact e3.but g2 (by decide) (by decide)
theorem refresh_own (base bi g n K T gc cc:Nat) (Cs:Mx) (s0 s1 s2 s3:Value) (Au:Option Addr) (cu:Nat) (w:World) (hX:Bk w g 142 [.int .i64 (n:Int),.slice (some ⟨gc,0,none⟩) n cc,s0,s1,s2,s3,.slice Au T cu]) (hge:base≤g) (hO:VecsO base w (.slice (some ⟨gc,0,none⟩) n cc) (vcL n Cs)) (hT:1≤T) (hT2:T≤17) (hn:n≤7) (hK:1≤K) (hE:5^n * K≤4000000)
 (hs:∀r c,r < n→c < n→Sz K (Cs c r)) (hi:Indep n Cs) (hbase:base≤w.heap.size):
 Calls Tryz.prog 123 #[.pointer (some ⟨g,0,none⟩)] w fun o w'=>o= .returned (.tuple #[])∧BasO base bi w' g n K Cs∧Below base w w'∧Keep3 w w':=by
 have y1:=hX.cellAt 1 rfl
 have y6:=hX.cellAt 6 rfl
 have HX:=Lib.hid hX
 have HO:=Lib.hid hO
 have HS:=Lib.hid hs
 have HI:=Lib.hid hi
 have HK:=Lib.hid hK
 have HE:=Lib.hid hE
 have hgc:gc < w.heap.size:=by
  obtain ⟨cs,h1,_⟩:=hO
  exact own_lt' h1 gc rfl
 clear hX hO hs hi hK hE
 go_enter Tryz.func123,Tryz.ntmps123
 go_wp2_with fail
 clear y1 y6
 refine (factorize_own _ n K Cs _ HO.out.vecs hn HK.out HE.out HS.out).mono ?_
 rintro _ w1 ⟨hb1,⟨R,C,L,Um,z0,z1,z2,z3,rfl,hF,h0,h1,h2,h3⟩ | ⟨rfl,hni⟩⟩
 ·have HF:=Lib.hid hF
  obtain ⟨A0,c0,rfl⟩:=h0.nshape
  obtain ⟨A1,c1,rfl⟩:=h1.nshape
  obtain ⟨A2,c2,rfl⟩:=h2.nshape
  obtain ⟨A3,c3,rfl⟩:=h3.nshape
  obtain ⟨W2,hW2,hY,hby⟩:∃W2,w1.alloc (.cells #[.slice A0 n c0,.slice A1 n c1,.slice A2 n c2,.slice A3 n c3] 137)=W2∧Bk W2 w1.heap.size 137 [.slice A0 n c0,.slice A1 n c1,.slice A2 n c2,.slice A3 n c3]∧Below w1.heap.size w1 W2:=⟨_,rfl,Bk.new w1 _ _,below_new w1 _⟩
  obtain ⟨x0,x1,x2,x3⟩:=hY.four
  have hb2:=below_then hb1 hby hb1.size
  have hX2:=HX.out.later hb2
  have e0:=h0.below hby
  have e1:=h1.below hby
  have e2:=h2.below hby
  have e3:=h3.below hby
  have hO2:=HO.out.below hb2
  have q2:=hX2.cellAt 2 rfl
  have q3:=hX2.cellAt 3 rfl
  have q4:=hX2.cellAt 4 rfl
  have q5:=hX2.cellAt 5 rfl
  have q6:=hX2.cellAt 6 rfl
  have r2:=hX2.frozen 2
  have r3:=hX2.frozen 3
  have r4:=hX2.frozen 4
  have r5:=hX2.frozen 5
  have r6:=hX2.frozen 6
  clear hF h0 h1 h2 h3 hY hb1 hby
  go_wp2
  clear hW2 x0 x1 x2 x3 q2 q3 q4 q5 q6 r2 r3 r4 r5 r6
  have b2:=hX2.set_ 2 (.slice A0 n c0)
  have b3:=b2.set_ 3 (.slice A1 n c1)
  have b4:=b3.set_ 4 (.slice A2 n c2)
  have b5:=b4.set_ 5 (.slice A3 n c3)
  have b6:=b5.set_ 6 (.slice none 0 0)
  have kk:=(((KeepBut.setCell hX2 2 (.slice A0 n c0)).trans (KeepBut.setCell b2 3 (.slice A1 n c1))).trans (KeepBut.setCell b3 4 (.slice A2 n c2))).trans ((KeepBut.setCell b4 5 (.slice A3 n c3)).trans (KeepBut.setCell b5 6 (.slice none 0 0)))
  have hbz:=(((((hb2.mono hbase).setCell (p:=⟨g,2,none⟩) hge (.slice A0 n c0)).setCell (p:=⟨g,3,none⟩) hge (.slice A1 n c1)).setCell (p:=⟨g,4,none⟩) hge (.slice A2 n c2)).setCell (p:=⟨g,5,none⟩) hge (.slice A3 n c3)).setCell (p:=⟨g,6,none⟩) hge (.slice none 0 0)
  go_end0
  exact ⟨rfl,⟨0,gc,cc,fun _=>0,R,C,fun _ _=>0,fun _ _=>0,L,Um,fun _=>Cs,_,_,_,_,_,b6,⟨hge,by omega,HE.out,rfl⟩,Ups.zero HS.out HI.out _ _ _,HF.out,hO2.but kk (by decide) (by decide) (by decide),(e0.but kk (by decide)).monoB hbase,(e1.but kk (by decide)).monoB hbase,(e2.but kk (by decide) (by decide) (by decide)).monoB hgc,(e3.but kk (by decide) (by decide) (by decide)).monoB hgc,UpsO.nil _ _ _ _ _ _⟩,hbz,(Keep3.of_below hb2).trans (Keep3.of_but kk (.inl rfl))⟩
 ·exact absurd HI.out hni
theorem replace_own (base bi g n K:Nat) (Cs:Mx) (v:Value) (es:List En) (k:Nat) (x:Nat→Rat) (w:World) (hB:BasO base bi w g n K Cs) (h:VecM w v es) (hgo:Pl.Good n es) (hrs:∀(k:Nat) (e:En),es[k]? =some e→e.f.Rs K) (hk:k < n)
 (hx:∀r,r < n→mulC n Cs x r=colQ es r) (hx0:x k≠0) (hbase:base≤w.heap.size) (hbi:bi≤w.heap.size):
 Calls Tryz.prog 92 #[.pointer (some ⟨g,0,none⟩),.int .i64 (k:Int),v] w fun o w'=>o= .returned (.int .i64 0)∧BasO base bi w' g n K (repC Cs k (colQ es))∧Below base w w'∧Keep3 w w':=by
 have HB:=Lib.hid hB
 obtain ⟨T,gc,cc,ks,R,C,im,V,L,Um,CC,s0,s1,s2,s3,vu,hX,⟨hge,hT,hE,hCC⟩,hU,hF,hO,i0,i1,v2,v3,hup⟩:=hB
 obtain ⟨Au,cu,rfl,hcu1,hcu2⟩:=hup.shape
 have hn7:=hF.n7
 have y0:=hX.cellAt 0 rfl
 have HE1:Hid (1≤K):=Lib.hid (Nat.pos_of_ne_zero fun e=>by have:=hF.e1;subst e;simp at this)
 have HE:Hid (5^n * K≤4000000):=Lib.hid hE
 have HK2:Hid (K≤4000000):=Lib.hid (Nat.le_trans (Nat.le_mul_of_pos_left K (Nat.pow_pos (by decide))) hE)
 have HIND:Hid (Indep n Cs):=Lib.hid (by rw [← hCC];exact hU.indep T (Nat.le_refl _))
 have HCP:Hid (cpyV es=spV (colQ es) n):=Lib.hid (cpyV_spV hgo)
 have HLE:Hid (es.length≤1099511627776):=Lib.hid (by
  have e1:(cpyV es).length=es.length:=by simp [cpyV]
  rw [cpyV_spV hgo] at e1
  have:=spV_length (f:=colQ es) n
  omega)
 have HU:=Lib.hid hU
 have HF:=Lib.hid hF
 have HCC:=Lib.hid hCC
 have HRS:=Lib.hid hrs
 have HGO:=Lib.hid hgo
 have HXS:=Lib.hid hx
 have HX0:=Lib.hid hx0
 have HO:=Lib.hid hO
 have HX:=Lib.hid hX
 have HI0:=Lib.hid i0
 have HI1:=Lib.hid i1
 have HV2:=Lib.hid v2
 have HV3:=Lib.hid v3
 have HUP:=Lib.hid hup
 have hkI:(k:Int) < n:=by omega
 obtain ⟨Av,nv,cv,rfl⟩:∃A n c,v= .slice A n c:=by obtain ⟨A,c,e,_⟩:=h.shape;exact ⟨A,_,c,e⟩
 have hv:=h
 clear hX hU hF hCC hE hO i0 i1 v2 v3 hup hrs hgo hx hx0 h
 go_enter Tryz.func92,Tryz.ntmps92
 go_wp2_with fail
 refine (toDense_own _ es n K _ hv (by omega) HRS.out (by have:=HK2.out;omega) HGO.out).mono ?_
 rintro _ w1 ⟨v1,rfl,e1,hb1⟩
 obtain ⟨A1,c1,rfl⟩:=e1.slice
 clear y0
 have hv1:=hv.below hb1
 clear hv
 go_wp2_with fail
 refine (bsolve_own base bi g n K Cs _ (colQ es) _ (HB.out.below hb1) e1.frs (fun i _=>Sz_col HRS.out HE1.out i)).mono ?_
 rintro _ w2 ⟨v2,x',rfl,hx',hsx,e2,hb2⟩
 have HXE:Hid (x' k≠0):=Lib.hid (by rw [HIND.out.uniq hx' HXS.out k hk];exact HX0.out)
 have HXP:=Lib.hid hx'
 have hbe2:=below_then hb1 hb2 hb1.size
 have hv:=hv1.below hb2
 obtain ⟨g2,c2,hv2,hg21,hg22,hg23,hg24⟩:=e2.shape (by rw [canL_length];omega)
 rw [canL_length] at hv2 hg23
 subst hv2
 obtain ⟨bz,oz,A6,n6,c6,A7,n7,c7,hA,_,⟨t0,t1,t2,t3⟩,hmx⟩:=e2.frs.elem (Below.refl _ _) (canL_get hk)
 injection hA with hA
 injection hA with hA1 hA2
 subst hA1;subst hA2
 simp only [Nat.zero_add] at t0 t1 t2 t3
 have hqe:(qs (x' k)==0)=false:=by
  have:=HXE.out
  simpa using fun e=>this (qs_zero.1 e)
 have hge2:=hb1.size
 clear e1 hv1 hx' hsx hb1
 have HE2:=Lib.hid e2
 clear e2
 go_wp2_with fail
 refine (signF_any _ (canF (x' k)) _ hmx).mono ?_
 rw [canF_q]
 rintro _ w3 ⟨rfl,hb3⟩
 have hbe3:=below_then hbe2 hb3 hbe2.size
 have HE3:=Lib.hid (HE2.out.below hb3)
 have hv3:=hv.below hb3
 have hX3:=HX.out.later hbe3
 have hO3:=HO.out.below hbe3
 have y1:=hX3.cellAt 1 rfl
 clear t0 t1 t2 t3 hmx hv hbe2 hb2 hb3
 have hv:=hv3
 have hO:=hO3
 go_upto_region 9 with (fail)
 clear hqe
 have Y1:=stab y1
 have hS0:=below_drew' w3
 clear y1
 refine region_seq 8 [0,1,2,3,4,5,6,7,8] (by kernel_rfl) (by kernel_rfl) ?_
 repeat ((first | (refine seq_takeP (v:=?_) rfl rfl rfl ?_ ?_;rotate_left;(· (intro _ hSw;go_simp;(try go_bits);(try with_reducible rfl)))) | (refine seq_take (v:=?_) rfl rfl rfl ?_ ?_;rotate_left;(· (intro _ hSw;go_simp;(try go_bits);(try with_reducible rfl)))) | refine seq_skip rfl rfl rfl ?_);(try simp only [Act.put,pu1,pu2,pu3,pu4,pu5,pu6]))
 refine seq_step rfl rfl (fun KR hKR=>?_)
 go_simp
 with_reducible refine (copyVector_own _ es K _ (hv.below hS0) HRS.out (by have:=HK2.out;omega) HLE.out).mono ?_
 rw [HCP.out]
 rintro _ w6 ⟨v6,rfl,e6,hb6⟩
 have hS6:=below_then hS0 hb6 hS0.size
 obtain ⟨A6,n6,c6,rfl⟩:∃A n c,v6= .slice A n c:=by obtain ⟨A,c,e,_⟩:=e6.vec.shape;exact ⟨A,_,c,e⟩
 have hO6:=hO.below hS6
 obtain ⟨_,m0,m1,-⟩:=hO6.at_ (vcL_get (L:=Cs) hk)
 refine hKR.out _ _ (Or.inr hS6) ?_
 clear hKR KR
 (try simp only [Act.put,pu1,pu2,pu3,pu4,pu5,pu6])
 repeat ((first | (refine seq_takeP (v:=?_) rfl rfl rfl ?_ ?_;rotate_left;(· (intro _ hSw;go_simp;(try go_bits);(try with_reducible rfl)))) | (refine seq_take (v:=?_) rfl rfl rfl ?_ ?_;rotate_left;(· (intro _ hSw;go_simp;(try go_bits);(try with_reducible rfl)))) | refine seq_skip rfl rfl rfl ?_);(try simp only [Act.put,pu1,pu2,pu3,pu4,pu5,pu6]))
 refine seq_step rfl rfl (fun KR hKR=>?_)
 go_simp
 refine hKR.out _ _ (Or.inl (by decide)) ?_
 clear hKR KR
 (try simp only [Act.put,pu1,pu2,pu3,pu4,pu5,pu6])
 refine seq_done ?_
 clear Y1
 obtain ⟨hO7,k7⟩:=hO6.set_ (k:=k) (by rw [vcL_length];exact hk) e6.vec
 rw [vcL_rep hk] at hO7
 have hbz:=below_then hbe3 hS6 hbe3.size
 have ho7:=Others.of_set (g:=gc) (i:=k) (v:= .slice A6 n6 c6) (w:=w6)
 have hX7:=k7.bk (hX3.later hS6) (by decide)
 have hi0:=(HI0.out.below hbz).but k7 (by decide)
 have hi1:=(HI1.out.below hbz).but k7 (by decide)
 have hl2:=(HV2.out.below hbz).others ho7 k7 (fun b hb e=>by have:=HV2.out.ge b hb;injection e with e;omega)
 have hl3:=(HV3.out.below hbz).others ho7 k7 (fun b hb e=>by have:=HV3.out.ge b hb;injection e with e;omega)
 have hup7:=(HUP.out.below hbz).but k7 (by decide) (by decide) (by decide)
 have e7:=((HE3.out.below hS6).but k7 (by decide) (by decide)).monoB (show bi≤w1.heap.size by omega)
 have hbe7:=(hbz.mono hbase).setCell (p:=⟨gc,k,none⟩) HO.out.base (.slice A6 n6 c6)
 have hk7:=(Keep3.of_below hbz).trans (Keep3.of_but k7 (.inr (.inl rfl)))
 generalize w6.setCell ⟨gc,k,none⟩ (.slice A6 n6 c6)=W7 at *
 have hbs7:=hbe7.size
 clear hv hv3 hO hO3 hO6 hX3 hbe3 hS0 hS6 hb6 e6 hbz ho7 k7 m0 m1
 obtain ⟨y6,y6f⟩:W7.cell? ⟨g,6,none⟩=some (.slice Au T cu)∧W7.frozen? ⟨g,6,none⟩=false:=⟨hX7.cellAt 6 rfl,hX7.frozen 6⟩
 have hbs8:=Nat.le_trans hbase hbs7
 go_wp2_with (at_builtin;refine wpList_append_upd rfl (.tmp 53) (.tmp 57) rfl W7 base bi (.slice Au T cu) T n k ks im x' rfl hup7 _ _ _ e7 rfl (by omega) hbs8 ?_)
 intro v8 W8 hup8 k8 hb8
 obtain ⟨A8,c8,rfl,hc81,hc82⟩:=hup8.shape
 have hX8:=k8.bk hX7 (by decide)
 have hO8:=hO7.but k8 (by decide) (by decide) (by decide)
 have hi8:=hi0.but k8 (by decide)
 have hj8:=hi1.but k8 (by decide)
 have hl8:=hl2.but k8 (by decide) (by decide) (by decide)
 have hm8:=hl3.but k8 (by decide) (by decide) (by decide)
 have hk8:=hk7.trans (Keep3.of_but k8 (.inr (.inr rfl)))
 have hbe8:=hbe7.trans hb8
 have k9:=KeepBut.setCell hX8 6 (.slice A8 (T+1) c8)
 have hX9:=hX8.set_ 6 (.slice A8 (T+1) c8)
 have hO9:=hO8.but k9 (by decide) (by decide) (by decide)
 have hi9:=hi8.but k9 (by decide)
 have hj9:=hj8.but k9 (by decide)
 have hl9:=hl8.but k9 (by decide) (by decide) (by decide)
 have hm9:=hm8.but k9 (by decide) (by decide) (by decide)
 have hup9:=hup8.but k9 (by decide) (by decide) (by decide)
 have hk9:=hk8.trans (Keep3.of_but k9 (.inl rfl))
 have hbe9:=hbe8.setCell (p:=⟨g,6,none⟩) hge (.slice A8 (T+1) c8)
 have q6:=hX8.cellAt 6 rfl
 have q6f:=hX8.frozen 6
 clear y6 y6f hX7 hO7 hi0 hi1 hl2 hl3 hup7 e7 hbe7 hk7 k8 hb8 hX8 hO8 hi8 hj8 hl8 hm8 hup8 hk8 hbe8 k9
 go_upto_region 11 with (fail)
 clear q6 q6f
 generalize W8.setCell ⟨g,6,none⟩ (.slice A8 (T+1) c8)=W9 at *
 have hU':=HU.out.snoc (q:=k) (v:=colQ es) (x:=x') hk (fun r hr=>by rw [HCC.out];exact HXP.out r hr) HXE.out (fun r _=>Sz_col HRS.out HE1.out r)
 have hCT:putN CC (T+1) (repC (CC T) k (colQ es)) (T+1)=repC Cs k (colQ es):=by rw [putN_new,HCC.out]
 have hbs9:base≤W9.heap.size:=Nat.le_trans hbase hbe9.size
 have p6:=hX9.cellAt 6 rfl
 by_cases hT16:T=16
 ·have hIN':Indep n (repC Cs k (colQ es)):=by rw [← hCT];exact hU'.indep (T+1) (Nat.le_refl _)
  have hSZ':∀r c,r < n→c < n→Sz K (repC Cs k (colQ es) c r):=by rw [← hCT];exact hU'.sz (T+1) (Nat.le_refl _)
  have HX9:=Lib.hid hX9
  have HI9:=Lib.hid hIN'
  have HS9:=Lib.hid hSZ'
  have HO9:=Lib.hid hO9
  have hT17:16 < (T:Int)+1:=by omega
  clear hX9 hIN' hSZ' hO9 hi9 hj9 hl9 hm9 hup9 hU' hCT
  go_wp2_with fail
  clear p6
  refine (refresh_own base bi g n K (T+1) gc cc (repC Cs k (colQ es)) s0 s1 s2 s3 A8 c8 _ HX9.out hge HO9.out (by omega) (by omega) hn7 HE1.out HE.out HS9.out HI9.out hbs9).mono ?_
  rintro _ w10 ⟨rfl,hB10,hbe10,hk10⟩
  have hbz:=hbe9.trans hbe10
  have hkz:=hk9.trans hk10
  clear hbe9 hbe10 hk9 hk10
  go_wp2
  go_ret
  exact ⟨rfl,hB10,hbz,hkz⟩
 ·have hT17:¬16 < (T:Int)+1:=by omega
  have hBz:BasO base bi W9 g n K (repC Cs k (colQ es)):=⟨T+1,gc,cc,_,R,C,_,_,L,Um,_,_,_,_,_,_,hX9,⟨hge,by omega,HE.out,hCT⟩,hU',by rw [putN_old (by omega)];exact HF.out,hO9,hi9,hj9,hl9,hm9,hup9⟩
  clear hX9 hO9 hi9 hj9 hl9 hm9 hup9 hU' hCT
  go_wp2
  go_ret
  exact ⟨rfl,hBz,hbe9,hk9⟩
end Go.Proofs.YtncmobkhenfhpaaGreat
