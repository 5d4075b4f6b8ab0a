/- Contracts and plain facts that the claim is built on, joined out of smaller texts; no condition. -/
import Derived.Test.YtncmobkhenfhpaaGreatB37
set_option linter.unusedVariables false
set_option linter.unusedSimpArgs false
set_option maxRecDepth 100000
set_option maxHeartbeats 40000000
namespace Go.Proofs.YtncmobkhenfhpaaGreat
open Go.RowKit
open Pl
attribute [local go_sem ↓] Go.wp_at_zero Go.wp_at_succ
namespace Pl
theorem Inc_headlt {es:List En} {e:En}:∀{a:Int},Inc (some a) (es++[e])→a < e.idx:=by
 induction es with
 | nil=>intro a h;have:=h.1;simp [leP] at this;omega
 | cons d es ih=>intro a h;have h1:=h.1;have h2:=ih h.2;simp [leP] at h1;omega
theorem Inc_unsnoc {es:List En} {e:En}:∀{p:Option Int},Inc p (es++[e])→Inc p es∧∀(k:Nat) (d:En),es[k]? =some d→d.idx < e.idx:=by
 induction es with
 | nil=>intro p _;exact ⟨trivial,fun k d h=>by simp at h⟩
 | cons c es ih=>
  intro p h
  obtain ⟨h1,h2⟩:=ih h.2
  refine ⟨⟨h.1,h1⟩,fun k d hd=>?_⟩
  cases k with
  | zero=>simp at hd;subst hd;exact Inc_headlt h.2
  | succ k=>exact h2 k d (by simpa using hd)
theorem colQ_out {n:Nat} {es:List En} (h:∀(k:Nat) (e:En),es[k]? =some e→e.idx≠(n:Int)):colQ es n=0:=by
 have key:∀(es:List En) (f:Nat→Rat),(∀(k:Nat) (e:En),es[k]? =some e→e.idx≠(n:Int))→dQ es f n=f n:=by
  intro es
  induction es with
  | nil=>intro f _;rfl
  | cons c es ih=>
   intro f h
   rw [dQ,ih _ fun k e he=>h (k+1) e (by simpa using he),if_neg (h 0 c rfl)]
 exact key es _ h
theorem cpyV_spV:∀{n:Nat} {es:List En},Good n es→cpyV es=spV (colQ es) n
 | 0,[],_=>rfl
 | 0,e::es,h=>by have:=h.1 0 e rfl;omega
 | n+1,es,h=>by
  rcases List.eq_nil_or_concat es with rfl | ⟨ds,e,he0⟩
  ·have h0:Good n ([]:List En):=⟨fun k e h=>by simp at h,trivial,fun k e h=>by simp at h⟩
   rw [spV_skip rfl]
   exact cpyV_spV h0
  ·rw [List.concat_eq_append] at he0
   subst he0
   obtain ⟨h1,h2,h3⟩:=h
   obtain ⟨i1,i2⟩:=Inc_unsnoc h2
   have he:(ds++[e])[ds.length]? =some e:=by simp
   have e1:=h1 _ e he
   have hl:∀(k:Nat) (d:En),ds[k]? =some d→(ds++[e])[k]? =some d:=fun k d hd=>by
    rw [List.getElem?_append_left (List.getElem?_eq_some_iff.1 hd).1];exact hd
   have hc:∀i,colQ (ds++[e]) i=if e.idx=(i:Int) then e.f.q else colQ ds i:=fun i=>by unfold colQ;rw [dQ_snoc]
   by_cases g:e.idx=(n:Int)
   ·have hd:Good n ds:=⟨fun k d hd=>by have:=i2 k d hd;have:=h1 k d (hl k d hd);omega,i1,fun k d hd=>h3 k d (hl k d hd)⟩
    have hn:colQ (ds++[e]) n=e.f.q:=by rw [hc,if_pos g]
    rw [spV_next (by rw [hn];exact h3 _ e he),hn,spV_congr (g:=colQ ds) fun i hi=>by rw [hc,if_neg (by omega)],← cpyV_spV hd]
    unfold cpyV
    rw [List.map_append]
    simp [g]
   ·have hd:Good n (ds++[e]):=⟨fun k d hd=>by
     have:=h1 k d hd
     rcases Nat.lt_or_ge k ds.length with hk | hk
     ·rw [List.getElem?_append_left hk] at hd
      have:=i2 k d hd;omega
     ·rw [List.getElem?_append_right hk] at hd
      have hk0:k - ds.length=0:=by
       rcases Nat.eq_zero_or_pos (k - ds.length) with e | e
       ·exact e
       ·rw [List.getElem?_eq_none (by simp;omega)] at hd;cases hd
      rw [hk0] at hd
      simp at hd
      subst hd
      omega,h2,h3⟩
    rw [spV_skip (colQ_out fun k d hk=>by have:=hd.1 k d hk;omega)]
    exact cpyV_spV hd
end Pl
theorem newB_own (v:Value) (n K:Nat) (cols:List (List En)) (Cs:Mx) (w:World) (h:VecsM w v cols) (hl:cols.length=n) (hn:n≤7) (hK:1≤K) (hE:5^n * K≤4000000) (hg:∀(k:Nat) (c:List En),cols[k]? =some c→Pl.Good n c∧∀(j:Nat) (e:En),c[j]? =some e→e.f.Rs K) (hCs:∀(k:Nat) (c:List En),cols[k]? =some c→Cs k=colQ c):
 Calls Tryz.prog 85 #[.int .i64 (n:Int),v] w (NewB n K Cs w):=by
 obtain ⟨A,c,rfl,hc1,hc2⟩:=h.shape
 rw [hl] at h hc1 ⊢
 have HV:=Lib.hid h
 have HG:=Lib.hid hg
 have HL:=Lib.hid hl
 have HK:=Lib.hid hK
 have HE:=Lib.hid hE
 have HSZ:Hid (∀r c,r < n→c < n→Sz K (Cs c r)):=Lib.hid fun r c hr hc=>by
  obtain ⟨d,hd⟩:=get_someC (cs:=cols) (i:=c) (by omega)
  rw [hCs c d hd]
  exact Sz_col (hg c d hd).2 hK r
 have hK2:K≤4000000:=Nat.le_trans (Nat.le_mul_of_pos_left K (Nat.pow_pos (by decide))) hE
 have hmk:=make_vecs n (by omega)
 have hO0:=VecsO.zeros w n (by unfold maxLen;omega)
 have hb0:=below_new w (.cells (zvc n) 72)
 rw [pvcL_zero (L:=Cs)] at hO0
 have HCS:=Lib.hid hCs
 clear h hg hl hK hE hCs
 go_enter Tryz.func85,Tryz.ntmps85
 go_wp2
 generalize w.alloc (.cells (zvc n) 72)=W at *
 go_loopw [26] (fun x wr=>∃k:Nat,k≤n∧x= .int .i64 k∧VecsO w.heap.size wr (.slice (some ⟨w.heap.size,0,none⟩) n n) (pvcL n k Cs)∧Below w.heap.size w wr) (fun x _=>n - (intOf x).toNat)
 case atStart=>exact ⟨0,by omega,rfl,hO0,hb0⟩
 case round=>
  clear hO0 hb0
  obtain ⟨k,hk,rfl,hO,hbe⟩:=hrel
  rcases Nat.lt_or_ge k n with hkl | hkl
  ·obtain ⟨es,hes⟩:=get_someC (cs:=cols) (i:=k) (by rw [HL.out];exact hkl)
   obtain ⟨hgo,hrs⟩:=HG.out k es hes
   obtain ⟨b,off,A1,c1,rfl,_,x0,hv⟩:=HV.out.elem hbe hes
   have hkI:(k:Int) < n:=by omega
   have HM:=Lib.hid (HCS.out k es hes)
   have HC:=Lib.hid (cpyV_spV hgo)
   have HER:Hid (vecErr es (n:Int)=0):=Lib.hid (hgo.err (by omega))
   have HRS:=Lib.hid hrs
   have hei:=hgo.enI (by omega)
   have HLE:Hid (es.length≤1099511627776):=Lib.hid (by
    have e1:(cpyV es).length=es.length:=by simp [cpyV]
    rw [cpyV_spV hgo] at e1
    have:=spV_length (f:=colQ es) n
    omega)
   clear hes hgo hrs
   go_wp2_with fail
   refine (sparseValidate_any _ es (n:Int) _ hv hei (by omega) (by omega)).mono ?_
   rw [HER.out]
   rintro _ w1 ⟨rfl,hb1⟩
   have hv1:=hv.below hb1
   have hO1:=hO.below hb1
   have hbe1:=below_then hbe hb1 hbe.size
   clear hv hO hbe hb1 x0 hei
   go_wp2_with fail
   refine (copyVector_own _ es K _ hv1 HRS.out (by omega) HLE.out).mono ?_
   rintro _ w2 ⟨v2,rfl,e2,hb2⟩
   rw [HC.out,← HM.out] at e2
   have hO2:=hO1.below hb2
   have hbe2:=below_then hbe1 hb2 hbe1.size
   obtain ⟨_,m0,m1,-⟩:=hO2.at_ (pvcL_get (t:=k) (L:=Cs) hkl)
   obtain ⟨hO3,_⟩:=hO2.set_ (k:=k) (by rw [pvcL_length];exact hkl) e2.vec
   rw [pvcL_set hkl] at hO3
   have hbe3:=hbe2.setCell (p:=⟨w.heap.size,k,none⟩) (Nat.le_refl _) v2
   obtain ⟨A2,n2,c2,rfl⟩:∃A n c,v2= .slice A n c:=by obtain ⟨A,c,e,_⟩:=e2.vec.shape;exact ⟨A,_,c,e⟩
   clear hv1 hO1 hO2 hbe1 hbe2 e2 hb2
   go_wp2
   go_roundw
   case rel=>exact ⟨k+1,by omega,by go_num,hO3,hbe3⟩
   case measure=>simp [intOf];omega
  ·obtain rfl:n=k:=by omega
   rw [pvcL_all] at hO
   have HO:=Lib.hid hO
   go_wp2_with fail
   refine (factorize_own _ n K _ _ hO.vecs (by omega) HK.out HE.out HSZ.out).mono ?_
   clear hO
   rintro _ w1 ⟨hb1,⟨R,C,L,Um,s0,s1,s2,s3,rfl,hF,h0,h1,h2,h3⟩ | ⟨rfl,hni⟩⟩
   ·have hO1:=HO.out.below hb1
    have hbe1:=below_then hbe hb1 hbe.size
    have hws:=hbe.size
    have hlt:w.heap.size < wr.heap.size:=by
     obtain ⟨cs,hh,_⟩:=HO.out
     exact own_lt' hh w.heap.size rfl
    have hind:Indep n Cs:=hF.fac.indep
    have HIN:=Lib.hid hind
    have HF:=Lib.hid hF
    obtain ⟨A0,c0,rfl⟩:=h0.nshape
    obtain ⟨A1,c1,rfl⟩:=h1.nshape
    obtain ⟨A2,c2,rfl⟩:=h2.nshape
    obtain ⟨A3,c3,rfl⟩:=h3.nshape
    have hX:=Bk.new w1 137 [.slice A0 n c0,.slice A1 n c1,.slice A2 n c2,.slice A3 n c3]
    have hbx:=below_new w1 (.cells #[.slice A0 n c0,.slice A1 n c1,.slice A2 n c2,.slice A3 n c3] 137)
    clear hF hind hbe
    obtain ⟨W2,hW2,hX,hbx⟩:∃W2,w1.alloc (.cells #[.slice A0 n c0,.slice A1 n c1,.slice A2 n c2,.slice A3 n c3] 137)=W2∧Bk W2 w1.heap.size 137 [.slice A0 n c0,.slice A1 n c1,.slice A2 n c2,.slice A3 n c3]∧Below w1.heap.size w1 W2:=⟨_,rfl,hX,hbx⟩
    obtain ⟨x0,x1,x2,x3⟩:=hX.four
    go_wp2
    clear hW2 x0 x1 x2 x3 hX
    have hY:=Bk.new W2 142 [.int .i64 (n:Int),.slice (some ⟨w.heap.size,0,none⟩) n n,.slice A0 n c0,.slice A1 n c1,.slice A2 n c2,.slice A3 n c3,.slice none 0 0]
    have hby:=below_new W2 (.cells #[.int .i64 (n:Int),.slice (some ⟨w.heap.size,0,none⟩) n n,.slice A0 n c0,.slice A1 n c1,.slice A2 n c2,.slice A3 n c3,.slice none 0 0] 142)
    have hbz:=below_then hbx hby hbx.size
    go_ret2
    refine ⟨below_then hbe1 hbz hbe1.size,.inl ⟨_,rfl,HIN.out,fun bi=>⟨0,w.heap.size,n,fun _=>0,R,C,fun _ _=>0,fun _ _=>0,L,Um,fun _=>Cs,_,_,_,_,_,hY,⟨Nat.le_trans hbe1.size hbx.size,by omega,HE.out,rfl⟩,Ups.zero HSZ.out HIN.out _ _ _,HF.out,hO1.below hbz,(h0.below hbz).monoB hws,(h1.below hbz).monoB hws,(h2.below hbz).monoB hlt,(h3.below hbz).monoB hlt,UpsO.nil _ _ _ _ _ _⟩⟩⟩
   ·have hbe1:=below_then hbe hb1 hbe.size
    clear hbe hb1
    go_wp2
    go_ret2
    exact ⟨below_then hbe1 (below_new _ _) hbe1.size,.inr ⟨rfl,hni⟩⟩
end Go.Proofs.YtncmobkhenfhpaaGreat
