/- Contracts and plain facts that the claim is built on, joined out of smaller texts; no condition. -/
import Derived.Test.YtncmobkhenfhpaaGreatB34
set_option linter.unusedVariables false
set_option linter.unusedSimpArgs false
set_option maxRecDepth 100000
set_option maxHeartbeats 40000000
namespace Go.Proofs.YtncmobkhenfhpaaGreat
open Go.RowKit
open Pl
attribute [local go_sem ↓] Go.wp_at_zero Go.wp_at_succ
section
theorem region_seqS {P:Program} {Q:Exit→Act→World→Prop} {id:Nat} {l:List Oper} {a:Act} {w:World} (S:World→Prop) (h0:S w.drew) (n:Nat) (is:List Nat) (hm:P.follows .mixedOrders=true) (hok:seqOK .any l.toArray n is=true)
 (h:wpSeq P l.toArray (NoPanic Q) S n is a w.drew):(Code.region id l.toArray true).wp P Q a w:=by
 simp only [seqOK,Bool.and_eq_true,decide_eq_true_eq] at hok
 obtain ⟨hs,hgo,hl⟩:=hok
 refine wp_region_noPanic (wp_region_any hm (AnyG.any _ _ _ _ (S:=S) (n:=n) ?_))
 rw [← hl]
 have:=AnyG.of_seq (P:=P) (Q:=NoPanic Q) (S:=S) (fun c a d v w h=>h) hs is _ a w.drew false hgo (fun _=>h0) h
 rwa [hl] at this ⊢
theorem FrsO.othP {base:Nat} {w w':World} {P:Nat→Prop} {v:Value} {fs:List RF} (h:FrsO base w v fs) (ho:OthP P w w') (hk:Keep w w') (hne:∀b,v.ownBlock=some b→¬P b):FrsO base w' v fs:=by
 obtain ⟨cs,h1,h2⟩:=h
 refine ⟨cs,⟨h1.1,?_⟩,h2.keep hk⟩
 rcases h1.2 with hn | ⟨g',cap,cur,rfl,hb',hgg,rest⟩
 ·exact .inl hn
 ·exact .inr ⟨g',cap,cur,rfl,hb',(ho.2 g' (lt_heap hgg) (hne g' (by simp [Value.ownBlock]))).trans hgg,rest⟩
namespace Pl
def pstL (n t:Nat) (R:Nat→Nat):List Int:=(List.range n).map fun s=>if s < t then (R s:Int) else 0
theorem pstL_length {n t:Nat} {R:Nat→Nat}:(pstL n t R).length=n:=by simp [pstL]
theorem pstL_get {n t s:Nat} {R:Nat→Nat} (h:s < n):(pstL n t R)[s]? =some (if s < t then (R s:Int) else 0):=by simp [pstL,h]
theorem pstL_ext {n t:Nat} {R:Nat→Nat} {l:List Int} (hl:l.length=n) (h:∀s,s < n→l[s]? =some (if s < t then (R s:Int) else 0)):l=pstL n t R:=by
 refine List.ext_getElem? fun s=>?_
 rcases Nat.lt_or_ge s n with e | e
 ·rw [h s e,pstL_get e]
 ·rw [List.getElem?_eq_none (by omega),List.getElem?_eq_none (by rw [pstL_length];exact e)]
theorem pstL_zero {n:Nat} {R:Nat→Nat}:List.replicate n 0=pstL n 0 R:=pstL_ext (by simp) fun s hs=>by simp [hs]
theorem pstL_set {n t r:Nat} {R:Nat→Nat} (ht:t < n):(pstL n t R).set t (r:Int)=pstL n (t+1) (putN R t r):=pstL_ext (by simp [pstL]) fun s hs=>by
 rw [List.getElem?_set]
 by_cases e:t=s
 ·subst e
  rw [if_pos rfl,pstL_length,if_pos hs,if_pos (by omega),putN_new]
 ·rw [if_neg e,pstL_get hs]
  by_cases e2:s < t
  ·rw [if_pos e2,if_pos (by omega),putN_old e2]
  ·rw [if_neg e2,if_neg (by omega)]
theorem pstL_all {n:Nat} {R:Nat→Nat}:pstL n n R=natL n R:=by
 refine (pstL_ext (natL_length _ _) fun s hs=>?_).symm
 rw [natL_get hs,if_pos hs]
def pvcL (n t:Nat) (L:Mx):List (List En):=(List.range n).map fun s=>if s < t then spV (L s) n else []
theorem pvcL_length {n t:Nat} {L:Mx}:(pvcL n t L).length=n:=by simp [pvcL]
theorem pvcL_get {n t s:Nat} {L:Mx} (h:s < n):(pvcL n t L)[s]? =some (if s < t then spV (L s) n else []):=by simp [pvcL,h]
theorem pvcL_ext {n t:Nat} {L:Mx} {l:List (List En)} (hl:l.length=n) (h:∀s,s < n→l[s]? =some (if s < t then spV (L s) n else [])):l=pvcL n t L:=by
 refine List.ext_getElem? fun s=>?_
 rcases Nat.lt_or_ge s n with e | e
 ·rw [h s e,pvcL_get e]
 ·rw [List.getElem?_eq_none (by omega),List.getElem?_eq_none (by rw [pvcL_length];exact e)]
theorem pvcL_zero {n:Nat} {L:Mx}:List.replicate n []=pvcL n 0 L:=pvcL_ext (by simp) fun s hs=>by simp [hs]
theorem pvcL_set {n t:Nat} {L:Mx} (ht:t < n):(pvcL n t L).set t (spV (L t) n)=pvcL n (t+1) L:=pvcL_ext (by simp [pvcL]) fun s hs=>by
 rw [List.getElem?_set]
 by_cases e:t=s
 ·subst e
  rw [if_pos rfl,pvcL_length,if_pos hs,if_pos (by omega)]
 ·rw [if_neg e,pvcL_get hs]
  by_cases e2:s < t
  ·rw [if_pos e2,if_pos (by omega)]
  ·rw [if_neg e2,if_neg (by omega)]
theorem pvcL_all {n:Nat} {L:Mx}:pvcL n n L=vcL n L:=by
 refine (pvcL_ext (vcL_length _ _) fun s hs=>?_).symm
 rw [vcL_get hs,if_pos hs]
end Pl
def FilAt (U:World) (ge ga gr gc n:Nat) (G D:Nat→Nat) (rp cp:List Int) (Q:Mx) (wr:World):Prop:=
 ∃M,ElM U.heap.size wr ge n (.slice (some ⟨ga,0,none⟩) n n) (.slice (some ⟨gr,0,none⟩) n n) (.slice (some ⟨gc,0,none⟩) n n) M G D rp cp∧(∀i j,i < n→j < n→Tdy (M i j) (Q i j))∧Below U.heap.size U wr
section
variable {U wr w':World} {ge ga gr gc n:Nat} {G D:Nat→Nat} {rp cp:List Int} {Q Q':Mx}
theorem FilAt.below (h:FilAt U ge ga gr gc n G D rp cp Q wr) (hb:Below wr.heap.size wr w'):FilAt U ge ga gr gc n G D rp cp Q w':=by
 obtain ⟨M,h1,h2,h3⟩:=h
 exact ⟨M,h1.below hb,h2,below_then h3 hb h3.size⟩
theorem FilAt.congr (h:FilAt U ge ga gr gc n G D rp cp Q wr) (e:∀i j,i < n→j < n→Q i j=Q' i j):FilAt U ge ga gr gc n G D rp cp Q' wr:=by
 obtain ⟨M,h1,h2,h3⟩:=h
 exact ⟨M,h1,fun i j hi hj=>by rw [← e i j hi hj];exact h2 i j hi hj,h3⟩
theorem FilAt.setM (h:FilAt U ge ga gr gc n G D rp cp Q wr) {i j:Nat} (hi:i < n) (hj:j < n) {x y z u:Value} {q:Rat} (hq:FracM wr (.agg #[x,y,z,u]) (canF q)) (hf:∀s k,s < n→k < n→Q' s k=if s=i∧k=j then q else Q s k):
 FilAt U ge ga gr gc n G D rp cp Q' ((((wr.setCell ⟨G i,j * 4,none⟩ x).setCell ⟨G i,j * 4+1,none⟩ y).setCell ⟨G i,j * 4+2,none⟩ z).setCell ⟨G i,j * 4+3,none⟩ u):=by
 obtain ⟨M,⟨e1,e2,e3,e4,e5⟩,h2,h3⟩:=h
 obtain ⟨g1,g2⟩:=e2.set_ hi hj hq
 obtain ⟨l1,_⟩:=e2.lt hi (by omega)
 refine ⟨_,⟨g2.bk e1 (by decide),g1,e3.but g2 (by decide),e4.but g2 (by decide),e5⟩,fun s k hs hk=>?_,below_set4' h3 l1 _ _ _ _ _ _ _ _⟩
 rw [hf s k hs hk]
 unfold updR
 by_cases e:s=i∧k=j
 ·rw [if_pos e,if_pos e];exact .inl rfl
 ·rw [if_neg e,if_neg e];exact h2 s k hs hk
theorem FilAt.farI (h:FilAt U ge ga gr gc n G D rp cp Q wr) {g i:Nat} {v:Value} (hk:KeepBut 3 wr (wr.setCell ⟨g,i,none⟩ v)) (hg:U.heap.size≤g) (h1:g≠gr) (h2:g≠gc):FilAt U ge ga gr gc n G D rp cp Q (wr.setCell ⟨g,i,none⟩ v):=by
 obtain ⟨M,⟨e1,e2,e3,e4,e5⟩,h4,h3⟩:=h
 have ho:=Others.of_set (g:=g) (i:=i) (v:=v) (w:=wr)
 exact ⟨M,⟨hk.bk e1 (by decide),e2.but hk (by decide) (by decide) (by decide),e3.others ho (fun b hb e=>by simp [Value.ownBlock] at hb;injection e with e;omega),e4.others ho (fun b hb e=>by simp [Value.ownBlock] at hb;injection e with e;omega),e5⟩,h4,h3.setCell (p:=⟨g,i,none⟩) hg v⟩
theorem FilAt.but (h:FilAt U ge ga gr gc n G D rp cp Q wr) {e:TypeId} (hk:KeepBut e wr w') (hb:Below U.heap.size U w') (h1:160≠e) (h2:23≠e) (h3:48≠e) (h4:123≠e) (h5:3≠e):FilAt U ge ga gr gc n G D rp cp Q w':=by
 obtain ⟨M,⟨e1,e2,e3,e4,e5⟩,g4,g3⟩:=h
 exact ⟨M,⟨hk.bk e1 h1,e2.but hk h2 h3 h4,e3.but hk h5,e4.but hk h5,e5⟩,g4,hb⟩
theorem FilAt.setR (h:FilAt U ge ga gr gc n G D rp cp Q wr) (hne:gr≠gc) {r:Nat} (hr:r < n) {z:Int} (h0: -9223372036854775808≤z) (h1:z≤9223372036854775807):
 FilAt U ge ga gr gc n G D (rp.set r z) cp Q (wr.setCell ⟨gr,r,none⟩ (.int .i64 z))∧KeepBut 3 wr (wr.setCell ⟨gr,r,none⟩ (.int .i64 z)):=by
 obtain ⟨M,⟨e1,e2,e3,e4,e5,e6⟩,h4,h3⟩:=h
 obtain ⟨g1,hk⟩:=e3.set_ (k:=r) (by omega) h0 h1
 have ho:=Others.of_set (g:=gr) (i:=r) (v:= .int .i64 z) (w:=wr)
 exact ⟨⟨M,⟨hk.bk e1 (by decide),e2.but hk (by decide) (by decide) (by decide),g1,e4.others ho (fun b hb e=>by simp [Value.ownBlock] at hb;injection e with e;omega),by rw [List.length_set];exact e5,e6⟩,h4,h3.setCell (p:=⟨gr,r,none⟩) e3.base _⟩,hk⟩
theorem FilAt.setC (h:FilAt U ge ga gr gc n G D rp cp Q wr) (hne:gr≠gc) {c:Nat} (hc:c < n) {z:Int} (h0: -9223372036854775808≤z) (h1:z≤9223372036854775807):
 FilAt U ge ga gr gc n G D rp (cp.set c z) Q (wr.setCell ⟨gc,c,none⟩ (.int .i64 z))∧KeepBut 3 wr (wr.setCell ⟨gc,c,none⟩ (.int .i64 z)):=by
 obtain ⟨M,⟨e1,e2,e3,e4,e5,e6⟩,h4,h3⟩:=h
 obtain ⟨g1,hk⟩:=e4.set_ (k:=c) (by omega) h0 h1
 have ho:=Others.of_set (g:=gc) (i:=c) (v:= .int .i64 z) (w:=wr)
 exact ⟨⟨M,⟨hk.bk e1 (by decide),e2.but hk (by decide) (by decide) (by decide),e3.others ho (fun b hb e=>by simp [Value.ownBlock] at hb;injection e with e;omega),g1,e5,by rw [List.length_set];exact e6⟩,h4,h3.setCell (p:=⟨gc,c,none⟩) e4.base _⟩,hk⟩
end
def FacR (base n t:Nat) (F E:Nat→Nat) (m:Mx) (J:Nat) (G:Nat→Nat) (w:World):Prop:=
 ∃H:Nat→Nat→RF,∀s,s < t→FrsO base w (rowV n F E s) (rfL n (H s))∧(∀i,i < n→(H s i).q=m s i∧(H s i).Rs J)∧∀i,i < n→F s≠G i
def RstAt (U:World) (gf g0 g1 gt n t J:Nat) (v2 v3:Value) (l0 l1:List Int) (F E:Nat→Nat) (m:Mx) (G:Nat→Nat) (w:World):Prop:=
 Bk w gf 137 [.slice (some ⟨g0,0,none⟩) n n,.slice (some ⟨g1,0,none⟩) n n,v2,v3]∧IntsO U.heap.size w (.slice (some ⟨g0,0,none⟩) n n) l0∧IntsO U.heap.size w (.slice (some ⟨g1,0,none⟩) n n) l1∧
  w.ownsRow U.heap.size 23 1 (.slice (some ⟨gt,0,none⟩) n n) n (preR n t F E)∧FacR U.heap.size n t F E m J G w
section
variable {U w w':World} {gf g0 g1 gt n t J:Nat} {v2 v3:Value} {l0 l1:List Int} {F E G:Nat→Nat} {m:Mx}
theorem FacR.below (h:FacR U.heap.size n t F E m J G w) (hb:Below w.heap.size w w'):FacR U.heap.size n t F E m J G w':=by
 obtain ⟨H,h⟩:=h
 exact ⟨H,fun s hs=>⟨(h s hs).1.below hb,(h s hs).2⟩⟩
theorem FacR.but {e:TypeId} (h:FacR U.heap.size n t F E m J G w) (hk:KeepBut e w w') (h1:48≠e) (h2:123≠e):FacR U.heap.size n t F E m J G w':=by
 obtain ⟨H,h⟩:=h
 exact ⟨H,fun s hs=>⟨(h s hs).1.but hk h1 h2,(h s hs).2⟩⟩
theorem RstAt.below (h:RstAt U gf g0 g1 gt n t J v2 v3 l0 l1 F E m G w) (hb:Below w.heap.size w w'):RstAt U gf g0 g1 gt n t J v2 v3 l0 l1 F E m G w':=
 ⟨h.1.later hb,h.2.1.below hb,h.2.2.1.below hb,own_below h.2.2.2.1 hb,h.2.2.2.2.below hb⟩
theorem RstAt.but {e:TypeId} (h:RstAt U gf g0 g1 gt n t J v2 v3 l0 l1 F E m G w) (hk:KeepBut e w w') (h1:137≠e) (h2:23≠e) (h3:48≠e) (h4:123≠e) (h5:3≠e):RstAt U gf g0 g1 gt n t J v2 v3 l0 l1 F E m G w':=
 ⟨hk.bk h.1 h1,h.2.1.but hk h5,h.2.2.1.but hk h5,hk.own h.2.2.2.1 h2,h.2.2.2.2.but hk h3 h4⟩
theorem RstAt.set0 (h:RstAt U gf g0 g1 gt n t J v2 v3 l0 l1 F E m G w) (hne:g0≠g1) {k:Nat} (hk:k < l0.length) {z:Int} (z0: -9223372036854775808≤z) (z1:z≤9223372036854775807):
 RstAt U gf g0 g1 gt n t J v2 v3 (l0.set k z) l1 F E m G (w.setCell ⟨g0,k,none⟩ (.int .i64 z))∧KeepBut 3 w (w.setCell ⟨g0,k,none⟩ (.int .i64 z)):=by
 obtain ⟨e1,e2,e3,e4,e5⟩:=h
 obtain ⟨g,hkb⟩:=e2.set_ hk z0 z1
 have ho:=Others.of_set (g:=g0) (i:=k) (v:= .int .i64 z) (w:=w)
 exact ⟨⟨hkb.bk e1 (by decide),g,e3.others ho (fun b hb e=>by simp [Value.ownBlock] at hb;injection e with e;omega),hkb.own e4 (by decide),e5.but hkb (by decide) (by decide)⟩,hkb⟩
theorem RstAt.set1 (h:RstAt U gf g0 g1 gt n t J v2 v3 l0 l1 F E m G w) (hne:g0≠g1) {k:Nat} (hk:k < l1.length) {z:Int} (z0: -9223372036854775808≤z) (z1:z≤9223372036854775807):
 RstAt U gf g0 g1 gt n t J v2 v3 l0 (l1.set k z) F E m G (w.setCell ⟨g1,k,none⟩ (.int .i64 z))∧KeepBut 3 w (w.setCell ⟨g1,k,none⟩ (.int .i64 z)):=by
 obtain ⟨e1,e2,e3,e4,e5⟩:=h
 obtain ⟨g,hkb⟩:=e3.set_ hk z0 z1
 have ho:=Others.of_set (g:=g1) (i:=k) (v:= .int .i64 z) (w:=w)
 exact ⟨⟨hkb.bk e1 (by decide),e2.others ho (fun b hb e=>by simp [Value.ownBlock] at hb;injection e with e;omega),g,hkb.own e4 (by decide),e5.but hkb (by decide) (by decide)⟩,hkb⟩
theorem RstAt.farI (h:RstAt U gf g0 g1 gt n t J v2 v3 l0 l1 F E m G w) {g i:Nat} {v:Value} (hk:KeepBut 3 w (w.setCell ⟨g,i,none⟩ v)) (h1:g≠g0) (h2:g≠g1):RstAt U gf g0 g1 gt n t J v2 v3 l0 l1 F E m G (w.setCell ⟨g,i,none⟩ v):=by
 obtain ⟨e1,e2,e3,e4,e5⟩:=h
 have ho:=Others.of_set (g:=g) (i:=i) (v:=v) (w:=w)
 exact ⟨hk.bk e1 (by decide),e2.others ho (fun b hb e=>by simp [Value.ownBlock] at hb;injection e with e;omega),e3.others ho (fun b hb e=>by simp [Value.ownBlock] at hb;injection e with e;omega),hk.own e4 (by decide),e5.but hk (by decide) (by decide)⟩
theorem RstAt.othP (h:RstAt U gf g0 g1 gt n t J v2 v3 l0 l1 F E m G w) (ho:OthP (fun b=>∃i,i < n∧b=G i) w w') (hk:KeepBut 48 w w'):RstAt U gf g0 g1 gt n t J v2 v3 l0 l1 F E m G w':=by
 obtain ⟨e1,e2,e3,e4,H,e5⟩:=h
 refine ⟨hk.bk e1 (by decide),e2.but hk (by decide),e3.but hk (by decide),hk.own e4 (by decide),H,fun s hs=>⟨(e5 s hs).1.othP ho (hk.keep (by decide)) fun b hb=>?_,(e5 s hs).2⟩⟩
 simp [rowV,Value.ownBlock] at hb
 subst hb
 rintro ⟨i,hi,e⟩
 exact (e5 s hs).2.2 i hi e
theorem RstAt.push (h:RstAt U gf g0 g1 gt n t J v2 v3 l0 l1 F E m G w) (ht:t < n) {g c:Nat} {H:Nat→RF} {f:Nat→Rat} (hO:FrsO U.heap.size w (.slice (some ⟨g,0,none⟩) n c) (rfL n H)) (hq:∀i,i < n→(H i).q=f i∧(H i).Rs J) (hg:∀i,i < n→g≠G i):
 RstAt U gf g0 g1 gt n (t+1) J v2 v3 l0 l1 (putN F t g) (putN E t c) (putN m t f) G (w.setCell ⟨gt,t,none⟩ (.slice (some ⟨g,0,none⟩) n c))∧KeepBut 23 w (w.setCell ⟨gt,t,none⟩ (.slice (some ⟨g,0,none⟩) n c)):=by
 obtain ⟨e1,e2,e3,e4,K,e5⟩:=h
 obtain ⟨_,hb,_⟩:=row_block e4
 have hk:=KeepBut.setCell hb t (.slice (some ⟨g,0,none⟩) n c)
 have e6:=row_set e4 t (.slice (some ⟨g,0,none⟩) n c) (by rw [preR_length];exact ht)
 rw [preR_set ht] at e6
 refine ⟨⟨hk.bk e1 (by decide),e2.but hk (by decide),e3.but hk (by decide),e6,putN K t H,fun s hs=>?_⟩,hk⟩
 by_cases e:s=t
 ·subst e
  unfold rowV
  rw [putN_new,putN_new,putN_new,putN_new]
  exact ⟨hO.but hk (by decide) (by decide),hq,hg⟩
 ·unfold rowV
  rw [putN_old (by omega),putN_old (by omega),putN_old (by omega),putN_old (by omega)]
  exact ⟨(e5 s (by omega)).1.but hk (by decide) (by decide),(e5 s (by omega)).2⟩
end
def LupAt (U:World) (ge ga gr gc gf g0 g1 gt n K t:Nat) (G D:Nat→Nat) (A:Mx) (wr:World):Prop:=
 ∃(a m:Mx) (R C F E:Nat→Nat),FilAt U ge ga gr gc n G D (posL n t R) (posL n t C) a wr∧LuInv n t A a R C m∧(∀i j,i < n→j < n→Sz (5^t * K) (a i j))∧(∀s i,s < t→i < n→Sz (2 * (5^n * K)) (m s i))∧
  RstAt U gf g0 g1 gt n t (2 * (5^n * K)) (.slice none 0 0) (.slice none 0 0) (pstL n t R) (pstL n t C) F E m G wr
def LuM (U:World) (ge ga gr gc gf g0 g1 gt gl gu go n J tl tu:Nat) (G D R C F E:Nat→Nat) (a m:Mx) (wr:World):Prop:=
 FilAt U ge ga gr gc n G D (posL n n R) (posL n n C) a wr∧RstAt U gf g0 g1 gt n n J (.slice (some ⟨gl,0,none⟩) n n) (.slice (some ⟨gu,0,none⟩) n n) (natL n R) (natL n C) F E m G wr∧
  (∃A k c A' k' c',Bk wr go 48 [.bool (canF 1).num.neg,.slice A k c,.bool (canF 1).den.neg,.slice A' k' c']∧FracM wr (.agg #[.bool (canF 1).num.neg,.slice A k c,.bool (canF 1).den.neg,.slice A' k' c']) (canF 1))∧
  VecsO U.heap.size wr (.slice (some ⟨gl,0,none⟩) n n) (pvcL n tl (luL R m))∧VecsO U.heap.size wr (.slice (some ⟨gu,0,none⟩) n n) (pvcL n tu (luU R C a))
section
variable {U wr w':World} {ge ga gr gc gf g0 g1 gt gl gu go n J tl tu:Nat} {G D R C F E:Nat→Nat} {a m:Mx}
theorem LuM.below (h:LuM U ge ga gr gc gf g0 g1 gt gl gu go n J tl tu G D R C F E a m wr) (hb:Below wr.heap.size wr w'):LuM U ge ga gr gc gf g0 g1 gt gl gu go n J tl tu G D R C F E a m w':=by
 obtain ⟨h1,h2,⟨A,k,c,A',k',c',h3,h4⟩,h5,h6⟩:=h
 exact ⟨h1.below hb,h2.below hb,⟨A,k,c,A',k',c',h3.later hb,h4.below hb⟩,h5.below hb,h6.below hb⟩
theorem VecsO.others {base:Nat} {w w':World} {g:Option Nat} {v:Value} {cols:List (List En)} (h:VecsO base w v cols) (ho:Others g w w') (hk:KeepBut 72 w w') (hne:∀b,v.ownBlock=some b→some b≠g):VecsO base w' v cols:=by
 obtain ⟨cs,h1,h2⟩:=h
 exact ⟨cs,own_others h1 ho hne,fun k c hc=>by
  obtain ⟨u,hu,hm⟩:=h2 k c hc
  exact ⟨u,hu,hm.but hk (by decide) (by decide)⟩⟩
theorem VecsO.monoB {base base':Nat} {w:World} {v:Value} {cols:List (List En)} (h:VecsO base w v cols) (hb:base'≤base):VecsO base' w v cols:=by
 obtain ⟨cs,h1,h2⟩:=h
 exact ⟨cs,row_mono h1 hb,h2⟩
theorem VecsO.base {base:Nat} {w:World} {g n c:Nat} {cols:List (List En)} (h:VecsO base w (.slice (some ⟨g,0,none⟩) n c) cols):base≤g:=by
 obtain ⟨cs,h1,_⟩:=h
 have hn:n=cols.length:=(RowM.of_own h1).len
 subst hn
 obtain ⟨_,_,h3⟩:=row_block h1
 exact h3
theorem LuM.setL (h:LuM U ge ga gr gc gf g0 g1 gt gl gu go n J tl tu G D R C F E a m wr) (hne:gl≠gu) (ht:tl < n) {v:Value} (hv:VecM wr v (spV (luL R m tl) n)):
 LuM U ge ga gr gc gf g0 g1 gt gl gu go n J (tl+1) tu G D R C F E a m (wr.setCell ⟨gl,tl,none⟩ v):=by
 obtain ⟨h1,h2,⟨A,k,c,A',k',c',h3,h4⟩,h5,h6⟩:=h
 obtain ⟨h7,hk⟩:=h5.set_ (k:=tl) (by rw [pvcL_length];exact ht) hv
 rw [pvcL_set ht] at h7
 have ho:=Others.of_set (g:=gl) (i:=tl) (v:=v) (w:=wr)
 have hb:Below U.heap.size U (wr.setCell ⟨gl,tl,none⟩ v):=by
  obtain ⟨_,_,_,hb⟩:=h1
  exact hb.setCell (p:=⟨gl,tl,none⟩) h5.base v
 exact ⟨h1.but hk hb (by decide) (by decide) (by decide) (by decide) (by decide),h2.but hk (by decide) (by decide) (by decide) (by decide) (by decide),⟨A,k,c,A',k',c',hk.bk h3 (by decide),h4.keep (hk.keep (by decide))⟩,h7,h6.others ho hk fun b hb e=>by simp [Value.ownBlock] at hb;injection e with e;omega⟩
theorem LuM.setU (h:LuM U ge ga gr gc gf g0 g1 gt gl gu go n J tl tu G D R C F E a m wr) (hne:gl≠gu) (ht:tu < n) {v:Value} (hv:VecM wr v (spV (luU R C a tu) n)):
 LuM U ge ga gr gc gf g0 g1 gt gl gu go n J tl (tu+1) G D R C F E a m (wr.setCell ⟨gu,tu,none⟩ v):=by
 obtain ⟨h1,h2,⟨A,k,c,A',k',c',h3,h4⟩,h5,h6⟩:=h
 obtain ⟨h7,hk⟩:=h6.set_ (k:=tu) (by rw [pvcL_length];exact ht) hv
 rw [pvcL_set ht] at h7
 have ho:=Others.of_set (g:=gu) (i:=tu) (v:=v) (w:=wr)
 have hb:Below U.heap.size U (wr.setCell ⟨gu,tu,none⟩ v):=by
  obtain ⟨_,_,_,hb⟩:=h1
  exact hb.setCell (p:=⟨gu,tu,none⟩) h6.base v
 exact ⟨h1.but hk hb (by decide) (by decide) (by decide) (by decide) (by decide),h2.but hk (by decide) (by decide) (by decide) (by decide) (by decide),⟨A,k,c,A',k',c',hk.bk h3 (by decide),h4.keep (hk.keep (by decide))⟩,h5.others ho hk fun b hb e=>by simp [Value.ownBlock] at hb;injection e with e;omega,h7⟩
end
theorem FilAt.farT {U wr:World} {ge ga gr gc n:Nat} {G D:Nat→Nat} {rp cp:List Int} {Q:Mx} (h:FilAt U ge ga gr gc n G D rp cp Q wr) {g i:Nat} {v:Value} (hk:KeepBut 23 wr (wr.setCell ⟨g,i,none⟩ v)) (hg:U.heap.size≤g) (h1:g≠ga):FilAt U ge ga gr gc n G D rp cp Q (wr.setCell ⟨g,i,none⟩ v):=by
 obtain ⟨M,⟨e1,⟨m1,m2,m3⟩,e3,e4,e5⟩,h4,h3⟩:=h
 have ho:=Others.of_set (g:=g) (i:=i) (v:=v) (w:=wr)
 exact ⟨M,⟨hk.bk e1 (by decide),⟨own_others m1 ho (fun b hb e=>by simp [Value.ownBlock] at hb;injection e with e;omega),fun r hr=>(m2 r hr).but hk (by decide) (by decide),m3⟩,e3.but hk (by decide),e4.but hk (by decide),e5⟩,h4,h3.setCell (p:=⟨g,i,none⟩) hg v⟩
section
variable {U w w':World} {gf g0 g1 gt n t J:Nat} {v2 v3:Value} {l0 l1:List Int} {F E G:Nat→Nat} {m:Mx}
theorem RstAt.set2 (h:RstAt U gf g0 g1 gt n t J v2 v3 l0 l1 F E m G w) (v:Value):RstAt U gf g0 g1 gt n t J v v3 l0 l1 F E m G (w.setCell ⟨gf,2,none⟩ v)∧KeepBut 137 w (w.setCell ⟨gf,2,none⟩ v):=by
 obtain ⟨e1,e2,e3,e4,e5⟩:=h
 have hk:=KeepBut.setCell e1 2 v
 exact ⟨⟨e1.set_ 2 v,e2.but hk (by decide),e3.but hk (by decide),hk.own e4 (by decide),e5.but hk (by decide) (by decide)⟩,hk⟩
theorem RstAt.set3 (h:RstAt U gf g0 g1 gt n t J v2 v3 l0 l1 F E m G w) (v:Value):RstAt U gf g0 g1 gt n t J v2 v l0 l1 F E m G (w.setCell ⟨gf,3,none⟩ v)∧KeepBut 137 w (w.setCell ⟨gf,3,none⟩ v):=by
 obtain ⟨e1,e2,e3,e4,e5⟩:=h
 have hk:=KeepBut.setCell e1 3 v
 exact ⟨⟨e1.set_ 3 v,e2.but hk (by decide),e3.but hk (by decide),hk.own e4 (by decide),e5.but hk (by decide) (by decide)⟩,hk⟩
end
theorem fromInts_one (w:World):Calls Tryz.prog 114 #[.int .i64 1,.int .i64 1] w fun e w'=>∃v',e= .returned (.tuple #[v',.int .i64 0])∧FracM w' v' (canF 1)∧Below w.heap.size w w':=by
 refine (fromInts_any 1 1 w (by omega) (by omega) (by omega) (by omega)).mono ?_
 rintro e w' ⟨v',h1,h2,h3⟩
 rw [if_neg (by omega)] at h1 h2
 rw [show Rat.divInt 1 1=1 from Rat.divInt_self' (by decide)] at h2
 exact ⟨v',h1,h2,h3⟩
def MkF (U:World) (n:Nat) (D:Nat→Prop) (s1 s2 s3 s4 s5:Value) (w:World):Prop:=
 Below U.heap.size U w∧(D 1→∃g,s1= .slice (some ⟨g,0,none⟩) n n∧g < w.heap.size∧IntsO U.heap.size w (.slice (some ⟨g,0,none⟩) n n) (List.replicate n 0))∧
  (D 3→∃g,s2= .slice (some ⟨g,0,none⟩) n n∧g < w.heap.size∧IntsO U.heap.size w (.slice (some ⟨g,0,none⟩) n n) (List.replicate n 0))∧
  (D 4→(D 1∧D 3)∧s3= .agg #[s1,s2,.slice none 0 0,.slice none 0 0])∧(D 5→∃g,s4= .pointer (some ⟨g,0,none⟩)∧U.heap.size≤g∧Bk w g 137 [.slice none 0 0,.slice none 0 0,.slice none 0 0,.slice none 0 0])∧(D 1→D 3→s1≠s2)∧s5= .int .i64 (n:Int)
theorem MkF.later {U w w':World} {n:Nat} {D:Nat→Prop} {s1 s2 s3 s4 s5:Value} (h:MkF U n D s1 s2 s3 s4 s5 w) (hb:Below w.heap.size w w'):MkF U n D s1 s2 s3 s4 s5 w':=by
 obtain ⟨h0,h1,h2,h3,h4,h5⟩:=h
 have hs:=hb.size
 refine ⟨below_then h0 hb h0.size,fun d=>?_,fun d=>?_,h3,fun d=>?_,h5⟩
 ·obtain ⟨g,e,k,l⟩:=h1 d;exact ⟨g,e,by omega,l.below hb⟩
 ·obtain ⟨g,e,k,l⟩:=h2 d;exact ⟨g,e,by omega,l.below hb⟩
 ·obtain ⟨g,e,k,l⟩:=h4 d;exact ⟨g,e,k,l.later hb⟩
theorem MkF.set1 {U w:World} {n:Nat} {D:Nat→Prop} {s1 s2 s3 s4 s5:Value} (h:MkF U n D s1 s2 s3 s4 s5 w) (hn:n≤maxLen) (hd:¬D 1):MkF U n (fun k=>D k∨k=1) (.slice (some ⟨w.heap.size,0,none⟩) n n) s2 s3 s4 s5 (w.alloc (.cells (zic n) 3)):=by
 have hz:=IntsO.zeros w n hn
 obtain ⟨h0,h1,h2,h3,h4,h5,h6⟩:=h.later (below_new w (.cells (zic n) 3))
 exact ⟨h0,fun _=>⟨_,rfl,by simp,hz.monoB h.1.size⟩,fun d=>h2 (d.resolve_right (by decide)),fun d=>absurd (d.resolve_right (by decide)) fun h7=>hd (h3 h7).1.1,fun d=>h4 (d.resolve_right (by decide)),fun _ e he=>by
  obtain ⟨g,e1,e2,_⟩:=h.2.2.1 (e.resolve_right (by decide))
  rw [e1] at he
  injection he with he
  injection he with he
  injection he with he
  omega,h6⟩
theorem MkF.set3 {U w:World} {n:Nat} {D:Nat→Prop} {s1 s2 s3 s4 s5:Value} (h:MkF U n D s1 s2 s3 s4 s5 w) (hn:n≤maxLen) (hd:¬D 3):MkF U n (fun k=>D k∨k=3) s1 (.slice (some ⟨w.heap.size,0,none⟩) n n) s3 s4 s5 (w.alloc (.cells (zic n) 3)):=by
 have hz:=IntsO.zeros w n hn
 obtain ⟨h0,h1,h2,h3,h4,h5,h6⟩:=h.later (below_new w (.cells (zic n) 3))
 exact ⟨h0,fun d=>h1 (d.resolve_right (by decide)),fun _=>⟨_,rfl,by simp,hz.monoB h.1.size⟩,fun d=>absurd (d.resolve_right (by decide)) fun h7=>hd (h3 h7).1.2,fun d=>h4 (d.resolve_right (by decide)),fun e _ he=>by
  obtain ⟨g,e1,e2,_⟩:=h.2.1 (e.resolve_right (by decide))
  rw [e1] at he
  injection he with he
  injection he with he
  injection he with he
  omega,h6⟩
theorem MkF.set4 {U w:World} {n:Nat} {D:Nat→Prop} {s1 s2 s3 s4 s5:Value} (h:MkF U n D s1 s2 s3 s4 s5 w) (d1:D 1) (d3:D 3):MkF U n (fun k=>D k∨k=4) s1 s2 (.agg #[s1,s2,.slice none 0 0,.slice none 0 0]) s4 s5 w:=by
 obtain ⟨h0,h1,h2,h3,h4,h5,h6⟩:=h
 exact ⟨h0,fun d=>h1 (d.resolve_right (by decide)),fun d=>h2 (d.resolve_right (by decide)),fun _=>⟨⟨.inl d1,.inl d3⟩,rfl⟩,fun d=>h4 (d.resolve_right (by decide)),fun d e=>h5 (d.resolve_right (by decide)) (e.resolve_right (by decide)),h6⟩
theorem MkF.set5 {U w:World} {n:Nat} {D:Nat→Prop} {s1 s2 s3 s4 s5:Value} (h:MkF U n D s1 s2 s3 s4 s5 w):MkF U n (fun k=>D k∨k=5) s1 s2 s3 (.pointer (some ⟨w.heap.size,0,none⟩)) s5 (w.alloc (.cells #[.slice none 0 0,.slice none 0 0,.slice none 0 0,.slice none 0 0] 137)):=by
 have hz:=Bk.new w 137 [.slice none 0 0,.slice none 0 0,.slice none 0 0,.slice none 0 0]
 obtain ⟨h0,h1,h2,h3,h4,h5,h6⟩:=h.later (below_new w (.cells #[.slice none 0 0,.slice none 0 0,.slice none 0 0,.slice none 0 0] 137))
 exact ⟨h0,fun d=>h1 (d.resolve_right (by decide)),fun d=>h2 (d.resolve_right (by decide)),fun d=>by
  obtain ⟨⟨a,b⟩,e⟩:=h3 (d.resolve_right (by decide))
  exact ⟨⟨.inl a,.inl b⟩,e⟩,fun _=>⟨_,rfl,h.1.size,hz⟩,fun d e=>h5 (d.resolve_right (by decide)) (e.resolve_right (by decide)),h6⟩
def MadeFc (U:World) (n:Nat) (s:Value) (wx:World):Prop:=
 ∃gf g0 g1,s= .pointer (some ⟨gf,0,none⟩)∧g0≠g1∧Bk wx gf 137 [.slice (some ⟨g0,0,none⟩) n n,.slice (some ⟨g1,0,none⟩) n n,.slice none 0 0,.slice none 0 0]∧
  IntsO U.heap.size wx (.slice (some ⟨g0,0,none⟩) n n) (List.replicate n 0)∧IntsO U.heap.size wx (.slice (some ⟨g1,0,none⟩) n n) (List.replicate n 0)∧Below U.heap.size U wx∧U.heap.size≤gf
def FcPost (n K:Nat) (Cs:Mx) (w:World) (o:Ending) (w':World):Prop:=
 Below w.heap.size w w'∧((∃(R C:Nat→Nat) (L Um:Mx) (s0 s1 s2 s3:Value),o= .returned (.tuple #[.agg #[s0,s1,s2,s3],.bool true])∧FacS n (5^n * K) (trM Cs) R C L Um∧IntsO w.heap.size w' s0 (natL n R)∧IntsO w.heap.size w' s1 (natL n C)∧VecsO w.heap.size w' s2 (vcL n L)∧VecsO w.heap.size w' s3 (vcL n Um))∨
  (o= .returned (.tuple #[.agg #[.slice none 0 0,.slice none 0 0,.slice none 0 0,.slice none 0 0],.bool false])∧¬Indep n Cs))
end
section
def UpsO (base bi:Nat) (w:World) (v:Value) (T n:Nat) (k:Nat→Nat) (im:Mx):Prop:=
 ∃cs,w.ownsRow base 146 2 v T cs∧∀t,t < T→∃u,cs[t * 2]? =some (.int .i64 (k t:Int))∧cs[t * 2+1]? =some u∧FrsO bi w u (canL n (im t))
section
variable {base bi:Nat} {w w':World} {v:Value} {T n:Nat} {k:Nat→Nat} {im:Mx}
theorem UpsO.below (h:UpsO base bi w v T n k im) (hb:Below w.heap.size w w'):UpsO base bi w' v T n k im:=by
 obtain ⟨cs,h1,h2⟩:=h
 exact ⟨cs,own_below h1 hb,fun t ht=>by
  obtain ⟨u,e1,e2,e3⟩:=h2 t ht
  exact ⟨u,e1,e2,e3.below hb⟩⟩
theorem UpsO.but {e:TypeId} (h:UpsO base bi w v T n k im) (hk:KeepBut e w w') (h1:146≠e) (h2:48≠e) (h3:123≠e):UpsO base bi w' v T n k im:=by
 obtain ⟨cs,g1,g2⟩:=h
 exact ⟨cs,hk.own g1 h1,fun t ht=>by
  obtain ⟨u,e1,e2,e3⟩:=g2 t ht
  exact ⟨u,e1,e2,e3.but hk h2 h3⟩⟩
theorem UpsO.farF (h:UpsO base bi w v T n k im) {g:Nat} (ho:Others (some g) w w') (hk:KeepBut 48 w w') (hg:g < bi):UpsO base bi w' v T n k im:=by
 obtain ⟨cs,g1,g2⟩:=h
 exact ⟨cs,hk.own g1 (by decide),fun t ht=>by
  obtain ⟨u,e1,e2,e3⟩:=g2 t ht
  exact ⟨u,e1,e2,e3.others ho (hk.keep (by decide)) fun b hb e=>by
   have:=e3.own_ge b hb
   injection e with e
   omega⟩⟩
theorem UpsO.nil (base bi:Nat) (w:World) (n:Nat) (k:Nat→Nat) (im:Mx):UpsO base bi w (.slice none 0 0) 0 n k im:=⟨[],World.ownsRow_nil _ _ _ _,fun t ht=>absurd ht (by omega)⟩
end
def BasO (base bi:Nat) (w:World) (g n K:Nat) (Cs:Mx):Prop:=
 ∃(T gc cc:Nat) (k R C:Nat→Nat) (im V L Um:Mx) (CC:Nat→Mx) (s0 s1 s2 s3 vu:Value),
  Bk w g 142 [.int .i64 (n:Int),.slice (some ⟨gc,0,none⟩) n cc,s0,s1,s2,s3,vu]∧(base≤g∧T≤16∧5^n * K≤4000000∧CC T=Cs)∧Ups n K T k im V CC∧FacS n (5^n * K) (trM (CC 0)) R C L Um∧
  VecsO base w (.slice (some ⟨gc,0,none⟩) n cc) (vcL n Cs)∧IntsO base w s0 (natL n R)∧IntsO base w s1 (natL n C)∧VecsO (gc+1) w s2 (vcL n L)∧VecsO (gc+1) w s3 (vcL n Um)∧UpsO base bi w vu T n k im
section
variable {base bi g n K:Nat} {w w':World} {Cs:Mx}
theorem BasO.below (h:BasO base bi w g n K Cs) (hb:Below w.heap.size w w'):BasO base bi w' g n K Cs:=by
 obtain ⟨T,gc,cc,k,R,C,im,V,L,Um,CC,s0,s1,s2,s3,vu,h1,h2,h3,h4,h5,h6,h7,h8,h9,h10⟩:=h
 exact ⟨T,gc,cc,k,R,C,im,V,L,Um,CC,s0,s1,s2,s3,vu,h1.later hb,h2,h3,h4,h5.below hb,h6.below hb,h7.below hb,h8.below hb,h9.below hb,h10.below hb⟩
theorem BasO.but {e:TypeId} (h:BasO base bi w g n K Cs) (hk:KeepBut e w w') (e1:142≠e) (e2:72≠e) (e3:87≠e) (e4:123≠e) (e5:3≠e) (e6:146≠e) (e7:48≠e):BasO base bi w' g n K Cs:=by
 obtain ⟨T,gc,cc,k,R,C,im,V,L,Um,CC,s0,s1,s2,s3,vu,h1,h2,h3,h4,h5,h6,h7,h8,h9,h10⟩:=h
 exact ⟨T,gc,cc,k,R,C,im,V,L,Um,CC,s0,s1,s2,s3,vu,hk.bk h1 e1,h2,h3,h4,h5.but hk e2 e3 e4,h6.but hk e5,h7.but hk e5,h8.but hk e2 e3 e4,h9.but hk e2 e3 e4,h10.but hk e6 e7 e4⟩
theorem BasO.farF (h:BasO base bi w g n K Cs) {b:Nat} (ho:Others (some b) w w') (hk:KeepBut 48 w w') (hb:b < bi):BasO base bi w' g n K Cs:=by
 obtain ⟨T,gc,cc,k,R,C,im,V,L,Um,CC,s0,s1,s2,s3,vu,h1,h2,h3,h4,h5,h6,h7,h8,h9,h10⟩:=h
 exact ⟨T,gc,cc,k,R,C,im,V,L,Um,CC,s0,s1,s2,s3,vu,hk.bk h1 (by decide),h2,h3,h4,h5.but hk (by decide) (by decide) (by decide),h6.but hk (by decide),h7.but hk (by decide),h8.but hk (by decide) (by decide) (by decide),h9.but hk (by decide) (by decide) (by decide),h10.farF ho hk hb⟩
theorem IntsO.ge {base:Nat} {w:World} {v:Value} {zs:List Int} (h:IntsO base w v zs):∀b,v.ownBlock=some b→base≤b:=by
 intro b hb
 rcases h.1.2 with ⟨rfl,_⟩ | ⟨g',cap,cur,rfl,hb',_⟩
 ·simp [Value.ownBlock] at hb
 ·simp [Value.ownBlock] at hb;omega
theorem BasO.farI (h:BasO base bi w g n K Cs) {b:Nat} (ho:Others (some b) w w') (hk:KeepBut 3 w w') (hb:b < base):BasO base bi w' g n K Cs:=by
 obtain ⟨T,gc,cc,k,R,C,im,V,L,Um,CC,s0,s1,s2,s3,vu,h1,h2,h3,h4,h5,h6,h7,h8,h9,h10⟩:=h
 exact ⟨T,gc,cc,k,R,C,im,V,L,Um,CC,s0,s1,s2,s3,vu,hk.bk h1 (by decide),h2,h3,h4,h5.but hk (by decide) (by decide) (by decide),h6.others ho (fun x hx e=>by have:=h6.ge x hx;injection e with e;omega),h7.others ho (fun x hx e=>by have:=h7.ge x hx;injection e with e;omega),h8.but hk (by decide) (by decide) (by decide),h9.but hk (by decide) (by decide) (by decide),h10.but hk (by decide) (by decide) (by decide)⟩
theorem IntsO.nshape {base:Nat} {w:World} {v:Value} {n:Nat} {R:Nat→Nat} (h:IntsO base w v (natL n R)):∃A c,v= .slice A n c:=by
 obtain ⟨A,m,c,rfl⟩:=h.sliceN
 have:=h.len
 rw [natL_length] at this
 subst this
 exact ⟨A,c,rfl⟩
theorem VecsO.nshape {base:Nat} {w:World} {v:Value} {n:Nat} {L:Mx} (h:VecsO base w v (vcL n L)):∃A c,v= .slice A n c:=by
 obtain ⟨A,c,rfl⟩:=h.slice
 rw [vcL_length]
 exact ⟨A,c,rfl⟩
theorem fac_of {w:World} {g n:Nat} {vn vc s0 s1 s2 s3 vu:Value} {R C:Nat→Nat} {L Um:Mx} {b0 b1 b2 b3:Nat} (h:Bk w g 142 [vn,vc,s0,s1,s2,s3,vu]) (h6:IntsO b0 w s0 (natL n R)) (h7:IntsO b1 w s1 (natL n C)) (h8:VecsO b2 w s2 (vcL n L)) (h9:VecsO b3 w s3 (vcL n Um)):FacM w g 2 n R C L Um:=by
 obtain ⟨A0,c0,rfl⟩:=h6.nshape
 obtain ⟨A1,c1,rfl⟩:=h7.nshape
 obtain ⟨A2,c2,rfl⟩:=h8.nshape
 obtain ⟨A3,c3,rfl⟩:=h9.nshape
 exact ⟨A0,c0,A1,c1,A2,c2,A3,c3,⟨h.cellAt 2 rfl,h.cellAt 3 rfl,h.cellAt 4 rfl,h.cellAt 5 rfl⟩,h6.ints,h7.ints,h8.vecs,h9.vecs⟩
end
namespace Pl
theorem Good.enI {n:Nat} {es:List En} (h:Good n es) (hn:n≤4096):EnI es:=fun k e he=>by have:=h.1 k e he;omega
end Pl
def NewB (n K:Nat) (Cs:Mx) (w:World) (o:Ending) (w':World):Prop:=
 Below w.heap.size w w'∧((∃g,o= .returned (.tuple #[.pointer (some ⟨g,0,none⟩),.int .i64 0])∧Indep n Cs∧∀bi,BasO w.heap.size bi w' g n K Cs)∨(o= .returned (.tuple #[.pointer none,.int .i64 13])∧¬Indep n Cs))
end
end Go.Proofs.YtncmobkhenfhpaaGreat
