/- Contracts and plain facts that the claim is built on, joined out of smaller texts; no condition. -/
import Derived.Test.YtncmobkhenfhpaaGreatB26
set_option linter.unusedVariables false
set_option linter.unusedSimpArgs false
set_option maxRecDepth 100000
set_option maxHeartbeats 40000000
namespace Go.Proofs.YtncmobkhenfhpaaGreat
open Go.RowKit
open Pl
attribute [local go_sem ↓] Go.wp_at_zero Go.wp_at_succ
def Others (g:Option Nat) (w w':World):Prop:=w.heap.size≤w'.heap.size∧∀b,b < w.heap.size→some b≠g→w'.heap[b]? =w.heap[b]?
theorem Others.bk {g:Option Nat} {w w':World} {b:Nat} {t:TypeId} {cs:List Value} (h:Others g w w') (hb:Bk w b t cs) (hne:some b≠g):Bk w' b t cs:=(h.2 b hb.lt hne).trans hb
theorem Others.of_set {g i:Nat} {w:World} {v:Value}:Others (some g) w (w.setCell ⟨g,i,none⟩ v):=⟨by simp,fun b _ hne=>heap_setCell_other w _ _ _ (fun e=>hne (by rw [e]))⟩
theorem Others.trans {g:Option Nat} {a b c:World} (h:Others g a b) (k:Others g b c):Others g a c:=⟨Nat.le_trans h.1 k.1,fun x hx hne=>(k.2 x (Nat.lt_of_lt_of_le hx h.1) hne).trans (h.2 x hx hne)⟩
theorem FrsO.others {base:Nat} {w w':World} {g:Option Nat} {v:Value} {fs:List RF} (h:FrsO base w v fs) (ho:Others g w w') (hk:Keep w w') (hne:∀b,v.ownBlock=some b→some b≠g):FrsO base w' v fs:=by
 obtain ⟨cs,h1,h2⟩:=h
 refine ⟨cs,⟨h1.1,?_⟩,h2.keep hk⟩
 rcases h1.2 with hn | ⟨g',cap,cur,rfl,hb',hgg,rest⟩
 ·exact .inl hn
 ·exact .inr ⟨g',cap,cur,rfl,hb',(ho.2 g' (lt_heap hgg) (hne g' (by simp [Value.ownBlock]))).trans hgg,rest⟩
def rowV (n:Nat) (G C:Nat→Nat) (r:Nat):Value:= .slice (some ⟨G r,0,none⟩) n (C r)
def rowsL (m n:Nat) (G C:Nat→Nat):List Value:=(List.range m).map (rowV n G C)
theorem rowsL_get {m n r:Nat} {G C:Nat→Nat} (h:r < m):(rowsL m n G C)[r]? =some (rowV n G C r):=by simp [rowsL,h]
theorem rowsL_length (m n:Nat) (G C:Nat→Nat):(rowsL m n G C).length=m:=by simp [rowsL]
def MatG (base:Nat) (w:World) (v:Value) (m n:Nat) (M:Mx) (G C:Nat→Nat):Prop:=
 w.ownsRow base 23 1 v m (rowsL m n G C)∧(∀r,r < m→FrsO base w (rowV n G C r) (canL n (M r)))∧∀r s,r < m→s < m→G r=G s→r=s
theorem MatG.below {base:Nat} {w w':World} {v:Value} {m n:Nat} {M:Mx} {G C:Nat→Nat} (h:MatG base w v m n M G C) (hb:Below w.heap.size w w'):MatG base w' v m n M G C:=
 ⟨own_below h.1 hb,fun r hr=>(h.2.1 r hr).below hb,h.2.2⟩
theorem MatG.congr {base:Nat} {w:World} {v:Value} {m n:Nat} {M M':Mx} {G C:Nat→Nat} (h:MatG base w v m n M G C) (e:∀r c,r < m→c < n→M r c=M' r c):MatG base w v m n M' G C:=
 ⟨h.1,fun r hr=>by rw [← canL_congr (fun c hc=>e r c hr hc)];exact h.2.1 r hr,h.2.2⟩
theorem MatG.nil (base:Nat) (w:World) (n:Nat) (M:Mx) (G C:Nat→Nat):MatG base w (.slice none 0 0) 0 n M G C:=
 ⟨World.ownsRow_nil _ _ _ _,fun r hr=>absurd hr (by omega),fun r s hr=>absurd hr (by omega)⟩
theorem MatG.lt {base:Nat} {w:World} {v:Value} {m n:Nat} {M:Mx} {G C:Nat→Nat} (h:MatG base w v m n M G C) {r:Nat} (hr:r < m) (hn:0 < n):base≤G r∧G r < w.heap.size∧n≤C r∧C r≤9223372036854775807:=by
 obtain ⟨g,c,hv,h1,h2,h3,h4⟩:=(h.2.1 r hr).shape (by rw [canL_length];exact hn)
 rw [canL_length] at hv h3
 unfold rowV at hv
 injection hv with e1 e2 e3
 injection e1 with e1
 injection e1 with e1
 subst e1 e3
 exact ⟨h1,h2,h3,h4⟩
theorem MatG.outer {base:Nat} {w:World} {v:Value} {m n:Nat} {M:Mx} {G C:Nat→Nat} (h:MatG base w v m n M G C) (hm:0 < m):
 ∃g c,v= .slice (some ⟨g,0,none⟩) m c∧base≤g∧g < w.heap.size∧m≤c∧c≤9223372036854775807∧∀r,r < m→w.cell? ⟨g,r,none⟩=some (rowV n G C r)∧w.frozen? ⟨g,r,none⟩=false:=by
 have h0:=h.1
 rcases h.1.2 with ⟨rfl,e⟩ | ⟨g,cap,cur,rfl,hb,hg,hnc,hcm,hcs,htake⟩
 ·omega
 ·unfold maxLen at hcm
  exact ⟨g,cap,rfl,hb,lt_heap hg,hnc,by omega,fun r hr=>row_cell h0 (rowsL_get hr)⟩
theorem MatG.shape {base:Nat} {w:World} {v:Value} {m n:Nat} {M:Mx} {G C:Nat→Nat} (h:MatG base w v m n M G C):∃A c,v= .slice A m c∧m≤c∧c≤9223372036854775807:=(RowM.of_own h.1).shape
theorem MatG.at_ {base:Nat} {w:World} {v:Value} {m n:Nat} {M:Mx} {G C:Nat→Nat} (h:MatG base w v m n M G C) {r c:Nat} (hr:r < m) (hc:c < n):
 ∃A1 n1 c1 A2 n2 c2,(w.cell? ⟨G r,c * 4,none⟩=some (.bool (canF (M r c)).num.neg)∧w.cell? ⟨G r,c * 4+1,none⟩=some (.slice A1 n1 c1)∧w.cell? ⟨G r,c * 4+2,none⟩=some (.bool (canF (M r c)).den.neg)∧w.cell? ⟨G r,c * 4+3,none⟩=some (.slice A2 n2 c2))∧FracM w (.agg #[.bool (canF (M r c)).num.neg,.slice A1 n1 c1,.bool (canF (M r c)).den.neg,.slice A2 n2 c2]) (canF (M r c)):=by
 obtain ⟨b,off,A1,n1,c1,A2,n2,c2,hA,_,hc4,hm⟩:=(h.2.1 r hr).frs.elem (Below.refl _ _) (canL_get hc)
 injection hA with hA
 injection hA with e1 e2
 subst e1 e2
 simp only [Nat.zero_add] at hc4
 exact ⟨A1,n1,c1,A2,n2,c2,hc4,hm⟩
theorem MatG.frozen {base:Nat} {w:World} {v:Value} {m n:Nat} {M:Mx} {G C:Nat→Nat} (h:MatG base w v m n M G C) {r c:Nat} (hr:r < m) (hc:c < n):
 w.frozen? ⟨G r,c * 4,none⟩=false∧w.frozen? ⟨G r,c * 4+1,none⟩=false∧w.frozen? ⟨G r,c * 4+2,none⟩=false∧w.frozen? ⟨G r,c * 4+3,none⟩=false:=by
 obtain ⟨_,_,_,_,_,hf,_⟩:=(h.2.1 r hr).at_ (canL_get hc)
 exact hf
theorem others_set4 {w:World} {g i j k l:Nat} {x y z u:Value}:Others (some g) w ((((w.setCell ⟨g,i,none⟩ x).setCell ⟨g,j,none⟩ y).setCell ⟨g,k,none⟩ z).setCell ⟨g,l,none⟩ u):=
 ((Others.of_set.trans Others.of_set).trans Others.of_set).trans Others.of_set
theorem MatG.set_ {base:Nat} {w:World} {v:Value} {m n:Nat} {M:Mx} {G C:Nat→Nat} (h:MatG base w v m n M G C) {r c:Nat} (hr:r < m) (hc:c < n) {x y z u:Value} {q:Rat} (hf:FracM w (.agg #[x,y,z,u]) (canF q)):
 MatG base ((((w.setCell ⟨G r,c * 4,none⟩ x).setCell ⟨G r,c * 4+1,none⟩ y).setCell ⟨G r,c * 4+2,none⟩ z).setCell ⟨G r,c * 4+3,none⟩ u) v m n (updM M r c q) G C∧
 KeepBut 48 w ((((w.setCell ⟨G r,c * 4,none⟩ x).setCell ⟨G r,c * 4+1,none⟩ y).setCell ⟨G r,c * 4+2,none⟩ z).setCell ⟨G r,c * 4+3,none⟩ u):=by
 obtain ⟨hs,hk⟩:=FrsO.set_ (h.2.1 r hr) (k:=c) (by rw [canL_length];exact hc) hf
 rw [canL_set hc] at hs
 refine ⟨⟨hk.own h.1 (by decide),fun s hs'=>?_,h.2.2⟩,hk⟩
 by_cases e:s=r
 ·subst e
  have:canL n (updM M s c q s)=canL n (fun i=>if i=c then q else M s i):=canL_congr fun i _=>by
   unfold updM
   by_cases e:i=c
   ·rw [if_pos ⟨rfl,e⟩,if_pos e]
   ·rw [if_neg (by omega),if_neg e]
  rw [this]
  exact hs
 ·have:canL n (updM M r c q s)=canL n (M s):=canL_congr fun i _=>by unfold updM;rw [if_neg (by omega)]
  rw [this]
  refine (h.2.1 s hs').others others_set4 (hk.keep (by decide)) fun b hb hne=>?_
  simp [rowV,Value.ownBlock] at hb
  injection hne with hne
  exact e (h.2.2 s r hs' hr (by omega))
theorem MatG.far {base:Nat} {w w':World} {v:Value} {m n:Nat} {M:Mx} {G C:Nat→Nat} (h:MatG base w v m n M G C) {g:Nat} (ho:Others (some g) w w') (hk:KeepBut 48 w w') (hne:∀r,r < m→G r≠g):MatG base w' v m n M G C:=
 ⟨hk.own h.1 (by decide),fun r hr=>(h.2.1 r hr).others ho (hk.keep (by decide)) fun b hb e=>by
  simp [rowV,Value.ownBlock] at hb
  injection e with e
  exact hne r hr (by omega),h.2.2⟩
theorem MatG.but {base:Nat} {w w':World} {v:Value} {m n:Nat} {M:Mx} {G C:Nat→Nat} {e:TypeId} (h:MatG base w v m n M G C) (hk:KeepBut e w w') (h1:23≠e) (h2:48≠e) (h3:123≠e):MatG base w' v m n M G C:=
 ⟨hk.own h.1 h1,fun r hr=>(h.2.1 r hr).but hk h2 h3,h.2.2⟩
def swapF (F:Nat→Nat) (k t:Nat):Nat→Nat:=fun r=>if r=k then F t else if r=t then F k else F r
theorem MatG.swap {base:Nat} {w:World} {m n:Nat} {M:Mx} {G C:Nat→Nat} {g c:Nat} (h:MatG base w (.slice (some ⟨g,0,none⟩) m c) m n M G C) {k t:Nat} (hk:k < m) (ht:t < m):
 MatG base ((w.setCell ⟨g,k,none⟩ (rowV n G C t)).setCell ⟨g,t,none⟩ (rowV n G C k)) (.slice (some ⟨g,0,none⟩) m c) m n (swapM M k t) (swapF G k t) (swapF C k t)∧
 KeepBut 23 w ((w.setCell ⟨g,k,none⟩ (rowV n G C t)).setCell ⟨g,t,none⟩ (rowV n G C k)):=by
 have o1:=row_set h.1 k (rowV n G C t) (by rw [rowsL_length];exact hk)
 have o2:=row_set o1 t (rowV n G C k) (by rw [List.length_set,rowsL_length];exact ht)
 obtain ⟨_,b0,_⟩:=row_block h.1
 obtain ⟨_,b1,_⟩:=row_block o1
 have kp:=(KeepBut.setCell b0 k (rowV n G C t)).trans (KeepBut.setCell b1 t (rowV n G C k))
 have hrow:∀r,rowV n (swapF G k t) (swapF C k t) r=if r=k then rowV n G C t else if r=t then rowV n G C k else rowV n G C r:=fun r=>by
  unfold rowV swapF
  by_cases e:r=k
  ·simp only [if_pos e]
  ·simp only [if_neg e]
   by_cases e2:r=t
   ·simp only [if_pos e2]
   ·simp only [if_neg e2]
 refine ⟨⟨?_,fun r hr=>?_,fun r s hr hs e=>?_⟩,kp⟩
 ·have:((rowsL m n G C).set k (rowV n G C t)).set t (rowV n G C k)=rowsL m n (swapF G k t) (swapF C k t):=by
   apply List.ext_getElem?
   intro i
   rcases Nat.lt_or_ge i m with hi | hi
   ·rw [rowsL_get hi,hrow,List.getElem?_set,List.getElem?_set]
    simp only [List.length_set,rowsL_length]
    by_cases e1:t=i
    ·subst e1
     rw [if_pos rfl,if_pos ht]
     by_cases e2:t=k
     ·subst e2;rw [if_pos rfl]
     ·rw [if_neg e2,if_pos rfl]
    ·rw [if_neg e1]
     by_cases e2:k=i
     ·subst e2;rw [if_pos rfl,if_pos hk,if_pos rfl]
     ·rw [if_neg e2,if_neg (fun h=>e2 h.symm),if_neg (fun h=>e1 h.symm),rowsL_get hi]
   ·rw [List.getElem?_eq_none (by simp [rowsL_length];exact hi),List.getElem?_eq_none (by rw [rowsL_length];exact hi)]
  rw [← this]
  exact o2
 ·rw [hrow]
  unfold swapM
  split
  ·exact (h.2.1 t ht).but kp (by decide) (by decide)
  ·split
   ·exact (h.2.1 k hk).but kp (by decide) (by decide)
   ·exact (h.2.1 r hr).but kp (by decide) (by decide)
 ·have key:∀a,a < m→∃a',a' < m∧swapF G k t a=G a'∧((a=k∧a'=t)∨(a≠k∧a=t∧a'=k)∨(a≠k∧a≠t∧a'=a)):=fun a ha=>by
   unfold swapF
   by_cases e1:a=k
   ·exact ⟨t,ht,by rw [if_pos e1],.inl ⟨e1,rfl⟩⟩
   ·by_cases e2:a=t
    ·exact ⟨k,hk,by rw [if_neg e1,if_pos e2],.inr (.inl ⟨e1,e2,rfl⟩)⟩
    ·exact ⟨a,ha,by rw [if_neg e1,if_neg e2],.inr (.inr ⟨e1,e2,rfl⟩)⟩
  obtain ⟨r',hr',er,cr⟩:=key r hr
  obtain ⟨s',hs',es,cs⟩:=key s hs
  rw [er,es] at e
  have:=h.2.2 _ _ hr' hs' e
  omega
theorem MatG.cellAt {base:Nat} {w:World} {m n:Nat} {M:Mx} {G C:Nat→Nat} {g c:Nat} (h:MatG base w (.slice (some ⟨g,0,none⟩) m c) m n M G C) {r:Nat} (hr:r < m):w.cell? ⟨g,r,none⟩=some (rowV n G C r)∧w.frozen? ⟨g,r,none⟩=false:=row_cell h.1 (rowsL_get hr)
def ColsM (w:World) (v:Value) (m n:Nat) (M:Mx):Prop:=∃vs:Nat→Value,RowM w 23 1 v m ((List.range m).map vs)∧∀k,k < m→FrsM w (vs k) (canL n (M k))
theorem ColsM.below {w w':World} {v:Value} {m n:Nat} {M:Mx} (h:ColsM w v m n M) (hb:Below w.heap.size w w'):ColsM w' v m n M:=by
 obtain ⟨vs,h1,h2⟩:=h
 exact ⟨vs,h1.below hb,fun k hk=>(h2 k hk).below hb⟩
theorem ColsM.shape {w:World} {v:Value} {m n:Nat} {M:Mx} (h:ColsM w v m n M):∃A c,v= .slice A m c∧m≤c∧c≤9223372036854775807:=by
 obtain ⟨vs,h1,h2⟩:=h
 exact h1.shape
theorem ColsM.at_ {w w0:World} {A:Option Addr} {m n c:Nat} {M:Mx} (h0:ColsM w0 (.slice A m c) m n M) (hb0:Below w0.heap.size w0 w) {k:Nat} (hk:k < m) {r:Nat} (hr:r < n):
 ∃b off B cB b' off' A1 n1 c1 A2 n2 c2,A=some ⟨b,off,none⟩∧b < w0.heap.size∧w.cell? ⟨b,off+k,none⟩=some (.slice (some ⟨b',off',none⟩) n cB)∧n≤cB∧cB≤9223372036854775807∧B=(some ⟨b',off',none⟩:Option Addr)∧
 (w.cell? ⟨b',off'+r * 4,none⟩=some (.bool (canF (M k r)).num.neg)∧w.cell? ⟨b',off'+r * 4+1,none⟩=some (.slice A1 n1 c1)∧w.cell? ⟨b',off'+r * 4+2,none⟩=some (.bool (canF (M k r)).den.neg)∧w.cell? ⟨b',off'+r * 4+3,none⟩=some (.slice A2 n2 c2))∧FracM w (.agg #[.bool (canF (M k r)).num.neg,.slice A1 n1 c1,.bool (canF (M k r)).den.neg,.slice A2 n2 c2]) (canF (M k r)):=by
 obtain ⟨vs,h1,h2⟩:=h0
 obtain ⟨b,off,hA,hlt,hc⟩:=h1.at_ (by omega)
 obtain ⟨B,cB,hv,hc1,hc2⟩:=(h2 k hk).shape
 rw [canL_length] at hv hc1
 have h3:=h2 k hk
 rw [hv] at h3
 obtain ⟨b',off',A1,n1,c1,A2,n2,c2,hA',_,h4,hm⟩:=h3.elem hb0 (canL_get hr)
 subst hA'
 refine ⟨b,off,_,cB,b',off',A1,n1,c1,A2,n2,c2,hA,hlt,?_,hc1,hc2,rfl,h4,hm⟩
 have:=hc k (vs k) (by simp [hk])
 rw [← hv]
 exact cell_later hb0 this
namespace Pl
def rfL (n:Nat) (f:Nat→RF):List RF:=(List.range n).map f
theorem rfL_length (n:Nat) (f:Nat→RF):(rfL n f).length=n:=by simp [rfL]
theorem rfL_get {n i:Nat} {f:Nat→RF} (h:i < n):(rfL n f)[i]? =some (f i):=by simp [rfL,h]
theorem rfL_congr {n:Nat} {f g:Nat→RF} (h:∀i,i < n→f i=g i):rfL n f=rfL n g:=by
 refine List.ext_getElem? fun i=>?_
 rcases Nat.lt_or_ge i n with e | e
 ·rw [rfL_get e,rfL_get e,h i e]
 ·rw [List.getElem?_eq_none (by rw [rfL_length];exact e),List.getElem?_eq_none (by rw [rfL_length];exact e)]
theorem rfL_set {n k:Nat} {f:Nat→RF} {q:RF} (h:k < n):(rfL n f).set k q=rfL n fun i=>if i=k then q else f i:=by
 refine List.ext_getElem? fun i=>?_
 rcases Nat.lt_or_ge i n with e | e
 ·rw [rfL_get e,List.getElem?_set]
  by_cases g:k=i
  ·subst g;rw [if_pos rfl,rfL_length,if_pos h,if_pos rfl]
  ·rw [if_neg g,rfL_get e,if_neg fun g'=>g g'.symm]
 ·rw [List.getElem?_eq_none (by rw [List.length_set,rfL_length];exact e),List.getElem?_eq_none (by rw [rfL_length];exact e)]
theorem rfL_can (n:Nat) (f:Nat→Rat):rfL n (fun i=>canF (f i))=canL n f:=rfl
theorem rfL_qAt {n i:Nat} {f:Nat→RF} (h:i < n):qAt (rfL n f) i=(f i).q:=qAt_some (rfL_get h)
def updR (M:Nat→Nat→RF) (r i:Nat) (q:RF):Nat→Nat→RF:=fun s c=>if s=r∧c=i then q else M s c
end Pl
def MatR (base:Nat) (w:World) (v:Value) (m n:Nat) (M:Nat→Nat→RF) (G C:Nat→Nat):Prop:=
 w.ownsRow base 23 1 v m (rowsL m n G C)∧(∀r,r < m→FrsO base w (rowV n G C r) (rfL n (M r)))∧∀r s,r < m→s < m→G r=G s→r=s
theorem MatR.below {base:Nat} {w w':World} {v:Value} {m n:Nat} {M:Nat→Nat→RF} {G C:Nat→Nat} (h:MatR base w v m n M G C) (hb:Below w.heap.size w w'):MatR base w' v m n M G C:=
 ⟨own_below h.1 hb,fun r hr=>(h.2.1 r hr).below hb,h.2.2⟩
theorem MatR.congr {base:Nat} {w:World} {v:Value} {m n:Nat} {M M':Nat→Nat→RF} {G C:Nat→Nat} (h:MatR base w v m n M G C) (e:∀r c,r < m→c < n→M r c=M' r c):MatR base w v m n M' G C:=
 ⟨h.1,fun r hr=>by rw [← rfL_congr (fun c hc=>e r c hr hc)];exact h.2.1 r hr,h.2.2⟩
theorem MatR.nil (base:Nat) (w:World) (n:Nat) (M:Nat→Nat→RF) (G C:Nat→Nat):MatR base w (.slice none 0 0) 0 n M G C:=
 ⟨World.ownsRow_nil _ _ _ _,fun r hr=>absurd hr (by omega),fun r s hr=>absurd hr (by omega)⟩
theorem MatR.lt {base:Nat} {w:World} {v:Value} {m n:Nat} {M:Nat→Nat→RF} {G C:Nat→Nat} (h:MatR base w v m n M G C) {r:Nat} (hr:r < m) (hn:0 < n):base≤G r∧G r < w.heap.size∧n≤C r∧C r≤9223372036854775807:=by
 obtain ⟨g,c,hv,h1,h2,h3,h4⟩:=(h.2.1 r hr).shape (by rw [rfL_length];exact hn)
 rw [rfL_length] at hv h3
 unfold rowV at hv
 injection hv with e1 e2 e3
 injection e1 with e1
 injection e1 with e1
 subst e1 e3
 exact ⟨h1,h2,h3,h4⟩
theorem MatR.outer {base:Nat} {w:World} {v:Value} {m n:Nat} {M:Nat→Nat→RF} {G C:Nat→Nat} (h:MatR base w v m n M G C) (hm:0 < m):
 ∃g c,v= .slice (some ⟨g,0,none⟩) m c∧base≤g∧g < w.heap.size∧m≤c∧c≤9223372036854775807∧∀r,r < m→w.cell? ⟨g,r,none⟩=some (rowV n G C r)∧w.frozen? ⟨g,r,none⟩=false:=by
 have h0:=h.1
 rcases h.1.2 with ⟨rfl,e⟩ | ⟨g,cap,cur,rfl,hb,hg,hnc,hcm,hcs,htake⟩
 ·omega
 ·unfold maxLen at hcm
  exact ⟨g,cap,rfl,hb,lt_heap hg,hnc,by omega,fun r hr=>row_cell h0 (rowsL_get hr)⟩
theorem MatR.shape {base:Nat} {w:World} {v:Value} {m n:Nat} {M:Nat→Nat→RF} {G C:Nat→Nat} (h:MatR base w v m n M G C):∃A c,v= .slice A m c∧m≤c∧c≤9223372036854775807:=(RowM.of_own h.1).shape
theorem MatR.at_ {base:Nat} {w:World} {v:Value} {m n:Nat} {M:Nat→Nat→RF} {G C:Nat→Nat} (h:MatR base w v m n M G C) {r c:Nat} (hr:r < m) (hc:c < n):
 ∃A1 n1 c1 A2 n2 c2,(w.cell? ⟨G r,c * 4,none⟩=some (.bool (M r c).num.neg)∧w.cell? ⟨G r,c * 4+1,none⟩=some (.slice A1 n1 c1)∧w.cell? ⟨G r,c * 4+2,none⟩=some (.bool (M r c).den.neg)∧w.cell? ⟨G r,c * 4+3,none⟩=some (.slice A2 n2 c2))∧FracM w (.agg #[.bool (M r c).num.neg,.slice A1 n1 c1,.bool (M r c).den.neg,.slice A2 n2 c2]) (M r c):=by
 obtain ⟨b,off,A1,n1,c1,A2,n2,c2,hA,_,hc4,hm⟩:=(h.2.1 r hr).frs.elem (Below.refl _ _) (rfL_get hc)
 injection hA with hA
 injection hA with e1 e2
 subst e1 e2
 simp only [Nat.zero_add] at hc4
 exact ⟨A1,n1,c1,A2,n2,c2,hc4,hm⟩
theorem MatR.frozen {base:Nat} {w:World} {v:Value} {m n:Nat} {M:Nat→Nat→RF} {G C:Nat→Nat} (h:MatR base w v m n M G C) {r c:Nat} (hr:r < m) (hc:c < n):
 w.frozen? ⟨G r,c * 4,none⟩=false∧w.frozen? ⟨G r,c * 4+1,none⟩=false∧w.frozen? ⟨G r,c * 4+2,none⟩=false∧w.frozen? ⟨G r,c * 4+3,none⟩=false:=by
 obtain ⟨_,_,_,_,_,hf,_⟩:=(h.2.1 r hr).at_ (rfL_get hc)
 exact hf
theorem MatR.set_ {base:Nat} {w:World} {v:Value} {m n:Nat} {M:Nat→Nat→RF} {G C:Nat→Nat} (h:MatR base w v m n M G C) {r c:Nat} (hr:r < m) (hc:c < n) {x y z u:Value} {q:RF} (hf:FracM w (.agg #[x,y,z,u]) q):
 MatR base ((((w.setCell ⟨G r,c * 4,none⟩ x).setCell ⟨G r,c * 4+1,none⟩ y).setCell ⟨G r,c * 4+2,none⟩ z).setCell ⟨G r,c * 4+3,none⟩ u) v m n (updR M r c q) G C∧
 KeepBut 48 w ((((w.setCell ⟨G r,c * 4,none⟩ x).setCell ⟨G r,c * 4+1,none⟩ y).setCell ⟨G r,c * 4+2,none⟩ z).setCell ⟨G r,c * 4+3,none⟩ u):=by
 obtain ⟨hs,hk⟩:=FrsO.set_ (h.2.1 r hr) (k:=c) (by rw [rfL_length];exact hc) hf
 rw [rfL_set hc] at hs
 refine ⟨⟨hk.own h.1 (by decide),fun s hs'=>?_,h.2.2⟩,hk⟩
 by_cases e:s=r
 ·subst e
  have:rfL n (updR M s c q s)=rfL n (fun i=>if i=c then q else M s i):=rfL_congr fun i _=>by
   unfold updR
   by_cases e:i=c
   ·rw [if_pos ⟨rfl,e⟩,if_pos e]
   ·rw [if_neg (by omega),if_neg e]
  rw [this]
  exact hs
 ·have:rfL n (updR M r c q s)=rfL n (M s):=rfL_congr fun i _=>by unfold updR;rw [if_neg (by omega)]
  rw [this]
  refine (h.2.1 s hs').others others_set4 (hk.keep (by decide)) fun b hb hne=>?_
  simp [rowV,Value.ownBlock] at hb
  injection hne with hne
  exact e (h.2.2 s r hs' hr (by omega))
theorem MatR.far {base:Nat} {w w':World} {v:Value} {m n:Nat} {M:Nat→Nat→RF} {G C:Nat→Nat} (h:MatR base w v m n M G C) {g:Nat} (ho:Others (some g) w w') (hk:KeepBut 48 w w') (hne:∀r,r < m→G r≠g):MatR base w' v m n M G C:=
 ⟨hk.own h.1 (by decide),fun r hr=>(h.2.1 r hr).others ho (hk.keep (by decide)) fun b hb e=>by
  simp [rowV,Value.ownBlock] at hb
  injection e with e
  exact hne r hr (by omega),h.2.2⟩
theorem MatR.but {base:Nat} {w w':World} {v:Value} {m n:Nat} {M:Nat→Nat→RF} {G C:Nat→Nat} {e:TypeId} (h:MatR base w v m n M G C) (hk:KeepBut e w w') (h1:23≠e) (h2:48≠e) (h3:123≠e):MatR base w' v m n M G C:=
 ⟨hk.own h.1 h1,fun r hr=>(h.2.1 r hr).but hk h2 h3,h.2.2⟩
theorem MatR.cellAt {base:Nat} {w:World} {m n:Nat} {M:Nat→Nat→RF} {G C:Nat→Nat} {g c:Nat} (h:MatR base w (.slice (some ⟨g,0,none⟩) m c) m n M G C) {r:Nat} (hr:r < m):w.cell? ⟨g,r,none⟩=some (rowV n G C r)∧w.frozen? ⟨g,r,none⟩=false:=row_cell h.1 (rowsL_get hr)
namespace Pl
theorem zeroF_sm:zeroF.Sm:=(zeroF_rs 1).sm (by decide)
theorem colQ_none {es:List En} {i:Nat} (h:∀(k:Nat) (e:En),es[k]? =some e→e.idx≠(i:Int)) (f:Nat→Rat):dQ es f i=f i:=by
 induction es generalizing f with
 | nil=>rfl
 | cons e es ih=>
  rw [dQ,ih fun k d hd=>h (k+1) d (by simpa using hd)]
  rw [if_neg (h 0 e rfl)]
theorem colQ_at {es:List En} (h:Inc none es) {k i:Nat} {e:En} (he:es[k]? =some e) (hi:e.idx=(i:Int)):colQ es i=e.f.q:=by
 have key:∀(es:List En) (p:Option Int) (f:Nat→Rat) (k:Nat),Inc p es→es[k]? =some e→dQ es f i=e.f.q:=by
  intro es
  induction es with
  | nil=>intro p f k _ hk;simp at hk
  | cons c es ih=>
   intro p f k hinc hk
   match k,hk with
   | 0,hk=>
    simp at hk;subst hk
    rw [dQ,colQ_none fun j d hd e2=>by
     have:=Inc_lt hinc 0 (j+1) c d (by omega) rfl (by simpa using hd)
     omega,if_pos hi]
   | k+1,hk=>rw [dQ];exact ih _ _ k hinc.2 (by simpa using hk)
 exact key es none _ k h he
end Pl
theorem canonF_any (v:Value) (a:RF) (w:World) (h:FracM w v a) (hs:a.Sm):
 Calls Tryz.prog 117 #[v] w fun e w'=>∃v',e= .returned v'∧FracM w' v' (canF a.q)∧Below w.heap.size w w':=by
 obtain ⟨A,n,c,A',n',c',rfl,_,_⟩:=id h
 obtain ⟨W,hW,_,hX,hR,hbe⟩:=boxF2 w (.bool a.num.neg) (.slice A n c) (.bool a.den.neg) (.slice A' n' c') (.bool false) (.slice none 0 0) (.bool false) (.slice none 0 0)
 obtain ⟨p1,p2,p3,p4⟩:=hX.four
 have e1:=h.below hbe
 clear h
 go_enter Tryz.func117,Tryz.ntmps117
 go_wp2_with fail
 clear hW
 refine (addF_any _ _ a zeroF _ e1 (FracM.zero _) hs zeroF_sm).mono ?_
 rw [zeroF_q,Rat.add_zero]
 rintro _ w1 ⟨v1,rfl,e2,hb1⟩
 obtain ⟨B,m,d,B',m',d',rfl,_,_⟩:=id e2
 have hR1:=hR.later hb1
 obtain ⟨c0,c1,c2,c3⟩:=hR1.four
 obtain ⟨f0,f1,f2,f3⟩:=hR1.fourF
 go_wp2
 refine ret_cell Tryz.results117 Tryz.underlying48 (by kernel_rfl) rfl (hR1.set4 _ _ _ _) rfl ?_
 exact fin_frac hR1 e2 (below_then hbe hb1 hbe.size) (by omega)
theorem fromDense_own (v:Value) (fs:List RF) (K:Nat) (w:World) (h:FrsM w v fs) (hl:fs.length≤4096) (hk:RsL K fs) (hK:K≤34359738368):
 Calls Tryz.prog 86 #[v] w fun e w'=>∃v',e= .returned (.tuple #[v',.int .i64 0])∧VecO w.heap.size w' v' (spV (qAt fs) fs.length)∧Below w.heap.size w w':=by
 obtain ⟨A,c,rfl,hc1,hc2⟩:=h.shape
 have H:=Lib.hid h
 have HK:=Lib.hid hk
 generalize hn:fs.length=n at *
 have HN:=Lib.hid hn
 have hnI:(n:Int)≤4096:=by omega
 clear h hk hn
 go_enter Tryz.func86,Tryz.ntmps86
 go_wp2
 go_loopw [4,12] (fun u i wr=>∃k:Nat,k≤n∧i= .int .i64 k∧VecO w.heap.size wr u (spV (qAt fs) k)∧Below w.heap.size w wr) (fun _ i _=>n - (intOf i).toNat)
 case atStart=>exact ⟨0,by omega,rfl,VecO.nil _ _,Below.refl _ _⟩
 case round=>
  obtain ⟨k,hk,rfl,hO,hbe⟩:=hrel
  rcases Nat.lt_or_ge k n with hkl | hkl
  ·obtain ⟨f,hf⟩:=get_some (fs:=fs) (i:=k) (by rw [HN.out];exact hkl)
   obtain ⟨b,off,A1,n1,k1,A2,n2,k2,rfl,hlt,⟨q0,q1,q2,q3⟩,hmf⟩:=H.out.elem hbe hf
   have HQ:=Lib.hid (qAt_some hf)
   have hsf:f.Sm:=(HK.out k f hf).sm hK
   obtain ⟨W1,hW1,hX,hbn⟩:=boxF1 wr (.bool f.num.neg) (.slice A1 n1 k1) (.bool f.den.neg) (.slice A2 n2 k2)
   have hkI:(k:Int) < n:=by omega
   have hm1:=hmf.below hbn
   have hO1:=hO.below hbn
   have hbe1:=below_then hbe hbn hbe.size
   obtain ⟨x0,x1,x2,x3⟩:=hX.four
   clear hf hmf hO hbe
   go_wp2_with fail
   clear hW1 q0 q1 q2 q3
   refine (signF_any _ f _ hm1).mono ?_
   rintro _ w2 ⟨rfl,hb2⟩
   have hX2:=hX.later hb2
   have hO2:=hO1.below hb2
   have hbe2:=below_then hbe1 hb2 hbe1.size
   have hm2:=hm1.below hb2
   clear x0 x1 x2 x3 hX hO1 hbe1 hm1 hb2 hbn
   by_cases hq:f.q=0
   ·have hqs:(qs f.q !=0)=false:=by rw [hq];decide
    have HS:Hid (spV (qAt fs) (k+1)=spV (qAt fs) k):=Lib.hid (spV_skip (by rw [HQ.out];exact hq))
    clear hq
    go_wp2
    go_roundw
    case rel=>exact ⟨k+1,by omega,by go_num,by rw [HS.out];exact hO2,hbe2⟩
    case measure=>simp [intOf];omega
   ·have hqs:(qs f.q !=0)=true:=by simpa using fun e=>hq (qs_zero.1 e)
    have HS:Hid (spV (qAt fs) (k+1)=spV (qAt fs) k++[⟨(k:Int),canF f.q⟩]):=Lib.hid (by rw [← HQ.out];exact spV_next (by rw [HQ.out];exact hq))
    clear hq
    obtain ⟨x0,x1,x2,x3⟩:=hX2.four
    go_wp2_with fail
    refine (canonF_any _ f _ hm2 hsf).mono ?_
    rintro _ w3 ⟨v3,rfl,e3,hb3⟩
    have hO3:=hO2.below hb3
    have hbe3:=below_then hbe2 hb3 hbe2.size
    obtain ⟨B,l,d,B',l',d',rfl,_,_⟩:=id e3
    have HF:=Lib.hid e3
    have HO:=Lib.hid hO3
    have hlen:(spV (qAt fs) k).length+1≤1099511627776:=by have:=spV_length (f:=qAt fs) k;omega
    have hbs:=hbe3.size
    clear hO2 hO3 hbe2 hb3 e3 x0 x1 x2 x3 hX2 hm2
    generalize hQ:canF f.q=Q at *
    go_wp2_with (at_builtin;refine wpList_append_entry rfl (.tmp 20) (.tmp 25) rfl w3 w.heap.size u4 (spV (qAt fs) k) rfl HO.out _ _ B B' l d l' d' (k:Int) Q HF.out rfl hlen hbs ?_)
    intro v' w4 hO4 hk4 hb4
    go_wp2
    go_roundw
    case rel=>exact ⟨k+1,by omega,by go_num,by rw [HS.out];exact hO4,hbe3.trans hb4⟩
    case measure=>simp [intOf];omega
  ·obtain rfl:k=n:=by omega
   go_wp2
   go_ret2
   exact ⟨_,rfl,hO,hbe⟩
namespace Pl
def mixL (n i:Nat) (es:List En):List RF:=rfL n fun j=>if j < i then canF (colQ es j) else zeroF
theorem mixL_zero (n:Nat) (es:List En):mixL n 0 es=List.replicate n zeroF:=by
 refine List.ext_getElem? fun i=>?_
 rcases Nat.lt_or_ge i n with e | e
 ·unfold mixL;rw [rfL_get e,List.getElem?_replicate,if_pos e,if_neg (by omega)]
 ·unfold mixL;rw [List.getElem?_eq_none (by rw [rfL_length];exact e),List.getElem?_eq_none (by simpa using e)]
theorem mixL_next {n i:Nat} {es:List En} (hi:i < n):(mixL n i es).set i (canF (colQ es i))=mixL n (i+1) es:=by
 unfold mixL
 rw [rfL_set hi]
 exact rfL_congr fun j _=>by
  by_cases e:j=i
  ·rw [if_pos e,if_pos (by omega),e]
  ·rw [if_neg e]
   by_cases g:j < i
   ·rw [if_pos g,if_pos (by omega)]
   ·rw [if_neg g,if_neg (by omega)]
theorem mixL_all (n:Nat) (es:List En):mixL n n es=canL n (colQ es):=by
 unfold mixL
 rw [← rfL_can]
 exact rfL_congr fun j hj=>by rw [if_pos hj]
theorem mixL_length (n i:Nat) (es:List En):(mixL n i es).length=n:=rfL_length _ _
theorem mixL_get {n i j:Nat} {es:List En} (h:j < n):(mixL n i es)[j]? =some (if j < i then canF (colQ es j) else zeroF):=rfL_get h
def NextAt (es:List En) (i t:Nat):Prop:=t≤es.length∧∀(k:Nat) (e:En),es[k]? =some e→(k < t↔e.idx < (i:Int))
theorem NextAt.zero {n:Nat} {es:List En} (h:Good n es):NextAt es 0 0:=⟨Nat.zero_le _,fun k e he=>by have:=h.1 k e he;omega⟩
theorem NextAt.hit {n i t:Nat} {es:List En} (g:Good n es) (h:NextAt es i t) {e:En} (he:es[t]? =some e) (hi:e.idx=(i:Int)):NextAt es (i+1) (t+1)∧colQ es i=e.f.q:=by
 have ht:t < es.length:=(List.getElem?_eq_some_iff.1 he).1
 refine ⟨⟨by omega,fun k d hd=>?_⟩,colQ_at g.2.1 he hi⟩
 have h1:=h.2 k d hd
 rcases Nat.lt_trichotomy k t with c | c | c
 ·have:=h1.1 c;omega
 ·subst c;rw [he] at hd;injection hd with hd;subst hd;omega
 ·have:=Inc_lt g.2.1 t k e d c he hd;omega
theorem NextAt.miss {i t:Nat} {es:List En} (h:NextAt es i t) (hm:∀e,es[t]? =some e→e.idx≠(i:Int)) (hinc:Inc none es):NextAt es (i+1) t∧colQ es i=0:=by
 have hge:∀(k:Nat) (d:En),es[k]? =some d→¬k < t→d.idx≠(i:Int):=fun k d hd hk e=>by
  rcases Nat.eq_or_lt_of_le (Nat.not_lt.1 hk) with c | c
  ·subst c;exact hm d hd e
  ·have ht:t < es.length:=by have:=(List.getElem?_eq_some_iff.1 hd).1;omega
   have h1:=Inc_lt hinc t k _ d c (List.getElem?_eq_getElem ht) hd
   have h2:¬(es[t]'ht).idx < (i:Int):=fun q=>Nat.lt_irrefl t ((h.2 t _ (List.getElem?_eq_getElem ht)).2 q)
   have h3:=hm _ (List.getElem?_eq_getElem ht)
   omega
 refine ⟨⟨h.1,fun k d hd=>?_⟩,colQ_none (fun k d hd=>?_) _⟩
 ·have h1:=h.2 k d hd
  by_cases c:k < t
  ·have:=h1.1 c;omega
  ·have:=hge k d hd c;omega
 ·by_cases c:k < t
  ·have:=(h.2 k d hd).1 c;omega
  ·exact hge k d hd c
end Pl
theorem toDense_own (v:Value) (es:List En) (n K:Nat) (w:World) (h:VecM w v es) (hn:n≤4096) (hk:∀(k:Nat) (e:En),es[k]? =some e→e.f.Rs K) (hK:K≤34359738368) (hg:Pl.Good n es):
 Calls Tryz.prog 110 #[v,.int .i64 (n:Int)] w fun e w'=>∃v',e= .returned (.tuple #[v',.int .i64 0])∧FrsO w.heap.size w' v' (canL n (colQ es))∧Below w.heap.size w w':=by
 obtain ⟨A,c,rfl,hc1,hc2⟩:=h.shape
 have H:=Lib.hid h
 have HK:=Lib.hid hk
 have HG:=Lib.hid hg
 have HE:=Lib.hid (hg.err hn)
 generalize hl:es.length=l at *
 have HL:=Lib.hid hl
 have HEI:Hid (EnI es):=Lib.hid fun k e he=>by have:=hg.1 k e he;omega
 have HRC:Hid (∀(k:Nat) (e:En),es[k]? =some e→e.idx=(e.idx.toNat:Int)∧e.idx < n):=Lib.hid fun k e he=>by have:=hg.1 k e he;omega
 have hmk:=make_frac n (by omega)
 clear hk hg hl
 go_enter Tryz.func110,Tryz.ntmps110
 go_wp2_with fail
 refine (sparseValidate_any _ es (n:Int) _ h HEI.out (by omega) (by omega)).mono ?_
 rw [HE.out]
 rintro _ w1 ⟨rfl,hb1⟩
 have hO1:=FrsO.zeros w1 n (by unfold maxLen;omega)
 have hbz:=below_new w1 (.cells (zfc n) 48)
 rw [← mixL_zero n es] at hO1
 clear h
 go_wp2
 have hb2:=below_then hb1 hbz hb1.size
 have hws:=hb1.size
 generalize w1.alloc (.cells (zfc n) 48)=W2 at *
 go_loopw [8,20] (fun x i wr=>∃k t:Nat,k≤n∧x= .int .i64 t∧i= .int .i64 k∧Below w.heap.size w wr∧Below w1.heap.size w1 wr∧NextAt es k t∧FrsO w1.heap.size wr (.slice (some ⟨w1.heap.size,0,none⟩) n n) (mixL n k es)) (fun _ i _=>n - (intOf i).toNat)
 case atStart=>exact ⟨0,0,by omega,rfl,rfl,hb2,hbz,NextAt.zero HG.out,hO1⟩
 case round=>
  clear hb2 hbz hO1
  obtain ⟨k,t,hk,rfl,rfl,hbe,hbe1,hna,hO⟩:=hrel
  have HNA:=Lib.hid hna
  have htl:t≤l:=by rw [← HL.out];exact hna.1
  clear hna
  rcases Nat.lt_or_ge k n with hkl | hkl
  ·have hkI:(k:Int) < n:=by omega
   have hget:=mixL_get (n:=n) (i:=k) (es:=es) hkl
   rcases Nat.lt_or_ge t l with htl2 | htl2
   ·obtain ⟨e,he⟩:=get_someE (es:=es) (i:=t) (by rw [HL.out];exact htl2)
    obtain ⟨b,off,A1,n1,k1,A2,n2,k2,rfl,hlt,⟨x0,x1,x2,x3,x4⟩,hmf⟩:=H.out.elem hbe he
    have htI:(t:Int) < l:=by omega
    by_cases hix:e.idx=(k:Int)
    ·obtain ⟨hn1,hcq⟩:=NextAt.hit HG.out HNA.out he hix
     have HN1:=Lib.hid hn1
     have HCQ:Hid (canF e.f.q=canF (colQ es k)):=Lib.hid (by rw [hcq])
     have hsf:e.f.Sm:=(HK.out t e he).sm hK
     obtain ⟨ei,ef⟩:=e
     simp only at *
     subst hix
     clear he hn1 hcq
     go_wp2_with fail
     refine (canonF_any _ ef _ hmf hsf).mono ?_
     rw [HCQ.out]
     rintro _ w3 ⟨v3,rfl,e3,hb3⟩
     obtain ⟨B,l9,d9,B',l9',d9',rfl,_,_⟩:=id e3
     have hO3:=hO.below hb3
     obtain ⟨_,_,_,_,⟨t0,t1,t2,t3⟩,⟨f0,f1,f2,f3⟩,_⟩:=hO3.at_ hget
     obtain ⟨hO4,hk4⟩:=hO3.set_ (k:=k) (by rw [mixL_length];exact hkl) e3
     rw [mixL_next hkl] at hO4
     have hbe4:=below_set4' (below_then hbe hb3 hbe.size) hws (k * 4) (k * 4+1) (k * 4+2) (k * 4+3)
     have hbe5:=below_set4' (below_then hbe1 hb3 hbe1.size) (Nat.le_refl _) (k * 4) (k * 4+1) (k * 4+2) (k * 4+3)
     clear x0 x1 x2 x3 x4 hmf hO hbe hbe1 hb3
     go_wp2
     go_roundw
     case rel=>exact ⟨k+1,t+1,by omega,by go_num,by go_num,hbe4 _ _ _ _,hbe5 _ _ _ _,HN1.out,hO4⟩
     case measure=>simp [intOf];omega
    ·obtain ⟨hn1,hcq⟩:=NextAt.miss HNA.out (fun d hd=>by rw [he] at hd;injection hd with hd;subst hd;exact hix) HG.out.2.1
     have HN1:=Lib.hid hn1
     have HCQ:Hid (canF zeroF.q=canF (colQ es k)):=Lib.hid (by rw [hcq,zeroF_q])
     obtain ⟨ei,ef⟩:=e
     simp only at *
     have hix':(ei==(k:Int))=false:=by simpa using hix
     clear he hn1 hcq hix
     go_wp2_with fail
     refine (canonF_any _ zeroF _ (FracM.zero _) zeroF_sm).mono ?_
     rw [HCQ.out]
     rintro _ w3 ⟨v3,rfl,e3,hb3⟩
     obtain ⟨B,l9,d9,B',l9',d9',rfl,_,_⟩:=id e3
     have hO3:=hO.below hb3
     obtain ⟨_,_,_,_,⟨t0,t1,t2,t3⟩,⟨f0,f1,f2,f3⟩,_⟩:=hO3.at_ hget
     obtain ⟨hO4,hk4⟩:=hO3.set_ (k:=k) (by rw [mixL_length];exact hkl) e3
     rw [mixL_next hkl] at hO4
     have hbe4:=below_set4' (below_then hbe hb3 hbe.size) hws (k * 4) (k * 4+1) (k * 4+2) (k * 4+3)
     have hbe5:=below_set4' (below_then hbe1 hb3 hbe1.size) (Nat.le_refl _) (k * 4) (k * 4+1) (k * 4+2) (k * 4+3)
     clear x0 x1 x2 x3 x4 hmf hO hbe hbe1 hb3
     go_wp2
     go_roundw
     case rel=>exact ⟨k+1,t,by omega,rfl,by go_num,hbe4 _ _ _ _,hbe5 _ _ _ _,HN1.out,hO4⟩
     case measure=>simp [intOf];omega
   ·obtain ⟨hn1,hcq⟩:=NextAt.miss HNA.out (fun d hd=>by have:=(List.getElem?_eq_some_iff.1 hd).1;have:=HL.out;omega) HG.out.2.1
    have HN1:=Lib.hid hn1
    have HCQ:Hid (canF zeroF.q=canF (colQ es k)):=Lib.hid (by rw [hcq,zeroF_q])
    have htI:(l:Int)≤t:=by omega
    clear hn1 hcq
    go_wp2_with fail
    refine (canonF_any _ zeroF _ (FracM.zero _) zeroF_sm).mono ?_
    rw [HCQ.out]
    rintro _ w3 ⟨v3,rfl,e3,hb3⟩
    obtain ⟨B,l9,d9,B',l9',d9',rfl,_,_⟩:=id e3
    have hO3:=hO.below hb3
    obtain ⟨_,_,_,_,⟨t0,t1,t2,t3⟩,⟨f0,f1,f2,f3⟩,_⟩:=hO3.at_ hget
    obtain ⟨hO4,hk4⟩:=hO3.set_ (k:=k) (by rw [mixL_length];exact hkl) e3
    rw [mixL_next hkl] at hO4
    have hbe4:=below_set4' (below_then hbe hb3 hbe.size) hws (k * 4) (k * 4+1) (k * 4+2) (k * 4+3)
    have hbe5:=below_set4' (below_then hbe1 hb3 hbe1.size) (Nat.le_refl _) (k * 4) (k * 4+1) (k * 4+2) (k * 4+3)
    clear hO hbe hbe1 hb3
    go_wp2
    go_roundw
    case rel=>exact ⟨k+1,t,by omega,rfl,by go_num,hbe4 _ _ _ _,hbe5 _ _ _ _,HN1.out,hO4⟩
    case measure=>simp [intOf];omega
  ·obtain rfl:n=k:=by omega
   rw [mixL_all] at hO
   go_wp2
   go_ret2
   exact ⟨_,rfl,hO.monoB hws,hbe⟩
def set5l (cs:List Value) (j:Nat) (t x y z u:Value):List Value:=((((cs.set j t).set (j+1) x).set (j+2) y).set (j+3) z).set (j+4) u
theorem EnC.set_ {w:World} {cs:List Value} {es:List En} (h:EnC w cs es) {k:Nat} (hk:k < es.length) {x y z u:Value} {e:En} (hf:FracM w (.agg #[x,y,z,u]) e.f):EnC w (set5l cs (k * 5) (.int .i64 e.idx) x y z u) (es.set k e):=by
 have hl:=h.1
 refine ⟨by simp [set5l,hl],fun j g hg=>?_⟩
 by_cases hjk:j=k
 ·subst hjk
  rw [List.getElem?_set_self hk] at hg
  injection hg with hg
  subst hg
  refine ⟨x,y,z,u,?_,?_,?_,?_,?_,hf⟩ <;> unfold set5l
  ·rw [List.getElem?_set_ne (by omega),List.getElem?_set_ne (by omega),List.getElem?_set_ne (by omega),List.getElem?_set_ne (by omega),List.getElem?_set_self (by omega)]
  ·rw [List.getElem?_set_ne (by omega),List.getElem?_set_ne (by omega),List.getElem?_set_ne (by omega),List.getElem?_set_self (by simp;omega)]
  ·rw [List.getElem?_set_ne (by omega),List.getElem?_set_ne (by omega),List.getElem?_set_self (by simp;omega)]
  ·rw [List.getElem?_set_ne (by omega),List.getElem?_set_self (by simp;omega)]
  ·rw [List.getElem?_set_self (by simp;omega)]
 ·rw [List.getElem?_set_ne (Ne.symm hjk)] at hg
  obtain ⟨x',y',z',u',h0,h1,h2,h3,h4,h5⟩:=h.2 j g hg
  refine ⟨x',y',z',u',?_,?_,?_,?_,?_,h5⟩ <;> unfold set5l <;> rw [List.getElem?_set_ne (by omega),List.getElem?_set_ne (by omega),List.getElem?_set_ne (by omega),List.getElem?_set_ne (by omega),List.getElem?_set_ne (by omega)] <;> assumption
theorem VecO.at_ {base:Nat} {w:World} {g n c:Nat} {es:List En} (h:VecO base w (.slice (some ⟨g,0,none⟩) n c) es) {k:Nat} {e:En} (he:es[k]? =some e):
 ∃x y z u,(w.cell? ⟨g,k * 5,none⟩=some (.int .i64 e.idx)∧w.cell? ⟨g,k * 5+1,none⟩=some x∧w.cell? ⟨g,k * 5+2,none⟩=some y∧w.cell? ⟨g,k * 5+3,none⟩=some z∧w.cell? ⟨g,k * 5+4,none⟩=some u)∧(w.frozen? ⟨g,k * 5,none⟩=false∧w.frozen? ⟨g,k * 5+1,none⟩=false∧w.frozen? ⟨g,k * 5+2,none⟩=false∧w.frozen? ⟨g,k * 5+3,none⟩=false∧w.frozen? ⟨g,k * 5+4,none⟩=false)∧FracM w (.agg #[x,y,z,u]) e.f:=by
 obtain ⟨cs,h1,h2⟩:=h
 have hn:n=es.length:=(RowM.of_own h1).len
 subst hn
 obtain ⟨x,y,z,u,c0,c1,c2,c3,c4,hm⟩:=h2.2 k e he
 exact ⟨x,y,z,u,⟨(row_cell h1 c0).1,(row_cell h1 c1).1,(row_cell h1 c2).1,(row_cell h1 c3).1,(row_cell h1 c4).1⟩,⟨(row_cell h1 c0).2,(row_cell h1 c1).2,(row_cell h1 c2).2,(row_cell h1 c3).2,(row_cell h1 c4).2⟩,hm⟩
theorem VecO.set_ {base:Nat} {w:World} {g n c:Nat} {es:List En} (h:VecO base w (.slice (some ⟨g,0,none⟩) n c) es) {k:Nat} (hk:k < es.length) {x y z u:Value} {e:En} (hf:FracM w (.agg #[x,y,z,u]) e.f):
 VecO base (((((w.setCell ⟨g,k * 5,none⟩ (.int .i64 e.idx)).setCell ⟨g,k * 5+1,none⟩ x).setCell ⟨g,k * 5+2,none⟩ y).setCell ⟨g,k * 5+3,none⟩ z).setCell ⟨g,k * 5+4,none⟩ u) (.slice (some ⟨g,0,none⟩) n c) (es.set k e)∧
 KeepBut 87 w (((((w.setCell ⟨g,k * 5,none⟩ (.int .i64 e.idx)).setCell ⟨g,k * 5+1,none⟩ x).setCell ⟨g,k * 5+2,none⟩ y).setCell ⟨g,k * 5+3,none⟩ z).setCell ⟨g,k * 5+4,none⟩ u):=by
 obtain ⟨cs,h1,h2⟩:=h
 have hn:n=es.length:=(RowM.of_own h1).len
 subst hn
 have hl:=h2.1
 have o1:=row_set h1 (k * 5) (.int .i64 e.idx) (by omega)
 have o2:=row_set o1 (k * 5+1) x (by simp;omega)
 have o3:=row_set o2 (k * 5+2) y (by simp;omega)
 have o4:=row_set o3 (k * 5+3) z (by simp;omega)
 have o5:=row_set o4 (k * 5+4) u (by simp;omega)
 obtain ⟨_,b0,_⟩:=row_block h1
 obtain ⟨_,b1,_⟩:=row_block o1
 obtain ⟨_,b2,_⟩:=row_block o2
 obtain ⟨_,b3,_⟩:=row_block o3
 obtain ⟨_,b4,_⟩:=row_block o4
 have kp:=((((KeepBut.setCell b0 (k * 5) (.int .i64 e.idx)).trans (KeepBut.setCell b1 (k * 5+1) x)).trans (KeepBut.setCell b2 (k * 5+2) y)).trans (KeepBut.setCell b3 (k * 5+3) z)).trans (KeepBut.setCell b4 (k * 5+4) u)
 have kd:=kp.keep (by decide)
 refine ⟨⟨set5l cs (k * 5) (.int .i64 e.idx) x y z u,by rw [List.length_set];exact o5,?_⟩,kp⟩
 exact (h2.keep kd).set_ hk (hf.keep kd)
def zec (n:Nat):Array Value:=madeCells (Value.cells (.agg #[.int .i64 0,.bool false,.slice none 0 0,.bool false,.slice none 0 0])) (n * 5)
theorem zec_at {n k j:Nat} (hk:k < n) (hj:j < 5):(zec n)[k * 5+j]? =([.int .i64 0,.bool false,.slice none 0 0,.bool false,.slice none 0 0]:List Value)[j]? :=by
 have hlt:k * 5+j < n * 5:=by omega
 have hm:(k * 5+j) % 5=j:=by omega
 unfold zec madeCells
 simp [hlt,Value.cells,hm]
 match j,hj with
 | 0,_=>rfl
 | 1,_=>rfl
 | 2,_=>rfl
 | 3,_=>rfl
 | 4,_=>rfl
theorem VecO.zeros (w:World) (n:Nat) (hn:n≤maxLen):VecO w.heap.size (w.alloc (.cells (zec n) 87)) (.slice (some ⟨w.heap.size,0,none⟩) n n) (List.replicate n ⟨0,zeroF⟩):=by
 have hsz:(zec n).size=n * 5:=size_madeCells _ _
 refine ⟨(zec n).toList,⟨by simp [hsz],.inr ⟨w.heap.size,n,zec n,by simp,Nat.le_refl _,heap_alloc_new w _,by simp,hn,hsz,?_⟩⟩,by simp [hsz],fun k f hf=>?_⟩
 ·rw [List.take_of_length_le (by simp [hsz])]
 ·rw [List.getElem?_replicate] at hf
  split at hf
  ·rename_i hk
   injection hf with hf
   subst hf
   refine ⟨_,_,_,_,?_,?_,?_,?_,?_,FracM.zero _⟩
   ·have:=zec_at (j:=0) hk (by decide);simpa using this
   ·have:=zec_at (j:=1) hk (by decide);simpa using this
   ·have:=zec_at (j:=2) hk (by decide);simpa using this
   ·have:=zec_at (j:=3) hk (by decide);simpa using this
   ·have:=zec_at (j:=4) hk (by decide);simpa using this
  ·cases hf
theorem make_entry (n:Nat) (hn:n≤1099511627776) (w:World):
 (Instr.makeSlice 72 (.int .i64 (n:Int)) (.int .i64 (n:Int))).run Tryz.prog w= .ok (.slice (some ⟨w.heap.size,0,none⟩) n n) (w.alloc (.cells (zec n) 87)):=by
 obtain ⟨i0,hi,hz0,hz1,hz2⟩:=info_parts info_entry
 have hb:(i0.bytes:Int) * (n:Int)≤281474976710656:=by rw [hz2];omega
 have hr:=run_make (P:=Tryz.prog) w 72 87 i0 _ Tryz.underlying72 hi hz0 .i64 .i64 n n (by omega) (by omega) hb (by omega)
 simp only [Int.toNat_natCast,hz1] at hr
 exact hr
namespace Pl
def cpyV (es:List En):List En:=es.map fun e=>⟨e.idx,canF e.f.q⟩
def cpyN (es:List En):Nat→List En
 | 0=>List.replicate es.length ⟨0,zeroF⟩
 | k+1=>match es[k]? with
  | some e=>(cpyN es k).set k ⟨e.idx,canF e.f.q⟩
  | none=>cpyN es k
theorem cpyN_succ {es:List En} {k:Nat} {e:En} (h:es[k]? =some e):cpyN es (k+1)=(cpyN es k).set k ⟨e.idx,canF e.f.q⟩:=by
 conv=>lhs;unfold cpyN
 simp only [h]
theorem cpyN_length (es:List En):∀k,(cpyN es k).length=es.length
 | 0=>by simp [cpyN]
 | k+1=>by
  have ih:=cpyN_length es k
  unfold cpyN
  split
  ·rw [List.length_set];exact ih
  ·exact ih
theorem cpyN_get (es:List En) (i:Nat):∀k,i < k→(cpyN es k)[i]? =(cpyV es)[i]?
 | 0,h=>absurd h (Nat.not_lt_zero _)
 | k+1,h=>by
  have hl:=cpyN_length es k
  unfold cpyN
  split
  ·rename_i e he
   have hk:=(List.getElem?_eq_some_iff.1 he).1
   rw [List.getElem?_set]
   by_cases c:k=i
   ·subst c;rw [if_pos rfl,if_pos (by omega),cpyV,List.getElem?_map,he];rfl
   ·rw [if_neg c];exact cpyN_get es i k (by omega)
  ·rename_i he
   have hk:=List.getElem?_eq_none_iff.1 he
   by_cases c:k=i
   ·subst c;rw [List.getElem?_eq_none (by omega),List.getElem?_eq_none (by simp [cpyV];omega)]
   ·exact cpyN_get es i k (by omega)
theorem cpyN_all (es:List En):cpyN es es.length=cpyV es:=by
 refine List.ext_getElem? fun i=>?_
 by_cases c:i < es.length
 ·exact cpyN_get es i _ c
 ·rw [List.getElem?_eq_none (by rw [cpyN_length];omega),List.getElem?_eq_none (by simp [cpyV];omega)]
end Pl
theorem below_set5 {n g:Nat} {w w':World} (h:Below n w w') (hg:n≤g) (i j k l m:Nat) (t x y z u:Value):Below n w (((((w'.setCell ⟨g,i,none⟩ t).setCell ⟨g,j,none⟩ x).setCell ⟨g,k,none⟩ y).setCell ⟨g,l,none⟩ z).setCell ⟨g,m,none⟩ u):=((((h.setCell hg _).setCell hg _).setCell hg _).setCell hg _).setCell hg _
theorem copyVector_own (vb:Value) (es:List En) (K:Nat) (w:World) (h2:VecM w vb es) (ha:∀(k:Nat) (e:En),es[k]? =some e→e.f.Rs K) (hK:K≤34359738368) (hlen:es.length≤1099511627776):
 Calls Tryz.prog 115 #[vb] w fun o w'=>∃v',o= .returned v'∧VecO w.heap.size w' v' (cpyV es)∧Below w.heap.size w w':=by
 obtain ⟨A,c,rfl,hc3,hc4⟩:=h2.shape
 generalize hn:es.length=l at *
 have HN:=Lib.hid hn
 have HA:=Lib.hid ha
 have H2:=Lib.hid h2
 have HAL:Hid (cpyN es l=cpyV es):=Lib.hid (by rw [← hn];exact cpyN_all es)
 have hmk:=make_entry l hlen
 have hO0:=VecO.zeros w l (by unfold maxLen;omega)
 have hb0:=below_new w (.cells (zec l) 87)
 have HO:Hid (VecO w.heap.size (w.alloc (.cells (zec l) 87)) (.slice (some ⟨w.heap.size,0,none⟩) l l) (cpyN es 0)):=Lib.hid (by unfold cpyN;rw [hn];exact hO0)
 clear hn ha h2 hO0
 go_enter Tryz.func115,Tryz.ntmps115
 go_wp2
 generalize w.alloc (.cells (zec l) 87)=W at *
 go_loopw [11] (fun i wr=>∃k:Nat,k≤l∧i= .int .i64 k∧VecO w.heap.size wr (.slice (some ⟨w.heap.size,0,none⟩) l l) (cpyN es k)∧Below w.heap.size w wr) (fun i _=>l - (intOf i).toNat)
 case atStart=>exact ⟨0,by omega,rfl,HO.out,hb0⟩
 case round=>
  clear hb0
  obtain ⟨k,hk,rfl,hO,hbe⟩:=hrel
  rcases Nat.lt_or_ge k l with hkl | hkl
  ·obtain ⟨e,he⟩:=get_someE (es:=es) (i:=k) (by rw [HN.out];exact hkl)
   obtain ⟨b,off,A1,n1,k1,A2,n2,k2,rfl,hlt,⟨x0,x1,x2,x3,x4⟩,hmf⟩:=H2.out.elem hbe he
   have hkL:k < (cpyN es k).length:=by rw [cpyN_length,HN.out];exact hkl
   obtain ⟨fj,hfj⟩:=get_someE (es:=cpyN es k) (i:=k) hkL
   have HSU:=Lib.hid (cpyN_succ he)
   have hsf0:=HA.out k e he
   obtain ⟨ei,f⟩:=e
   simp only at *
   have hsf:=hsf0.sm hK
   have HV:Hid (f.q+zeroF.q=f.q):=Lib.hid (by rw [zeroF_q];grind)
   obtain ⟨W1,hW1,hV,hbn⟩:=box_en wr (.int .i64 ei) (.bool f.num.neg) (.slice A1 n1 k1) (.bool f.den.neg) (.slice A2 n2 k2)
   have hO1:=hO.below hbn
   have hm1:=hmf.below hbn
   have hbe1:=below_then hbe hbn hbe.size
   obtain ⟨v0,v1,v2,v3,v4⟩:=hV.five
   have hn1:(k:Int) < l:=by omega
   clear he hO hbe hmf hsf0
   go_upto_region 5 with (fail)
   clear hW1
   have D0:=stab v0
   have D1:=stab v1
   have D2:=stab v2
   have D3:=stab v3
   have D4:=stab v4
   have hS0:=below_drew' W1
   clear v0 v1 v2 v3 v4 x0 x1 x2 x3 x4
   refine region_seq 10 [0,1,2,3,4,5,6,7,8,9,10] (by kernel_rfl) (by kernel_rfl) ?_
   repeat ((first | (refine seq_takeP (v:=?_) rfl rfl rfl ?_ ?_;rotate_left;(· (intro _ hSw;go_simp;(try go_bits);(try with_reducible rfl)))) | (refine seq_take (v:=?_) rfl rfl rfl ?_ ?_;rotate_left;(· (intro _ hSw;go_simp;(try go_bits);(try with_reducible rfl)))) | refine seq_skip rfl rfl rfl ?_);(try simp only [Act.put,pu1,pu2,pu3,pu4,pu5,pu6]))
   refine seq_step rfl rfl (fun KR hKR=>?_)
   go_simp
   with_reducible refine (addF_any _ _ f zeroF _ (hm1.below hS0) (FracM.zero _) hsf zeroF_sm).mono ?_
   rw [HV.out]
   rintro _ w7 ⟨v7,rfl,e7,hb7⟩
   have hS7:=below_then hS0 hb7 hS0.size
   obtain ⟨E,l9,k9,E',l9',k9',rfl,_,_⟩:=id e7
   have hO7:=hO1.below hS7
   obtain ⟨_,_,_,_,⟨c0,c1,c2,c3,c4⟩,⟨f0,f1,f2,f3,f4⟩,_⟩:=hO7.at_ hfj
   refine hKR.out _ _ (Or.inr hS7) ?_
   clear hKR KR
   (try simp only [Act.put,pu1,pu2,pu3,pu4,pu5,pu6])
   repeat ((first | (refine seq_takeP (v:=?_) rfl rfl rfl ?_ ?_;rotate_left;(· (intro _ hSw;go_simp;(try go_bits);(try with_reducible rfl)))) | (refine seq_take (v:=?_) rfl rfl rfl ?_ ?_;rotate_left;(· (intro _ hSw;go_simp;(try go_bits);(try with_reducible rfl)))) | refine seq_skip rfl rfl rfl ?_);(try simp only [Act.put,pu1,pu2,pu3,pu4,pu5,pu6]))
   refine seq_step rfl rfl (fun KR hKR=>?_)
   go_simp
   refine hKR.out _ _ (Or.inl (by decide)) ?_
   clear hKR KR
   (try simp only [Act.put,pu1,pu2,pu3,pu4,pu5,pu6])
   refine seq_done ?_
   clear D0 D1 D2 D3 D4
   obtain ⟨hO8,hkb8⟩:=hO7.set_ (e:=⟨ei,canF f.q⟩) hkL e7
   have hbe9:=below_set5 (below_then hbe1 hS7 hbe1.size) (Nat.le_refl _) (k * 5) (k * 5+1) (k * 5+2) (k * 5+3) (k * 5+4)
   rw [← HSU.out] at hO8
   go_wp2
   go_roundw
   case rel=>exact ⟨k+1,by omega,by go_num,hO8,hbe9 _ _ _ _ _⟩
   case measure=>simp [intOf];omega
  ·obtain rfl:k=l:=by omega
   rw [HAL.out] at hO
   go_wp2
   go_ret
   exact ⟨_,rfl,hO,hbe⟩
end Go.Proofs.YtncmobkhenfhpaaGreat
