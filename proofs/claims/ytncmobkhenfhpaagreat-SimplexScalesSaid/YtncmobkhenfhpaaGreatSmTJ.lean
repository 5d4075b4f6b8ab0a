/-
  Walks: pairinglaw25: known.
-/
import Derived.Test.YtncmobkhenfhpaaGreatB48
set_option linter.unusedVariables false
set_option linter.unusedSimpArgs false
namespace Go.Proofs.YtncmobkhenfhpaaGreat
open Go.RowKit

def bagC (md : Region.Mode) (ops : Array Oper) (n : Nat) (K : Array Bool → Bool) (L : Array Bool) (rem : List Nat) : Bool :=
  match rem with
  | [] => K L
  | _ :: _ => rem.all (fun k => L.getD k true == false) && (!(Region.ready md ops L).isEmpty && (Region.ready md ops L).all fun i => rem.contains i && decide (i < n))
def bagSub (md : Region.Mode) (ops : Array Oper) (n : Nat) (K : Array Bool → Bool) : List Nat → Array Bool → List Nat → Bool
  | [], L, rem => bagC md ops n K L rem
  | i :: is, L, rem => bagSub md ops n K is L rem && bagSub md ops n K is (L.setIfInBounds i true) (rem.erase i)
section
variable {md : Region.Mode} {ops : Array Oper} {n : Nat} {K : Array Bool → Bool}
def setL (L : Array Bool) (D : List Nat) : Array Bool := D.foldl (fun L i => L.setIfInBounds i true) L
def eraL (r D : List Nat) : List Nat := D.foldl (fun r i => r.erase i) r
theorem set_comm (L : Array Bool) (i j : Nat) : (L.setIfInBounds i true).setIfInBounds j true = (L.setIfInBounds j true).setIfInBounds i true := by
  have hk : ∀ k, k < L.size → k < ((L.setIfInBounds i true)).size := fun k h => by simpa using h
  refine Array.ext (by simp) fun k h1 h2 => ?_
  have h0 : k < L.size := by simpa using h1
  have h3 : k < (L.setIfInBounds i true).size := by simpa using h1
  have h4 : k < (L.setIfInBounds j true).size := by simpa using h1
  rw [Array.getElem_setIfInBounds h3, Array.getElem_setIfInBounds h4, Array.getElem_setIfInBounds h0, Array.getElem_setIfInBounds h0]
  by_cases a : i = k <;> by_cases b : j = k <;> simp [a, b]
theorem setL_perm {D E : List Nat} (h : D.Perm E) (L : Array Bool) : setL L D = setL L E := h.foldl_eq' (fun x _ y _ z => set_comm z x y) L
theorem eraL_perm {D E : List Nat} (h : D.Perm E) (r : List Nat) : eraL r D = eraL r E := h.foldl_eq' (fun x _ y _ z => List.erase_comm x y) r
theorem bagSub_all : ∀ (l : List Nat) (L : Array Bool) (r : List Nat), bagSub md ops n K l L r = true → ∀ D : List Nat, D.Nodup → (∀ x ∈ D, x ∈ l) → bagC md ops n K (setL L D) (eraL r D) = true
  | [], L, r, h, D, _, hD => by
    cases D with
    | nil => exact h
    | cons x D => exact absurd (hD x (by simp)) (by simp)
  | i :: is, L, r, h, D, hn, hD => by
    unfold bagSub at h
    rw [Bool.and_eq_true] at h
    by_cases hi : i ∈ D
    · have hp := List.perm_cons_erase hi
      rw [setL_perm hp, eraL_perm hp]
      refine bagSub_all is _ _ h.2 (D.erase i) (hn.erase i) fun x hx => ?_
      have := (hn.mem_erase_iff).1 hx
      rcases List.mem_cons.1 (hD x this.2) with e | e
      · exact absurd e this.1
      · exact e
    · refine bagSub_all is _ _ h.1 D hn fun x hx => ?_
      rcases List.mem_cons.1 (hD x hx) with e | e
      · subst e; exact absurd hx hi
      · exact e
theorem mem_eraL {l : List Nat} : ∀ (D : List Nat) (r : List Nat), r.Nodup → ∀ x, x ∈ eraL r D ↔ x ∈ r ∧ x ∉ D
  | [], r, _, x => by simp [eraL]
  | i :: D, r, hr, x => by
    show x ∈ eraL (r.erase i) D ↔ _
    rw [mem_eraL (l := l) D _ (hr.erase i) x, hr.mem_erase_iff]
    simp only [List.mem_cons, not_or]
    constructor
    · rintro ⟨⟨a, b⟩, c⟩; exact ⟨b, a, c⟩
    · rintro ⟨b, a, c⟩; exact ⟨⟨a, b⟩, c⟩
theorem bagSub_go {l : List Nat} {L : Array Bool} (hl : l.Nodup) (h : bagSub md ops n K l L l = true) : ∀ (m : Nat) (D : List Nat), D.Nodup → (∀ x ∈ D, x ∈ l) → (eraL l D).length = m → bagGo md ops n K m (eraL l D) (setL L D) = true
  | 0, D, hn, hD, hm => by
    have c := bagSub_all l L l h D hn hD
    rw [List.length_eq_zero_iff.1 hm] at c
    exact c
  | m + 1, D, hn, hD, hm => by
    have c := bagSub_all l L l h D hn hD
    cases e : eraL l D with
    | nil => rw [e] at hm; cases hm
    | cons y ys =>
      rw [e] at c
      unfold bagC at c
      unfold bagGo
      simp only [Bool.and_eq_true, List.all_eq_true] at c ⊢
      refine ⟨c.1, c.2.1, fun i hi => ⟨c.2.2 i hi, ?_⟩⟩
      have hiy : i ∈ y :: ys := by have := (c.2.2 i hi).1; simpa using this
      have hq := (mem_eraL (l := l) D l hl i).1 (by rw [e]; exact hiy)
      have e1 : (y :: ys).erase i = eraL l (D ++ [i]) := by unfold eraL; rw [List.foldl_append]; show _ = (eraL l D).erase i; rw [e]
      have e2 : (setL L D).setIfInBounds i true = setL L (D ++ [i]) := by unfold setL; rw [List.foldl_append]; rfl
      rw [e1, e2]
      refine bagSub_go hl h m (D ++ [i]) ?_ ?_ ?_
      · rw [List.nodup_append]
        exact ⟨hn, by simp, fun a ha b hb => by simp at hb; subst hb; intro q; subst q; exact hq.2 ha⟩
      · intro x hx
        rcases List.mem_append.1 hx with q | q
        · exact hD x q
        · simp at q; subst q; exact hq.1
      · rw [← e1, List.length_erase_of_mem hiy, ← e, hm]; rfl
theorem bagSub_ok {l : List Nat} {L : Array Bool} (hl : l.Nodup) (h : bagSub md ops n K l L l = true) : bagGo md ops n K l.length l L = true := bagSub_go hl h l.length [] List.nodup_nil (fun x hx => by cases hx) rfl
end
/-- the check of a plan, with bags by subsets -/
def planGoS (md : Region.Mode) (ops : Array Oper) (n : Nat) : Bool → Plan → Array Bool → Bool
  | _, .done, listed => Region.ready md ops listed == []
  | d, .go i p, listed => seqAt md ops n listed i && (!(d && (floatI ops n i && !pureI ops i)) && planGoS md ops n (d || decide (n ≤ i)) p (listed.setIfInBounds i true))
  | d, .fork i p j q, listed => (!floatI ops n i && !floatI ops n j) && (Region.ready md ops listed == [i, j] && (planGoS md ops n (d || decide (n ≤ i)) p (listed.setIfInBounds i true) && planGoS md ops n (d || decide (n ≤ j)) q (listed.setIfInBounds j true)))
  | d, .bag l p, listed => !d && (decide l.Nodup && bagSub md ops n (fun b => planGoS md ops n false p b) l listed l)
theorem bagGo_mono {md : Region.Mode} {ops : Array Oper} {n : Nat} {K K' : Array Bool → Bool} (h : ∀ b, K b = true → K' b = true) : ∀ (m : Nat) (l : List Nat) (L : Array Bool), bagGo md ops n K m l L = true → bagGo md ops n K' m l L = true
  | 0, _, L, g => h L g
  | m + 1, l, L, g => by
    unfold bagGo at g ⊢
    simp only [Bool.and_eq_true, List.all_eq_true] at g ⊢
    exact ⟨g.1, g.2.1, fun i hi => ⟨(g.2.2 i hi).1, bagGo_mono h m _ _ (g.2.2 i hi).2⟩⟩
theorem planGoS_ok {md : Region.Mode} {ops : Array Oper} {n : Nat} : ∀ (p : Plan) (d : Bool) (L : Array Bool), planGoS md ops n d p L = true → planGo md ops n d p L = true
  | .done, _, _, h => h
  | .go i p, d, L, h => by
    unfold planGoS at h
    unfold planGo
    simp only [Bool.and_eq_true] at h ⊢
    exact ⟨h.1, h.2.1, planGoS_ok p _ _ h.2.2⟩
  | .fork i p j q, d, L, h => by
    unfold planGoS at h
    unfold planGo
    simp only [Bool.and_eq_true] at h ⊢
    exact ⟨h.1, h.2.1, planGoS_ok p _ _ h.2.2.1, planGoS_ok q _ _ h.2.2.2⟩
  | .bag l p, d, L, h => by
    unfold planGoS at h
    unfold planGo
    simp only [Bool.and_eq_true, decide_eq_true_eq] at h ⊢
    exact ⟨h.1, bagGo_mono (fun b => planGoS_ok p false b) _ _ _ (bagSub_ok h.2.1 h.2.2)⟩
def planOKS (md : Region.Mode) (ops : Array Oper) (n : Nat) (p : Plan) : Bool := Region.noSelect ops && (planGoS md ops n false p (Array.replicate ops.size false) && (p.even && decide (p.len = ops.size)))
theorem planOKS_ok {md : Region.Mode} {ops : Array Oper} {n : Nat} {p : Plan} (h : planOKS md ops n p = true) : planOK md ops n p = true := by
  unfold planOKS at h
  unfold planOK
  rw [Bool.and_eq_true, Bool.and_eq_true] at h ⊢
  exact ⟨h.1, planGoS_ok p _ _ h.2.1, h.2.2⟩
end Go.Proofs.YtncmobkhenfhpaaGreat
namespace Go.Proofs.YtncmobkhenfhpaaGreat
open Go.RowKit Pl
attribute [local go_sem ↓] Go.wp_at_zero Go.wp_at_succ

namespace Pl
/-- the numbers of the chapter's first example -/
theorem kn_facts {a b c d q : RF} {p : LPd} (ha : a = canF ((-1 : Int) : Rat)) (hb : b = canF ((0 : Int) : Rat)) (hc : c = canF ((1 : Int) : Rat)) (hd : d = canF ((4 : Int) : Rat)) (hq : q = canF ((-4 : Int) : Rat)) (hp : p = ⟨[a, b], [[⟨0, c⟩], [⟨0, c⟩]], [d]⟩) :
    p.Ft 32 ∧ lpErr p = 0 ∧ settleQ p (startS p) = ⟨1, [-1], 0⟩ ∧ (smErr p ⟨1, [-1], 0⟩ = 0 ∧ smRun p ⟨1, [-1], 0⟩ 1 = ⟨2, [0], 1⟩) ∧ smErr p ⟨2, [0], 1⟩ = 0 ∧ smSt p ⟨2, [0], 1⟩ = (1, -1) ∧ smVa p ⟨2, [0], 1⟩ = q := by
  have e1 : ((-1 : Int) : Rat) = -1 := by decide
  have e2 : ((0 : Int) : Rat) = 0 := by decide
  have e3 : ((1 : Int) : Rat) = 1 := by decide
  have e4 : ((4 : Int) : Rat) = 4 := by decide
  have e5 : ((-4 : Int) : Rat) = -4 := by decide
  have e : p = knP := by rw [hp, ha, hb, hc, hd, e1, e2, e3, e4]; unfold knP; rfl
  rw [e, hq, e5]
  exact ⟨ke_ft, ke_err, ke_s, ⟨ke_e1, ke_ru⟩, ke_e2, ke_sm, ke_va⟩
end Pl
/-- what is known of what the operations of known's second region give -/
def KeH (U : World) (a b c d : RF) (p : LPd) (k : Nat) (w : World) (v : Value) : Prop := match k with
  | 0 => FracM w v a
  | 1 => FracM w v b
  | 2 => FrsM w v [a, b]
  | 5 => VecM w v [⟨0, c⟩]
  | 8 => VecM w v [⟨0, c⟩]
  | 9 => VecsM w v [[⟨0, c⟩], [⟨0, c⟩]]
  | 10 => FracM w v d
  | 11 => FrsM w v [d]
  | 12 => LpM w v p
  | 13 => ∃ g, v = .pointer (some ⟨g, 0, none⟩) ∧ U.heap.size ≤ g ∧ Bk w g 26 [.slice none 0 0, .slice none 0 0, .slice none 0 0]
  | _ => True
theorem KeH.later {U : World} {a b c d : RF} {p : LPd} (k : Nat) (w w' : World) (v : Value) (h : KeH U a b c d p k w v) (hb : Below w.heap.size w w') : KeH U a b c d p k w' v := by
  unfold KeH at *
  split at h
  all_goals first | exact FracM.below h hb | exact FrsM.below h hb | exact VecM.below h hb | exact VecsM.below h hb | exact LpM.below h hb | (obtain ⟨g, e, h1, h2⟩ := h; exact ⟨g, e, h1, h2.later hb⟩) | trivial
/-- the memory behind known's second region -/
def KeP (W : World) (s2 : Value) (w : World) : Prop := ∃ g A n c A' n' c' A'' n'' c'', s2 = .pointer (some ⟨g, 0, none⟩) ∧ W.heap.size ≤ g ∧ Bk w g 26 [.slice A n c, .slice A' n' c', .slice A'' n'' c''] ∧ LpM w (.agg #[.slice A n c, .slice A' n' c', .slice A'' n'' c'']) knP ∧ Below W.heap.size W w
attribute [local irreducible] wpAlone
set_option maxRecDepth 100000 in
set_option maxHeartbeats 4000000 in
theorem known_own (w : World) :
    Calls Tryz.prog 23 #[] w fun o w' => o = .returned (.bool true) ∧ Below w.heap.size w w' := by
  obtain ⟨a, ha⟩ : ∃ a : RF, a = canF ((-1 : Int) : Rat) := ⟨_, rfl⟩
  obtain ⟨b0, hb0⟩ : ∃ b : RF, b = canF ((0 : Int) : Rat) := ⟨_, rfl⟩
  obtain ⟨c1, hc1⟩ : ∃ c : RF, c = canF ((1 : Int) : Rat) := ⟨_, rfl⟩
  obtain ⟨d4, hd4⟩ : ∃ d : RF, d = canF ((4 : Int) : Rat) := ⟨_, rfl⟩
  obtain ⟨q, hq⟩ : ∃ q : RF, q = canF ((-4 : Int) : Rat) := ⟨_, rfl⟩
  obtain ⟨p, hp⟩ : ∃ p : LPd, p = ⟨[a, b0], [[⟨0, c1⟩], [⟨0, c1⟩]], [d4]⟩ := ⟨_, rfl⟩
  obtain ⟨z1, z2, z3, z4, z5⟩ := kn_facts ha hb0 hc1 hd4 hq hp
  have HA := Lib.hid ha
  have HB := Lib.hid hb0
  have HC := Lib.hid hc1
  have HD := Lib.hid hd4
  have HQ := Lib.hid hq
  have HP := Lib.hid hp
  have HFT := Lib.hid z1
  have HZE := Lib.hid z2
  have HSE := Lib.hid z3
  have HE1A := Lib.hid z4
  have HE2A := Lib.hid z5
  clear ha hb0 hc1 hd4 hq hp z1 z2 z3 z4 z5
  go_enter Tryz.func23, Tryz.ntmps23
  go_wp2_with fail
  refine (rint_own 1 _ (by decide) (by decide)).mono ?_
  rintro _ w1 ⟨v1, rfl, e1, hb1⟩
  have e1' : FracM w1 v1 c1 := by rw [HC.out]; exact e1.1
  obtain ⟨A, n, c, A', n', c', rfl, _, _⟩ := id e1'
  obtain ⟨W, hW, hX, hbn⟩ := boxF1 w1 (.bool c1.num.neg) (.slice A n c) (.bool c1.den.neg) (.slice A' n' c')
  have hbW := below_then hb1 hbn hb1.size
  have HO := Lib.hid (e1'.below hbn)
  obtain ⟨x0, x1, x2, x3⟩ := hX.four
  clear e1 e1' hb1 hbn
  generalize hq0 : c1.num.neg = q0 at *
  generalize hq1 : c1.den.neg = q1 at *
  clear hq0 hq1
  go_wp2_with fail
  clear hW
  have C0 := stab x0
  have C1 := stab x1
  have C2 := stab x2
  have C3 := stab x3
  clear x0 x1 x2 x3
  refine region_plan 14 (.go 3 (.go 4 (.go 6 (.go 7 (.bag [0, 1, 2, 5, 8, 9, 10, 11, 12, 13] (.go 14 .done)))))) (by kernel_rfl) (planOKS_ok (by kernel_rfl)) ?_
  repeat (first | (refine plan_takeP (v := ?_) rfl rfl rfl ?_ ?_; rotate_left; (· (intro _ hSw; go_simp; (try go_bits); (try with_reducible rfl))); (try simp only [Act.put, List.setIfInBounds_toArray, List.set_cons_zero, List.set_cons_succ, List.getElem_toArray, List.getElem_cons_zero, List.getElem_cons_succ])) | (refine plan_take (v := ?_) rfl rfl rfl ?_ ?_; rotate_left; (· (intro _ hSw; go_simp; (try go_bits); (try with_reducible rfl))); (try simp only [Act.put, List.setIfInBounds_toArray, List.set_cons_zero, List.set_cons_succ, List.getElem_toArray, List.getElem_cons_zero, List.getElem_cons_succ])) | (refine plan_skip rfl rfl rfl ?_; (try simp only [Act.put, List.setIfInBounds_toArray, List.set_cons_zero, List.set_cons_succ, List.getElem_toArray, List.getElem_cons_zero, List.getElem_cons_succ])) | (refine plan_skipc rfl rfl rfl (by assumption) ?_; (try simp only [Act.put, List.setIfInBounds_toArray, List.set_cons_zero, List.set_cons_succ, List.getElem_toArray, List.getElem_cons_zero, List.getElem_cons_succ])))
  refine plan_grow (l := [(0, 13), (1, 14), (2, 15), (5, 18), (8, 21), (9, 22), (10, 23), (11, 24), (12, 25), (13, 2)]) W (KeH W a b0 c1 d4 p) (fun _ => undef) rfl ?_ (by decide) (below_drew' W) KeH.later (List.forall_mem_cons.2 ⟨?_, List.forall_mem_cons.2 ⟨?_, List.forall_mem_cons.2 ⟨?_, List.forall_mem_cons.2 ⟨?_, List.forall_mem_cons.2 ⟨?_, List.forall_mem_cons.2 ⟨?_, List.forall_mem_cons.2 ⟨?_, List.forall_mem_cons.2 ⟨?_, List.forall_mem_cons.2 ⟨?_, List.forall_mem_cons.2 ⟨?_, List.forall_mem_nil _⟩⟩⟩⟩⟩⟩⟩⟩⟩⟩) ?_
  · simp only [putA, List.foldl_cons, List.foldl_nil, Act.put, List.setIfInBounds_toArray, List.set_cons_zero, List.set_cons_succ]
  · refine Grow.mk rfl fun s wx b hbb hd hb KR hKR => ?_
    simp only [putA, List.foldl_cons, List.foldl_nil, Act.put, List.setIfInBounds_toArray, List.set_cons_zero, List.set_cons_succ] at hbb
    subst hbb
    go_simp
    refine (rint_own (-1) _ (by decide) (by decide)).mono ?_
    rintro _ w' ⟨v', rfl, e', hb'⟩
    exact hKR.out _ _ (Or.inr (below_then hb hb' hb.size)) ⟨hb', v', by simp [putA, updV, Act.put], by rw [HA.out]; exact e'.1⟩
  · refine Grow.mk rfl fun s wx b hbb hd hb KR hKR => ?_
    simp only [putA, List.foldl_cons, List.foldl_nil, Act.put, List.setIfInBounds_toArray, List.set_cons_zero, List.set_cons_succ] at hbb
    subst hbb
    go_simp
    refine (rint_own (0) _ (by decide) (by decide)).mono ?_
    rintro _ w' ⟨v', rfl, e', hb'⟩
    exact hKR.out _ _ (Or.inr (below_then hb hb' hb.size)) ⟨hb', v', by simp [putA, updV, Act.put], by rw [HB.out]; exact e'.1⟩
  · refine Grow.mk rfl fun s wx b hbb hd hb KR hKR => ?_
    have d0 : FracM wx (s 0) a := hd 0 (by decide) (by kernel_rfl)
    have d1 : FracM wx (s 1) b0 := hd 1 (by decide) (by kernel_rfl)
    clear hd
    obtain ⟨B, k, d, B', k', d', h0, _, _⟩ := id d0
    obtain ⟨E, j, e, E', j', e', h1, _, _⟩ := id d1
    rw [h0] at d0
    rw [h1] at d1
    simp only [putA, List.foldl_cons, List.foldl_nil, Act.put, List.setIfInBounds_toArray, List.set_cons_zero, List.set_cons_succ] at hbb
    subst hbb
    rw [h0, h1]
    go_simp
    exact hKR.out _ _ (Or.inr (below_then hb (below_new wx _) hb.size)) ⟨below_new _ _, _, by simp [putA, updV, Act.put, h0, h1], frs_lit2 d0 d1⟩
  · refine Grow.mk rfl fun s wx b hbb hd hb KR hKR => ?_
    clear hd
    simp only [putA, List.foldl_cons, List.foldl_nil, Act.put, List.setIfInBounds_toArray, List.set_cons_zero, List.set_cons_succ] at hbb
    subst hbb
    go_simp
    exact hKR.out _ _ (Or.inr (below_then hb (below_new wx _) hb.size)) ⟨below_new _ _, _, by simp [putA, updV, Act.put], vec_lit1 (HO.out.below hb)⟩
  · refine Grow.mk rfl fun s wx b hbb hd hb KR hKR => ?_
    clear hd
    simp only [putA, List.foldl_cons, List.foldl_nil, Act.put, List.setIfInBounds_toArray, List.set_cons_zero, List.set_cons_succ] at hbb
    subst hbb
    go_simp
    exact hKR.out _ _ (Or.inr (below_then hb (below_new wx _) hb.size)) ⟨below_new _ _, _, by simp [putA, updV, Act.put], vec_lit1 (HO.out.below hb)⟩
  · refine Grow.mk rfl fun s wx b hbb hd hb KR hKR => ?_
    have d0 : VecM wx (s 5) [⟨0, c1⟩] := hd 5 (by decide) (by kernel_rfl)
    have d1 : VecM wx (s 8) [⟨0, c1⟩] := hd 8 (by decide) (by kernel_rfl)
    clear hd
    obtain ⟨B, k, h0, _, _⟩ := d0.shape
    obtain ⟨E, j, h1, _, _⟩ := d1.shape
    rw [h0] at d0
    rw [h1] at d1
    simp only [putA, List.foldl_cons, List.foldl_nil, Act.put, List.setIfInBounds_toArray, List.set_cons_zero, List.set_cons_succ] at hbb
    subst hbb
    rw [h0, h1]
    go_simp
    exact hKR.out _ _ (Or.inr (below_then hb (below_new wx _) hb.size)) ⟨below_new _ _, _, by simp [putA, updV, Act.put, h0, h1], vecs_lit2 d0 d1⟩
  · refine Grow.mk rfl fun s wx b hbb hd hb KR hKR => ?_
    simp only [putA, List.foldl_cons, List.foldl_nil, Act.put, List.setIfInBounds_toArray, List.set_cons_zero, List.set_cons_succ] at hbb
    subst hbb
    go_simp
    refine (rint_own (4) _ (by decide) (by decide)).mono ?_
    rintro _ w' ⟨v', rfl, e', hb'⟩
    exact hKR.out _ _ (Or.inr (below_then hb hb' hb.size)) ⟨hb', v', by simp [putA, updV, Act.put], by rw [HD.out]; exact e'.1⟩
  · refine Grow.mk rfl fun s wx b hbb hd hb KR hKR => ?_
    have d0 : FracM wx (s 10) d4 := hd 10 (by decide) (by kernel_rfl)
    clear hd
    obtain ⟨B, k, d, B', k', d', h0, _, _⟩ := id d0
    rw [h0] at d0
    simp only [putA, List.foldl_cons, List.foldl_nil, Act.put, List.setIfInBounds_toArray, List.set_cons_zero, List.set_cons_succ] at hbb
    subst hbb
    rw [h0]
    go_simp
    exact hKR.out _ _ (Or.inr (below_then hb (below_new wx _) hb.size)) ⟨below_new _ _, _, by simp [putA, updV, Act.put, h0], frs_lit1 d0⟩
  · refine Grow.mk rfl fun s wx b hbb hd hb KR hKR => ?_
    have d2 : FrsM wx (s 2) [a, b0] := hd 2 (by decide) (by kernel_rfl)
    have d9 : VecsM wx (s 9) [[⟨0, c1⟩], [⟨0, c1⟩]] := hd 9 (by decide) (by kernel_rfl)
    have d11 : FrsM wx (s 11) [d4] := hd 11 (by decide) (by kernel_rfl)
    clear hd
    obtain ⟨A1, c1, e1, _, _⟩ := d2.shape
    obtain ⟨A2, c2, e2, _, _⟩ := d9.shape
    obtain ⟨A3, c3, e3, _, _⟩ := d11.shape
    simp only [putA, List.foldl_cons, List.foldl_nil, Act.put, List.setIfInBounds_toArray, List.set_cons_zero, List.set_cons_succ] at hbb
    subst hbb
    go_simp
    exact hKR.out _ _ (Or.inr hb) ⟨Below.refl _ _, .agg #[s 2, s 9, s 11], by simp [putA, updV, Act.put, e1, e2, e3], _, _, _, _, _, _, _, _, _, by rw [e1, e2, e3], by rw [HP.out]; exact e1 ▸ d2, by rw [HP.out]; exact e2 ▸ d9, by rw [HP.out]; exact e3 ▸ d11⟩
  · refine Grow.mk rfl fun s wx b hbb hd hb KR hKR => ?_
    clear hd
    simp only [putA, List.foldl_cons, List.foldl_nil, Act.put, List.setIfInBounds_toArray, List.set_cons_zero, List.set_cons_succ] at hbb
    subst hbb
    go_simp
    exact hKR.out _ _ (Or.inr (below_then hb (below_new wx _) hb.size)) ⟨below_new _ _, _, by simp [putA, updV, Act.put], _, rfl, hb.size, Bk.new wx 26 [.slice none 0 0, .slice none 0 0, .slice none 0 0]⟩
  · intro s wx hG hb
    have g12 : LpM wx (s 12) p := hG 12 (by decide)
    have g13 : ∃ g, s 13 = .pointer (some ⟨g, 0, none⟩) ∧ W.heap.size ≤ g ∧ Bk wx g 26 [.slice none 0 0, .slice none 0 0, .slice none 0 0] := hG 13 (by decide)
    obtain ⟨g, h13, hge, hB⟩ := g13
    clear hG C0 C1 C2 C3
    simp only [putA, List.foldl_cons, List.foldl_nil, Act.put, List.setIfInBounds_toArray, List.set_cons_zero, List.set_cons_succ]
    obtain ⟨A1, n1, c1, A2, n2, c2, A3, n3, c3, e12, g2, g9, g11⟩ := g12
    rw [h13, e12]
    clear h13 e12
    generalize s 0 = u0 at *
    generalize s 1 = u1 at *
    generalize s 5 = u5 at *
    generalize s 8 = u8 at *
    generalize s 10 = u10 at *
    generalize s 2 = v2 at *
    generalize s 9 = v9 at *
    generalize s 11 = v11 at *
    clear s
    obtain ⟨t0, t1, t2⟩ := hB.three
    obtain ⟨f0, f1, f2⟩ := hB.threeF
    repeat (first | (refine plan_takeP (v := ?_) rfl rfl rfl ?_ ?_; rotate_left; (· (intro _ hSw; go_simp; (try go_bits); (try with_reducible rfl))); (try simp only [Act.put, List.setIfInBounds_toArray, List.set_cons_zero, List.set_cons_succ, List.getElem_toArray, List.getElem_cons_zero, List.getElem_cons_succ])) | (refine plan_take (v := ?_) rfl rfl rfl ?_ ?_; rotate_left; (· (intro _ hSw; go_simp; (try go_bits); (try with_reducible rfl))); (try simp only [Act.put, List.setIfInBounds_toArray, List.set_cons_zero, List.set_cons_succ, List.getElem_toArray, List.getElem_cons_zero, List.getElem_cons_succ])) | (refine plan_skip rfl rfl rfl ?_; (try simp only [Act.put, List.setIfInBounds_toArray, List.set_cons_zero, List.set_cons_succ, List.getElem_toArray, List.getElem_cons_zero, List.getElem_cons_succ])) | (refine plan_skipc rfl rfl rfl (by assumption) ?_; (try simp only [Act.put, List.setIfInBounds_toArray, List.set_cons_zero, List.set_cons_succ, List.getElem_toArray, List.getElem_cons_zero, List.getElem_cons_succ])))
    refine plan_step rfl rfl (fun KR hKR => ?_)
    go_simp
    refine hKR.out _ _ (Or.inl (by decide)) ?_
    clear hKR KR t0 t1 t2 f0 f1 f2
    refine plan_done ?_
    have k0 := KeepBut.setCell hB 0 (.slice A1 n1 c1)
    have b0 := hB.set_ 0 (.slice A1 n1 c1)
    have k1 := KeepBut.setCell b0 1 (.slice A2 n2 c2)
    have b1 := b0.set_ 1 (.slice A2 n2 c2)
    have k2 := KeepBut.setCell b1 2 (.slice A3 n3 c3)
    have b2 := b1.set_ 2 (.slice A3 n3 c3)
    have kk := (k0.trans k1).trans k2
    have hbz := ((hb.setCell (p := ⟨g, 0, none⟩) hge (.slice A1 n1 c1)).setCell (p := ⟨g, 1, none⟩) hge (.slice A2 n2 c2)).setCell (p := ⟨g, 2, none⟩) hge (.slice A3 n3 c3)
    have hLP : LpM (((wx.setCell ⟨g, 0, none⟩ (.slice A1 n1 c1)).setCell ⟨g, 1, none⟩ (.slice A2 n2 c2)).setCell ⟨g, 2, none⟩ (.slice A3 n3 c3)) (.agg #[.slice A1 n1 c1, .slice A2 n2 c2, .slice A3 n3 c3]) p :=
      ⟨_, _, _, _, _, _, _, _, _, rfl, g2.but kk (by decide) (by decide), g9.but kk (by decide) (by decide) (by decide), g11.but kk (by decide) (by decide)⟩
    have hB3 : Bk (((wx.setCell ⟨g, 0, none⟩ (.slice A1 n1 c1)).setCell ⟨g, 1, none⟩ (.slice A2 n2 c2)).setCell ⟨g, 2, none⟩ (.slice A3 n3 c3)) g 26 [.slice A1 n1 c1, .slice A2 n2 c2, .slice A3 n3 c3] := b2
    have hbW3 := below_then hbW hbz hbW.size
    clear k0 k1 k2 kk b0 b1 b2 hbz g2 g9 g11 hge hB hb hX HO hbW
    generalize ((wx.setCell ⟨g, 0, none⟩ (.slice A1 n1 c1)).setCell ⟨g, 1, none⟩ (.slice A2 n2 c2)).setCell ⟨g, 2, none⟩ (.slice A3 n3 c3) = W3 at *

    obtain ⟨x0, x1, x2⟩ := hB3.three
    have HLP := Lib.hid hLP
    clear hLP
    go_wp2_with fail
    refine (sstart_own _ p 32 _ HLP.out HFT.out.1.ok (fun _ => HFT.out)).mono ?_
    rw [smSta_yes HZE.out, HZE.out]
    obtain ⟨s1, hs1⟩ : ∃ s1, s1 = settleQ p (startS p) := ⟨_, rfl⟩
    have HS1 := Lib.hid (hs1.trans HSE.out)
    rw [← hs1]
    clear hs1
    rintro _ w4 ⟨v4, rfl, ⟨A4, n4, c4, rfl, hI4⟩, hb4⟩
    obtain ⟨W4, hW4, hS4, hn4⟩ := box_st w4 (.int .i64 s1.phase) (.slice A4 n4 c4) (.int .i64 s1.pivots)
    have hc4 := below_then hb4 hn4 hb4.size
    have hbW4 := below_then hbW3 hc4 hbW3.size
    have hB4 := hB3.later hc4
    have HLP4 := Lib.hid (HLP.out.below hc4)
    have HM4 : Hid (StM W4 (.agg #[.int .i64 s1.phase, .slice A4 n4 c4, .int .i64 s1.pivots]) s1) := Lib.hid ⟨A4, n4, c4, rfl, (hI4.below hn4).ints⟩
    clear x0 x1 x2 hB3 hb4 hn4 hc4 hI4 HLP hbW3
    obtain ⟨x0, x1, x2⟩ := hB4.three
    obtain ⟨y0, y1, y2⟩ := hS4.three
    go_wp2_with fail
    clear hW4
    refine (srun_own _ _ p s1 32 _ HLP4.out HM4.out HFT.out.1.ok (fun _ => HFT.out) (by rw [HS1.out]; decide) (by rw [HS1.out]; intro z hz; simp at hz; omega) 1 (by decide) (fun _ => by rw [HS1.out]; decide)).mono ?_
    have HE1 : Hid (smErr p s1 = 0 ∧ smRun p s1 1 = ⟨2, [0], 1⟩) := Lib.hid (by rw [HS1.out]; exact HE1A.out)
    obtain ⟨t, ht⟩ : ∃ t : LSt, t = ⟨2, [0], 1⟩ := ⟨_, rfl⟩
    have HT := Lib.hid ht
    rw [HE1.out.1, HE1.out.2, ← ht]
    clear ht
    rintro _ w5 ⟨v5, rfl, ⟨A5, n5, c5, rfl, hI5⟩, hb5⟩
    obtain rfl : n5 = 1 := by have := hI5.ints.len.1; rw [HT.out] at this; exact this
    obtain ⟨W5, hW5, hT5, hn5⟩ := box_st w5 (.int .i64 t.phase) (.slice A5 1 c5) (.int .i64 t.pivots)
    have hc5 := below_then hb5 hn5 hb5.size
    have hbW5 := below_then hbW4 hc5 hbW4.size
    have hB5 := hB4.later hc5
    have hS5 := hS4.later hc5
    have HLP5 := Lib.hid (HLP4.out.below hc5)
    have hI5' := (hI5.below hn5).ints
    have HM5 : Hid (StM W5 (.agg #[.int .i64 t.phase, .slice A5 1 c5, .int .i64 t.pivots]) t) := Lib.hid ⟨A5, 1, c5, rfl, hI5'⟩
    clear x0 x1 x2 y0 y1 y2 hB4 hS4 hb5 hn5 hc5 hI5 HLP4 hbW4 HM4 HE1
    obtain ⟨x0, x1, x2⟩ := hB5.three
    obtain ⟨y0, y1, y2⟩ := hT5.three
    go_wp2_with fail
    clear hW5
    have HR : Hid (t.basis.length ≤ 1099511627776 ∧ ∀ z ∈ t.basis, -9223372036854775808 ≤ z ∧ z ≤ 9223372036854775807) := Lib.hid (by rw [HT.out]; exact ⟨by decide, by intro z hz; simp at hz; omega⟩)
    refine (sstatus_own _ _ p t 32 _ HLP5.out HM5.out HFT.out.1.ok (fun _ => HFT.out) HR.out.1 HR.out.2).mono ?_
    have HE2 : Hid (smErr p t = 0 ∧ smSt p t = (1, -1) ∧ smVa p t = q) := Lib.hid (by rw [HT.out]; exact HE2A.out)
    rw [HE2.out.1, HE2.out.2.1]
    rintro _ w6 ⟨rfl, hb6⟩
    have hbW6 := below_then hbW5 hb6 hbW5.size
    have hB6 := hB5.later hb6
    have hS6 := hS5.later hb6
    have hT6 := hT5.later hb6
    have HLP6 := Lib.hid (HLP5.out.below hb6)
    have HM6 := Lib.hid (HM5.out.below hb6)
    have hI6 := hI5'.below hb6
    clear x0 x1 x2 y0 y1 y2 hB5 hS5 hT5 hb6 HLP5 hbW5 HM5 hI5'
    obtain ⟨x0, x1, x2⟩ := hB6.three
    obtain ⟨y0, y1, y2⟩ := hT6.three
    go_wp2_with fail
    refine (svalue_own _ _ p t 32 _ HLP6.out HM6.out HFT.out.1.ok (fun _ => HFT.out) HR.out.1 HR.out.2).mono ?_
    rw [HE2.out.1, HE2.out.2.2]
    rintro _ w7 ⟨v7, rfl, e7, hb7⟩
    obtain ⟨A7, n7, c7, A7', n7', c7', rfl, _, _⟩ := id e7
    obtain ⟨W7, hW7, hV7, hn7⟩ := boxF1 w7 (.bool q.num.neg) (.slice A7 n7 c7) (.bool q.den.neg) (.slice A7' n7' c7')
    have hc7 := below_then hb7 hn7 hb7.size
    have hbW7 := below_then hbW6 hc7 hbW6.size
    have hS7 := hS6.later hc7
    have hT7 := hT6.later hc7
    have hI7 := hI6.below hc7
    have HV7 := Lib.hid (e7.below hn7)
    clear x0 x1 x2 y0 y1 y2 hB6 hS6 hT6 hb7 hn7 hc7 hI6 HLP6 hbW6 HM6 e7 HE2 HR
    go_wp2_with fail
    clear hW7
    have x0 : W7.cell? ⟨w4.heap.size, 0, none⟩ = some (.int .i64 1) := by have h := hS7.three.1; rw [HS1.out] at h; exact h
    have y0 : W7.cell? ⟨w5.heap.size, 0, none⟩ = some (.int .i64 2) := by have h := hT7.three.1; rw [HT.out] at h; exact h
    have y1 : W7.cell? ⟨w5.heap.size, 1, none⟩ = some (.slice A5 1 c5) := hT7.three.2.1
    have y2 : W7.cell? ⟨w5.heap.size, 2, none⟩ = some (.int .i64 1) := by have h := hT7.three.2.2; rw [HT.out] at h; exact h
    obtain ⟨bb, ob, z, rfl, z0, hz, _, _⟩ := hI7.at_ (i := 0) (by decide)
    obtain rfl : z = 0 := by rw [HT.out] at hz; injection hz with e; exact e.symm
    have z0 : W7.cell? ⟨bb, ob, none⟩ = some (.int .i64 0) := z0
    obtain ⟨v0, v1, v2, v3⟩ := hV7.four
    have C0 := stab x0
    have C1 := stab y0
    have C2 := stab y1
    have C3 := stab y2
    have C4 := stab z0
    have C5 := stab v0
    have C6 := stab v1
    have C7 := stab v2
    have C8 := stab v3
    have hS0 := below_drew' W7
    clear x0 y0 y1 y2 z0 v0 v1 v2 v3 hS7 hT7 hI7 hz
    refine region_seq 56 [0, 1, 2, 3, 4, 5, 6, 7, 8, 9, 10, 11, 12, 13, 14, 15, 16, 17, 18, 19, 20, 21, 22, 23, 24, 25, 26, 27, 28, 29, 30, 31, 32, 33, 34, 35, 36, 37, 38, 39, 40, 41, 42, 43, 44, 45, 46, 47, 48, 49, 50, 51, 52, 53, 54, 55] (by kernel_rfl) (by kernel_rfl) ?_
    repeat (first | (refine seq_takeP (v := ?_) rfl rfl rfl ?_ ?_; rotate_left; (· (intro _ hSw; go_simp; (try go_bits); (try with_reducible rfl))); (try simp only [Act.put, List.setIfInBounds_toArray, List.set_cons_zero, List.set_cons_succ, List.getElem_toArray, List.getElem_cons_zero, List.getElem_cons_succ])) | (refine seq_take (v := ?_) rfl rfl rfl ?_ ?_; rotate_left; (· (intro _ hSw; go_simp; (try go_bits); (try with_reducible rfl))); (try simp only [Act.put, List.setIfInBounds_toArray, List.set_cons_zero, List.set_cons_succ, List.getElem_toArray, List.getElem_cons_zero, List.getElem_cons_succ])) | (refine seq_skip rfl rfl rfl ?_; (try simp only [Act.put, List.setIfInBounds_toArray, List.set_cons_zero, List.set_cons_succ, List.getElem_toArray, List.getElem_cons_zero, List.getElem_cons_succ])) | (refine seq_skipc rfl rfl rfl (by assumption) ?_; (try simp only [Act.put, List.setIfInBounds_toArray, List.set_cons_zero, List.set_cons_succ, List.getElem_toArray, List.getElem_cons_zero, List.getElem_cons_succ])))
    refine seq_step rfl rfl (fun KR hKR => ?_)
    go_simp
    with_reducible refine (rint_own (-4) _ (by decide) (by decide)).mono ?_
    rintro _ w8 ⟨v8, rfl, e8, hb8⟩
    have hS8 := below_then hS0 hb8 hS0.size
    have e8' : FracM w8 v8 q := by rw [HQ.out]; exact e8.1
    refine hKR.out _ _ (Or.inr hS8) ?_
    clear hKR KR
    (try simp only [Act.put, List.setIfInBounds_toArray, List.set_cons_zero, List.set_cons_succ, List.getElem_toArray, List.getElem_cons_zero, List.getElem_cons_succ])
    repeat (first | (refine seq_takeP (v := ?_) rfl rfl rfl ?_ ?_; rotate_left; (· (intro _ hSw; go_simp; (try go_bits); (try with_reducible rfl))); (try simp only [Act.put, List.setIfInBounds_toArray, List.set_cons_zero, List.set_cons_succ, List.getElem_toArray, List.getElem_cons_zero, List.getElem_cons_succ])) | (refine seq_take (v := ?_) rfl rfl rfl ?_ ?_; rotate_left; (· (intro _ hSw; go_simp; (try go_bits); (try with_reducible rfl))); (try simp only [Act.put, List.setIfInBounds_toArray, List.set_cons_zero, List.set_cons_succ, List.getElem_toArray, List.getElem_cons_zero, List.getElem_cons_succ])) | (refine seq_skip rfl rfl rfl ?_; (try simp only [Act.put, List.setIfInBounds_toArray, List.set_cons_zero, List.set_cons_succ, List.getElem_toArray, List.getElem_cons_zero, List.getElem_cons_succ])) | (refine seq_skipc rfl rfl rfl (by assumption) ?_; (try simp only [Act.put, List.setIfInBounds_toArray, List.set_cons_zero, List.set_cons_succ, List.getElem_toArray, List.getElem_cons_zero, List.getElem_cons_succ])))
    refine seq_step rfl rfl (fun KR hKR => ?_)
    go_simp
    with_reducible refine (sameF_any _ _ q q _ ((HV7.out.below hS0).below hb8) e8').mono ?_
    rw [sameF_refl]
    rintro _ w9 ⟨rfl, hb9⟩
    have hS9 := below_then hS8 hb9 hS8.size
    refine hKR.out _ _ (Or.inr hS9) ?_
    clear hKR KR
    (try simp only [Act.put, List.setIfInBounds_toArray, List.set_cons_zero, List.set_cons_succ, List.getElem_toArray, List.getElem_cons_zero, List.getElem_cons_succ])
    repeat (first | (refine seq_takeP (v := ?_) rfl rfl rfl ?_ ?_; rotate_left; (· (intro _ hSw; go_simp; (try go_bits); (try with_reducible rfl))); (try simp only [Act.put, List.setIfInBounds_toArray, List.set_cons_zero, List.set_cons_succ, List.getElem_toArray, List.getElem_cons_zero, List.getElem_cons_succ])) | (refine seq_take (v := ?_) rfl rfl rfl ?_ ?_; rotate_left; (· (intro _ hSw; go_simp; (try go_bits); (try with_reducible rfl))); (try simp only [Act.put, List.setIfInBounds_toArray, List.set_cons_zero, List.set_cons_succ, List.getElem_toArray, List.getElem_cons_zero, List.getElem_cons_succ])) | (refine seq_skip rfl rfl rfl ?_; (try simp only [Act.put, List.setIfInBounds_toArray, List.set_cons_zero, List.set_cons_succ, List.getElem_toArray, List.getElem_cons_zero, List.getElem_cons_succ])) | (refine seq_skipc rfl rfl rfl (by assumption) ?_; (try simp only [Act.put, List.setIfInBounds_toArray, List.set_cons_zero, List.set_cons_succ, List.getElem_toArray, List.getElem_cons_zero, List.getElem_cons_succ])))
    refine seq_done ?_
    have bfin := below_then hbW7 hS9 hbW7.size
    clear C0 C1 C2 C3 C4 C5 C6 C7 C8
    go_wp2
    go_ret
    exact ⟨rfl, bfin⟩
end Go.Proofs.YtncmobkhenfhpaaGreat
