/- Contracts and plain facts that the claim is built on, joined out of smaller texts. -/
import Derived.Test.YtpanffbgihhjnaaGreatV1
set_option linter.unusedVariables false
set_option linter.unusedSimpArgs false
/- Walks: package integer: DivMod. -/
namespace Go.Proofs.YtpanffbgihhjnaaGreat
open Go.RowKit Pl
attribute [local go_sem ↓] Go.wp_at_zero Go.wp_at_succ

theorem boxes4 (w : World) (x y x' y' : Value) : ∃ W, (((w.alloc (.cells #[x, y] 45)).alloc (.cells #[x', y'] 45)).alloc (.cells #[.bool false, .slice none 0 0] 45)).alloc (.cells #[.bool false, .slice none 0 0] 45) = W ∧
    Bk W w.heap.size 45 [x, y] ∧ Bk W (w.heap.size + 1) 45 [x', y'] ∧ Bk W (w.heap.size + 1 + 1) 45 [.bool false, .slice none 0 0] ∧ Bk W (w.heap.size + 1 + 1 + 1) 45 [.bool false, .slice none 0 0] ∧ Below w.heap.size w W := by
  obtain ⟨W, hW, h1, h2, h3, h4⟩ := box2 w x y x' y'
  refine ⟨_, by rw [hW], h1.alloc _, h2.alloc _, h3.alloc _, ?_, h4.alloc h4.size _⟩
  have := Bk.new W 45 [.bool false, .slice none 0 0]
  rwa [← hW, size_alloc, size_alloc, size_alloc, hW] at this

namespace Pl
theorem fdiv_unique {a b q r : Int} (h : a = b * q + r) (hr : (0 ≤ r ∧ r < b) ∨ (b < r ∧ r ≤ 0)) : a.fdiv b = q ∧ a.fmod b = r := by
  have key : a.fdiv b = q := by
    rcases hr with ⟨r0, r1⟩ | ⟨r0, r1⟩
    · rw [Int.fdiv_eq_ediv_of_nonneg _ (by omega)]
      exact ((Int.ediv_emod_unique (by omega)).2 ⟨by omega, r0, r1⟩).1
    · rw [← Int.neg_fdiv_neg, Int.fdiv_eq_ediv_of_nonneg _ (by omega)]
      refine ((Int.ediv_emod_unique (a := -a) (b := -b) (r := -r) (q := q) (by omega)).2 ⟨?_, by omega, by omega⟩).1
      rw [h, Int.neg_mul]; omega
  refine ⟨key, ?_⟩
  rw [Int.fmod_def, key]; omega
theorem sm_div_same {a b : Bool} {X Y : Nat} (hY : 0 < Y) (h : X % Y = 0 ∨ a = b) : (sm a X).fdiv (sm b Y) = sm (a != b) (X / Y) ∧ (sm a X).fmod (sm b Y) = sm b (X % Y) := by
  have e := Nat.div_add_mod X Y
  have l := Nat.mod_lt X hY
  generalize X / Y = q at *
  generalize X % Y = r at *
  have e' : (Y : Int) * q + r = X := by rw [← e]; simp
  apply fdiv_unique
  · rw [sm, sm, sm, sm, ← e']
    rcases h with h | h
    · subst h; cases a <;> cases b <;> simp [Int.neg_mul, Int.mul_neg]
    · subst h; cases a <;> simp [Int.neg_mul]; omega
  · cases b <;> simp [sm] <;> omega
theorem sm_div_diff {a b : Bool} {X Y : Nat} (hY : 0 < Y) (h : X % Y ≠ 0) (hab : a ≠ b) : (sm a X).fdiv (sm b Y) = sm (a != b) (X / Y + 1) ∧ (sm a X).fmod (sm b Y) = sm b (Y - X % Y) := by
  have e := Nat.div_add_mod X Y
  have l := Nat.mod_lt X hY
  generalize X / Y = q at *
  generalize X % Y = r at *
  have e' : (Y : Int) * q + r = X := by rw [← e]; simp
  have e2 : ((Y - r : Nat) : Int) = Y - r := by omega
  apply fdiv_unique
  · rw [sm, sm, sm, sm, ← e', e2]
    cases a <;> cases b <;> simp [Int.neg_mul, Int.mul_neg, Int.mul_add] at hab ⊢ <;> omega
  · cases b <;> simp [sm] <;> omega
end Pl

theorem Bk.far2 {w : World} {g g' : Nat} {t : TypeId} {cs : List Value} (h : Bk w g t cs) (hne : g ≠ g') (c d : Value) : Bk ((w.setCell ⟨g', 0, none⟩ c).setCell ⟨g', 1, none⟩ d) g t cs :=
  (h.far (p := ⟨g', 0, none⟩) hne c).far (p := ⟨g', 1, none⟩) hne d
theorem fin_div {w w4 : World} {g g' : Nat} {x y x' y' b s b' s' : Value} {q r : RI} (hR : Bk w4 g 45 [x, y]) (hR' : Bk w4 g' 45 [x', y']) (hne : g ≠ g') (dq : IntM w4 (.agg #[b, s]) q) (dr : IntM w4 (.agg #[b', s']) r) {m : Nat} (hbe : Below m w w4) (hg : m ≤ g) (hg' : m ≤ g') :
    Bk ((((w4.setCell ⟨g, 0, none⟩ b).setCell ⟨g, 1, none⟩ s).setCell ⟨g', 0, none⟩ b').setCell ⟨g', 1, none⟩ s') g 45 [b, s] ∧ Bk ((((w4.setCell ⟨g, 0, none⟩ b).setCell ⟨g, 1, none⟩ s).setCell ⟨g', 0, none⟩ b').setCell ⟨g', 1, none⟩ s') g' 45 [b', s'] ∧
    IntM ((((w4.setCell ⟨g, 0, none⟩ b).setCell ⟨g, 1, none⟩ s).setCell ⟨g', 0, none⟩ b').setCell ⟨g', 1, none⟩ s') (.agg #[b, s]) q ∧ IntM ((((w4.setCell ⟨g, 0, none⟩ b).setCell ⟨g, 1, none⟩ s).setCell ⟨g', 0, none⟩ b').setCell ⟨g', 1, none⟩ s') (.agg #[b', s']) r ∧ Below m w ((((w4.setCell ⟨g, 0, none⟩ b).setCell ⟨g, 1, none⟩ s).setCell ⟨g', 0, none⟩ b').setCell ⟨g', 1, none⟩ s') := by
  have h1 := hR.set2 b s
  have h2 : Bk ((w4.setCell ⟨g, 0, none⟩ b).setCell ⟨g, 1, none⟩ s) g' 45 [x', y'] := (hR'.far (p := ⟨g, 0, none⟩) (Ne.symm hne) b).far (p := ⟨g, 1, none⟩) (Ne.symm hne) s
  have k1 := hR.keep2 (by decide) b s
  have k2 := h2.keep2 (by decide) b' s'
  exact ⟨(h1.far (p := ⟨g', 0, none⟩) hne b').far (p := ⟨g', 1, none⟩) hne s', h2.set2 b' s', dq.keep (k1.trans k2), dr.keep (k1.trans k2), below_set2 (below_set2 hbe hg _ _) hg' _ _⟩

def DivPost (a b : RI) (w : World) (e : Ending) (w' : World) : Prop :=
  ∃ q r, e = .returned (.tuple #[q, r, .int .i64 (if b.z = 0 then 11 else 0)]) ∧ IntM w' q (canI (if b.z = 0 then 0 else a.z.fdiv b.z)) ∧ IntM w' r (canI (if b.z = 0 then 0 else a.z.fmod b.z)) ∧ Below w.heap.size w w'

set_option maxRecDepth 100000 in
set_option maxHeartbeats 2000000 in
theorem divModI_any (v1 v2 : Value) (a b : RI) (w : World) (h1 : IntM w v1 a) (h2 : IntM w v2 b) (hs : (digs (val a.ds)).length ≤ 549755813888) (hs2 : (digs (val b.ds)).length ≤ 549755813888) :
    Calls Tryz.prog 115 #[v1, v2] w (DivPost a b w) := by
  obtain ⟨A, n, c, rfl, hd⟩ := h1.shape
  obtain ⟨A', n', c', rfl, hd'⟩ := h2.shape
  obtain ⟨neg, ds⟩ := a
  obtain ⟨neg', ds'⟩ := b
  simp only at hd hd' hs hs2 ⊢
  obtain ⟨W, hW, hX, hX', hR, hR', hbe⟩ := boxes4 w (.bool neg) (.slice A n c) (.bool neg') (.slice A' n' c')
  have hdX := hd.below hbe
  have hdX' := hd'.below hbe
  have tok : True := trivial
  go_enter Tryz.func115, Tryz.ntmps115
  go_wp2_with fail
  clear hW
  go_region_held3 (fun w' => (w'.cell? ⟨w.heap.size, 0, none⟩ = some (.bool neg) ∧ w'.cell? ⟨w.heap.size, 1, none⟩ = some (.slice A n c)) ∧ (w'.cell? ⟨w.heap.size + 1, 0, none⟩ = some (.bool neg') ∧ w'.cell? ⟨w.heap.size + 1, 1, none⟩ = some (.slice A' n' c')))
    (exact ⟨hX.pair, hX'.pair⟩)
    (first
      | (go_at_call 100; have _t := tok; refine (trim_any _ ds _ (hdX.keep (Keep.drew _))).mono ?_; clear tok _t; rintro e w1 ⟨v1, rfl, e1, rfl⟩)
      | (go_at_call 100; refine (trim_any _ ds' _ (hdX'.keep (Keep.drew _))).mono ?_; rintro e w1 ⟨v2, rfl, e2, rfl⟩))
  have hX2 := hX.drew
  have hX2' := hX'.drew
  have hR2 := hR.drew
  have hR2' := hR'.drew
  have hbe2 := hbe.drew
  clear hX hX' hbe hdX hdX' hR hR'
  generalize W.drew = W2 at *
  obtain ⟨A1, n1, c1, rfl⟩ := e1.shape
  obtain ⟨kl, kl', knc, kc⟩ := e1.len
  obtain ⟨A2, n2, c2, rfl⟩ := e2.shape
  obtain ⟨jl, jl', jnc, jc⟩ := e2.len
  rcases Nat.eq_zero_or_pos n2 with h0 | h0
  · have hy : val ds' = 0 := len_zero (by omega)
    have hz : RI.z ⟨neg', ds'⟩ = 0 := by rw [RI.z_eq, hy, sm_zero]
    have HZ := Lib.hid hz
    clear hy hz kl kl' jl jl'
    subst h0
    obtain ⟨c0, c1, f0, f1⟩ := hR2.two
    obtain ⟨c0', c1', f0', f1'⟩ := hR2'.two
    go_wp2
    obtain ⟨a1, a2, a3, a4, a5⟩ := fin_div hR2 hR2' (by omega) (IntM.zero W2) (IntM.zero W2) hbe2 (by omega) (by omega)
    refine ret_cct Tryz.results115 Tryz.underlying45 Tryz.underlying45 (by kernel_rfl) (by kernel_rfl) rfl rfl a1 a2 rfl ?_
    exact ⟨_, _, by rw [if_pos HZ.out]; rfl, by rw [if_pos HZ.out]; exact a3, by rw [if_pos HZ.out]; exact a4, a5⟩
  · have hy : val ds' ≠ 0 := len_pos (by omega)
    have hz : RI.z ⟨neg', ds'⟩ ≠ 0 := by rw [RI.z_eq]; cases neg' <;> simp [sm] <;> omega
    have HZ := Lib.hid hz
    have HY := Lib.hid (Nat.pos_of_ne_zero hy)
    clear hy hz kl kl' jl jl'
    go_wp2_with fail
    refine (divMag_any _ _ (val ds) (val ds') _ e1 e2 HY.out hs hs2).mono ?_
    rintro e w3 ⟨qv, rv, rfl, dq, dr, hb3⟩
    have hX3 := hX2.later hb3
    have hX3' := hX2'.later hb3
    have hR3 := hR2.later hb3
    have hR3' := hR2'.later hb3
    have hbe3 := below_then hbe2 hb3 hbe2.size
    have e2' := e2.below hb3
    clear hX2 hX2' hR2 hR2' hbe2 hb3
    obtain ⟨x0, x1, _, _⟩ := hX3.two
    obtain ⟨x0', x1', _, _⟩ := hX3'.two
    obtain ⟨A3, n3, c3, rfl⟩ := dr.shape
    obtain ⟨kl, kl', knc, kc⟩ := dr.len
    have hq : (digs (val ds / val ds')).length ≤ 549755813888 := Nat.le_trans (digs_len_mono (Nat.div_le_self _ _)) hs
    have HQ := Lib.hid hq
    have hn1 : w.heap.size ≠ w.heap.size + 1 + 1 := by omega
    have hn2 : w.heap.size + 1 ≠ w.heap.size + 1 + 1 := by omega
    have hn3 : w.heap.size ≠ w.heap.size + 1 + 1 + 1 := by omega
    have hn4 : w.heap.size + 1 ≠ w.heap.size + 1 + 1 + 1 := by omega
    clear hq
    rcases Nat.eq_zero_or_pos n3 with h3 | h3
    · have Z := Lib.hid (len_zero (n := val ds % val ds') (by omega))
      subst h3
      clear kl kl' h0
      cases neg
      · cases neg'
        · go_wp2_with fail
          have tok : True := trivial
          go_region_held3 (fun w' => w'.cell? ⟨w.heap.size, 0, none⟩ = some (.bool false) ∧ w'.cell? ⟨w.heap.size + 1, 0, none⟩ = some (.bool false))
            (first | with_reducible exact ⟨hX3.pair.1, hX3'.pair.1⟩ | with_reducible exact ⟨hX3.drew.pair.1, hX3'.drew.pair.1⟩ | with_reducible exact ⟨(hX3.drew.later hb6).pair.1, (hX3'.drew.later hb6).pair.1⟩ | with_reducible exact ⟨((hX3.drew.later hb6).later hb7).pair.1, ((hX3'.drew.later hb6).later hb7).pair.1⟩ | with_reducible exact ⟨(((hX3.drew.later hb6).later hb7).two_far hn1 _ _).1, (((hX3'.drew.later hb6).later hb7).two_far hn2 _ _).1⟩ | with_reducible exact ⟨((((hX3.drew.later hb6).later hb7).far2 hn1 _ _).two_far hn3 _ _).1, ((((hX3'.drew.later hb6).later hb7).far2 hn2 _ _).two_far hn4 _ _).1⟩)
            (first
              | (go_at_call 102; have _t := tok; refine (wrap_dig _ _ _ _ (dq.keep (Keep.drew _))).mono ?_; clear tok _t; rintro e w6 ⟨v6, rfl, e6, hb6⟩; obtain ⟨A6, n6, k6, rfl, _⟩ := e6.shape)
              | (go_at_call 102; refine (wrap_dig _ _ _ _ ((dr.keep (Keep.drew _)).below hb6)).mono ?_; rintro e w7 ⟨v7, rfl, e7, hb7⟩; obtain ⟨A7, n7, k7, rfl, _⟩ := e7.shape; obtain ⟨c0, c1, f0, f1⟩ := ((hR3.drew.later hb6).later hb7).two; obtain ⟨c0', c1', f0', f1'⟩ := ((hR3'.drew.later hb6).later hb7).two))
          go_wp2
          obtain ⟨a1, a2, a3, a4, a5⟩ := fin_div ((hR3.drew.later hb6).later hb7) ((hR3'.drew.later hb6).later hb7) (by omega) (e6.below hb7) e7 (below_then (below_then hbe3.drew hb6 hbe3.size) hb7 (Nat.le_trans hbe3.size hb6.size)) (by omega) (by omega)
          refine ret_cct Tryz.results115 Tryz.underlying45 Tryz.underlying45 (by kernel_rfl) (by kernel_rfl) rfl rfl a1 a2 rfl ?_
          exact ⟨_, _, by rw [if_neg HZ.out]; rfl, by rw [if_neg HZ.out, RI.z_eq, RI.z_eq, (sm_div_same HY.out (.inl Z.out)).1]; exact a3, by rw [if_neg HZ.out, RI.z_eq, RI.z_eq, (sm_div_same HY.out (.inl Z.out)).2]; exact a4, a5⟩
        · go_wp2_with fail
          have tok : True := trivial
          go_region_held3 (fun w' => w'.cell? ⟨w.heap.size, 0, none⟩ = some (.bool false) ∧ w'.cell? ⟨w.heap.size + 1, 0, none⟩ = some (.bool true))
            (first | with_reducible exact ⟨hX3.pair.1, hX3'.pair.1⟩ | with_reducible exact ⟨hX3.drew.pair.1, hX3'.drew.pair.1⟩ | with_reducible exact ⟨(hX3.drew.later hb6).pair.1, (hX3'.drew.later hb6).pair.1⟩ | with_reducible exact ⟨((hX3.drew.later hb6).later hb7).pair.1, ((hX3'.drew.later hb6).later hb7).pair.1⟩ | with_reducible exact ⟨(((hX3.drew.later hb6).later hb7).two_far hn1 _ _).1, (((hX3'.drew.later hb6).later hb7).two_far hn2 _ _).1⟩ | with_reducible exact ⟨((((hX3.drew.later hb6).later hb7).far2 hn1 _ _).two_far hn3 _ _).1, ((((hX3'.drew.later hb6).later hb7).far2 hn2 _ _).two_far hn4 _ _).1⟩)
            (first
              | (go_at_call 102; have _t := tok; refine (wrap_dig _ _ _ _ (dq.keep (Keep.drew _))).mono ?_; clear tok _t; rintro e w6 ⟨v6, rfl, e6, hb6⟩; obtain ⟨A6, n6, k6, rfl, _⟩ := e6.shape)
              | (go_at_call 102; refine (wrap_dig _ _ _ _ ((dr.keep (Keep.drew _)).below hb6)).mono ?_; rintro e w7 ⟨v7, rfl, e7, hb7⟩; obtain ⟨A7, n7, k7, rfl, _⟩ := e7.shape; obtain ⟨c0, c1, f0, f1⟩ := ((hR3.drew.later hb6).later hb7).two; obtain ⟨c0', c1', f0', f1'⟩ := ((hR3'.drew.later hb6).later hb7).two))
          go_wp2
          obtain ⟨a1, a2, a3, a4, a5⟩ := fin_div ((hR3.drew.later hb6).later hb7) ((hR3'.drew.later hb6).later hb7) (by omega) (e6.below hb7) e7 (below_then (below_then hbe3.drew hb6 hbe3.size) hb7 (Nat.le_trans hbe3.size hb6.size)) (by omega) (by omega)
          refine ret_cct Tryz.results115 Tryz.underlying45 Tryz.underlying45 (by kernel_rfl) (by kernel_rfl) rfl rfl a1 a2 rfl ?_
          exact ⟨_, _, by rw [if_neg HZ.out]; rfl, by rw [if_neg HZ.out, RI.z_eq, RI.z_eq, (sm_div_same HY.out (.inl Z.out)).1]; exact a3, by rw [if_neg HZ.out, RI.z_eq, RI.z_eq, (sm_div_same HY.out (.inl Z.out)).2]; exact a4, a5⟩
      · cases neg'
        · go_wp2_with fail
          have tok : True := trivial
          go_region_held3 (fun w' => w'.cell? ⟨w.heap.size, 0, none⟩ = some (.bool true) ∧ w'.cell? ⟨w.heap.size + 1, 0, none⟩ = some (.bool false))
            (first | with_reducible exact ⟨hX3.pair.1, hX3'.pair.1⟩ | with_reducible exact ⟨hX3.drew.pair.1, hX3'.drew.pair.1⟩ | with_reducible exact ⟨(hX3.drew.later hb6).pair.1, (hX3'.drew.later hb6).pair.1⟩ | with_reducible exact ⟨((hX3.drew.later hb6).later hb7).pair.1, ((hX3'.drew.later hb6).later hb7).pair.1⟩ | with_reducible exact ⟨(((hX3.drew.later hb6).later hb7).two_far hn1 _ _).1, (((hX3'.drew.later hb6).later hb7).two_far hn2 _ _).1⟩ | with_reducible exact ⟨((((hX3.drew.later hb6).later hb7).far2 hn1 _ _).two_far hn3 _ _).1, ((((hX3'.drew.later hb6).later hb7).far2 hn2 _ _).two_far hn4 _ _).1⟩)
            (first
              | (go_at_call 102; have _t := tok; refine (wrap_dig _ _ _ _ (dq.keep (Keep.drew _))).mono ?_; clear tok _t; rintro e w6 ⟨v6, rfl, e6, hb6⟩; obtain ⟨A6, n6, k6, rfl, _⟩ := e6.shape)
              | (go_at_call 102; refine (wrap_dig _ _ _ _ ((dr.keep (Keep.drew _)).below hb6)).mono ?_; rintro e w7 ⟨v7, rfl, e7, hb7⟩; obtain ⟨A7, n7, k7, rfl, _⟩ := e7.shape; obtain ⟨c0, c1, f0, f1⟩ := ((hR3.drew.later hb6).later hb7).two; obtain ⟨c0', c1', f0', f1'⟩ := ((hR3'.drew.later hb6).later hb7).two))
          go_wp2
          obtain ⟨a1, a2, a3, a4, a5⟩ := fin_div ((hR3.drew.later hb6).later hb7) ((hR3'.drew.later hb6).later hb7) (by omega) (e6.below hb7) e7 (below_then (below_then hbe3.drew hb6 hbe3.size) hb7 (Nat.le_trans hbe3.size hb6.size)) (by omega) (by omega)
          refine ret_cct Tryz.results115 Tryz.underlying45 Tryz.underlying45 (by kernel_rfl) (by kernel_rfl) rfl rfl a1 a2 rfl ?_
          exact ⟨_, _, by rw [if_neg HZ.out]; rfl, by rw [if_neg HZ.out, RI.z_eq, RI.z_eq, (sm_div_same HY.out (.inl Z.out)).1]; exact a3, by rw [if_neg HZ.out, RI.z_eq, RI.z_eq, (sm_div_same HY.out (.inl Z.out)).2]; exact a4, a5⟩
        · go_wp2_with fail
          have tok : True := trivial
          go_region_held3 (fun w' => w'.cell? ⟨w.heap.size, 0, none⟩ = some (.bool true) ∧ w'.cell? ⟨w.heap.size + 1, 0, none⟩ = some (.bool true))
            (first | with_reducible exact ⟨hX3.pair.1, hX3'.pair.1⟩ | with_reducible exact ⟨hX3.drew.pair.1, hX3'.drew.pair.1⟩ | with_reducible exact ⟨(hX3.drew.later hb6).pair.1, (hX3'.drew.later hb6).pair.1⟩ | with_reducible exact ⟨((hX3.drew.later hb6).later hb7).pair.1, ((hX3'.drew.later hb6).later hb7).pair.1⟩ | with_reducible exact ⟨(((hX3.drew.later hb6).later hb7).two_far hn1 _ _).1, (((hX3'.drew.later hb6).later hb7).two_far hn2 _ _).1⟩ | with_reducible exact ⟨((((hX3.drew.later hb6).later hb7).far2 hn1 _ _).two_far hn3 _ _).1, ((((hX3'.drew.later hb6).later hb7).far2 hn2 _ _).two_far hn4 _ _).1⟩)
            (first
              | (go_at_call 102; have _t := tok; refine (wrap_dig _ _ _ _ (dq.keep (Keep.drew _))).mono ?_; clear tok _t; rintro e w6 ⟨v6, rfl, e6, hb6⟩; obtain ⟨A6, n6, k6, rfl, _⟩ := e6.shape)
              | (go_at_call 102; refine (wrap_dig _ _ _ _ ((dr.keep (Keep.drew _)).below hb6)).mono ?_; rintro e w7 ⟨v7, rfl, e7, hb7⟩; obtain ⟨A7, n7, k7, rfl, _⟩ := e7.shape; obtain ⟨c0, c1, f0, f1⟩ := ((hR3.drew.later hb6).later hb7).two; obtain ⟨c0', c1', f0', f1'⟩ := ((hR3'.drew.later hb6).later hb7).two))
          go_wp2
          obtain ⟨a1, a2, a3, a4, a5⟩ := fin_div ((hR3.drew.later hb6).later hb7) ((hR3'.drew.later hb6).later hb7) (by omega) (e6.below hb7) e7 (below_then (below_then hbe3.drew hb6 hbe3.size) hb7 (Nat.le_trans hbe3.size hb6.size)) (by omega) (by omega)
          refine ret_cct Tryz.results115 Tryz.underlying45 Tryz.underlying45 (by kernel_rfl) (by kernel_rfl) rfl rfl a1 a2 rfl ?_
          exact ⟨_, _, by rw [if_neg HZ.out]; rfl, by rw [if_neg HZ.out, RI.z_eq, RI.z_eq, (sm_div_same HY.out (.inl Z.out)).1]; exact a3, by rw [if_neg HZ.out, RI.z_eq, RI.z_eq, (sm_div_same HY.out (.inl Z.out)).2]; exact a4, a5⟩
    · have Z := Lib.hid (len_pos (n := val ds % val ds') (by omega))
      clear kl kl' h0
      cases neg
      · cases neg'
        · go_wp2_with fail
          have tok : True := trivial
          go_region_held3 (fun w' => w'.cell? ⟨w.heap.size, 0, none⟩ = some (.bool false) ∧ w'.cell? ⟨w.heap.size + 1, 0, none⟩ = some (.bool false))
            (first | with_reducible exact ⟨hX3.pair.1, hX3'.pair.1⟩ | with_reducible exact ⟨hX3.drew.pair.1, hX3'.drew.pair.1⟩ | with_reducible exact ⟨(hX3.drew.later hb6).pair.1, (hX3'.drew.later hb6).pair.1⟩ | with_reducible exact ⟨((hX3.drew.later hb6).later hb7).pair.1, ((hX3'.drew.later hb6).later hb7).pair.1⟩ | with_reducible exact ⟨(((hX3.drew.later hb6).later hb7).two_far hn1 _ _).1, (((hX3'.drew.later hb6).later hb7).two_far hn2 _ _).1⟩ | with_reducible exact ⟨((((hX3.drew.later hb6).later hb7).far2 hn1 _ _).two_far hn3 _ _).1, ((((hX3'.drew.later hb6).later hb7).far2 hn2 _ _).two_far hn4 _ _).1⟩)
            (first
              | (go_at_call 102; have _t := tok; refine (wrap_dig _ _ _ _ (dq.keep (Keep.drew _))).mono ?_; clear tok _t; rintro e w6 ⟨v6, rfl, e6, hb6⟩; obtain ⟨A6, n6, k6, rfl, _⟩ := e6.shape)
              | (go_at_call 102; refine (wrap_dig _ _ _ _ ((dr.keep (Keep.drew _)).below hb6)).mono ?_; rintro e w7 ⟨v7, rfl, e7, hb7⟩; obtain ⟨A7, n7, k7, rfl, _⟩ := e7.shape; obtain ⟨c0, c1, f0, f1⟩ := ((hR3.drew.later hb6).later hb7).two; obtain ⟨c0', c1', f0', f1'⟩ := ((hR3'.drew.later hb6).later hb7).two))
          go_wp2
          obtain ⟨a1, a2, a3, a4, a5⟩ := fin_div ((hR3.drew.later hb6).later hb7) ((hR3'.drew.later hb6).later hb7) (by omega) (e6.below hb7) e7 (below_then (below_then hbe3.drew hb6 hbe3.size) hb7 (Nat.le_trans hbe3.size hb6.size)) (by omega) (by omega)
          refine ret_cct Tryz.results115 Tryz.underlying45 Tryz.underlying45 (by kernel_rfl) (by kernel_rfl) rfl rfl a1 a2 rfl ?_
          exact ⟨_, _, by rw [if_neg HZ.out]; rfl, by rw [if_neg HZ.out, RI.z_eq, RI.z_eq, (sm_div_same HY.out (.inr rfl)).1]; exact a3, by rw [if_neg HZ.out, RI.z_eq, RI.z_eq, (sm_div_same HY.out (.inr rfl)).2]; exact a4, a5⟩
        · go_wp2_with fail
          refine (addMag_any _ _ (digs (val ds / val ds')) [1] _ (dq.below (below_new _ _)) (DigB.dig (DigB.new w3 [1]) (by simp [okD, B32]) (c := 1) (by simp) (by simp [maxLen])) HQ.out (by simp)).mono ?_
          rw [val_digs, show val [1] = 1 from by simp [val]]
          rintro e w4 ⟨v4, rfl, e4, hb4⟩
          have hbb4 := below_then (below_new w3 _) hb4 (by simp)
          have hX4 := hX3.later hbb4
          have hX4' := hX3'.later hbb4
          have hR4 := hR3.later hbb4
          have hR4' := hR3'.later hbb4
          have hbe4 := below_then hbe3 hbb4 hbe3.size
          have dr4 := dr.below hbb4
          have e24 := e2'.below hbb4
          clear hX3 hX3' hR3 hR3' hbe3 hbb4 hb4 x0 x1 x0' x1'
          go_wp2_with fail
          refine (subMag_any _ _ (digs (val ds')) (digs (val ds % val ds')) _ e24 dr4 (by rw [val_digs, val_digs]; exact Nat.le_of_lt (Nat.mod_lt _ HY.out)) (digs_len_mono (Nat.le_of_lt (Nat.mod_lt _ HY.out))) hs2).mono ?_
          rw [val_digs, val_digs]
          rintro e w5 ⟨v5, rfl, e5, hb5⟩
          have hX5 := hX4.later hb5
          have hX5' := hX4'.later hb5
          have hR5 := hR4.later hb5
          have hR5' := hR4'.later hb5
          have hbe5 := below_then hbe4 hb5 hbe4.size
          have e45 := e4.below hb5
          clear hX4 hX4' hR4 hR4' hbe4 hb5
          go_wp2_with fail
          have tok : True := trivial
          go_region_held3 (fun w' => w'.cell? ⟨w.heap.size, 0, none⟩ = some (.bool false) ∧ w'.cell? ⟨w.heap.size + 1, 0, none⟩ = some (.bool true))
            (first | with_reducible exact ⟨hX5.pair.1, hX5'.pair.1⟩ | with_reducible exact ⟨hX5.drew.pair.1, hX5'.drew.pair.1⟩ | with_reducible exact ⟨(hX5.drew.later hb6).pair.1, (hX5'.drew.later hb6).pair.1⟩ | with_reducible exact ⟨((hX5.drew.later hb6).later hb7).pair.1, ((hX5'.drew.later hb6).later hb7).pair.1⟩ | with_reducible exact ⟨(((hX5.drew.later hb6).later hb7).two_far hn1 _ _).1, (((hX5'.drew.later hb6).later hb7).two_far hn2 _ _).1⟩ | with_reducible exact ⟨((((hX5.drew.later hb6).later hb7).far2 hn1 _ _).two_far hn3 _ _).1, ((((hX5'.drew.later hb6).later hb7).far2 hn2 _ _).two_far hn4 _ _).1⟩)
            (first
              | (go_at_call 102; have _t := tok; refine (wrap_dig _ _ _ _ (e45.keep (Keep.drew _))).mono ?_; clear tok _t; rintro e w6 ⟨v6, rfl, e6, hb6⟩; obtain ⟨A6, n6, k6, rfl, _⟩ := e6.shape)
              | (go_at_call 102; refine (wrap_dig _ _ _ _ ((e5.keep (Keep.drew _)).below hb6)).mono ?_; rintro e w7 ⟨v7, rfl, e7, hb7⟩; obtain ⟨A7, n7, k7, rfl, _⟩ := e7.shape; obtain ⟨c0, c1, f0, f1⟩ := ((hR5.drew.later hb6).later hb7).two; obtain ⟨c0', c1', f0', f1'⟩ := ((hR5'.drew.later hb6).later hb7).two))
          go_wp2
          obtain ⟨a1, a2, a3, a4, a5⟩ := fin_div ((hR5.drew.later hb6).later hb7) ((hR5'.drew.later hb6).later hb7) (by omega) (e6.below hb7) e7 (below_then (below_then hbe5.drew hb6 hbe5.size) hb7 (Nat.le_trans hbe5.size hb6.size)) (by omega) (by omega)
          refine ret_cct Tryz.results115 Tryz.underlying45 Tryz.underlying45 (by kernel_rfl) (by kernel_rfl) rfl rfl a1 a2 rfl ?_
          exact ⟨_, _, by rw [if_neg HZ.out]; rfl, by rw [if_neg HZ.out, RI.z_eq, RI.z_eq, (sm_div_diff HY.out Z.out (by simp)).1]; exact a3, by rw [if_neg HZ.out, RI.z_eq, RI.z_eq, (sm_div_diff HY.out Z.out (by simp)).2]; exact a4, a5⟩
      · cases neg'
        · go_wp2_with fail
          refine (addMag_any _ _ (digs (val ds / val ds')) [1] _ (dq.below (below_new _ _)) (DigB.dig (DigB.new w3 [1]) (by simp [okD, B32]) (c := 1) (by simp) (by simp [maxLen])) HQ.out (by simp)).mono ?_
          rw [val_digs, show val [1] = 1 from by simp [val]]
          rintro e w4 ⟨v4, rfl, e4, hb4⟩
          have hbb4 := below_then (below_new w3 _) hb4 (by simp)
          have hX4 := hX3.later hbb4
          have hX4' := hX3'.later hbb4
          have hR4 := hR3.later hbb4
          have hR4' := hR3'.later hbb4
          have hbe4 := below_then hbe3 hbb4 hbe3.size
          have dr4 := dr.below hbb4
          have e24 := e2'.below hbb4
          clear hX3 hX3' hR3 hR3' hbe3 hbb4 hb4 x0 x1 x0' x1'
          go_wp2_with fail
          refine (subMag_any _ _ (digs (val ds')) (digs (val ds % val ds')) _ e24 dr4 (by rw [val_digs, val_digs]; exact Nat.le_of_lt (Nat.mod_lt _ HY.out)) (digs_len_mono (Nat.le_of_lt (Nat.mod_lt _ HY.out))) hs2).mono ?_
          rw [val_digs, val_digs]
          rintro e w5 ⟨v5, rfl, e5, hb5⟩
          have hX5 := hX4.later hb5
          have hX5' := hX4'.later hb5
          have hR5 := hR4.later hb5
          have hR5' := hR4'.later hb5
          have hbe5 := below_then hbe4 hb5 hbe4.size
          have e45 := e4.below hb5
          clear hX4 hX4' hR4 hR4' hbe4 hb5
          go_wp2_with fail
          have tok : True := trivial
          go_region_held3 (fun w' => w'.cell? ⟨w.heap.size, 0, none⟩ = some (.bool true) ∧ w'.cell? ⟨w.heap.size + 1, 0, none⟩ = some (.bool false))
            (first | with_reducible exact ⟨hX5.pair.1, hX5'.pair.1⟩ | with_reducible exact ⟨hX5.drew.pair.1, hX5'.drew.pair.1⟩ | with_reducible exact ⟨(hX5.drew.later hb6).pair.1, (hX5'.drew.later hb6).pair.1⟩ | with_reducible exact ⟨((hX5.drew.later hb6).later hb7).pair.1, ((hX5'.drew.later hb6).later hb7).pair.1⟩ | with_reducible exact ⟨(((hX5.drew.later hb6).later hb7).two_far hn1 _ _).1, (((hX5'.drew.later hb6).later hb7).two_far hn2 _ _).1⟩ | with_reducible exact ⟨((((hX5.drew.later hb6).later hb7).far2 hn1 _ _).two_far hn3 _ _).1, ((((hX5'.drew.later hb6).later hb7).far2 hn2 _ _).two_far hn4 _ _).1⟩)
            (first
              | (go_at_call 102; have _t := tok; refine (wrap_dig _ _ _ _ (e45.keep (Keep.drew _))).mono ?_; clear tok _t; rintro e w6 ⟨v6, rfl, e6, hb6⟩; obtain ⟨A6, n6, k6, rfl, _⟩ := e6.shape)
              | (go_at_call 102; refine (wrap_dig _ _ _ _ ((e5.keep (Keep.drew _)).below hb6)).mono ?_; rintro e w7 ⟨v7, rfl, e7, hb7⟩; obtain ⟨A7, n7, k7, rfl, _⟩ := e7.shape; obtain ⟨c0, c1, f0, f1⟩ := ((hR5.drew.later hb6).later hb7).two; obtain ⟨c0', c1', f0', f1'⟩ := ((hR5'.drew.later hb6).later hb7).two))
          go_wp2
          obtain ⟨a1, a2, a3, a4, a5⟩ := fin_div ((hR5.drew.later hb6).later hb7) ((hR5'.drew.later hb6).later hb7) (by omega) (e6.below hb7) e7 (below_then (below_then hbe5.drew hb6 hbe5.size) hb7 (Nat.le_trans hbe5.size hb6.size)) (by omega) (by omega)
          refine ret_cct Tryz.results115 Tryz.underlying45 Tryz.underlying45 (by kernel_rfl) (by kernel_rfl) rfl rfl a1 a2 rfl ?_
          exact ⟨_, _, by rw [if_neg HZ.out]; rfl, by rw [if_neg HZ.out, RI.z_eq, RI.z_eq, (sm_div_diff HY.out Z.out (by simp)).1]; exact a3, by rw [if_neg HZ.out, RI.z_eq, RI.z_eq, (sm_div_diff HY.out Z.out (by simp)).2]; exact a4, a5⟩
        · go_wp2_with fail
          have tok : True := trivial
          go_region_held3 (fun w' => w'.cell? ⟨w.heap.size, 0, none⟩ = some (.bool true) ∧ w'.cell? ⟨w.heap.size + 1, 0, none⟩ = some (.bool true))
            (first | with_reducible exact ⟨hX3.pair.1, hX3'.pair.1⟩ | with_reducible exact ⟨hX3.drew.pair.1, hX3'.drew.pair.1⟩ | with_reducible exact ⟨(hX3.drew.later hb6).pair.1, (hX3'.drew.later hb6).pair.1⟩ | with_reducible exact ⟨((hX3.drew.later hb6).later hb7).pair.1, ((hX3'.drew.later hb6).later hb7).pair.1⟩ | with_reducible exact ⟨(((hX3.drew.later hb6).later hb7).two_far hn1 _ _).1, (((hX3'.drew.later hb6).later hb7).two_far hn2 _ _).1⟩ | with_reducible exact ⟨((((hX3.drew.later hb6).later hb7).far2 hn1 _ _).two_far hn3 _ _).1, ((((hX3'.drew.later hb6).later hb7).far2 hn2 _ _).two_far hn4 _ _).1⟩)
            (first
              | (go_at_call 102; have _t := tok; refine (wrap_dig _ _ _ _ (dq.keep (Keep.drew _))).mono ?_; clear tok _t; rintro e w6 ⟨v6, rfl, e6, hb6⟩; obtain ⟨A6, n6, k6, rfl, _⟩ := e6.shape)
              | (go_at_call 102; refine (wrap_dig _ _ _ _ ((dr.keep (Keep.drew _)).below hb6)).mono ?_; rintro e w7 ⟨v7, rfl, e7, hb7⟩; obtain ⟨A7, n7, k7, rfl, _⟩ := e7.shape; obtain ⟨c0, c1, f0, f1⟩ := ((hR3.drew.later hb6).later hb7).two; obtain ⟨c0', c1', f0', f1'⟩ := ((hR3'.drew.later hb6).later hb7).two))
          go_wp2
          obtain ⟨a1, a2, a3, a4, a5⟩ := fin_div ((hR3.drew.later hb6).later hb7) ((hR3'.drew.later hb6).later hb7) (by omega) (e6.below hb7) e7 (below_then (below_then hbe3.drew hb6 hbe3.size) hb7 (Nat.le_trans hbe3.size hb6.size)) (by omega) (by omega)
          refine ret_cct Tryz.results115 Tryz.underlying45 Tryz.underlying45 (by kernel_rfl) (by kernel_rfl) rfl rfl a1 a2 rfl ?_
          exact ⟨_, _, by rw [if_neg HZ.out]; rfl, by rw [if_neg HZ.out, RI.z_eq, RI.z_eq, (sm_div_same HY.out (.inr rfl)).1]; exact a3, by rw [if_neg HZ.out, RI.z_eq, RI.z_eq, (sm_div_same HY.out (.inr rfl)).2]; exact a4, a5⟩
end Go.Proofs.YtpanffbgihhjnaaGreat

/- Fractions: the data, and the walks of smallWord, smallParts. -/
namespace Go.Proofs.YtpanffbgihhjnaaGreat
open Go.RowKit Pl
attribute [local go_sem ↓] Go.wp_at_zero Go.wp_at_succ

namespace Pl
structure RF where
  num : RI
  den : RI
def RF.q (f : RF) : Rat := Rat.divInt f.num.z f.den.z
def canF (q : Rat) : RF := ⟨canI q.num, canI (q.den : Int)⟩
theorem canF_q (q : Rat) : (canF q).q = q := by
  simp only [RF.q, canF, canI_z]
  exact Rat.num_divInt_den q
def RI.Sm (a : RI) : Prop := (digs (val a.ds)).length ≤ 68719476736
def RF.Sm (f : RF) : Prop := f.num.Sm ∧ f.den.Sm
end Pl

def FracM (w : World) (v : Value) (f : RF) : Prop :=
  ∃ A n c A' n' c', v = .agg #[.bool f.num.neg, .slice A n c, .bool f.den.neg, .slice A' n' c'] ∧ DigM w (.slice A n c) f.num.ds ∧ DigM w (.slice A' n' c') f.den.ds
theorem FracM.keep {w w' : World} {v : Value} {a : RF} (h : FracM w v a) (hk : Keep w w') : FracM w' v a := by
  obtain ⟨A, n, c, A', n', c', h1, h2, h3⟩ := h; exact ⟨A, n, c, A', n', c', h1, h2.keep hk, h3.keep hk⟩
theorem FracM.below {w w' : World} {v : Value} {a : RF} (h : FracM w v a) (hb : Below w.heap.size w w') : FracM w' v a := h.keep (Keep.of_below hb)
theorem FracM.mk {w : World} {A A' : Option Addr} {n n' c c' : Nat} {x y : RI} (h1 : IntM w (.agg #[.bool x.neg, .slice A n c]) x) (h2 : IntM w (.agg #[.bool y.neg, .slice A' n' c']) y) :
    FracM w (.agg #[.bool x.neg, .slice A n c, .bool y.neg, .slice A' n' c']) ⟨x, y⟩ := by
  obtain ⟨s, e, d⟩ := h1
  obtain ⟨s', e', d'⟩ := h2
  simp at e e'
  subst e e'
  exact ⟨_, _, _, _, _, _, rfl, d, d'⟩

section
variable {w : World} {g : Nat} {t : TypeId} {a b c d : Value}
theorem Bk.four (h : Bk w g t [a, b, c, d]) : (w.cell? ⟨g, 0, none⟩ = some a ∧ w.cell? ⟨g, 1, none⟩ = some b ∧ w.cell? ⟨g, 2, none⟩ = some c ∧ w.cell? ⟨g, 3, none⟩ = some d) := ⟨h.cellAt 0 rfl, h.cellAt 1 rfl, h.cellAt 2 rfl, h.cellAt 3 rfl⟩
theorem Bk.fourF (h : Bk w g t [a, b, c, d]) : (w.frozen? ⟨g, 0, none⟩ = false ∧ w.frozen? ⟨g, 1, none⟩ = false ∧ w.frozen? ⟨g, 2, none⟩ = false ∧ w.frozen? ⟨g, 3, none⟩ = false) := ⟨h.frozen 0, h.frozen 1, h.frozen 2, h.frozen 3⟩
end

namespace Pl
def okw (z : Int) : Prop := -2147483648 < z ∧ z < 2147483648
end Pl

def SmallWordPost (a : RI) (w : World) (e : Ending) (w' : World) : Prop := ∃ (z : Int) (ok : Bool), e = .returned (.tuple #[.int .i64 z, .bool ok]) ∧ (ok = true → z = a.z ∧ okw z) ∧ Below w.heap.size w w'

set_option maxHeartbeats 1000000 in
theorem smallWord_any (v : Value) (a : RI) (w : World) (h : IntM w v a) :
    Calls Tryz.prog 111 #[v] w (SmallWordPost a w) := by
  obtain ⟨A, n, c, rfl, hd⟩ := h.shape
  obtain ⟨neg, ds⟩ := a
  simp only at hd ⊢
  have hX := Bk.new w 45 [.bool neg, .slice A n c]
  have hbe := below_new w (.cells [.bool neg, .slice A n c].toArray 45)
  have hdX := hd.below hbe
  obtain ⟨hl, hl', hnc, hc⟩ := hd.len
  rcases Nat.lt_or_ge 1 n with h1 | h1
  · clear hl hl'
    go_enter Tryz.func111, Tryz.ntmps111
    go_wp2
    go_ret2
    exact ⟨_, _, rfl, by simp, hbe⟩
  · rcases Nat.eq_zero_or_pos n with h0 | h0
    · subst h0
      have hz : RI.z ⟨neg, ds⟩ = 0 := by
        obtain rfl : ds = [] := List.length_eq_zero_iff.1 (by omega)
        rw [RI.z_eq]; simp [val, sm]
      have HZ := Lib.hid hz
      clear hl hl' hz
      go_enter Tryz.func111, Tryz.ntmps111
      go_wp2
      go_ret2
      exact ⟨_, _, rfl, fun _ => ⟨HZ.out.symm, by simp [okw]⟩, hbe⟩
    · obtain rfl : n = 1 := by omega
      obtain ⟨b, off, rfl, _, hcell⟩ := hdX.at_ (by omega)
      have hc0 := hcell 0 (by omega)
      rw [Nat.add_zero] at hc0
      have y0 := di_nonneg ds 0
      have y1 := di_le hd.ok 0
      have hv : (val ds : Int) = di ds 0 := by
        obtain ⟨d, rfl⟩ : ∃ d, ds = [d] := List.length_eq_one_iff.1 (by omega)
        simp [val, di, dg]
      have hz : RI.z ⟨neg, ds⟩ = if neg then - di ds 0 else di ds 0 := by rw [← hv]; rfl
      have HZ := Lib.hid hz
      clear hl hl' hz hcell hv
      generalize di ds 0 = z0 at *
      rcases Int.lt_or_le z0 2147483648 with h2 | h2
      · cases neg
        · go_enter Tryz.func111, Tryz.ntmps111
          go_wp2
          go_ret2
          exact ⟨z0, _, rfl, fun _ => ⟨by rw [HZ.out]; rfl, by simp [okw]; omega⟩, hbe⟩
        · go_enter Tryz.func111, Tryz.ntmps111
          go_wp2
          go_ret2
          exact ⟨-z0, _, rfl, fun _ => ⟨by rw [HZ.out]; rfl, by simp [okw]; omega⟩, hbe⟩
      · go_enter Tryz.func111, Tryz.ntmps111
        go_wp2
        go_ret2
        exact ⟨_, _, rfl, by simp, hbe⟩

namespace Pl
def okq (n d : Int) (q : Rat) : Prop := okw n ∧ 0 < d ∧ d < 2147483648 ∧ Rat.divInt n d = q
end Pl
def SmallPartsPost (a : RF) (w : World) (e : Ending) (w' : World) : Prop := ∃ (n d : Int) (ok : Bool), e = .returned (.tuple #[.agg #[.int .i64 n, .int .i64 d], .bool ok]) ∧ (ok = true → okq n d a.q) ∧ Below w.heap.size w w'

theorem box_small (w : World) (x1 x2 x3 x4 : Value) : ∃ W, (w.alloc (.cells #[x1, x2, x3, x4] 47)).alloc (.cells #[.int .i64 0, .int .i64 0] 104) = W ∧ Bk W w.heap.size 47 [x1, x2, x3, x4] ∧ Bk W (w.heap.size + 1) 104 [.int .i64 0, .int .i64 0] ∧ Below w.heap.size w W := by
  refine ⟨_, rfl, (Bk.new w _ [x1, x2, x3, x4]).alloc _, ?_, (below_new w _).alloc (by simp) _⟩
  have := Bk.new (w.alloc (.cells #[x1, x2, x3, x4] 47)) 104 [.int .i64 0, .int .i64 0]
  rwa [size_alloc] at this

theorem fin_small {w W : World} {g : Nat} {x y : Value} {n d : Int} {ok : Bool} {a : RF} (hR : Bk W g 104 [x, y]) (hbe : Below w.heap.size w W) (hg : w.heap.size ≤ g) (h : ok = true → okq n d a.q) :
    SmallPartsPost a w (.returned (.tuple #[.agg [.int .i64 n, .int .i64 d].toArray, .bool ok])) ((W.setCell ⟨g, 0, none⟩ (.int .i64 n)).setCell ⟨g, 1, none⟩ (.int .i64 d)) :=
  ⟨n, d, ok, rfl, h, below_set2 hbe hg _ _⟩

set_option maxHeartbeats 1000000 in
theorem smallParts_any (v : Value) (a : RF) (w : World) (h : FracM w v a) :
    Calls Tryz.prog 97 #[v] w (SmallPartsPost a w) := by
  obtain ⟨A, n, c, A', n', c', rfl, hd, hd'⟩ := h
  obtain ⟨⟨neg, ds⟩, ⟨neg', ds'⟩⟩ := a
  simp only at hd hd' ⊢
  obtain ⟨W, hW, hX, hR, hbe⟩ := box_small w (.bool neg) (.slice A n c) (.bool neg') (.slice A' n' c')
  have e1 : IntM W (.agg #[.bool neg, .slice A n c]) ⟨neg, ds⟩ := ⟨_, rfl, hd.below hbe⟩
  have e2 : IntM W (.agg #[.bool neg', .slice A' n' c']) ⟨neg', ds'⟩ := ⟨_, rfl, hd'.below hbe⟩
  obtain ⟨p1, p2, p3, p4⟩ := hX.four
  go_enter Tryz.func97, Tryz.ntmps97
  go_wp2_with fail
  clear hW
  refine (smallWord_any _ ⟨neg', ds'⟩ _ e2).mono ?_
  rintro e w1 ⟨z, ok, rfl, hz, hb1⟩
  have HZ := Lib.hid hz
  have hX1 := hX.later hb1
  have hR1 := hR.later hb1
  have hbe1 := below_then hbe hb1 hbe.size
  have e11 := e1.below hb1
  clear hz hX hR hbe e1 e2 hb1 p1 p2 p3 p4
  cases ok
  · obtain ⟨c0, c1, f0, f1⟩ := hR1.two
    go_wp2
    refine ret_ct Tryz.results97 Tryz.underlying104 (by kernel_rfl) rfl (hR1.set2 _ _) rfl ?_
    exact fin_small hR1 hbe1 (by omega) (by simp)
  · obtain ⟨hz1, hz2⟩ := HZ.out rfl
    unfold okw at hz2
    have HZ1 := Lib.hid hz1
    obtain ⟨p1, p2, p3, p4⟩ := hX1.four
    clear HZ hz1
    go_wp2_with fail
    refine (smallWord_any _ ⟨neg, ds⟩ _ e11).mono ?_
    rintro e w2 ⟨y, ok, rfl, hy, hb2⟩
    have HY := Lib.hid hy
    have hR2 := hR1.later hb2
    have hbe2 := below_then hbe1 hb2 hbe1.size
    clear hy hX1 hR1 hbe1 e11 hb2 p1 p2 p3 p4
    obtain ⟨c0, c1, f0, f1⟩ := hR2.two
    cases ok
    · go_wp2
      refine ret_ct Tryz.results97 Tryz.underlying104 (by kernel_rfl) rfl (hR2.set2 _ _) rfl ?_
      exact fin_small hR2 hbe2 (by omega) (by simp)
    · obtain ⟨hy1, hy2⟩ := HY.out rfl
      have HY1 := Lib.hid hy1
      unfold okw at hy2
      clear HY hy1
      rcases Int.lt_trichotomy z 0 with hz | hz | hz
      · go_wp2
        refine ret_ct Tryz.results97 Tryz.underlying104 (by kernel_rfl) rfl (hR2.set2 _ _) rfl ?_
        refine fin_small hR2 hbe2 (by omega) fun _ => ⟨⟨by omega, by omega⟩, by omega, by omega, ?_⟩
        show _ = Rat.divInt (RI.z _) (RI.z _)
        rw [← HY1.out, ← HZ1.out, Rat.neg_divInt_neg]
      · subst hz
        go_wp2
        refine ret_ct Tryz.results97 Tryz.underlying104 (by kernel_rfl) rfl (hR2.set2 _ _) rfl ?_
        refine fin_small hR2 hbe2 (by omega) fun _ => ⟨⟨by omega, by omega⟩, by omega, by omega, ?_⟩
        show _ = Rat.divInt (RI.z _) (RI.z _)
        rw [← HZ1.out, Rat.divInt_zero, Rat.zero_divInt]
      · go_wp2
        refine ret_ct Tryz.results97 Tryz.underlying104 (by kernel_rfl) rfl (hR2.set2 _ _) rfl ?_
        refine fin_small hR2 hbe2 (by omega) fun _ => ⟨⟨by omega, by omega⟩, by omega, by omega, ?_⟩
        show _ = Rat.divInt (RI.z _) (RI.z _)
        rw [← HY1.out, ← HZ1.out]
end Go.Proofs.YtpanffbgihhjnaaGreat

/- Walks: package rational: small, fromWords. -/
namespace Go.Proofs.YtpanffbgihhjnaaGreat
open Go.RowKit Pl
attribute [local go_sem ↓] Go.wp_at_zero Go.wp_at_succ

theorem Bk.next {w W : World} {n : Nat} (h : W.heap.size = n) (t : TypeId) (cs : List Value) (_hb : Below w.heap.size w W) : Bk (W.alloc (.cells cs.toArray t)) n t cs := by
  have := Bk.new W t cs
  rwa [h] at this
theorem boxF2 (w : World) (x1 x2 x3 x4 y1 y2 y3 y4 : Value) : ∃ W, (w.alloc (.cells #[x1, x2, x3, x4] 47)).alloc (.cells #[y1, y2, y3, y4] 47) = W ∧ W.heap.size = w.heap.size + 1 + 1 ∧ Bk W w.heap.size 47 [x1, x2, x3, x4] ∧ Bk W (w.heap.size + 1) 47 [y1, y2, y3, y4] ∧ Below w.heap.size w W := by
  refine ⟨_, rfl, by simp, (Bk.new w _ [x1, x2, x3, x4]).alloc _, ?_, (below_new w _).alloc (by simp) _⟩
  have := Bk.new (w.alloc (.cells #[x1, x2, x3, x4] 47)) 47 [y1, y2, y3, y4]
  rwa [size_alloc] at this
theorem boxF2s (w : World) (x1 x2 x3 x4 y1 y2 y3 y4 : Value) : ∃ W, (((w.alloc (.cells #[x1, x2, x3, x4] 47)).alloc (.cells #[y1, y2, y3, y4] 47)).alloc (.cells #[.int .i64 0, .int .i64 0] 104)).alloc (.cells #[.int .i64 0, .int .i64 0] 104) = W ∧ Bk W w.heap.size 47 [x1, x2, x3, x4] ∧ Bk W (w.heap.size + 1) 47 [y1, y2, y3, y4] ∧
    Bk W (w.heap.size + 1 + 1) 104 [.int .i64 0, .int .i64 0] ∧ Bk W (w.heap.size + 1 + 1 + 1) 104 [.int .i64 0, .int .i64 0] ∧ Below w.heap.size w W := by
  obtain ⟨W, hW, hs, h1, h2, hb⟩ := boxF2 w x1 x2 x3 x4 y1 y2 y3 y4
  refine ⟨_, by rw [hW], (h1.alloc _).alloc _, (h2.alloc _).alloc _, (Bk.next hs _ _ hb).alloc _, ?_, (hb.alloc hb.size _).alloc (hb.alloc hb.size _).size _⟩
  have := Bk.new (W.alloc (.cells #[.int .i64 0, .int .i64 0] 104)) 104 [.int .i64 0, .int .i64 0]
  rwa [size_alloc, hs] at this

def SmallPost (a b : RF) (w : World) (e : Ending) (w' : World) : Prop := ∃ (n d m k : Int) (ok : Bool), e = .returned (.tuple #[.agg #[.int .i64 n, .int .i64 d], .agg #[.int .i64 m, .int .i64 k], .bool ok]) ∧ (ok = true → okq n d a.q ∧ okq m k b.q) ∧ Below w.heap.size w w'

set_option maxHeartbeats 1000000 in
theorem small_any (v1 v2 : Value) (a b : RF) (w : World) (h1 : FracM w v1 a) (h2 : FracM w v2 b) :
    Calls Tryz.prog 78 #[v1, v2] w (SmallPost a b w) := by
  obtain ⟨A, n, c, A', n', c', rfl, hd, hd'⟩ := h1
  obtain ⟨B, m, d, B', m', d', rfl, ke, ke'⟩ := h2
  obtain ⟨⟨neg, ds⟩, ⟨neg', ds'⟩⟩ := a
  obtain ⟨⟨neh, es⟩, ⟨neh', es'⟩⟩ := b
  simp only at hd hd' ke ke' ⊢
  obtain ⟨W, hW, hX, hY, hR, hR', hbe⟩ := boxF2s w (.bool neg) (.slice A n c) (.bool neg') (.slice A' n' c') (.bool neh) (.slice B m d) (.bool neh') (.slice B' m' d')
  have e1 : FracM W (.agg #[.bool neg, .slice A n c, .bool neg', .slice A' n' c']) ⟨⟨neg, ds⟩, ⟨neg', ds'⟩⟩ := ⟨_, _, _, _, _, _, rfl, hd.below hbe, hd'.below hbe⟩
  have e2 : FracM W (.agg #[.bool neh, .slice B m d, .bool neh', .slice B' m' d']) ⟨⟨neh, es⟩, ⟨neh', es'⟩⟩ := ⟨_, _, _, _, _, _, rfl, ke.below hbe, ke'.below hbe⟩
  obtain ⟨p1, p2, p3, p4⟩ := hX.four
  go_enter Tryz.func78, Tryz.ntmps78
  go_wp2_with fail
  clear hW
  refine (smallParts_any _ ⟨⟨neg, ds⟩, ⟨neg', ds'⟩⟩ _ e1).mono ?_
  rintro e w1 ⟨x, y, ok, rfl, hq, hb1⟩
  have HQ := Lib.hid hq
  have hY1 := hY.later hb1
  have hR1 := hR.later hb1
  have hR1' := hR'.later hb1
  have hbe1 := below_then hbe hb1 hbe.size
  have e21 := e2.below hb1
  clear hq hX hY hR hR' hbe e1 e2 hb1 p1 p2 p3 p4
  have hn1 : w.heap.size + 1 + 1 ≠ w.heap.size + 1 + 1 + 1 := by omega
  have hn2 : w.heap.size + 1 ≠ w.heap.size + 1 + 1 := by omega
  obtain ⟨c0, c1, f0, f1⟩ := hR1.two
  obtain ⟨c0', c1', f0', f1'⟩ := hR1'.two
  have hRs := hR1.set2 (.int .i64 x) (.int .i64 y)
  have hRs' := hR1'.far2 hn1.symm (.int .i64 x) (.int .i64 y)
  have hYs := hY1.far2 hn2 (.int .i64 x) (.int .i64 y)
  have hbs := below_set2 hbe1 (show w.heap.size ≤ w.heap.size + 1 + 1 by omega) (.int .i64 x) (.int .i64 y)
  have e22 := e21.keep (hR1.keep2 (by decide) (.int .i64 x) (.int .i64 y))
  clear hY1 hR1 hR1' hbe1 e21
  cases ok
  · go_wp2_with fail
    clear c0 c1 f0 f1 c0' c1' f0' f1'
    generalize (w1.setCell _ _).setCell _ _ = W3 at *
    obtain ⟨c0, c1, f0, f1⟩ := hRs.two
    obtain ⟨c0', c1', f0', f1'⟩ := hRs'.two
    go_region_held3 (fun w' => (w'.cell? ⟨w.heap.size + 1 + 1, 0, none⟩ = some (.int .i64 x) ∧ w'.cell? ⟨w.heap.size + 1 + 1, 1, none⟩ = some (.int .i64 y)) ∧ (w'.cell? ⟨w.heap.size + 1 + 1 + 1, 0, none⟩ = some (.int .i64 0) ∧ w'.cell? ⟨w.heap.size + 1 + 1 + 1, 1, none⟩ = some (.int .i64 0)))
      (first | with_reducible exact ⟨hRs.pair, hRs'.pair⟩ | with_reducible exact ⟨hRs.drew.pair, hRs'.drew.pair⟩ | with_reducible exact ⟨(hRs.set2 _ _).drew.pair, (hRs'.far2 hn1.symm _ _).drew.pair⟩ | with_reducible exact ⟨((hRs.set2 _ _).far2 hn1 _ _).drew.pair, ((hRs'.far2 hn1.symm _ _).set2 _ _).drew.pair⟩)
      (fail)
    go_wp2
    refine ret_cct Tryz.results78 Tryz.underlying104 Tryz.underlying104 (by kernel_rfl) (by kernel_rfl) rfl rfl ((hRs.set2 _ _).far2 hn1 _ _).drew ((hRs'.far2 hn1.symm _ _).set2 _ _).drew rfl ?_
    exact ⟨_, _, _, _, _, rfl, by simp, (below_set2 (below_set2 hbs (by omega) _ _) (by omega) _ _).drew⟩
  · have hy4 := hYs.four
    go_wp2_with fail
    clear c0 c1 f0 f1 c0' c1' f0' f1' hy4
    generalize (w1.setCell _ _).setCell _ _ = W3 at *
    obtain ⟨p1, p2, p3, p4⟩ := hYs.four
    refine (smallParts_any _ ⟨⟨neh, es⟩, ⟨neh', es'⟩⟩ _ e22).mono ?_
    rintro e w4 ⟨z, u, ok, rfl, hq, hb4⟩
    have HQ' := Lib.hid hq
    have hR4 := hRs.later hb4
    have hR4' := hRs'.later hb4
    have hbe4 := below_then hbs hb4 hbs.size
    clear hq hYs hRs hRs' hbs e22 hb4 p1 p2 p3 p4
    obtain ⟨c0, c1, f0, f1⟩ := hR4.two
    obtain ⟨c0', c1', f0', f1'⟩ := hR4'.two
    have hRs := hR4.far2 hn1 (.int .i64 z) (.int .i64 u)
    have hRs' := hR4'.set2 (.int .i64 z) (.int .i64 u)
    have hbs := below_set2 hbe4 (show w.heap.size ≤ w.heap.size + 1 + 1 + 1 by omega) (.int .i64 z) (.int .i64 u)
    go_wp2_with fail
    clear c0 c1 f0 f1 c0' c1' f0' f1'
    generalize (w4.setCell _ _).setCell _ _ = W5 at *
    obtain ⟨c0, c1, f0, f1⟩ := hRs.two
    obtain ⟨c0', c1', f0', f1'⟩ := hRs'.two
    go_region_held3 (fun w' => (w'.cell? ⟨w.heap.size + 1 + 1, 0, none⟩ = some (.int .i64 x) ∧ w'.cell? ⟨w.heap.size + 1 + 1, 1, none⟩ = some (.int .i64 y)) ∧ (w'.cell? ⟨w.heap.size + 1 + 1 + 1, 0, none⟩ = some (.int .i64 z) ∧ w'.cell? ⟨w.heap.size + 1 + 1 + 1, 1, none⟩ = some (.int .i64 u)))
      (first | with_reducible exact ⟨hRs.pair, hRs'.pair⟩ | with_reducible exact ⟨hRs.drew.pair, hRs'.drew.pair⟩ | with_reducible exact ⟨(hRs.set2 _ _).drew.pair, (hRs'.far2 hn1.symm _ _).drew.pair⟩ | with_reducible exact ⟨((hRs.set2 _ _).far2 hn1 _ _).drew.pair, ((hRs'.far2 hn1.symm _ _).set2 _ _).drew.pair⟩)
      (fail)
    go_wp2
    refine ret_cct Tryz.results78 Tryz.underlying104 Tryz.underlying104 (by kernel_rfl) (by kernel_rfl) rfl rfl ((hRs.set2 _ _).far2 hn1 _ _).drew ((hRs'.far2 hn1.symm _ _).set2 _ _).drew rfl ?_
    exact ⟨_, _, _, _, ok, rfl, fun h => ⟨by simpa using HQ.out, HQ'.out h⟩, (below_set2 (below_set2 hbs (by omega) _ _) (by omega) _ _).drew⟩
end Go.Proofs.YtpanffbgihhjnaaGreat

/- Walks: package rational: fromWords. -/
namespace Go.Proofs.YtpanffbgihhjnaaGreat
open Go.RowKit Pl
attribute [local go_sem ↓] Go.wp_at_zero Go.wp_at_succ

section
variable {w w' : World} {g : Nat} {t : TypeId} {a b c d : Value}
theorem Bk.set4 (h : Bk w g t [a, b, c, d]) (x y z u : Value) : Bk ((((w.setCell ⟨g, 0, none⟩ x).setCell ⟨g, 1, none⟩ y).setCell ⟨g, 2, none⟩ z).setCell ⟨g, 3, none⟩ u) g t [x, y, z, u] := (((h.set_ 0 x).set_ 1 y).set_ 2 z).set_ 3 u
theorem Bk.keep4 (h : Bk w g t [a, b, c, d]) (ht : t ≠ 85) (x y z u : Value) : Keep w ((((w.setCell ⟨g, 0, none⟩ x).setCell ⟨g, 1, none⟩ y).setCell ⟨g, 2, none⟩ z).setCell ⟨g, 3, none⟩ u) :=
  (((h.keepD ht _ _).trans ((h.set_ 0 x).keepD ht _ _)).trans (((h.set_ 0 x).set_ 1 y).keepD ht _ _)).trans ((((h.set_ 0 x).set_ 1 y).set_ 2 z).keepD ht _ _)
theorem Bk.far4 {g' : Nat} {cs : List Value} (h : Bk w g t cs) (hne : g ≠ g') (x y z u : Value) : Bk ((((w.setCell ⟨g', 0, none⟩ x).setCell ⟨g', 1, none⟩ y).setCell ⟨g', 2, none⟩ z).setCell ⟨g', 3, none⟩ u) g t cs :=
  (((h.far (p := ⟨g', 0, none⟩) hne x).far (p := ⟨g', 1, none⟩) hne y).far (p := ⟨g', 2, none⟩) hne z).far (p := ⟨g', 3, none⟩) hne u
theorem below_set4 {n : Nat} (h : Below n w w') (hg : n ≤ g) (x y z u : Value) : Below n w ((((w'.setCell ⟨g, 0, none⟩ x).setCell ⟨g, 1, none⟩ y).setCell ⟨g, 2, none⟩ z).setCell ⟨g, 3, none⟩ u) := (((h.setCell hg _).setCell hg _).setCell hg _).setCell hg _
end
theorem fin_frac {w w2 : World} {m g : Nat} {x y z u b s b' s' : Value} {a : RF} (hR : Bk w2 g 47 [x, y, z, u]) (d : FracM w2 (.agg #[b, s, b', s']) a) (hbe : Below m w w2) (hg : m ≤ g) :
    ∃ v', Ending.returned (.agg [b, s, b', s'].toArray) = .returned v' ∧ FracM ((((w2.setCell ⟨g, 0, none⟩ b).setCell ⟨g, 1, none⟩ s).setCell ⟨g, 2, none⟩ b').setCell ⟨g, 3, none⟩ s') v' a ∧ Below m w ((((w2.setCell ⟨g, 0, none⟩ b).setCell ⟨g, 1, none⟩ s).setCell ⟨g, 2, none⟩ b').setCell ⟨g, 3, none⟩ s') :=
  ⟨_, rfl, d.keep (hR.keep4 (by decide) _ _ _ _), below_set4 hbe hg _ _ _ _⟩

namespace Pl
theorem canF_words {n d : Int} (h : 0 < d) : canF (Rat.divInt n d) = ⟨canI (n / (Int.gcd d n : Nat)), canI (d / (Int.gcd d n : Nat))⟩ := by
  unfold canF
  rw [Rat.num_divInt, Rat.den_divInt, if_neg (by omega), Int.sign_eq_one_of_pos h, Int.one_mul, Int.natCast_ediv, Int.natAbs_of_nonneg (by omega)]
theorem gcd_stepI {a b : Int} (ha : 0 ≤ a) (hb : 0 ≤ b) : (b % a).gcd a = a.gcd b := by
  unfold Int.gcd
  rw [Int.natAbs_emod_of_nonneg hb, ← Nat.gcd_rec]
theorem small_factor {b k : Int} (hb : 0 < b) (h0 : -9223372036854775807 ≤ b * k) (h1 : b * k ≤ 9223372036854775807) : -9223372036854775807 ≤ k ∧ k ≤ 9223372036854775807 := by
  constructor
  · rcases Int.lt_or_le k 0 with h | h
    · have : b * k ≤ 1 * k := Int.mul_le_mul_of_nonpos_right (by omega) (by omega)
      omega
    · omega
  · rcases Int.lt_or_le k 0 with h | h
    · omega
    · have : 1 * k ≤ b * k := Int.mul_le_mul_of_nonneg_right (by omega) h
      omega
end Pl

set_option maxHeartbeats 1000000 in
theorem fromWords_any (n d : Int) (w : World) (h0 : -9223372036854775807 ≤ n) (h1 : n ≤ 9223372036854775807) (h2 : 0 < d) (h3 : d ≤ 9223372036854775807) :
    Calls Tryz.prog 105 #[.int .i64 n, .int .i64 d] w fun e w' => ∃ v', e = .returned v' ∧ FracM w' v' (canF (Rat.divInt n d)) ∧ Below w.heap.size w w' := by
  have hR := Bk.new w 47 [.bool false, .slice none 0 0, .bool false, .slice none 0 0]
  have hbe := below_new w (.cells [.bool false, .slice none 0 0, .bool false, .slice none 0 0].toArray 47)
  rcases Int.lt_or_le n 0 with hn | hn
  · go_enter Tryz.func105, Tryz.ntmps105
    go_wp2_with fail
    generalize w.alloc _ = W at *
    go_loop [5, 6] (fun x y => ∃ a b : Int, x = .int .i64 a ∧ y = .int .i64 b ∧ 0 ≤ a ∧ a ≤ 9223372036854775807 ∧ 0 < b ∧ b ≤ 9223372036854775807 ∧ Hid (Int.gcd a b = Int.gcd d n)) (fun x _ => (intOf x).toNat)
    case atStart => exact ⟨-n, d, by go_num, rfl, by omega, by omega, h2, h3, Lib.hid (by first | exact Int.gcd_comm _ _ | (rw [Int.gcd_comm]; simp))⟩
    case round =>
      obtain ⟨a, b, rfl, rfl, a0, a1, b0, b1, hg⟩ := hrel
      rcases Int.lt_or_eq_of_le a0 with ha | ha
      · have q0 : ¬ a = 0 := by omega
        have q2 : b.tmod a = b % a := Int.tmod_eq_emod_of_nonneg (by omega)
        have m0 : 0 ≤ b % a := Int.emod_nonneg _ (by omega)
        have m1 : b % a < a := Int.emod_lt_of_pos _ ha
        have q3 : IntKind.i64.wrap (b % a) = b % a := by simp only [IntKind.wrap, IntKind.bits, IntKind.signed]; simp; omega
        go_wp2
        go_round
        case rel => exact ⟨b % a, a, rfl, rfl, m0, by omega, ha, a1, Lib.hid (by rw [← hg.out]; exact gcd_stepI (by omega) (by omega))⟩
        case measure => simp [intOf]; omega
      · subst ha
        have hG : b = (Int.gcd d n : Nat) := by rw [← hg.out, Int.gcd_zero_left]; omega
        obtain ⟨n1, hn1⟩ : ∃ n1, n1 = n / b := ⟨_, rfl⟩
        obtain ⟨d1, hd1⟩ : ∃ d1, d1 = d / b := ⟨_, rfl⟩
        have dv1 : b ∣ n := by rw [hG]; exact Int.gcd_dvd_right ..
        have dv2 : b ∣ d := by rw [hG]; exact Int.gcd_dvd_left ..
        have q0 : ¬ b = 0 := by omega
        have q1 : n.tdiv b = n1 := by rw [hn1, Int.tdiv_eq_ediv_of_dvd dv1]
        have q2 : d.tdiv b = d1 := by rw [hd1, Int.tdiv_eq_ediv_of_dvd dv2]
        have bn : -9223372036854775807 ≤ n1 ∧ n1 ≤ 9223372036854775807 := by
          obtain ⟨k, hk⟩ := dv1
          rw [hn1, hk, Int.mul_ediv_cancel_left _ (by omega)]
          exact small_factor b0 (by omega) (by omega)
        have bd : -9223372036854775807 ≤ d1 ∧ d1 ≤ 9223372036854775807 := by
          obtain ⟨k, hk⟩ := dv2
          rw [hd1, hk, Int.mul_ediv_cancel_left _ (by omega)]
          exact small_factor b0 (by omega) (by omega)
        have hcan := canF_words h2 (n := n)
        rw [← hG, ← hn1, ← hd1] at hcan
        have HC := Lib.hid hcan
        obtain ⟨bn0, bn1⟩ := bn
        obtain ⟨bd0, bd1⟩ := bd
        have q3 : IntKind.i64.wrap n1 = n1 := by simp only [IntKind.wrap, IntKind.bits, IntKind.signed]; simp; omega
        have q4 : IntKind.i64.wrap d1 = d1 := by simp only [IntKind.wrap, IntKind.bits, IntKind.signed]; simp; omega
        have tok : True := trivial
        clear hG hn1 hd1 dv1 dv2 hcan
        go_wp2_with fail
        go_region_held3 (fun _ => True) (exact trivial)
          (first
            | (go_at_call 98; have _t := tok; refine (fromInt64_any n1 _ (by omega) (by omega)).mono ?_; clear tok _t; rintro e w1 ⟨v1, rfl, e1, hb1⟩; obtain ⟨A1, m1, k1, rfl, _⟩ := e1.shape)
            | (go_at_call 98; refine (fromInt64_any d1 _ (by omega) (by omega)).mono ?_; rintro e w2 ⟨v2, rfl, e2, hb2⟩; obtain ⟨A2, m2, k2, rfl, _⟩ := e2.shape; obtain ⟨c0, c1, c2, c3⟩ := ((hR.drew.later hb1).later hb2).four; obtain ⟨f0, f1, f2, f3⟩ := ((hR.drew.later hb1).later hb2).fourF))
        go_wp2
        refine ret_cell Tryz.results105 Tryz.underlying47 (by kernel_rfl) rfl (((hR.drew.later hb1).later hb2).set4 _ _ _ _) rfl ?_
        rw [HC.out]
        exact fin_frac ((hR.drew.later hb1).later hb2) (FracM.mk (e1.below hb2) e2) (below_then (below_then hbe.drew hb1 hbe.size) hb2 (Nat.le_trans hbe.size hb1.size)) (Nat.le_refl _)
  · go_enter Tryz.func105, Tryz.ntmps105
    go_wp2_with fail
    generalize w.alloc _ = W at *
    go_loop [5, 6] (fun x y => ∃ a b : Int, x = .int .i64 a ∧ y = .int .i64 b ∧ 0 ≤ a ∧ a ≤ 9223372036854775807 ∧ 0 < b ∧ b ≤ 9223372036854775807 ∧ Hid (Int.gcd a b = Int.gcd d n)) (fun x _ => (intOf x).toNat)
    case atStart => exact ⟨n, d, by go_num, rfl, by omega, by omega, h2, h3, Lib.hid (by first | exact Int.gcd_comm _ _ | (rw [Int.gcd_comm]; simp))⟩
    case round =>
      obtain ⟨a, b, rfl, rfl, a0, a1, b0, b1, hg⟩ := hrel
      rcases Int.lt_or_eq_of_le a0 with ha | ha
      · have q0 : ¬ a = 0 := by omega
        have q2 : b.tmod a = b % a := Int.tmod_eq_emod_of_nonneg (by omega)
        have m0 : 0 ≤ b % a := Int.emod_nonneg _ (by omega)
        have m1 : b % a < a := Int.emod_lt_of_pos _ ha
        have q3 : IntKind.i64.wrap (b % a) = b % a := by simp only [IntKind.wrap, IntKind.bits, IntKind.signed]; simp; omega
        go_wp2
        go_round
        case rel => exact ⟨b % a, a, rfl, rfl, m0, by omega, ha, a1, Lib.hid (by rw [← hg.out]; exact gcd_stepI (by omega) (by omega))⟩
        case measure => simp [intOf]; omega
      · subst ha
        have hG : b = (Int.gcd d n : Nat) := by rw [← hg.out, Int.gcd_zero_left]; omega
        obtain ⟨n1, hn1⟩ : ∃ n1, n1 = n / b := ⟨_, rfl⟩
        obtain ⟨d1, hd1⟩ : ∃ d1, d1 = d / b := ⟨_, rfl⟩
        have dv1 : b ∣ n := by rw [hG]; exact Int.gcd_dvd_right ..
        have dv2 : b ∣ d := by rw [hG]; exact Int.gcd_dvd_left ..
        have q0 : ¬ b = 0 := by omega
        have q1 : n.tdiv b = n1 := by rw [hn1, Int.tdiv_eq_ediv_of_dvd dv1]
        have q2 : d.tdiv b = d1 := by rw [hd1, Int.tdiv_eq_ediv_of_dvd dv2]
        have bn : -9223372036854775807 ≤ n1 ∧ n1 ≤ 9223372036854775807 := by
          obtain ⟨k, hk⟩ := dv1
          rw [hn1, hk, Int.mul_ediv_cancel_left _ (by omega)]
          exact small_factor b0 (by omega) (by omega)
        have bd : -9223372036854775807 ≤ d1 ∧ d1 ≤ 9223372036854775807 := by
          obtain ⟨k, hk⟩ := dv2
          rw [hd1, hk, Int.mul_ediv_cancel_left _ (by omega)]
          exact small_factor b0 (by omega) (by omega)
        have hcan := canF_words h2 (n := n)
        rw [← hG, ← hn1, ← hd1] at hcan
        have HC := Lib.hid hcan
        obtain ⟨bn0, bn1⟩ := bn
        obtain ⟨bd0, bd1⟩ := bd
        have q3 : IntKind.i64.wrap n1 = n1 := by simp only [IntKind.wrap, IntKind.bits, IntKind.signed]; simp; omega
        have q4 : IntKind.i64.wrap d1 = d1 := by simp only [IntKind.wrap, IntKind.bits, IntKind.signed]; simp; omega
        have tok : True := trivial
        clear hG hn1 hd1 dv1 dv2 hcan
        go_wp2_with fail
        go_region_held3 (fun _ => True) (exact trivial)
          (first
            | (go_at_call 98; have _t := tok; refine (fromInt64_any n1 _ (by omega) (by omega)).mono ?_; clear tok _t; rintro e w1 ⟨v1, rfl, e1, hb1⟩; obtain ⟨A1, m1, k1, rfl, _⟩ := e1.shape)
            | (go_at_call 98; refine (fromInt64_any d1 _ (by omega) (by omega)).mono ?_; rintro e w2 ⟨v2, rfl, e2, hb2⟩; obtain ⟨A2, m2, k2, rfl, _⟩ := e2.shape; obtain ⟨c0, c1, c2, c3⟩ := ((hR.drew.later hb1).later hb2).four; obtain ⟨f0, f1, f2, f3⟩ := ((hR.drew.later hb1).later hb2).fourF))
        go_wp2
        refine ret_cell Tryz.results105 Tryz.underlying47 (by kernel_rfl) rfl (((hR.drew.later hb1).later hb2).set4 _ _ _ _) rfl ?_
        rw [HC.out]
        exact fin_frac ((hR.drew.later hb1).later hb2) (FracM.mk (e1.below hb2) e2) (below_then (below_then hbe.drew hb1 hbe.size) hb2 (Nat.le_trans hbe.size hb1.size)) (Nat.le_refl _)
end Go.Proofs.YtpanffbgihhjnaaGreat

/- Walks: package rational: parts. -/
namespace Go.Proofs.YtpanffbgihhjnaaGreat
open Go.RowKit Pl
attribute [local go_sem ↓] Go.wp_at_zero Go.wp_at_succ

namespace Pl
theorem RI.Sm.canI_neg {a : RI} (h : a.Sm) : (canI (-a.z)).Sm := by
  unfold RI.Sm at h ⊢
  simp only [canI, val_digs, Int.natAbs_neg, z_natAbs]
  exact h
theorem sm_canI_small {z : Int} (h0 : -9223372036854775808 ≤ z) (h1 : z ≤ 9223372036854775807) : (canI z).Sm := by
  unfold RI.Sm
  simp only [canI, val_digs]
  have := digs_lt (n := z.natAbs) (k := 2) (by unfold B32; omega)
  omega
end Pl

theorem boxP (w : World) (x1 x2 x3 x4 : Value) : ∃ W, ((w.alloc (.cells #[x1, x2, x3, x4] 47)).alloc (.cells #[.bool false, .slice none 0 0] 45)).alloc (.cells #[.bool false, .slice none 0 0] 45) = W ∧ Bk W w.heap.size 47 [x1, x2, x3, x4] ∧
    Bk W (w.heap.size + 1) 45 [.bool false, .slice none 0 0] ∧ Bk W (w.heap.size + 1 + 1) 45 [.bool false, .slice none 0 0] ∧ Below w.heap.size w W := by
  refine ⟨_, rfl, ((Bk.new w _ [x1, x2, x3, x4]).alloc _).alloc _, ?_, ?_, ((below_new w _).alloc (by simp) _).alloc (by simp; omega) _⟩
  · have := Bk.new (w.alloc (.cells #[x1, x2, x3, x4] 47)) 45 [.bool false, .slice none 0 0]
    rw [size_alloc] at this
    exact this.alloc _
  · have := Bk.new ((w.alloc (.cells #[x1, x2, x3, x4] 47)).alloc (.cells #[.bool false, .slice none 0 0] 45)) 45 [.bool false, .slice none 0 0]
    rwa [size_alloc, size_alloc] at this

def PartsPost (a : RF) (w : World) (e : Ending) (w' : World) : Prop :=
  ∃ v1 v2 x y, e = .returned (.tuple #[v1, v2]) ∧ IntM w' v1 x ∧ IntM w' v2 y ∧ 0 < y.z ∧ Rat.divInt x.z y.z = a.q ∧ x.Sm ∧ y.Sm ∧ Below w.heap.size w w'

set_option maxHeartbeats 1000000 in
theorem parts_any (v : Value) (a : RF) (w : World) (h : FracM w v a) (hs : a.Sm) :
    Calls Tryz.prog 79 #[v] w (PartsPost a w) := by
  obtain ⟨A, n, c, A', n', c', rfl, hd, hd'⟩ := h
  obtain ⟨⟨neg, ds⟩, ⟨neg', ds'⟩⟩ := a
  obtain ⟨hs1, hs2⟩ := hs
  simp only at hd hd' ⊢
  obtain ⟨W, hW, hX, hR, hR', hbe⟩ := boxP w (.bool neg) (.slice A n c) (.bool neg') (.slice A' n' c')
  have e1 : IntM W (.agg #[.bool neg, .slice A n c]) ⟨neg, ds⟩ := ⟨_, rfl, hd.below hbe⟩
  have e2 : IntM W (.agg #[.bool neg', .slice A' n' c']) ⟨neg', ds'⟩ := ⟨_, rfl, hd'.below hbe⟩
  obtain ⟨p1, p2, p3, p4⟩ := hX.four
  go_enter Tryz.func79, Tryz.ntmps79
  go_wp2_with fail
  clear hW
  refine (sign_any _ ⟨neg', ds'⟩ _ e2).mono ?_
  rintro e w1 ⟨rfl, hb1⟩
  have hX1 := hX.later hb1
  have hR1 := hR.later hb1
  have hR1' := hR'.later hb1
  have hbe1 := below_then hbe hb1 hbe.size
  have e11 := e1.below hb1
  have e21 := e2.below hb1
  clear hX hR hR' hbe e1 e2 hb1 p1 p2 p3 p4
  have hn1 : w.heap.size + 1 ≠ w.heap.size + 1 + 1 := by omega
  have hn2 : w.heap.size ≠ w.heap.size + 1 := by omega
  have hn3 : w.heap.size ≠ w.heap.size + 1 + 1 := by omega
  obtain ⟨p1, p2, p3, p4⟩ := hX1.four
  rcases Int.lt_trichotomy (RI.z ⟨neg', ds'⟩) 0 with hz | hz | hz
  · have HZ := Lib.hid hz
    rw [sgn_neg hz]
    clear hz
    go_wp2_with fail
    have tok : True := trivial
    go_region_held3 (fun w' => w'.cell? ⟨w.heap.size, 0, none⟩ = some (.bool neg) ∧ w'.cell? ⟨w.heap.size, 1, none⟩ = some (.slice A n c) ∧ w'.cell? ⟨w.heap.size, 2, none⟩ = some (.bool neg') ∧ w'.cell? ⟨w.heap.size, 3, none⟩ = some (.slice A' n' c'))
      (first | with_reducible exact hX1.four | with_reducible exact hX1.drew.four | with_reducible exact (hX1.drew.later hb6).four | with_reducible exact ((hX1.drew.later hb6).later hb7).four | with_reducible exact (((hX1.drew.later hb6).later hb7).far2 hn2 _ _).four | with_reducible exact ((((hX1.drew.later hb6).later hb7).far2 hn2 _ _).far2 hn3 _ _).four)
      (first
        | (go_at_call 99; have _t := tok; refine (negate_any _ ⟨neg, ds⟩ _ (e11.keep (Keep.drew _)) (Nat.le_trans hs1 (by decide))).mono ?_; clear tok _t; rintro e w6 ⟨v6, rfl, e6, hb6⟩; obtain ⟨A6, n6, k6, rfl, _⟩ := e6.shape)
        | (go_at_call 99; refine (negate_any _ ⟨neg', ds'⟩ _ ((e21.keep (Keep.drew _)).below hb6) (Nat.le_trans hs2 (by decide))).mono ?_; rintro e w7 ⟨v7, rfl, e7, hb7⟩; obtain ⟨A7, n7, k7, rfl, _⟩ := e7.shape; obtain ⟨c0, c1, f0, f1⟩ := ((hR1.drew.later hb6).later hb7).two; obtain ⟨c0', c1', f0', f1'⟩ := ((hR1'.drew.later hb6).later hb7).two))
    go_wp2
    obtain ⟨a1, a2, a3, a4, a5⟩ := fin_div ((hR1.drew.later hb6).later hb7) ((hR1'.drew.later hb6).later hb7) hn1 (e6.below hb7) e7 (below_then (below_then hbe1.drew hb6 hbe1.size) hb7 (Nat.le_trans hbe1.size hb6.size)) (by omega) (by omega)
    refine ret_cc Tryz.results79 Tryz.underlying45 Tryz.underlying45 (by kernel_rfl) (by kernel_rfl) rfl rfl a1 a2 rfl ?_
    refine ⟨_, _, _, _, rfl, a3, a4, ?_, ?_, RI.Sm.canI_neg hs1, RI.Sm.canI_neg hs2, a5⟩
    · rw [canI_z]; have := HZ.out; omega
    · rw [canI_z, canI_z, Rat.neg_divInt_neg]; rfl
  · have HZ := Lib.hid hz
    rw [hz, sgn_zero]
    clear hz
    go_wp2_with fail
    refine (fromInt64_any 1 _ (by omega) (by omega)).mono ?_
    rintro e w2 ⟨v2, rfl, e6, hb2⟩
    obtain ⟨A2, n2, k2, rfl, _⟩ := e6.shape
    have hR2 := hR1.later hb2
    have hR2' := hR1'.later hb2
    have hbe2 := below_then hbe1 hb2 hbe1.size
    obtain ⟨c0, c1, f0, f1⟩ := hR2.two
    obtain ⟨c0', c1', f0', f1'⟩ := hR2'.two
    go_wp2
    obtain ⟨a1, a2, a3, a4, a5⟩ := fin_div hR2 hR2' hn1 (IntM.zero w2) e6 hbe2 (by omega) (by omega)
    refine ret_cc Tryz.results79 Tryz.underlying45 Tryz.underlying45 (by kernel_rfl) (by kernel_rfl) rfl rfl a1 a2 rfl ?_
    refine ⟨_, _, _, _, rfl, a3, a4, ?_, ?_, sm_canI_small (by omega) (by omega), sm_canI_small (by omega) (by omega), a5⟩
    · rw [canI_z]; omega
    · rw [canI_z, canI_z, Rat.zero_divInt]
      show _ = Rat.divInt (RI.z _) (RI.z _)
      rw [HZ.out, Rat.divInt_zero]
  · have HZ := Lib.hid hz
    rw [sgn_pos hz]
    clear hz
    obtain ⟨c0, c1, f0, f1⟩ := hR1.two
    obtain ⟨c0', c1', f0', f1'⟩ := hR1'.two
    go_wp2_with fail
    go_region_held3 (fun w' => w'.cell? ⟨w.heap.size, 0, none⟩ = some (.bool neg) ∧ w'.cell? ⟨w.heap.size, 1, none⟩ = some (.slice A n c) ∧ w'.cell? ⟨w.heap.size, 2, none⟩ = some (.bool neg') ∧ w'.cell? ⟨w.heap.size, 3, none⟩ = some (.slice A' n' c'))
      (first | with_reducible exact hX1.four | with_reducible exact hX1.drew.four | with_reducible exact (hX1.far2 hn2 _ _).drew.four | with_reducible exact ((hX1.far2 hn2 _ _).far2 hn3 _ _).drew.four)
      (fail)
    go_wp2
    obtain ⟨a1, a2, a3, a4, a5⟩ := fin_div hR1 hR1' hn1 e11 e21 hbe1 (by omega) (by omega)
    refine ret_cc Tryz.results79 Tryz.underlying45 Tryz.underlying45 (by kernel_rfl) (by kernel_rfl) rfl rfl a1.drew a2.drew rfl ?_
    exact ⟨_, _, _, _, rfl, a3.keep (Keep.drew _), a4.keep (Keep.drew _), HZ.out, rfl, hs1, hs2, a5.drew⟩
end Go.Proofs.YtpanffbgihhjnaaGreat

/- Walks: package rational: reduce. -/
namespace Go.Proofs.YtpanffbgihhjnaaGreat
open Go.RowKit Pl
attribute [local go_sem ↓] Go.wp_at_zero Go.wp_at_succ

theorem boxR (w : World) (x y x' y' : Value) : ∃ W, ((w.alloc (.cells #[x, y] 45)).alloc (.cells #[x', y'] 45)).alloc (.cells #[.bool false, .slice none 0 0, .bool false, .slice none 0 0] 47) = W ∧ Bk W w.heap.size 45 [x, y] ∧ Bk W (w.heap.size + 1) 45 [x', y'] ∧ Bk W (w.heap.size + 1 + 1) 47 [.bool false, .slice none 0 0, .bool false, .slice none 0 0] ∧ Below w.heap.size w W := by
  refine ⟨_, rfl, ((Bk.new w _ [x, y]).alloc _).alloc _, ?_, ?_, ((below_new w _).alloc (by simp) _).alloc (by simp; omega) _⟩
  · have := Bk.new (w.alloc (.cells #[x, y] 45)) 45 [x', y']
    rw [size_alloc] at this
    exact this.alloc _
  · have := Bk.new ((w.alloc (.cells #[x, y] 45)).alloc (.cells #[x', y'] 45)) 47 [.bool false, .slice none 0 0, .bool false, .slice none 0 0]
    rwa [size_alloc, size_alloc] at this

def RedAt (a b : RI) (w : World) (x y : RI) (wx : World) (B B' : Option Addr) (m d m' d' : Nat) : Prop :=
  Bk wx w.heap.size 45 [.bool x.neg, .slice B m d] ∧ Bk wx (w.heap.size + 1) 45 [.bool y.neg, .slice B' m' d'] ∧ Bk wx (w.heap.size + 1 + 1) 47 [.bool false, .slice none 0 0, .bool false, .slice none 0 0] ∧ Below w.heap.size w wx ∧
  IntM wx (.agg #[.bool x.neg, .slice B m d]) x ∧ IntM wx (.agg #[.bool y.neg, .slice B' m' d']) y ∧ 0 < y.z ∧ Rat.divInt x.z y.z = Rat.divInt a.z b.z ∧ (digs (val x.ds)).length ≤ 549755813888 ∧ (digs (val y.ds)).length ≤ 549755813888

set_option maxHeartbeats 1000000 in
theorem reduce_any (v1 v2 : Value) (a b : RI) (w : World) (h1 : IntM w v1 a) (h2 : IntM w v2 b) (hs : (digs (val a.ds)).length ≤ 549755813888) (hs2 : (digs (val b.ds)).length ≤ 549755813888) (hb : b.z ≠ 0) :
    Calls Tryz.prog 106 #[v1, v2] w fun e w' => ∃ v', e = .returned v' ∧ FracM w' v' (canF (Rat.divInt a.z b.z)) ∧ Below w.heap.size w w' := by
  obtain ⟨A, n, c, rfl, hd⟩ := h1.shape
  obtain ⟨A', n', c', rfl, hd'⟩ := h2.shape
  obtain ⟨W, hW, hX, hX', hR, hbe⟩ := boxR w (.bool a.neg) (.slice A n c) (.bool b.neg) (.slice A' n' c')
  have e1 := h1.below hbe
  have e2 := h2.below hbe
  have HB := Lib.hid hb
  clear hb hd hd' h1 h2
  obtain ⟨x0, x1, _, _⟩ := hX.two
  go_enter Tryz.func106, Tryz.ntmps106
  go_wp2_with fail
  clear hW
  refine (sign_any _ a _ e1).mono ?_
  rintro e w1 ⟨rfl, hb1⟩
  have hX1 := hX.later hb1
  have hX1' := hX'.later hb1
  have hR1 := hR.later hb1
  have hbe1 := below_then hbe hb1 hbe.size
  have e11 := e1.below hb1
  have e21 := e2.below hb1
  clear hX hX' hR hbe e1 e2 hb1 x0 x1
  by_cases ha : a.z = 0
  · rw [ha, sgn_zero]
    have HA := Lib.hid ha
    clear ha
    go_wp2_with fail
    refine (fromWords_any 0 1 _ (by omega) (by omega) (by omega) (by omega)).mono ?_
    rw [show Rat.divInt 0 1 = Rat.divInt a.z b.z from by rw [HA.out, Rat.zero_divInt, Rat.zero_divInt]]
    rintro e w2 ⟨v2, rfl, e3, hb2⟩
    have hR2 := hR1.later hb2
    obtain ⟨B, m, d, B', m', d', rfl, _, _⟩ := id e3
    obtain ⟨c0, c1, c2, c3⟩ := hR2.four
    obtain ⟨f0, f1, f2, f3⟩ := hR2.fourF
    go_wp2
    refine ret_cell Tryz.results106 Tryz.underlying47 (by kernel_rfl) rfl (hR2.set4 _ _ _ _) rfl ?_
    exact fin_frac hR2 e3 (below_then hbe1 hb2 hbe1.size) (by omega)
  · have hsg : (sgn a.z == 0) = false := by unfold sgn; split; rfl; rfl
    have HA := Lib.hid ha
    clear ha
    obtain ⟨y0, y1, _, _⟩ := hX1'.two
    go_wp2_with fail
    refine (sign_any _ b _ e21).mono ?_
    rintro e w2 ⟨rfl, hb2⟩
    have hX2 := hX1.later hb2
    have hX2' := hX1'.later hb2
    have hR2 := hR1.later hb2
    have hbe2 := below_then hbe1 hb2 hbe1.size
    have e12 := e11.below hb2
    have e22 := e21.below hb2
    clear hX1 hX1' hR1 hbe1 e11 e21 hb2 y0 y1 hsg
    have tok : True := trivial
    go_upto_if 18 with (fail)
    go_cut [2, 3] (fun s2 s3 wx => s2 = .pointer (some ⟨w.heap.size, 0, none⟩) ∧ s3 = .pointer (some ⟨w.heap.size + 1, 0, none⟩) ∧ ∃ (x y : RI) (B B' : Option Addr) (m d m' d' : Nat), RedAt a b w x y wx B B' m d m' d')
    case first =>
      rcases Int.lt_or_le b.z 0 with hz | hz
      · have HN := Lib.hid hz
        have hsg : sgn b.z = -1 := sgn_neg hz
        have hn1 : w.heap.size ≠ w.heap.size + 1 := by omega
        have hn2 : w.heap.size + 1 + 1 ≠ w.heap.size := by omega
        have hn3 : w.heap.size + 1 + 1 ≠ w.heap.size + 1 := by omega
        clear hz
        obtain ⟨x0, x1, f0, f1⟩ := hX2.two
        obtain ⟨y0, y1, k0, k1⟩ := hX2'.two
        go_wp2_with fail
        clear hsg
        go_region_with (first
          | (go_at_call 99; have _t := tok; refine (negate_any _ a _ (e12.keep (Keep.drew _)) hs).mono ?_; clear tok _t; rintro e w6 ⟨v6, rfl, e6, hb6⟩; obtain ⟨A6, n6, k6, rfl, _⟩ := e6.shape; obtain ⟨y0', y1', _, _⟩ := (hX2'.drew.later hb6).two)
          | (go_at_call 99; refine (negate_any _ b _ ((e22.keep (Keep.drew _)).below hb6) hs2).mono ?_; rintro e w7 ⟨v7, rfl, e7, hb7⟩; obtain ⟨A7, n7, k7, rfl, _⟩ := e7.shape; obtain ⟨c0, c1, r0, r1⟩ := ((hX2.drew.later hb6).later hb7).two; obtain ⟨c0', c1', r0', r1'⟩ := ((hX2'.drew.later hb6).later hb7).two))
        all_goals
          go_wp2_with fail
          go_meet
          obtain ⟨a1, a2, a3, a4, a5⟩ := fin_div ((hX2.drew.later hb6).later hb7) ((hX2'.drew.later hb6).later hb7) hn1 (e6.below hb7) e7 (below_then (below_then hbe2.drew hb6 hbe2.size) hb7 (Nat.le_trans hbe2.size hb6.size)) (by omega) (by omega)
          refine ⟨rfl, rfl, _, _, A6, A7, n6, k6, n7, k7, a1, a2, ((((hR2.drew.later hb6).later hb7).far2 hn2 _ _).far2 hn3 _ _), a5, a3, a4, ?_, ?_, ?_, ?_⟩
          · rw [canI_z]; have := HN.out; omega
          · rw [canI_z, canI_z, Rat.neg_divInt_neg]
          · simp only [canI, val_digs, Int.natAbs_neg, z_natAbs]; exact hs
          · simp only [canI, val_digs, Int.natAbs_neg, z_natAbs]; exact hs2
      · have hz' : 0 < b.z := by have := HB.out; omega
        have hsg : sgn b.z = 1 := sgn_pos hz'
        have HZ := Lib.hid hz'
        clear hz hz'
        go_wp2_with fail
        go_meet
        exact ⟨rfl, rfl, a, b, A, A', n, c, n', c', hX2, hX2', hR2, hbe2, e12, e22, HZ.out, rfl, hs, hs2⟩
    case rest =>
      obtain ⟨rfl, rfl, x, y, B, B', m, d, m', d', hX3, hX3', hR3, hbe3, e13, e23, hy, hxy, hl1, hl2⟩ := hcut
      have HZ := Lib.hid hy
      have HXY := Lib.hid hxy
      clear hy hxy hX2 hX2' hR2 hbe2 e12 e22 hs hs2 tok
      obtain ⟨x0, x1, _, _⟩ := hX3.two
      obtain ⟨y0, y1, _, _⟩ := hX3'.two
      go_wp2_with fail
      refine (gcdI_any _ _ x y _ e13 e23 hl1 hl2).mono ?_
      rintro e w6 ⟨v6, rfl, e6, hb6⟩
      obtain ⟨A6, n6, k6, rfl, _⟩ := e6.shape
      have bX := hX3.later hb6
      have bY := hX3'.later hb6
      have bR := hR3.later hb6
      have be6 := below_then hbe3 hb6 hbe3.size
      have i1 := e13.below hb6
      have i2 := e23.below hb6
      clear hX3 hX3' hR3 hbe3 e13 e23 hb6 x0 x1 y0 y1
      have gz : (canI (Int.gcd (RI.z x) (RI.z y) : Nat)).z = (Int.gcd (RI.z x) (RI.z y) : Nat) := canI_z _
      have gs : (digs (val (canI (Int.gcd (RI.z x) (RI.z y) : Nat)).ds)).length ≤ 549755813888 := by
        rw [show val (canI (Int.gcd (RI.z x) (RI.z y) : Nat)).ds = Int.gcd (RI.z x) (RI.z y) from by simp [canI, val_digs]]
        refine Nat.le_trans (digs_len_mono (Nat.le_of_dvd ?_ (show Int.gcd (RI.z x) (RI.z y) ∣ val (RI.ds y) from by rw [← z_natAbs]; exact Int.gcd_dvd_natAbs_right ..))) hl2
        have := HZ.out
        have := z_natAbs y
        omega
      generalize canI (Int.gcd (RI.z x) (RI.z y) : Nat) = G at *
      have GZ := Lib.hid gz
      clear gz
      have bG := Bk.new w6 45 [.bool G.neg, .slice A6 n6 k6]
      have bn := below_new w6 (.cells [.bool G.neg, .slice A6 n6 k6].toArray 45)
      have cX := bX.later bn
      have cY := bY.later bn
      have cR := bR.later bn
      have be7 := below_then be6 bn be6.size
      have j1 := i1.below bn
      have j2 := i2.below bn
      have j3 := e6.below bn
      obtain ⟨x0, x1, _, _⟩ := cX.two
      obtain ⟨y0, y1, _, _⟩ := cY.two
      obtain ⟨g0, g1, _, _⟩ := bG.two
      clear bX bY bR be6 i1 i2 e6 bn
      go_wp2_with fail
      generalize w6.alloc _ = W7 at *
      refine (divModI_any _ _ x G _ j1 j3 hl1 gs).mono ?_
      have hG0 : G.z ≠ 0 := by
        rw [GZ.out]
        have := Int.gcd_pos_of_ne_zero_right (RI.z x) (show RI.z y ≠ 0 by have := HZ.out; omega)
        omega
      rintro e w8 ⟨q, r, rfl, dq, dr, hb8⟩
      rw [if_neg hG0] at dq dr ⊢
      obtain ⟨A8, n8, k8, rfl, _⟩ := dq.shape
      obtain ⟨A9, n9, k9, rfl, _⟩ := dr.shape
      have bX := cX.later hb8
      have bY := cY.later hb8
      have bR := cR.later hb8
      have bG8 := bG.later hb8
      have be8 := below_then be7 hb8 be7.size
      have i2 := j2.below hb8
      have i3 := j3.below hb8
      clear cX cY cR be7 j1 j2 j3 bG hb8 x0 x1 y0 y1 g0 g1
      have HG0 := Lib.hid hG0
      clear hG0
      have hq : canI ((RI.z x).fdiv G.z) = canI ((RI.z x) / G.z) := by rw [Int.fdiv_eq_ediv_of_nonneg _ (by rw [GZ.out]; omega)]
      rw [hq] at dq ⊢
      clear hq
      generalize canI ((RI.z x).fmod G.z) = R1 at *
      generalize hQ1 : canI ((RI.z x) / G.z) = Q1 at *
      have HQ1 := Lib.hid hQ1
      clear hQ1
      have bQ := (Bk.new w8 45 [.bool Q1.neg, .slice A8 n8 k8]).alloc (.cells #[.bool R1.neg, .slice A9 n9 k9] 45)
      have bn := (below_new w8 (.cells [.bool Q1.neg, .slice A8 n8 k8].toArray 45)).alloc (by simp) (.cells #[.bool R1.neg, .slice A9 n9 k9] 45)
      have cX := bX.later bn
      have cY := bY.later bn
      have cR := bR.later bn
      have cG := bG8.later bn
      have be9 := below_then be8 bn be8.size
      have j2 := i2.below bn
      have j3 := i3.below bn
      have j4 := dq.below bn
      obtain ⟨y0, y1, _, _⟩ := cY.two
      obtain ⟨g0, g1, _, _⟩ := cG.two
      obtain ⟨q0, q1, _, _⟩ := bQ.two
      clear bX bY bR bG8 be8 i2 i3 dq dr bn
      go_wp2_with fail
      generalize (w8.alloc _).alloc _ = W9 at *
      refine (divModI_any _ _ y G _ j2 j3 hl2 gs).mono ?_
      rintro e w10 ⟨q', r', rfl, dq, dr, hb10⟩
      rw [if_neg HG0.out] at dq dr ⊢
      obtain ⟨A10, n10, k10, rfl, _⟩ := dq.shape
      obtain ⟨A11, n11, k11, rfl, _⟩ := dr.shape
      have bR := cR.later hb10
      have bQ10 := bQ.later hb10
      have be10 := below_then be9 hb10 be9.size
      have i4 := j4.below hb10
      clear cX cY cR cG be9 j2 j3 j4 bQ hb10 y0 y1 g0 g1 q0 q1
      have hq : canI ((RI.z y).fdiv G.z) = canI ((RI.z y) / G.z) := by rw [Int.fdiv_eq_ediv_of_nonneg _ (by rw [GZ.out]; omega)]
      rw [hq] at dq ⊢
      clear hq
      generalize canI ((RI.z y).fmod G.z) = R2 at *
      generalize hQ2 : canI ((RI.z y) / G.z) = Q2 at *
      have HQ2 := Lib.hid hQ2
      clear hQ2
      have bD := (Bk.new w10 45 [.bool Q2.neg, .slice A10 n10 k10]).alloc (.cells #[.bool R2.neg, .slice A11 n11 k11] 45)
      have bn := (below_new w10 (.cells [.bool Q2.neg, .slice A10 n10 k10].toArray 45)).alloc (by simp) (.cells #[.bool R2.neg, .slice A11 n11 k11] 45)
      have cR := bR.later bn
      have cQ := bQ10.later bn
      have be11 := below_then be10 bn be10.size
      have j4 := i4.below bn
      have j5 := dq.below bn
      obtain ⟨q0, q1, _, _⟩ := cQ.two
      obtain ⟨d0, d1, _, _⟩ := bD.two
      obtain ⟨c0, c1, c2, c3⟩ := cR.four
      obtain ⟨f0, f1, f2, f3⟩ := cR.fourF
      clear bR bQ10 be10 i4 dq dr bn
      generalize hW11 : (w10.alloc _).alloc _ = W11 at *
      go_wp2
      refine ret_cell Tryz.results106 Tryz.underlying47 (by kernel_rfl) rfl (cR.set4 _ _ _ _) rfl ?_
      rw [← HXY.out, canF_words HZ.out, Int.gcd_comm, ← GZ.out, HQ1.out, HQ2.out]
      exact fin_frac cR (FracM.mk j4 j5) be11 (by omega)
end Go.Proofs.YtpanffbgihhjnaaGreat

/- Walks: package rational: New, FromInts, Sign. -/
namespace Go.Proofs.YtpanffbgihhjnaaGreat
open Go.RowKit Pl
attribute [local go_sem ↓] Go.wp_at_zero Go.wp_at_succ

namespace Pl
def qs (q : Rat) : Int := sgn q.num
theorem sgn_div {x g : Int} (hg : 0 < g) (h : g ∣ x) : sgn (x / g) = sgn x := by
  obtain ⟨k, rfl⟩ := h
  rw [Int.mul_ediv_cancel_left _ (by omega)]
  unfold sgn
  rcases Int.lt_trichotomy k 0 with h | h | h
  · rw [if_pos h, if_pos (Int.mul_neg_of_pos_of_neg hg h)]
  · subst h; simp
  · have := Int.mul_pos hg h
    rw [if_neg (by omega), if_neg (by omega), if_neg (by omega), if_neg (by omega)]
theorem qs_divInt (n d : Int) : qs (Rat.divInt n d) = sgn n * sgn d := by
  unfold qs
  rw [Rat.num_divInt]
  rcases Int.lt_trichotomy d 0 with h | h | h
  · have hg : 0 < ((Int.gcd d n : Nat) : Int) := by have := Int.gcd_pos_of_ne_zero_left n (show d ≠ 0 by omega); omega
    rw [Int.sign_eq_neg_one_of_neg h, sgn_div hg (Int.dvd_mul_of_dvd_right (Int.gcd_dvd_right ..)), sgn_neg h]
    unfold sgn
    rcases Int.lt_trichotomy n 0 with k | k | k
    · rw [if_neg (by omega), if_neg (by omega), if_pos k]; rfl
    · subst k; simp
    · rw [if_pos (by omega), if_neg (by omega), if_neg (by omega)]; rfl
  · subst h; simp [sgn_zero]
  · have hg : 0 < ((Int.gcd d n : Nat) : Int) := by have := Int.gcd_pos_of_ne_zero_left n (show d ≠ 0 by omega); omega
    rw [Int.sign_eq_one_of_pos h, sgn_div hg (Int.dvd_mul_of_dvd_right (Int.gcd_dvd_right ..)), sgn_pos h, Int.one_mul, Int.mul_one]
theorem sgn_bd (z : Int) : -1 ≤ sgn z ∧ sgn z ≤ 1 := by unfold sgn; split; omega; split <;> omega
theorem qs_bd (q : Rat) : -1 ≤ qs q ∧ qs q ≤ 1 := sgn_bd _
def zeroF : RF := ⟨canI 0, canI 0⟩
end Pl

theorem FracM.zero (w : World) : FracM w (.agg #[.bool false, .slice none 0 0, .bool false, .slice none 0 0]) zeroF := by
  have h := IntM.zero w
  have := FracM.mk (x := canI 0) (y := canI 0) (by rw [canI_zero] at h ⊢; exact h) (by rw [canI_zero] at h ⊢; exact h)
  rw [canI_zero] at this
  unfold zeroF
  rw [canI_zero]
  exact this

def NewPost (n d : Int) (w : World) (e : Ending) (w' : World) : Prop :=
  ∃ v', e = .returned (.tuple #[v', .int .i64 (if d = 0 then 11 else 0)]) ∧ FracM w' v' (if d = 0 then zeroF else canF (Rat.divInt n d)) ∧ Below w.heap.size w w'

set_option maxHeartbeats 1000000 in
theorem new_any (v1 v2 : Value) (a b : RI) (w : World) (h1 : IntM w v1 a) (h2 : IntM w v2 b) (hs : (digs (val a.ds)).length ≤ 549755813888) (hs2 : (digs (val b.ds)).length ≤ 549755813888) :
    Calls Tryz.prog 104 #[v1, v2] w (NewPost a.z b.z w) := by
  obtain ⟨A, n, c, rfl, hd⟩ := h1.shape
  obtain ⟨A', n', c', rfl, hd'⟩ := h2.shape
  obtain ⟨W, hW, hX, hX', hR, hbe⟩ := boxR w (.bool a.neg) (.slice A n c) (.bool b.neg) (.slice A' n' c')
  have e1 := h1.below hbe
  have e2 := h2.below hbe
  clear hd hd' h1 h2
  obtain ⟨x0, x1, _, _⟩ := hX'.two
  go_enter Tryz.func104, Tryz.ntmps104
  go_wp2_with fail
  clear hW
  refine (sign_any _ b _ e2).mono ?_
  rintro e w1 ⟨rfl, hb1⟩
  have hX1 := hX.later hb1
  have hX1' := hX'.later hb1
  have hR1 := hR.later hb1
  have hbe1 := below_then hbe hb1 hbe.size
  have e11 := e1.below hb1
  have e21 := e2.below hb1
  clear hX hX' hR hbe e1 e2 hb1 x0 x1
  by_cases ha : b.z = 0
  · rw [ha, sgn_zero]
    have HA := Lib.hid ha
    clear ha
    obtain ⟨c0, c1, c2, c3⟩ := hR1.four
    obtain ⟨f0, f1, f2, f3⟩ := hR1.fourF
    go_wp2
    refine ret_ct Tryz.results104 Tryz.underlying47 (by kernel_rfl) rfl (hR1.set4 _ _ _ _) rfl ?_
    obtain ⟨v', q1, q2, q3⟩ := fin_frac hR1 (FracM.zero w1) hbe1 (show w.heap.size ≤ w.heap.size + 1 + 1 by omega)
    injection q1 with q1
    subst q1
    exact ⟨_, by rw [if_pos HA.out]; rfl, by rw [if_pos HA.out]; exact q2, q3⟩
  · have hsg : (sgn b.z == 0) = false := by unfold sgn; split; rfl; rfl
    have HA := Lib.hid ha
    clear ha
    obtain ⟨x0, x1, _, _⟩ := hX1.two
    obtain ⟨y0, y1, _, _⟩ := hX1'.two
    go_wp2_with fail
    refine (reduce_any _ _ a b _ e11 e21 hs hs2 HA.out).mono ?_
    rintro e w2 ⟨v2, rfl, e3, hb2⟩
    have hR2 := hR1.later hb2
    obtain ⟨B, m, d, B', m', d', rfl, _, _⟩ := id e3
    obtain ⟨c0, c1, c2, c3⟩ := hR2.four
    obtain ⟨f0, f1, f2, f3⟩ := hR2.fourF
    go_wp2
    refine ret_ct Tryz.results104 Tryz.underlying47 (by kernel_rfl) rfl (hR2.set4 _ _ _ _) rfl ?_
    obtain ⟨v', q1, q2, q3⟩ := fin_frac hR2 e3 (below_then hbe1 hb2 hbe1.size) (show w.heap.size ≤ w.heap.size + 1 + 1 by omega)
    injection q1 with q1
    subst q1
    exact ⟨_, by rw [if_neg HA.out]; rfl, by rw [if_neg HA.out]; exact q2, q3⟩

set_option maxHeartbeats 1000000 in
theorem fromInts_any (n d : Int) (w : World) (h0 : -9223372036854775808 ≤ n) (h1 : n ≤ 9223372036854775807) (h2 : -9223372036854775808 ≤ d) (h3 : d ≤ 9223372036854775807) :
    Calls Tryz.prog 82 #[.int .i64 n, .int .i64 d] w (NewPost n d w) := by
  have hR := Bk.new w 47 [.bool false, .slice none 0 0, .bool false, .slice none 0 0]
  have hbe := below_new w (.cells [.bool false, .slice none 0 0, .bool false, .slice none 0 0].toArray 47)
  go_enter Tryz.func82, Tryz.ntmps82
  go_wp2_with fail
  generalize w.alloc _ = W at *
  refine (fromInt64_any n _ h0 h1).mono ?_
  rintro e w1 ⟨v1, rfl, e1, hb1⟩
  go_wp2_with fail
  refine (fromInt64_any d _ h2 h3).mono ?_
  rintro e w2 ⟨v2, rfl, e2, hb2⟩
  go_wp2_with fail
  refine (new_any _ _ (canI n) (canI d) _ (e1.below hb2) e2 (Nat.le_trans (sm_canI_small h0 h1) (by decide)) (Nat.le_trans (sm_canI_small h2 h3) (by decide))).mono ?_
  rw [canI_z, canI_z]
  rintro e w3 ⟨v3, rfl, e3, hb3⟩
  generalize hE : (if d = 0 then (11 : Int) else 0) = ee at *
  generalize hF : (if d = 0 then zeroF else canF (Rat.divInt n d)) = ff at *
  have HE := Lib.hid hE
  have HF := Lib.hid hF
  clear hE hF
  have hR3 := ((hR.later hb1).later hb2).later hb3
  have b1 := below_then hbe hb1 hbe.size
  have b2 := below_then b1 hb2 b1.size
  have b3 := below_then b2 hb3 b2.size
  obtain ⟨B, m, d', B', m', d'', rfl, _, _⟩ := id e3
  obtain ⟨c0, c1, c2, c3⟩ := hR3.four
  obtain ⟨f0, f1, f2, f3⟩ := hR3.fourF
  go_wp2
  refine ret_ct Tryz.results82 Tryz.underlying47 (by kernel_rfl) rfl (hR3.set4 _ _ _ _) rfl ?_
  obtain ⟨v', q1, q2, q3⟩ := fin_frac hR3 e3 b3 (Nat.le_refl _)
  injection q1 with q1
  subst q1
  exact ⟨_, by rw [HE.out]; rfl, by rw [HF.out]; exact q2, q3⟩

set_option maxHeartbeats 1000000 in
theorem signF_any (v : Value) (a : RF) (w : World) (h : FracM w v a) :
    Calls Tryz.prog 69 #[v] w fun e w' => e = .returned (.int .i64 (qs a.q)) ∧ Below w.heap.size w w' := by
  obtain ⟨A, n, c, A', n', c', rfl, hd, hd'⟩ := h
  have hX := Bk.new w 47 [.bool a.num.neg, .slice A n c, .bool a.den.neg, .slice A' n' c']
  have hbe := below_new w (.cells [.bool a.num.neg, .slice A n c, .bool a.den.neg, .slice A' n' c'].toArray 47)
  have e1 : IntM w (.agg #[.bool a.num.neg, .slice A n c]) a.num := ⟨_, rfl, hd⟩
  have e2 : IntM w (.agg #[.bool a.den.neg, .slice A' n' c']) a.den := ⟨_, rfl, hd'⟩
  have e1 := e1.below hbe
  have e2 := e2.below hbe
  have HS := Lib.hid (qs_divInt a.num.z a.den.z)
  have hw : IntKind.i64.wrap (sgn a.num.z * sgn a.den.z) = sgn a.num.z * sgn a.den.z := by
    have := sgn_bd a.num.z
    have := sgn_bd a.den.z
    rw [← HS.out]
    have := qs_bd (Rat.divInt a.num.z a.den.z)
    simp only [IntKind.wrap, IntKind.bits, IntKind.signed]; simp; omega
  have tok : True := trivial
  go_enter Tryz.func69, Tryz.ntmps69
  go_wp2_with fail
  generalize w.alloc _ = W at *
  go_region_held3 (fun w' => w'.cell? ⟨w.heap.size, 0, none⟩ = some (.bool a.num.neg) ∧ w'.cell? ⟨w.heap.size, 1, none⟩ = some (.slice A n c) ∧ w'.cell? ⟨w.heap.size, 2, none⟩ = some (.bool a.den.neg) ∧ w'.cell? ⟨w.heap.size, 3, none⟩ = some (.slice A' n' c'))
    (first | with_reducible exact hX.four | with_reducible exact hX.drew.four | with_reducible exact (hX.drew.later hb6).four | with_reducible exact ((hX.drew.later hb6).later hb7).four)
    (first
      | (go_at_call 90; have _t := tok; refine (sign_any _ a.num _ (e1.keep (Keep.drew _))).mono ?_; clear tok _t; rintro e w6 ⟨rfl, hb6⟩)
      | (go_at_call 90; refine (sign_any _ a.den _ ((e2.keep (Keep.drew _)).below hb6)).mono ?_; rintro e w7 ⟨rfl, hb7⟩))
  go_wp2
  go_ret
  refine ⟨?_, below_then (below_then hbe.drew hb6 hbe.size) hb7 (Nat.le_trans hbe.size hb6.size)⟩
  rw [show qs a.q = sgn a.num.z * sgn a.den.z from HS.out]
  rfl
end Go.Proofs.YtpanffbgihhjnaaGreat

/- Walks: package rational: Mul. -/
namespace Go.Proofs.YtpanffbgihhjnaaGreat
open Go.RowKit Pl
attribute [local go_sem ↓] Go.wp_at_zero Go.wp_at_succ

namespace Pl
theorem mul_len (m n : Nat) : (digs (m * n)).length ≤ (digs m).length + (digs n).length := by
  apply digs_lt
  rw [Nat.pow_add]
  have h1 := digs_lt_pow m
  have h2 := digs_lt_pow n
  exact Nat.mul_lt_mul'' h1 h2
theorem add_len (m n k : Nat) (h1 : (digs m).length ≤ k) (h2 : (digs n).length ≤ k) : (digs (m + n)).length ≤ k + 1 := by
  apply digs_lt
  have a1 := Nat.lt_of_lt_of_le (digs_lt_pow m) (Nat.pow_le_pow_right B32_pos h1)
  have a2 := Nat.lt_of_lt_of_le (digs_lt_pow n) (Nat.pow_le_pow_right B32_pos h2)
  rw [Nat.pow_succ]
  generalize B32 ^ k = p at *
  unfold B32
  omega
theorem val_canI (z : Int) : val (canI z).ds = z.natAbs := val_digs _
theorem RI.Sm.mul {a b : RI} (h1 : a.Sm) (h2 : b.Sm) : (digs (val (canI (a.z * b.z)).ds)).length ≤ 137438953472 := by
  unfold RI.Sm at h1 h2
  rw [val_canI, Int.natAbs_mul, z_natAbs, z_natAbs]
  exact Nat.le_trans (mul_len _ _) (by omega)
theorem RI.Sm.two {a b : RI} (h1 : a.Sm) (h2 : b.Sm) : (digs (val a.ds)).length + (digs (val b.ds)).length ≤ 1099511627776 := by
  unfold RI.Sm at h1 h2
  omega
theorem okq_mul {n d m k : Int} {p q : Rat} (h : okq n d p) (g : okq m k q) : (-9223372036854775807 ≤ n * m ∧ n * m ≤ 9223372036854775807) ∧ (0 < d * k ∧ d * k ≤ 9223372036854775807) ∧ Rat.divInt (n * m) (d * k) = p * q := by
  obtain ⟨⟨a1, a2⟩, a3, a4, rfl⟩ := h
  obtain ⟨⟨b1, b2⟩, b3, b4, rfl⟩ := g
  refine ⟨?_, ⟨Int.mul_pos a3 b3, ?_⟩, (Rat.divInt_mul_divInt _ _).symm⟩
  · exact prod_bd (by omega) (by omega) (by omega) (by omega)
  · exact (prod_bd (by omega) (by omega) (by omega) (by omega)).2
 where
  prod_bd {x y : Int} (h1 : -2147483648 ≤ x) (h2 : x ≤ 2147483648) (h3 : -2147483648 ≤ y) (h4 : y ≤ 2147483648) : -9223372036854775807 ≤ x * y ∧ x * y ≤ 9223372036854775807 := by
    have e : (x * y).natAbs ≤ 2147483648 * 2147483648 := by rw [Int.natAbs_mul]; exact Nat.mul_le_mul (by omega) (by omega)
    omega
end Pl

theorem boxF3 (w : World) (x1 x2 x3 x4 y1 y2 y3 y4 : Value) : ∃ W, ((w.alloc (.cells #[x1, x2, x3, x4] 47)).alloc (.cells #[y1, y2, y3, y4] 47)).alloc (.cells #[.bool false, .slice none 0 0, .bool false, .slice none 0 0] 47) = W ∧ Bk W w.heap.size 47 [x1, x2, x3, x4] ∧ Bk W (w.heap.size + 1) 47 [y1, y2, y3, y4] ∧
    Bk W (w.heap.size + 1 + 1) 47 [.bool false, .slice none 0 0, .bool false, .slice none 0 0] ∧ Below w.heap.size w W := by
  obtain ⟨W, hW, hs, h1, h2, hb⟩ := boxF2 w x1 x2 x3 x4 y1 y2 y3 y4
  exact ⟨_, by rw [hW], h1.alloc _, h2.alloc _, Bk.next hs _ _ hb, hb.alloc hb.size _⟩

theorem words2 (w : World) (x y z u : Int) : ∃ W, (w.alloc (.cells #[.int .i64 x, .int .i64 y] 104)).alloc (.cells #[.int .i64 z, .int .i64 u] 104) = W ∧ Bk W w.heap.size 104 [.int .i64 x, .int .i64 y] ∧ Bk W (w.heap.size + 1) 104 [.int .i64 z, .int .i64 u] ∧ Below w.heap.size w W := by
  refine ⟨_, rfl, (Bk.new w _ [.int .i64 x, .int .i64 y]).alloc _, ?_, (below_new w _).alloc (by simp) _⟩
  have := Bk.new (w.alloc (.cells #[.int .i64 x, .int .i64 y] 104)) 104 [.int .i64 z, .int .i64 u]
  rwa [size_alloc] at this

theorem Pl.pos_ne {x y : Int} (h : 0 < x) (k : 0 < y) : (canI (x * y)).z ≠ 0 := by
  rw [canI_z]; have := Int.mul_pos h k; omega
set_option maxRecDepth 100000 in
set_option maxHeartbeats 2000000 in
theorem mulF_any (v1 v2 : Value) (a b : RF) (w : World) (h1 : FracM w v1 a) (h2 : FracM w v2 b) (hs : a.Sm) (hs2 : b.Sm) :
    Calls Tryz.prog 84 #[v1, v2] w fun e w' => ∃ v', e = .returned v' ∧ FracM w' v' (canF (a.q * b.q)) ∧ Below w.heap.size w w' := by
  obtain ⟨A, n, c, A', n', c', rfl, hd, hd'⟩ := id h1
  obtain ⟨B, m, d, B', m', d', rfl, ke, ke'⟩ := id h2
  obtain ⟨W, hW, hX, hY, hR, hbe⟩ := boxF3 w (.bool a.num.neg) (.slice A n c) (.bool a.den.neg) (.slice A' n' c') (.bool b.num.neg) (.slice B m d) (.bool b.den.neg) (.slice B' m' d')
  have e1 := h1.below hbe
  have e2 := h2.below hbe
  obtain ⟨p1, p2, p3, p4⟩ := hX.four
  obtain ⟨r1, r2, r3, r4⟩ := hY.four
  clear h1 h2 hd hd' ke ke'
  go_enter Tryz.func84, Tryz.ntmps84
  go_wp2_with fail
  clear hW
  refine (small_any _ _ a b _ e1 e2).mono ?_
  rintro e w1 ⟨x, y, z, u, ok, rfl, hq, hb1⟩
  have HQ := Lib.hid hq
  have hX1 := hX.later hb1
  have hY1 := hY.later hb1
  have hR1 := hR.later hb1
  have hbe1 := below_then hbe hb1 hbe.size
  have e11 := e1.below hb1
  have e21 := e2.below hb1
  clear hq hX hY hR hbe e1 e2 hb1 p1 p2 p3 p4 r1 r2 r3 r4
  obtain ⟨W2, hW2, bW, bV, bn⟩ := words2 w1 x y z u
  have hX2 := hX1.later bn
  have hY2 := hY1.later bn
  have hR2 := hR1.later bn
  have hbe2 := below_then hbe1 bn hbe1.size
  have e12 := e11.below bn
  have e22 := e21.below bn
  clear hX1 hY1 hR1 hbe1 e11 e21 bn
  cases ok
  · obtain ⟨p1, p2, p3, p4⟩ := hX2.four
    clear HQ
    go_wp2_with fail
    clear hW2
    refine (parts_any _ a _ e12 hs).mono ?_
    rintro e w3 ⟨v1, v2, N, D, rfl, iN, iD, hD, hq1, sN, sD, hb3⟩
    have HD := Lib.hid hD
    have HQ1 := Lib.hid hq1
    obtain ⟨A3, n3, k3, rfl, _⟩ := iN.shape
    obtain ⟨A4, n4, k4, rfl, _⟩ := iD.shape
    obtain ⟨W3, hW3, bN, bD, bn⟩ := boxes w3 (.bool N.neg) (.slice A3 n3 k3) (.bool D.neg) (.slice A4 n4 k4)
    have hb33 := below_then hb3 bn hb3.size
    have hY3 := hY2.later hb33
    have hR3 := hR2.later hb33
    have hbe3 := below_then hbe2 hb33 hbe2.size
    have e23 := e22.below hb33
    have iN3 := iN.below bn
    have iD3 := iD.below bn
    clear hD hq1 hX2 hY2 hR2 hbe2 e12 e22 hb3 hb33 bn iN iD p1 p2 p3 p4 bW bV hs
    obtain ⟨r1, r2, r3, r4⟩ := hY3.four
    go_wp2_with fail
    clear hW3
    refine (parts_any _ b _ e23 hs2).mono ?_
    rintro e w5 ⟨v1, v2, N', D', rfl, jN, jD, hD', hq2, sN', sD', hb5⟩
    have HD' := Lib.hid hD'
    have HQ2 := Lib.hid hq2
    obtain ⟨A5, n5, k5, rfl, _⟩ := jN.shape
    obtain ⟨A6, n6, k6, rfl, _⟩ := jD.shape
    obtain ⟨W5, hW5, bN', bD', bn⟩ := boxes w5 (.bool N'.neg) (.slice A5 n5 k5) (.bool D'.neg) (.slice A6 n6 k6)
    have hb55 := below_then hb5 bn hb5.size
    have bN5 := bN.later hb55
    have bD5 := bD.later hb55
    have hR5 := hR3.later hb55
    have hbe5 := below_then hbe3 hb55 hbe3.size
    have iN5 := iN3.below hb55
    have iD5 := iD3.below hb55
    have jN5 := jN.below bn
    have jD5 := jD.below bn
    clear hD' hq2 hY3 hR3 hbe3 e23 hb5 hb55 bn jN jD r1 r2 r3 r4 bN bD iN3 iD3 hs2
    obtain ⟨x0, x1, _, _⟩ := bN5.two
    obtain ⟨y0, y1, _, _⟩ := bD5.two
    obtain ⟨x0', x1', _, _⟩ := bN'.two
    obtain ⟨y0', y1', _, _⟩ := bD'.two
    have hk1 : w3.heap.size ≠ w.heap.size + 1 + 1 := (bN5.ne_of hR5 (by decide))
    have hk2 : w3.heap.size + 1 ≠ w.heap.size + 1 + 1 := (bD5.ne_of hR5 (by decide))
    have hk3 : w5.heap.size ≠ w.heap.size + 1 + 1 := (bN'.ne_of hR5 (by decide))
    have hk4 : w5.heap.size + 1 ≠ w.heap.size + 1 + 1 := (bD'.ne_of hR5 (by decide))
    have tok : True := trivial
    go_wp2_with fail
    clear hW5
    go_region_held3 (fun w' => (w'.cell? ⟨w3.heap.size, 0, none⟩ = some (.bool N.neg) ∧ w'.cell? ⟨w3.heap.size, 1, none⟩ = some (.slice A3 n3 k3)) ∧ (w'.cell? ⟨w3.heap.size + 1, 0, none⟩ = some (.bool D.neg) ∧ w'.cell? ⟨w3.heap.size + 1, 1, none⟩ = some (.slice A4 n4 k4)) ∧ (w'.cell? ⟨w5.heap.size, 0, none⟩ = some (.bool N'.neg) ∧ w'.cell? ⟨w5.heap.size, 1, none⟩ = some (.slice A5 n5 k5)) ∧ (w'.cell? ⟨w5.heap.size + 1, 0, none⟩ = some (.bool D'.neg) ∧ w'.cell? ⟨w5.heap.size + 1, 1, none⟩ = some (.slice A6 n6 k6)))
      (first | with_reducible exact ⟨bN5.pair, bD5.pair, bN'.pair, bD'.pair⟩ | with_reducible exact ⟨bN5.drew.pair, bD5.drew.pair, bN'.drew.pair, bD'.drew.pair⟩ | with_reducible exact ⟨(bN5.drew.later hb6).pair, (bD5.drew.later hb6).pair, (bN'.drew.later hb6).pair, (bD'.drew.later hb6).pair⟩ | with_reducible exact ⟨((bN5.drew.later hb6).later hb7).pair, ((bD5.drew.later hb6).later hb7).pair, ((bN'.drew.later hb6).later hb7).pair, ((bD'.drew.later hb6).later hb7).pair⟩ | with_reducible exact ⟨(((bN5.drew.later hb6).later hb7).later hb8).pair, (((bD5.drew.later hb6).later hb7).later hb8).pair, (((bN'.drew.later hb6).later hb7).later hb8).pair, (((bD'.drew.later hb6).later hb7).later hb8).pair⟩ | with_reducible exact ⟨((((bN5.drew.later hb6).later hb7).later hb8).far4 hk1 _ _ _ _).pair, ((((bD5.drew.later hb6).later hb7).later hb8).far4 hk2 _ _ _ _).pair, ((((bN'.drew.later hb6).later hb7).later hb8).far4 hk3 _ _ _ _).pair, ((((bD'.drew.later hb6).later hb7).later hb8).far4 hk4 _ _ _ _).pair⟩)
      (first
        | (go_at_call 81; have _t := tok; refine (mulI_any _ _ N N' _ (iN5.keep (Keep.drew _)) (jN5.keep (Keep.drew _)) (RI.Sm.two sN sN')).mono ?_; clear tok _t; rintro e w6 ⟨v6, rfl, e6, hb6⟩)
        | (go_at_call 81; refine (mulI_any _ _ D D' _ ((iD5.keep (Keep.drew _)).below hb6) ((jD5.keep (Keep.drew _)).below hb6) (RI.Sm.two sD sD')).mono ?_; rintro e w7 ⟨v7, rfl, e7, hb7⟩)
        | (go_at_call 106; refine (reduce_any _ _ (canI (N.z * N'.z)) (canI (D.z * D'.z)) _ (e6.below hb7) e7 (Nat.le_trans (RI.Sm.mul sN sN') (by decide)) (Nat.le_trans (RI.Sm.mul sD sD') (by decide)) (pos_ne HD.out HD'.out)).mono ?_; rw [canI_z, canI_z, ← Rat.divInt_mul_divInt, HQ1.out, HQ2.out]; rintro e w8 ⟨v8, rfl, e8, hb8⟩; obtain ⟨C, l, f, C', l', f', rfl, _, _⟩ := id e8; obtain ⟨c0, c1, c2, c3⟩ := (((hR5.drew.later hb6).later hb7).later hb8).four; obtain ⟨f0, f1, f2, f3⟩ := (((hR5.drew.later hb6).later hb7).later hb8).fourF))
    go_wp2
    refine ret_cell Tryz.results84 Tryz.underlying47 (by kernel_rfl) rfl ((((hR5.drew.later hb6).later hb7).later hb8).set4 _ _ _ _) rfl ?_
    have bb0 := below_then hbe5.drew hb6 hbe5.size
    have bb1 := below_then bb0 hb7 bb0.size
    have bb2 := below_then bb1 hb8 bb1.size
    exact fin_frac (((hR5.drew.later hb6).later hb7).later hb8) e8 bb2 (by omega)
  · obtain ⟨⟨b1, b2⟩, ⟨b3, b4⟩, hval⟩ := okq_mul (HQ.out rfl).1 (HQ.out rfl).2
    have HV := Lib.hid hval
    obtain ⟨q0, q1, _, _⟩ := bW.two
    obtain ⟨s0, s1, _, _⟩ := bV.two
    clear hval HQ
    have t1 : IntKind.i64.wrap (x * z) = x * z := by simp only [IntKind.wrap, IntKind.bits, IntKind.signed]; simp; omega
    have t2 : IntKind.i64.wrap (y * u) = y * u := by simp only [IntKind.wrap, IntKind.bits, IntKind.signed]; simp; omega
    go_wp2_with fail
    clear hW2
    refine (fromWords_any (x * z) (y * u) _ b1 b2 b3 b4).mono ?_
    rw [HV.out]
    rintro e w3 ⟨v3, rfl, e3, hb3⟩
    have hR3 := hR2.later hb3
    obtain ⟨C, l, f, C', l', f', rfl, _, _⟩ := id e3
    obtain ⟨c0, c1, c2, c3⟩ := hR3.four
    obtain ⟨f0, f1, f2, f3⟩ := hR3.fourF
    go_wp2
    refine ret_cell Tryz.results84 Tryz.underlying47 (by kernel_rfl) rfl (hR3.set4 _ _ _ _) rfl ?_
    exact fin_frac hR3 e3 (below_then hbe2 hb3 hbe2.size) (by omega)
end Go.Proofs.YtpanffbgihhjnaaGreat

/- Walks: package rational: Add. -/
namespace Go.Proofs.YtpanffbgihhjnaaGreat
open Go.RowKit Pl
attribute [local go_sem ↓] Go.wp_at_zero Go.wp_at_succ

namespace Pl
theorem okq_add {n d m k : Int} {p q : Rat} (h : okq n d p) (g : okq m k q) : (-9223372036854775807 ≤ n * k + m * d ∧ n * k + m * d ≤ 9223372036854775807) ∧ (0 < d * k ∧ d * k ≤ 9223372036854775807) ∧ ((-4611686018427387904 ≤ n * k ∧ n * k ≤ 4611686018427387904) ∧ (-4611686018427387904 ≤ m * d ∧ m * d ≤ 4611686018427387904)) ∧ Rat.divInt (n * k + m * d) (d * k) = p + q := by
  obtain ⟨⟨a1, a2⟩, a3, a4, rfl⟩ := h
  obtain ⟨⟨b1, b2⟩, b3, b4, rfl⟩ := g
  have e1 := prod_bd1 (x := n) (y := k) (by omega) (by omega) (by omega) (by omega)
  have e2 := prod_bd1 (x := m) (y := d) (by omega) (by omega) (by omega) (by omega)
  have e3 := prod_bd1 (x := d) (y := k) (by omega) (by omega) (by omega) (by omega)
  refine ⟨⟨by omega, by omega⟩, ⟨Int.mul_pos a3 b3, by omega⟩, ⟨⟨by omega, by omega⟩, ⟨by omega, by omega⟩⟩, ?_⟩
  rw [Rat.divInt_add_divInt _ _ (by omega) (by omega)]
 where
  prod_bd1 {x y : Int} (h1 : -2147483647 ≤ x) (h2 : x ≤ 2147483647) (h3 : -2147483647 ≤ y) (h4 : y ≤ 2147483647) : -4611686014132420609 ≤ x * y ∧ x * y ≤ 4611686014132420609 := by
    have e : (x * y).natAbs ≤ 2147483647 * 2147483647 := by rw [Int.natAbs_mul]; exact Nat.mul_le_mul (by omega) (by omega)
    omega
theorem add_lenI {x y : Int} {k : Nat} (h1 : (digs x.natAbs).length ≤ k) (h2 : (digs y.natAbs).length ≤ k) : (digs (x + y).natAbs).length ≤ k + 1 :=
  Nat.le_trans (digs_len_mono (Int.natAbs_add_le x y)) (add_len _ _ _ h1 h2)
theorem RI.Sm.add {a b : RI} (h1 : a.Sm) (h2 : b.Sm) : (digs (val (canI (a.z + b.z)).ds)).length ≤ 549755813888 := by
  unfold RI.Sm at h1 h2
  rw [val_canI]
  rw [← z_natAbs] at h1 h2
  exact Nat.le_trans (add_lenI h1 h2) (by omega)
theorem RI.Sm.adds {a b c d : RI} (h1 : a.Sm) (h2 : b.Sm) (h3 : c.Sm) (h4 : d.Sm) : (digs (val (canI ((canI (a.z * b.z)).z + (canI (c.z * d.z)).z)).ds)).length ≤ 549755813888 := by
  have e1 := RI.Sm.mul h1 h2
  have e2 := RI.Sm.mul h3 h4
  rw [val_canI] at e1 e2 ⊢
  rw [canI_z, canI_z]
  exact Nat.le_trans (add_lenI e1 e2) (by omega)
theorem sgn_eq_zero {z : Int} : sgn z = 0 ↔ z = 0 := by
  unfold sgn; split; omega; split <;> omega
theorem add_same {n m d : Int} (h : d ≠ 0) : Rat.divInt n d + Rat.divInt m d = Rat.divInt (n + m) d := by
  rw [Rat.divInt_add_divInt _ _ h h, ← Int.add_mul, Rat.divInt_mul_right h]
end Pl

set_option maxRecDepth 100000 in
set_option maxHeartbeats 4000000 in
theorem addF_any (v1 v2 : Value) (a b : RF) (w : World) (h1 : FracM w v1 a) (h2 : FracM w v2 b) (hs : a.Sm) (hs2 : b.Sm) :
    Calls Tryz.prog 83 #[v1, v2] w fun e w' => ∃ v', e = .returned v' ∧ FracM w' v' (canF (a.q + b.q)) ∧ Below w.heap.size w w' := by
  obtain ⟨A, n, c, A', n', c', rfl, hd, hd'⟩ := id h1
  obtain ⟨B, m, d, B', m', d', rfl, ke, ke'⟩ := id h2
  obtain ⟨W, hW, hX, hY, hR, hbe⟩ := boxF3 w (.bool a.num.neg) (.slice A n c) (.bool a.den.neg) (.slice A' n' c') (.bool b.num.neg) (.slice B m d) (.bool b.den.neg) (.slice B' m' d')
  have e1 := h1.below hbe
  have e2 := h2.below hbe
  obtain ⟨p1, p2, p3, p4⟩ := hX.four
  obtain ⟨r1, r2, r3, r4⟩ := hY.four
  clear h1 h2 hd hd' ke ke'
  go_enter Tryz.func83, Tryz.ntmps83
  go_wp2_with fail
  clear hW
  refine (small_any _ _ a b _ e1 e2).mono ?_
  rintro e w1 ⟨x, y, z, u, ok, rfl, hq, hb1⟩
  have HQ := Lib.hid hq
  have hX1 := hX.later hb1
  have hY1 := hY.later hb1
  have hR1 := hR.later hb1
  have hbe1 := below_then hbe hb1 hbe.size
  have e11 := e1.below hb1
  have e21 := e2.below hb1
  clear hq hX hY hR hbe e1 e2 hb1 p1 p2 p3 p4 r1 r2 r3 r4
  obtain ⟨W2, hW2, bW, bV, bn⟩ := words2 w1 x y z u
  have hX2 := hX1.later bn
  have hY2 := hY1.later bn
  have hR2 := hR1.later bn
  have hbe2 := below_then hbe1 bn hbe1.size
  have e12 := e11.below bn
  have e22 := e21.below bn
  clear hX1 hY1 hR1 hbe1 e11 e21 bn
  cases ok
  · obtain ⟨p1, p2, p3, p4⟩ := hX2.four
    clear HQ
    go_wp2_with fail
    clear hW2
    refine (parts_any _ a _ e12 hs).mono ?_
    rintro e w3 ⟨v1, v2, N, D, rfl, iN, iD, hD, hq1, sN, sD, hb3⟩
    have HD := Lib.hid hD
    have HQ1 := Lib.hid hq1
    obtain ⟨A3, n3, k3, rfl, _⟩ := iN.shape
    obtain ⟨A4, n4, k4, rfl, _⟩ := iD.shape
    obtain ⟨W3, hW3, bN, bD, bn⟩ := boxes w3 (.bool N.neg) (.slice A3 n3 k3) (.bool D.neg) (.slice A4 n4 k4)
    have hb33 := below_then hb3 bn hb3.size
    have hY3 := hY2.later hb33
    have hR3 := hR2.later hb33
    have hbe3 := below_then hbe2 hb33 hbe2.size
    have e23 := e22.below hb33
    have iN3 := iN.below bn
    have iD3 := iD.below bn
    clear hD hq1 hX2 hY2 hR2 hbe2 e12 e22 hb3 hb33 bn iN iD p1 p2 p3 p4 bW bV hs
    obtain ⟨r1, r2, r3, r4⟩ := hY3.four
    go_wp2_with fail
    clear hW3
    refine (parts_any _ b _ e23 hs2).mono ?_
    rintro e w5 ⟨v1, v2, N', D', rfl, jN, jD, hD', hq2, sN', sD', hb5⟩
    have HD' := Lib.hid hD'
    have HQ2 := Lib.hid hq2
    obtain ⟨A5, n5, k5, rfl, _⟩ := jN.shape
    obtain ⟨A6, n6, k6, rfl, _⟩ := jD.shape
    obtain ⟨W5, hW5, bN', bD', bn⟩ := boxes w5 (.bool N'.neg) (.slice A5 n5 k5) (.bool D'.neg) (.slice A6 n6 k6)
    have hb55 := below_then hb5 bn hb5.size
    have bN5 := bN.later hb55
    have bD5 := bD.later hb55
    have hR5 := hR3.later hb55
    have hbe5 := below_then hbe3 hb55 hbe3.size
    have iN5 := iN3.below hb55
    have iD5 := iD3.below hb55
    have jN5 := jN.below bn
    have jD5 := jD.below bn
    clear hD' hq2 hY3 hR3 hbe3 e23 hb5 hb55 bn jN jD r1 r2 r3 r4 bN bD iN3 iD3 hs2
    obtain ⟨x0, x1, _, _⟩ := bN5.two
    obtain ⟨y0, y1, _, _⟩ := bD5.two
    obtain ⟨x0', x1', _, _⟩ := bN'.two
    obtain ⟨y0', y1', _, _⟩ := bD'.two
    have hk1 : w3.heap.size ≠ w.heap.size + 1 + 1 := (bN5.ne_of hR5 (by decide))
    have hk2 : w3.heap.size + 1 ≠ w.heap.size + 1 + 1 := (bD5.ne_of hR5 (by decide))
    have hk3 : w5.heap.size ≠ w.heap.size + 1 + 1 := (bN'.ne_of hR5 (by decide))
    have hk4 : w5.heap.size + 1 ≠ w.heap.size + 1 + 1 := (bD'.ne_of hR5 (by decide))
    go_wp2_with fail
    clear hW5
    refine (compareI_any _ _ D D' _ iD5 jD5).mono ?_
    rintro e w6 ⟨rfl, hb6⟩
    have bN6 := bN5.later hb6
    have bD6 := bD5.later hb6
    have bN6' := bN'.later hb6
    have bD6' := bD'.later hb6
    have hR6 := hR5.later hb6
    have hbe6 := below_then hbe5 hb6 hbe5.size
    have iN6 := iN5.below hb6
    have iD6 := iD5.below hb6
    have jN6 := jN5.below hb6
    have jD6 := jD5.below hb6
    clear bN5 bD5 bN' bD' hR5 hbe5 iN5 iD5 jN5 jD5 hb6 x0 x1 y0 y1 x0' x1' y0' y1'
    have tok1 : True := trivial
    have tok2 : True := trivial
    obtain ⟨x0, x1, _, _⟩ := bN6.two
    obtain ⟨y0, y1, _, _⟩ := bD6.two
    obtain ⟨x0', x1', _, _⟩ := bN6'.two
    obtain ⟨y0', y1', _, _⟩ := bD6'.two
    by_cases hDD : D.z = D'.z
    · have hsg : sgn (D.z - D'.z) = 0 := by rw [hDD]; simp [sgn]
      rw [hsg]
      have HDD := Lib.hid hDD
      clear hsg hDD
      go_wp2_with fail
      go_region_held3 (fun w' => (w'.cell? ⟨w3.heap.size, 0, none⟩ = some (.bool N.neg) ∧ w'.cell? ⟨w3.heap.size, 1, none⟩ = some (.slice A3 n3 k3)) ∧ (w'.cell? ⟨w3.heap.size + 1, 0, none⟩ = some (.bool D.neg) ∧ w'.cell? ⟨w3.heap.size + 1, 1, none⟩ = some (.slice A4 n4 k4)) ∧ (w'.cell? ⟨w5.heap.size, 0, none⟩ = some (.bool N'.neg) ∧ w'.cell? ⟨w5.heap.size, 1, none⟩ = some (.slice A5 n5 k5)) ∧ (w'.cell? ⟨w5.heap.size + 1, 0, none⟩ = some (.bool D'.neg) ∧ w'.cell? ⟨w5.heap.size + 1, 1, none⟩ = some (.slice A6 n6 k6)))
        (first | with_reducible exact ⟨bN6.pair, bD6.pair, bN6'.pair, bD6'.pair⟩ | with_reducible exact ⟨bN6.drew.pair, bD6.drew.pair, bN6'.drew.pair, bD6'.drew.pair⟩ | with_reducible exact ⟨(bN6.drew.later hb7).pair, (bD6.drew.later hb7).pair, (bN6'.drew.later hb7).pair, (bD6'.drew.later hb7).pair⟩ | with_reducible exact ⟨((bN6.drew.later hb7).later hb8).pair, ((bD6.drew.later hb7).later hb8).pair, ((bN6'.drew.later hb7).later hb8).pair, ((bD6'.drew.later hb7).later hb8).pair⟩ | with_reducible exact ⟨(((bN6.drew.later hb7).later hb8).far4 hk1 _ _ _ _).pair, (((bD6.drew.later hb7).later hb8).far4 hk2 _ _ _ _).pair, (((bN6'.drew.later hb7).later hb8).far4 hk3 _ _ _ _).pair, (((bD6'.drew.later hb7).later hb8).far4 hk4 _ _ _ _).pair⟩)
        (first
          | (go_at_call 107; refine (addI_any _ _ N N' _ (iN6.keep (Keep.drew _)) (jN6.keep (Keep.drew _)) (Nat.le_trans sN (by decide)) (Nat.le_trans sN' (by decide))).mono ?_; rintro e w7 ⟨v7, rfl, e7, hb7⟩)
          | (go_at_call 106; refine (reduce_any _ _ (canI (N.z + N'.z)) D _ e7 ((iD6.keep (Keep.drew _)).below hb7) (RI.Sm.add sN sN') (Nat.le_trans sD (by decide)) (Int.ne_of_gt HD.out)).mono ?_; rw [canI_z, ← add_same (Int.ne_of_gt HD.out), HQ1.out, HDD.out, HQ2.out]; rintro e w8 ⟨v8, rfl, e8, hb8⟩; obtain ⟨C, l, f, C', l', f', rfl, _, _⟩ := id e8; obtain ⟨c0, c1, c2, c3⟩ := ((hR6.drew.later hb7).later hb8).four; obtain ⟨f0, f1, f2, f3⟩ := ((hR6.drew.later hb7).later hb8).fourF))
      go_wp2
      refine ret_cell Tryz.results83 Tryz.underlying47 (by kernel_rfl) rfl (((hR6.drew.later hb7).later hb8).set4 _ _ _ _) rfl ?_
      have bb0 := below_then hbe6.drew hb7 hbe6.size
      have bb1 := below_then bb0 hb8 bb0.size
      exact fin_frac ((hR6.drew.later hb7).later hb8) e8 bb1 (by omega)
    · have hsg : (sgn (D.z - D'.z) == 0) = false := by
        have : sgn (D.z - D'.z) ≠ 0 := fun h => hDD (by have := sgn_eq_zero.1 h; omega)
        simpa using this
      have hsb := sgn_bd (D.z - D'.z)
      generalize sgn (D.z - D'.z) = sg at *
      clear hDD
      go_wp2_with fail
      clear hsg hsb
      go_region_held3 (fun w' => (w'.cell? ⟨w3.heap.size, 0, none⟩ = some (.bool N.neg) ∧ w'.cell? ⟨w3.heap.size, 1, none⟩ = some (.slice A3 n3 k3)) ∧ (w'.cell? ⟨w3.heap.size + 1, 0, none⟩ = some (.bool D.neg) ∧ w'.cell? ⟨w3.heap.size + 1, 1, none⟩ = some (.slice A4 n4 k4)) ∧ (w'.cell? ⟨w5.heap.size, 0, none⟩ = some (.bool N'.neg) ∧ w'.cell? ⟨w5.heap.size, 1, none⟩ = some (.slice A5 n5 k5)) ∧ (w'.cell? ⟨w5.heap.size + 1, 0, none⟩ = some (.bool D'.neg) ∧ w'.cell? ⟨w5.heap.size + 1, 1, none⟩ = some (.slice A6 n6 k6)))
        (first | with_reducible exact ⟨bN6.pair, bD6.pair, bN6'.pair, bD6'.pair⟩ | with_reducible exact ⟨bN6.drew.pair, bD6.drew.pair, bN6'.drew.pair, bD6'.drew.pair⟩ | with_reducible exact ⟨(bN6.drew.later hb7).pair, (bD6.drew.later hb7).pair, (bN6'.drew.later hb7).pair, (bD6'.drew.later hb7).pair⟩ | with_reducible exact ⟨((bN6.drew.later hb7).later hb8).pair, ((bD6.drew.later hb7).later hb8).pair, ((bN6'.drew.later hb7).later hb8).pair, ((bD6'.drew.later hb7).later hb8).pair⟩ | with_reducible exact ⟨(((bN6.drew.later hb7).later hb8).later hb9).pair, (((bD6.drew.later hb7).later hb8).later hb9).pair, (((bN6'.drew.later hb7).later hb8).later hb9).pair, (((bD6'.drew.later hb7).later hb8).later hb9).pair⟩ | with_reducible exact ⟨((((bN6.drew.later hb7).later hb8).later hb9).later hb10).pair, ((((bD6.drew.later hb7).later hb8).later hb9).later hb10).pair, ((((bN6'.drew.later hb7).later hb8).later hb9).later hb10).pair, ((((bD6'.drew.later hb7).later hb8).later hb9).later hb10).pair⟩ | with_reducible exact ⟨(((((bN6.drew.later hb7).later hb8).later hb9).later hb10).later hb11).pair, (((((bD6.drew.later hb7).later hb8).later hb9).later hb10).later hb11).pair, (((((bN6'.drew.later hb7).later hb8).later hb9).later hb10).later hb11).pair, (((((bD6'.drew.later hb7).later hb8).later hb9).later hb10).later hb11).pair⟩ | with_reducible exact ⟨((((((bN6.drew.later hb7).later hb8).later hb9).later hb10).later hb11).far4 hk1 _ _ _ _).pair, ((((((bD6.drew.later hb7).later hb8).later hb9).later hb10).later hb11).far4 hk2 _ _ _ _).pair, ((((((bN6'.drew.later hb7).later hb8).later hb9).later hb10).later hb11).far4 hk3 _ _ _ _).pair, ((((((bD6'.drew.later hb7).later hb8).later hb9).later hb10).later hb11).far4 hk4 _ _ _ _).pair⟩)
        (first
          | (go_at_call 81; have _t := tok1; refine (mulI_any _ _ N D' _ (iN6.keep (Keep.drew _)) (jD6.keep (Keep.drew _)) (RI.Sm.two sN sD')).mono ?_; clear tok1 _t; rintro e w7 ⟨v7, rfl, e7, hb7⟩)
          | (go_at_call 81; have _t := tok2; refine (mulI_any _ _ N' D _ ((jN6.keep (Keep.drew _)).below hb7) ((iD6.keep (Keep.drew _)).below hb7) (RI.Sm.two sN' sD)).mono ?_; clear tok2 _t; rintro e w8 ⟨v8, rfl, e8, hb8⟩)
          | (go_at_call 107; refine (addI_any _ _ (canI (N.z * D'.z)) (canI (N'.z * D.z)) _ (e7.below hb8) e8 (Nat.le_trans (RI.Sm.mul sN sD') (by decide)) (Nat.le_trans (RI.Sm.mul sN' sD) (by decide))).mono ?_; rintro e w9 ⟨v9, rfl, e9, hb9⟩)
          | (go_at_call 81; refine (mulI_any _ _ D D' _ ((((iD6.keep (Keep.drew _)).below hb7).below hb8).below hb9) ((((jD6.keep (Keep.drew _)).below hb7).below hb8).below hb9) (RI.Sm.two sD sD')).mono ?_; rintro e w10 ⟨v10, rfl, e10, hb10⟩)
          | (go_at_call 106; refine (reduce_any _ _ (canI ((canI (N.z * D'.z)).z + (canI (N'.z * D.z)).z)) (canI (D.z * D'.z)) _ (e9.below hb10) e10 (RI.Sm.adds sN sD' sN' sD) (Nat.le_trans (RI.Sm.mul sD sD') (by decide)) (pos_ne HD.out HD'.out)).mono ?_; rw [canI_z, canI_z, canI_z, canI_z, ← Rat.divInt_add_divInt _ _ (Int.ne_of_gt HD.out) (Int.ne_of_gt HD'.out), HQ1.out, HQ2.out]; rintro e w11 ⟨v11, rfl, e11, hb11⟩; obtain ⟨C, l, f, C', l', f', rfl, _, _⟩ := id e11; obtain ⟨c0, c1, c2, c3⟩ := (((((hR6.drew.later hb7).later hb8).later hb9).later hb10).later hb11).four; obtain ⟨f0, f1, f2, f3⟩ := (((((hR6.drew.later hb7).later hb8).later hb9).later hb10).later hb11).fourF))
      go_wp2
      refine ret_cell Tryz.results83 Tryz.underlying47 (by kernel_rfl) rfl ((((((hR6.drew.later hb7).later hb8).later hb9).later hb10).later hb11).set4 _ _ _ _) rfl ?_
      have bb0 := below_then hbe6.drew hb7 hbe6.size
      have bb1 := below_then bb0 hb8 bb0.size
      have bb2 := below_then bb1 hb9 bb1.size
      have bb3 := below_then bb2 hb10 bb2.size
      have bb4 := below_then bb3 hb11 bb3.size
      exact fin_frac (((((hR6.drew.later hb7).later hb8).later hb9).later hb10).later hb11) e11 bb4 (by omega)
  · obtain ⟨⟨b1, b2⟩, ⟨b3, b4⟩, ⟨⟨b5, b6⟩, ⟨b7, b8⟩⟩, hval⟩ := okq_add (HQ.out rfl).1 (HQ.out rfl).2
    have HV := Lib.hid hval
    obtain ⟨q0, q1, _, _⟩ := bW.two
    obtain ⟨s0, s1, _, _⟩ := bV.two
    clear hval HQ
    have t1 : IntKind.i64.wrap (x * u + z * y) = x * u + z * y := by simp only [IntKind.wrap, IntKind.bits, IntKind.signed]; simp; omega
    have t2 : IntKind.i64.wrap (y * u) = y * u := by simp only [IntKind.wrap, IntKind.bits, IntKind.signed]; simp; omega
    have t3 : IntKind.i64.wrap (x * u) = x * u := by simp only [IntKind.wrap, IntKind.bits, IntKind.signed]; simp; omega
    have t4 : IntKind.i64.wrap (z * y) = z * y := by simp only [IntKind.wrap, IntKind.bits, IntKind.signed]; simp; omega
    go_wp2_with fail
    clear hW2
    refine (fromWords_any (x * u + z * y) (y * u) _ b1 b2 b3 b4).mono ?_
    rw [HV.out]
    rintro e w3 ⟨v3, rfl, e3, hb3⟩
    have hR3 := hR2.later hb3
    obtain ⟨C, l, f, C', l', f', rfl, _, _⟩ := id e3
    obtain ⟨c0, c1, c2, c3⟩ := hR3.four
    obtain ⟨f0, f1, f2, f3⟩ := hR3.fourF
    go_wp2
    refine ret_cell Tryz.results83 Tryz.underlying47 (by kernel_rfl) rfl (hR3.set4 _ _ _ _) rfl ?_
    exact fin_frac hR3 e3 (below_then hbe2 hb3 hbe2.size) (by omega)
end Go.Proofs.YtpanffbgihhjnaaGreat

/- Walks: package rational: Compare. -/
namespace Go.Proofs.YtpanffbgihhjnaaGreat
open Go.RowKit Pl
attribute [local go_sem ↓] Go.wp_at_zero Go.wp_at_succ

namespace Pl
theorem qs_sub {n d m k : Int} (hd : 0 < d) (hk : 0 < k) : qs (Rat.divInt n d - Rat.divInt m k) = sgn (n * k - m * d) := by
  rw [Rat.divInt_sub_divInt _ _ (by omega) (by omega), qs_divInt, sgn_pos (Int.mul_pos hd hk), Int.mul_one]
theorem okq_cmp {n d m k : Int} {p q : Rat} (h : okq n d p) (g : okq m k q) : ((-9223372036854775807 ≤ n * k ∧ n * k ≤ 9223372036854775807) ∧ (-9223372036854775807 ≤ m * d ∧ m * d ≤ 9223372036854775807)) ∧ qs (p - q) = sgn (n * k - m * d) := by
  obtain ⟨⟨a1, a2⟩, a3, a4, rfl⟩ := h
  obtain ⟨⟨b1, b2⟩, b3, b4, rfl⟩ := g
  exact ⟨⟨okq_mul.prod_bd (by omega) (by omega) (by omega) (by omega), okq_mul.prod_bd (by omega) (by omega) (by omega) (by omega)⟩, qs_sub a3 b3⟩
end Pl

set_option maxRecDepth 100000 in
set_option maxHeartbeats 4000000 in
theorem compareF_any (v1 v2 : Value) (a b : RF) (w : World) (h1 : FracM w v1 a) (h2 : FracM w v2 b) (hs : a.Sm) (hs2 : b.Sm) :
    Calls Tryz.prog 50 #[v1, v2] w fun e w' => e = .returned (.int .i64 (qs (a.q - b.q))) ∧ Below w.heap.size w w' := by
  obtain ⟨A, n, c, A', n', c', rfl, hd, hd'⟩ := id h1
  obtain ⟨B, m, d, B', m', d', rfl, ke, ke'⟩ := id h2
  obtain ⟨W, hW, hsz, hX, hY, hbe⟩ := boxF2 w (.bool a.num.neg) (.slice A n c) (.bool a.den.neg) (.slice A' n' c') (.bool b.num.neg) (.slice B m d) (.bool b.den.neg) (.slice B' m' d')
  have e1 := h1.below hbe
  have e2 := h2.below hbe
  obtain ⟨p1, p2, p3, p4⟩ := hX.four
  obtain ⟨r1, r2, r3, r4⟩ := hY.four
  clear h1 h2 hd hd' ke ke'
  go_enter Tryz.func50, Tryz.ntmps50
  go_wp2_with fail
  clear hW
  refine (small_any _ _ a b _ e1 e2).mono ?_
  rintro e w1 ⟨x, y, z, u, ok, rfl, hq, hb1⟩
  have HQ := Lib.hid hq
  have hX1 := hX.later hb1
  have hY1 := hY.later hb1
  have hbe1 := below_then hbe hb1 hbe.size
  have e11 := e1.below hb1
  have e21 := e2.below hb1
  clear hq hX hY hbe e1 e2 hb1 p1 p2 p3 p4 r1 r2 r3 r4
  obtain ⟨W2, hW2, bW, bV, bn⟩ := words2 w1 x y z u
  have hX2 := hX1.later bn
  have hY2 := hY1.later bn
  have hbe2 := below_then hbe1 bn hbe1.size
  have e12 := e11.below bn
  have e22 := e21.below bn
  clear hX1 hY1 hbe1 e11 e21 bn
  cases ok
  · obtain ⟨p1, p2, p3, p4⟩ := hX2.four
    clear HQ
    go_wp2_with fail
    clear hW2
    refine (parts_any _ a _ e12 hs).mono ?_
    rintro e w3 ⟨v1, v2, N, D, rfl, iN, iD, hD, hq1, sN, sD, hb3⟩
    have HD := Lib.hid hD
    have HQ1 := Lib.hid hq1
    obtain ⟨A3, n3, k3, rfl, _⟩ := iN.shape
    obtain ⟨A4, n4, k4, rfl, _⟩ := iD.shape
    obtain ⟨W3, hW3, bN, bD, bn⟩ := boxes w3 (.bool N.neg) (.slice A3 n3 k3) (.bool D.neg) (.slice A4 n4 k4)
    have hb33 := below_then hb3 bn hb3.size
    have hY3 := hY2.later hb33
    have hbe3 := below_then hbe2 hb33 hbe2.size
    have e23 := e22.below hb33
    have iN3 := iN.below bn
    have iD3 := iD.below bn
    clear hD hq1 hX2 hY2 hbe2 e12 e22 hb3 hb33 bn iN iD p1 p2 p3 p4 bW bV hs
    obtain ⟨r1, r2, r3, r4⟩ := hY3.four
    go_wp2_with fail
    clear hW3
    refine (parts_any _ b _ e23 hs2).mono ?_
    rintro e w5 ⟨v1, v2, N', D', rfl, jN, jD, hD', hq2, sN', sD', hb5⟩
    have HD' := Lib.hid hD'
    have HQ2 := Lib.hid hq2
    obtain ⟨A5, n5, k5, rfl, _⟩ := jN.shape
    obtain ⟨A6, n6, k6, rfl, _⟩ := jD.shape
    obtain ⟨W5, hW5, bN', bD', bn⟩ := boxes w5 (.bool N'.neg) (.slice A5 n5 k5) (.bool D'.neg) (.slice A6 n6 k6)
    have hb55 := below_then hb5 bn hb5.size
    have bN5 := bN.later hb55
    have bD5 := bD.later hb55
    have hbe5 := below_then hbe3 hb55 hbe3.size
    have iN5 := iN3.below hb55
    have iD5 := iD3.below hb55
    have jN5 := jN.below bn
    have jD5 := jD.below bn
    clear hD' hq2 hY3 hbe3 e23 hb5 hb55 bn jN jD r1 r2 r3 r4 bN bD iN3 iD3 hs2
    obtain ⟨x0, x1, _, _⟩ := bN5.two
    obtain ⟨y0, y1, _, _⟩ := bD5.two
    obtain ⟨x0', x1', _, _⟩ := bN'.two
    obtain ⟨y0', y1', _, _⟩ := bD'.two
    have tok : True := trivial
    go_wp2_with fail
    clear hW5
    go_region_held3 (fun w' => (w'.cell? ⟨w3.heap.size, 0, none⟩ = some (.bool N.neg) ∧ w'.cell? ⟨w3.heap.size, 1, none⟩ = some (.slice A3 n3 k3)) ∧ (w'.cell? ⟨w3.heap.size + 1, 0, none⟩ = some (.bool D.neg) ∧ w'.cell? ⟨w3.heap.size + 1, 1, none⟩ = some (.slice A4 n4 k4)) ∧ (w'.cell? ⟨w5.heap.size, 0, none⟩ = some (.bool N'.neg) ∧ w'.cell? ⟨w5.heap.size, 1, none⟩ = some (.slice A5 n5 k5)) ∧ (w'.cell? ⟨w5.heap.size + 1, 0, none⟩ = some (.bool D'.neg) ∧ w'.cell? ⟨w5.heap.size + 1, 1, none⟩ = some (.slice A6 n6 k6)))
      (first | with_reducible exact ⟨bN5.pair, bD5.pair, bN'.pair, bD'.pair⟩ | with_reducible exact ⟨bN5.drew.pair, bD5.drew.pair, bN'.drew.pair, bD'.drew.pair⟩ | with_reducible exact ⟨(bN5.drew.later hb6).pair, (bD5.drew.later hb6).pair, (bN'.drew.later hb6).pair, (bD'.drew.later hb6).pair⟩ | with_reducible exact ⟨((bN5.drew.later hb6).later hb7).pair, ((bD5.drew.later hb6).later hb7).pair, ((bN'.drew.later hb6).later hb7).pair, ((bD'.drew.later hb6).later hb7).pair⟩ | with_reducible exact ⟨(((bN5.drew.later hb6).later hb7).later hb8).pair, (((bD5.drew.later hb6).later hb7).later hb8).pair, (((bN'.drew.later hb6).later hb7).later hb8).pair, (((bD'.drew.later hb6).later hb7).later hb8).pair⟩)
      (first
        | (go_at_call 81; have _t := tok; refine (mulI_any _ _ N D' _ (iN5.keep (Keep.drew _)) (jD5.keep (Keep.drew _)) (RI.Sm.two sN sD')).mono ?_; clear tok _t; rintro e w6 ⟨v6, rfl, e6, hb6⟩)
        | (go_at_call 81; refine (mulI_any _ _ N' D _ ((jN5.keep (Keep.drew _)).below hb6) ((iD5.keep (Keep.drew _)).below hb6) (RI.Sm.two sN' sD)).mono ?_; rintro e w7 ⟨v7, rfl, e7, hb7⟩)
        | (go_at_call 80; refine (compareI_any _ _ (canI (N.z * D'.z)) (canI (N'.z * D.z)) _ (e6.below hb7) e7).mono ?_; rintro e w8 ⟨rfl, hb8⟩))
    go_wp2
    go_ret
    have bb0 := below_then hbe5.drew hb6 hbe5.size
    have bb1 := below_then bb0 hb7 bb0.size
    refine ⟨?_, below_then bb1 hb8 bb1.size⟩
    rw [← HQ1.out, ← HQ2.out, qs_sub HD.out HD'.out, canI_z, canI_z]
    rfl
  · obtain ⟨⟨⟨b1, b2⟩, ⟨b3, b4⟩⟩, hval⟩ := okq_cmp (HQ.out rfl).1 (HQ.out rfl).2
    have HV := Lib.hid hval
    obtain ⟨q0, q1, _, _⟩ := bW.two
    obtain ⟨s0, s1, _, _⟩ := bV.two
    clear hval HQ
    have t1 : IntKind.i64.wrap (x * u) = x * u := by simp only [IntKind.wrap, IntKind.bits, IntKind.signed]; simp; omega
    have t2 : IntKind.i64.wrap (z * y) = z * y := by simp only [IntKind.wrap, IntKind.bits, IntKind.signed]; simp; omega
    rcases Int.lt_trichotomy (x * u) (z * y) with hlt | heq | hgt
    · go_wp2
      clear hW2
      go_quiet (fail)
      go_wp2
      go_ret
      exact ⟨by rw [HV.out, sgn_neg (by omega)]; rfl, below_then hbe2 (below_drewN' _ _) hbe2.size⟩
    · have t3 : decide (x * u < z * y) = false := by simp; omega
      have t4 : decide (z * y < x * u) = false := by simp; omega
      have HEQ := Lib.hid heq
      clear heq
      go_wp2
      clear hW2
      go_quiet (fail)
      go_wp2
      go_ret
      exact ⟨by rw [HV.out, HEQ.out, Int.sub_self, sgn_zero]; rfl, below_then hbe2 (below_drewN' _ _) hbe2.size⟩
    · have t3 : decide (x * u < z * y) = false := by simp; omega
      go_wp2
      clear hW2
      go_quiet (fail)
      go_wp2
      go_ret
      exact ⟨by rw [HV.out, sgn_pos (by omega)]; rfl, below_then hbe2 (below_drewN' _ _) hbe2.size⟩
end Go.Proofs.YtpanffbgihhjnaaGreat

/- Walks: package pairingref1: trim, Make, Canon, Negate, FromInt64, digit. -/
namespace Go.Proofs.YtpanffbgihhjnaaGreat
open Go.RowKit Pl
attribute [local go_sem ↓] Go.wp_at_zero Go.wp_at_succ

theorem rtrim_fin {w : World} {A : Option Addr} {n c k : Nat} {ds : List Nat} (h : DigM w (.slice A n c) ds) (hk : k ≤ n) (hz : ∀ i, k ≤ i → dg ds i = 0) (hl : k = 0 ∨ dg ds (k - 1) ≠ 0) :
    DigM w (.slice A k c) (digs (val ds)) := by
  obtain ⟨h1, h2, h3, h4⟩ := h.len
  rw [digs_take h.ok (by omega) hz hl]
  exact h.take hk (by omega) (by unfold maxLen; omega)

set_option maxHeartbeats 400000 in
theorem rtrim_at (A : Option Addr) (n c : Nat) (ds : List Nat) (w : World) (h : DigM w (.slice A n c) ds) :
    Calls Tryz.prog 95 #[.slice A n c] w fun e w' => ∃ k, e = .returned (.slice A k c) ∧ DigM w (.slice A k c) (digs (val ds)) ∧ w = w' := by
  obtain ⟨hl, hl', hnc, hc⟩ := h.len
  go_enter Tryz.func95, Tryz.ntmps95
  go_wp2
  go_loop [3] (fun x => ∃ k : Nat, k ≤ n ∧ x = .int .i64 k ∧ ∀ i, k ≤ i → dg ds i = 0) (fun x => (intOf x).toNat)
  case atStart => exact ⟨n, Nat.le_refl _, rfl, fun i hi => dg_ge (by omega)⟩
  case round =>
    obtain ⟨k, hk, rfl, hz⟩ := hrel
    have HZ := Lib.hid hz
    clear hz
    rcases Nat.eq_zero_or_pos k with h0 | h0
    · subst h0
      go_wp2
      go_ret
      exact ⟨_, rfl, rtrim_fin h hk HZ.out (.inl rfl), rfl⟩
    · obtain ⟨j, rfl⟩ : ∃ j, k = j + 1 := ⟨k - 1, by omega⟩
      obtain ⟨b, off, rfl, _, hcell⟩ := h.at_ (by omega)
      have hcj := hcell j (by omega)
      clear hcell
      by_cases hd : dg ds j = 0
      · have hb := di_beq_true hd
        have HD := Lib.hid hd
        clear hd
        go_wp2
        go_round
        case rel => exact ⟨j, by omega, by go_num, fun i hi => by
          rcases Nat.eq_or_lt_of_le hi with e | e
          · exact e ▸ HD.out
          · exact HZ.out i e⟩
        case measure => simp [intOf]
      · have hb := di_beq_false hd
        have HD := Lib.hid hd
        clear hd
        go_wp2
        go_ret
        exact ⟨_, rfl, rtrim_fin h hk HZ.out (.inr (by simpa using HD.out)), rfl⟩

theorem rtrim_any (v : Value) (ds : List Nat) (w : World) (h : DigM w v ds) :
    Calls Tryz.prog 95 #[v] w fun e w' => ∃ v', e = .returned v' ∧ DigM w v' (digs (val ds)) ∧ w = w' := by
  obtain ⟨A, n, c, rfl⟩ := h.shape
  exact (rtrim_at A n c ds w h).mono fun _ _ ⟨_, h1, h2, h3⟩ => ⟨_, h1, h2, h3⟩

set_option maxRecDepth 100000 in
set_option maxHeartbeats 1000000 in
theorem make_any (neg : Bool) (v : Value) (ds : List Nat) (w : World) (h : DigM w v ds) (hs : (digs (val ds)).length ≤ 549755813888) :
    Calls Tryz.prog 88 #[.bool neg, v] w fun e w' => ∃ v', e = .returned v' ∧ IntM w' v' (canI (sm neg (val ds))) ∧ Below w.heap.size w w' := by
  have hR := Bk.new w 45 [.bool false, .slice none 0 0]
  have hbe := below_new w (.cells [.bool false, .slice none 0 0].toArray 45)
  have h' := h.below hbe
  obtain ⟨i0, hi, hz0, hz1, hz2⟩ := info_parts info_u32
  have HI := Lib.hid hi
  have HZ0 := Lib.hid hz0
  have HZ1 := Lib.hid hz1
  have HZ2 := Lib.hid hz2
  clear hi hz0 hz1 hz2
  go_enter Tryz.func88, Tryz.ntmps88
  go_wp2_with fail
  generalize w.alloc _ = W at *
  refine (rtrim_any _ ds _ h').mono ?_
  rintro e w1 ⟨v1, rfl, h1, rfl⟩
  obtain ⟨A, n, c, rfl⟩ := h1.shape
  obtain ⟨kl, kl', knc, kc⟩ := h1.len
  obtain ⟨c0, c1, f0, f1⟩ := hR.two
  rcases Nat.eq_zero_or_pos n with h0 | h0
  · have hv : val ds = 0 := len_zero (by omega)
    subst h0
    have HV := Lib.hid hv
    clear hv kl kl' hs
    go_wp2
    refine ret_cell Tryz.results88 Tryz.underlying45 (by kernel_rfl) rfl (hR.set2 _ _) rfl ?_
    exact ⟨_, rfl, by rw [HV.out, sm_zero]; exact IntM.zero _, below_set2 hbe (Nat.le_refl _) _ _⟩
  · have hv : val ds ≠ 0 := len_pos (by omega)
    have HV := Lib.hid hv
    have HS := Lib.hid hs
    obtain ⟨b, off, rfl, hb1, hcell1⟩ := h1.at_ h0
    clear hv hcell1 hs c0 c1 f0 f1
    have hln : (digs (val ds)).length = n := by omega
    have HLN := Lib.hid hln
    clear hln kl kl' kc knc
    go_wp2_with (at_builtin; refine wpList_append_own_at _ rfl (.const (.slice none 0 0)) (.tmp 12) _ rfl w.heap.size 85 i0 _ 1 4 Tryz.underlying43 HI.out HZ0.out HZ1.out HZ2.out rfl (by decide) (.slice none 0 0) 0 [] rfl ?c0 ⟨b, off, none⟩ n c ((digs (val ds)).map uc) rfl ?c1 ?c2 (uc_oneCell _) ?c3 ?c4 ?c5 ?_)
    case c0 => exact World.ownsRow_nil _ _ _ _
    case c1 => simp; exact HLN.out
    case c2 => exact h1.news
    case c3 => have := HS.out; have := HLN.out; unfold maxLen; omega
    case c4 => have := HS.out; have := HLN.out; omega
    case c5 => exact hbe.size
    · intro v' w1 hown hgrow _ _
      have dg' := own_dig (by simpa using hown) (okD_digs (val ds))
      have hR1 := hR.grown hgrow (by simp [Value.ownBlock])
      have hbe1 : Below w.heap.size w w1 := hbe.grown hgrow hbe.size (fun k hk => by simp [Value.ownBlock] at hk)
      obtain ⟨A1, n1, k1, rfl⟩ := dg'.shape
      obtain ⟨c0, c1, f0, f1⟩ := hR1.two
      clear hown hgrow
      go_wp2
      refine ret_cell Tryz.results88 Tryz.underlying45 (by kernel_rfl) rfl (hR1.set2 _ _) rfl ?_
      rw [canI_sm _ _ HV.out]
      exact fin_int hR1 ⟨_, rfl, dg'⟩ hbe1 (Nat.le_refl _)

theorem make_dig (neg : Bool) (v : Value) (n : Nat) (w : World) (h : DigM w v (digs n)) (hs : (digs n).length ≤ 549755813888) :
    Calls Tryz.prog 88 #[.bool neg, v] w fun e w' => ∃ v', e = .returned v' ∧ IntM w' v' (canI (sm neg n)) ∧ Below w.heap.size w w' := by
  have := make_any neg v (digs n) w h (by rwa [val_digs])
  rwa [val_digs] at this

set_option maxHeartbeats 1000000 in
theorem canonI_any (v : Value) (a : RI) (w : World) (h : IntM w v a) (hs : (digs (val a.ds)).length ≤ 549755813888) :
    Calls Tryz.prog 87 #[v] w fun e w' => ∃ v', e = .returned v' ∧ IntM w' v' (canI a.z) ∧ Below w.heap.size w w' := by
  obtain ⟨A, n, c, rfl, hd⟩ := h.shape
  obtain ⟨W, hW, hX, hR, hbe⟩ := box1 w (.bool a.neg) (.slice A n c)
  have hdX := hd.below hbe
  obtain ⟨x0, x1, y0, y1⟩ := hX.two
  go_enter Tryz.func87, Tryz.ntmps87
  go_wp2_with fail
  clear hW
  refine (make_any _ _ a.ds _ hdX hs).mono ?_
  rw [← RI.z_eq]
  rintro e w1 ⟨v1, rfl, e1, hb1⟩
  obtain ⟨A1, n1, k1, rfl, _⟩ := e1.shape
  have hR1 := hR.later hb1
  obtain ⟨c0, c1, f0, f1⟩ := hR1.two
  go_wp2
  refine ret_cell Tryz.results87 Tryz.underlying45 (by kernel_rfl) rfl (hR1.set2 _ _) rfl ?_
  exact fin_int hR1 e1 (below_then hbe hb1 hbe.size) (by omega)

set_option maxHeartbeats 1000000 in
theorem rnegate_any (v : Value) (a : RI) (w : World) (h : IntM w v a) (hs : (digs (val a.ds)).length ≤ 549755813888) :
    Calls Tryz.prog 66 #[v] w fun e w' => ∃ v', e = .returned v' ∧ IntM w' v' (canI (- a.z)) ∧ Below w.heap.size w w' := by
  obtain ⟨A, n, c, rfl, hd⟩ := h.shape
  obtain ⟨W, hW, hX, hR, hbe⟩ := box1 w (.bool a.neg) (.slice A n c)
  have hdX := hd.below hbe
  obtain ⟨x0, x1, y0, y1⟩ := hX.two
  go_enter Tryz.func66, Tryz.ntmps66
  go_wp2_with fail
  clear hW
  refine (make_any _ _ a.ds _ hdX hs).mono ?_
  rw [sm_not, ← RI.z_eq]
  rintro e w1 ⟨v1, rfl, e1, hb1⟩
  obtain ⟨A1, n1, k1, rfl, _⟩ := e1.shape
  have hR1 := hR.later hb1
  obtain ⟨c0, c1, f0, f1⟩ := hR1.two
  go_wp2
  refine ret_cell Tryz.results66 Tryz.underlying45 (by kernel_rfl) rfl (hR1.set2 _ _) rfl ?_
  exact fin_int hR1 e1 (below_then hbe hb1 hbe.size) (by omega)

set_option maxHeartbeats 400000 in
theorem rdigit_any (v : Value) (ds : List Nat) (k : Nat) (w : World) (h : DigM w v ds) (hk : (k : Int) ≤ 9223372036854775807) :
    Calls Tryz.prog 110 #[v, .int .i64 k] w fun e w' => e = .returned (.int .u64 (di ds k)) ∧ w = w' := by
  obtain ⟨A, n, c, rfl⟩ := h.shape
  obtain ⟨hl, hl', hnc, hc⟩ := h.len
  rcases Nat.lt_or_ge k n with hlt | hge
  · obtain ⟨b, off, rfl, hb1, hcell⟩ := h.at_ (by omega)
    have hx := hcell k hlt
    have x0 := di_nonneg ds k
    have x1 := di_le h.ok k
    clear hcell
    go_enter Tryz.func110, Tryz.ntmps110
    go_wp2
    go_ret
    exact ⟨rfl, rfl⟩
  · have hz : di ds k = 0 := by rw [di_eq, dg_ge (by omega)]; rfl
    have HZ := Lib.hid hz
    clear hz hl hl'
    go_enter Tryz.func110, Tryz.ntmps110
    go_wp2
    go_ret
    exact ⟨by rw [HZ.out]; rfl, rfl⟩
end Go.Proofs.YtpanffbgihhjnaaGreat

/- Walks: package pairingref1: FromInt64, compareDigits, addDigits, subDigits. -/
namespace Go.Proofs.YtpanffbgihhjnaaGreat
open Go.RowKit Pl
attribute [local go_sem ↓] Go.wp_at_zero Go.wp_at_succ

theorem dig_pair (w : World) (z : Int) (h : 0 ≤ z) (h2 : z ≤ 18446744073709551615) :
    ∃ ds, DigM (w.alloc (.cells #[.int .u32 (z % 4294967296), .int .u32 (z / 4294967296)] 85)) (.slice (some ⟨w.heap.size, 0, none⟩) 2 2) ds ∧ val ds = z.toNat := by
  obtain ⟨n, rfl⟩ := Int.eq_ofNat_of_zero_le h
  refine ⟨[n % B32, n / B32], ?_, ?_⟩
  · have := DigB.dig (DigB.new w [n % B32, n / B32]) (by simp [okD, B32]; omega) (c := 2) (by simp) (by simp [maxLen])
    simpa [uc, B32] using this
  · simp only [val, B32, Int.toNat_natCast]; omega

set_option maxHeartbeats 1000000 in
theorem rfromInt64_any (z : Int) (w : World) (h0 : -9223372036854775808 ≤ z) (h1 : z ≤ 9223372036854775807) :
    Calls Tryz.prog 57 #[.int .i64 z] w fun e w' => ∃ v', e = .returned v' ∧ IntM w' v' (canI z) ∧ Below w.heap.size w w' := by
  have hR := Bk.new w 45 [.bool false, .slice none 0 0]
  have hbe := below_new w (.cells [.bool false, .slice none 0 0].toArray 45)
  rcases Int.lt_or_le z 0 with hn | hn
  · have e1 : IntKind.u64.wrap z = z + 18446744073709551616 := by simp [IntKind.wrap, IntKind.bits, IntKind.signed]; omega
    have e2 : IntKind.u64.wrap (-(z + 18446744073709551616)) = -z := by simp [IntKind.wrap, IntKind.bits, IntKind.signed]; omega
    obtain ⟨y, hy⟩ : ∃ y, y = -z := ⟨_, rfl⟩
    have y0 : 0 ≤ y := by omega
    have y1 : y ≤ 18446744073709551615 := by omega
    rw [← hy] at e2
    have HY := Lib.hid hy
    clear hy
    go_enter Tryz.func57, Tryz.ntmps57
    obtain ⟨ds, hds, hv⟩ := dig_pair (w.alloc (.cells #[.bool false, .slice none 0 0] 45)) y (by omega) (by omega)
    rw [size_alloc] at hds
    have HV := Lib.hid hv
    have hbn := below_new (w.alloc (.cells #[.bool false, .slice none 0 0] 45)) (.cells #[.int .u32 (y % 4294967296), .int .u32 (y / 4294967296)] 85)
    have hR1 := hR.later hbn
    have hbe1 := below_then hbe hbn hbe.size
    clear hv hbn hbe hR
    go_wp2_with fail
    generalize (w.alloc _).alloc _ = W at *
    refine (make_any _ _ ds _ hds (by rw [HV.out]; exact Nat.le_trans (digs_lt (k := 2) (by unfold B32; omega)) (by decide))).mono ?_
    rw [HV.out, show sm true (y).toNat = z from by have := HY.out; simp [sm]; omega]
    rintro e w2 ⟨v2, rfl, d2, hb2⟩
    obtain ⟨A, n, c, rfl, _⟩ := d2.shape
    have hR2 := hR1.later hb2
    obtain ⟨c0, c1, f0, f1⟩ := hR2.two
    go_wp2
    refine ret_cell Tryz.results57 Tryz.underlying45 (by kernel_rfl) rfl (hR2.set2 _ _) rfl ?_
    exact fin_int hR2 d2 (below_then hbe1 hb2 hbe1.size) (Nat.le_refl _)
  · have e1 : IntKind.u64.wrap z = z := u64_in _ hn (by omega)
    go_enter Tryz.func57, Tryz.ntmps57
    obtain ⟨ds, hds, hv⟩ := dig_pair (w.alloc (.cells #[.bool false, .slice none 0 0] 45)) z (by omega) (by omega)
    rw [size_alloc] at hds
    have HV := Lib.hid hv
    have hbn := below_new (w.alloc (.cells #[.bool false, .slice none 0 0] 45)) (.cells #[.int .u32 (z % 4294967296), .int .u32 (z / 4294967296)] 85)
    have hR1 := hR.later hbn
    have hbe1 := below_then hbe hbn hbe.size
    clear hv hbn hbe hR
    go_wp2_with fail
    generalize (w.alloc _).alloc _ = W at *
    refine (make_any _ _ ds _ hds (by rw [HV.out]; exact Nat.le_trans (digs_lt (k := 2) (by unfold B32; omega)) (by decide))).mono ?_
    rw [HV.out, show sm (decide (z < 0)) (z).toNat = z from by rw [decide_eq_false (by omega)]; simp [sm]; omega]
    rintro e w2 ⟨v2, rfl, d2, hb2⟩
    obtain ⟨A, n, c, rfl, _⟩ := d2.shape
    have hR2 := hR1.later hb2
    obtain ⟨c0, c1, f0, f1⟩ := hR2.two
    go_wp2
    refine ret_cell Tryz.results57 Tryz.underlying45 (by kernel_rfl) rfl (hR2.set2 _ _) rfl ?_
    exact fin_int hR2 d2 (below_then hbe1 hb2 hbe1.size) (Nat.le_refl _)

set_option maxHeartbeats 400000 in
theorem rcompareDigits_any (v1 v2 : Value) (xs ys : List Nat) (w : World) (h1 : DigM w v1 xs) (h2 : DigM w v2 ys) :
    Calls Tryz.prog 93 #[v1, v2] w fun e w' => e = .returned (.int .i64 (cmpN (val xs) (val ys))) ∧ Below w.heap.size w w' := by
  go_enter Tryz.func93, Tryz.ntmps93
  go_wp2_with fail
  refine (rtrim_any _ xs _ h1).mono ?_
  rintro e w1 ⟨u1, rfl, g1, rfl⟩
  go_wp2_with fail
  refine (rtrim_any _ ys _ h2).mono ?_
  rintro e w1 ⟨u2, rfl, g2, rfl⟩
  clear h1 h2
  obtain ⟨a, ha⟩ : ∃ a, a = val xs := ⟨_, rfl⟩
  obtain ⟨b, hb⟩ : ∃ b, b = val ys := ⟨_, rfl⟩
  rw [← ha] at g1
  rw [← hb] at g2
  have HA := Lib.hid ha
  have HB := Lib.hid hb
  clear ha hb
  obtain ⟨A, l, c, rfl⟩ := g1.shape
  obtain ⟨hl, hl', hnc, hc⟩ := g1.len
  obtain ⟨A2, l2, c2, rfl⟩ := g2.shape
  obtain ⟨kl, kl', knc, kc⟩ := g2.len
  rcases Nat.lt_trichotomy l l2 with hlt | heq | hgt
  · have e : cmpN a b = -1 := cmpN_lt (lt_of_len (by omega))
    have HE := Lib.hid e
    clear e
    go_wp2
    go_ret
    exact ⟨by rw [← HA.out, ← HB.out, HE.out]; rfl, Below.refl _ _⟩
  · subst heq
    go_wp2
    go_loopw [5] (fun x wr => ∃ (z : Int) (q : Nat), -1 ≤ z ∧ z < l ∧ x = .int .i64 z ∧ wr = w.drewN q ∧ ∀ i : Nat, z < i → dg (digs a) i = dg (digs b) i) (fun x _ => (intOf x + 1).toNat)
    case atStart => exact ⟨(l : Int) - 1, 0, by omega, by omega, rfl, rfl, fun i hi => by rw [dg_ge (by omega), dg_ge (by omega)]⟩
    case round =>
      obtain ⟨z, q, hk0, hk, rfl, rfl, hz⟩ := hrel
      have HZ := Lib.hid hz
      clear hz
      rcases Int.lt_or_le z 0 with h0 | h0
      · go_wp2
        go_ret
        exact ⟨by rw [← HA.out, ← HB.out, ← cmp_all (l := l) (by omega) (by omega) hk0 h0 HZ.out]; rfl, below_drewN' _ _⟩
      · obtain ⟨j, rfl⟩ := Int.eq_ofNat_of_zero_le h0
        obtain ⟨b1, off1, rfl, _, hcell1⟩ := g1.at_ (by omega)
        obtain ⟨b2, off2, rfl, _, hcell2⟩ := g2.at_ (by omega)
        have hc1 := hcell1 j (by omega)
        have hc2 := hcell2 j (by omega)
        clear hcell1 hcell2
        rcases Nat.lt_trichotomy (dg (digs a) j) (dg (digs b) j) with g | g | g
        · have t2 : decide (di (digs a) j < di (digs b) j) = true := by simp [di]; omega
          have HG := Lib.hid g
          clear g
          go_wp2
          go_quiet (fail)
          go_wp2
          go_ret
          exact ⟨by rw [← HA.out, ← HB.out, cmp_less (l := l) (by omega) (by omega) HZ.out HG.out]; rfl, by simp only [World.drewN_drewN]; exact below_drewN' _ _⟩
        · have t1 : decide (di (digs a) j < di (digs b) j) = false := by simp [di]; omega
          have t2 : decide (di (digs b) j < di (digs a) j) = false := by simp [di]; omega
          have HG := Lib.hid g
          clear g
          go_wp2
          go_quiet (fail)
          go_wp2
          go_quiet (fail)
          go_wp2
          go_roundw
          case rel => exact ⟨(j : Int) - 1, _, by omega, by omega, rfl, rfl, fun i hi => by
            rcases Nat.eq_or_lt_of_le (show j ≤ i by omega) with e | e
            · exact e ▸ HG.out
            · exact HZ.out i (by omega)⟩
          case measure => simp [intOf]
        · have t1 : decide (di (digs a) j < di (digs b) j) = false := by simp [di]; omega
          have t2 : decide (di (digs b) j < di (digs a) j) = true := by simp [di]; omega
          have HG := Lib.hid g
          clear g
          go_wp2
          go_quiet (fail)
          go_wp2
          go_quiet (fail)
          go_wp2
          go_ret
          exact ⟨by rw [← HA.out, ← HB.out, cmp_more (l := l) (by omega) (by omega) HZ.out HG.out]; rfl, by simp only [World.drewN_drewN]; exact below_drewN' _ _⟩
  · have e : cmpN a b = 1 := cmpN_gt (lt_of_len (by omega))
    have HE := Lib.hid e
    clear e
    go_wp2
    go_ret
    exact ⟨by rw [← HA.out, ← HB.out, HE.out]; rfl, Below.refl _ _⟩
end Go.Proofs.YtpanffbgihhjnaaGreat

/- Walks: package pairingref1: addDigits, subDigits, mulDigits. -/
namespace Go.Proofs.YtpanffbgihhjnaaGreat
open Go.RowKit Pl
attribute [local go_sem ↓] Go.wp_at_zero Go.wp_at_succ

theorem radd_fin {O xs ys : List Nat} {k : Nat} {z : Int} (hO : O.length = k) (hz : 0 ≤ z) (hx : xs.length + 1 ≤ k) (hy : ys.length + 1 ≤ k) (okx : okD xs) (oky : okD ys)
    (h : (vt O k : Int) + z * ((B32 ^ k : Nat) : Int) = vt xs k + vt ys k) : val O = val xs + val ys := by
  rw [vt_ge (by omega), vt_ge (show xs.length ≤ k by omega), vt_ge (show ys.length ≤ k by omega)] at h
  obtain ⟨j, rfl⟩ : ∃ j, k = j + 1 := ⟨k - 1, by omega⟩
  have a1 := Nat.lt_of_lt_of_le (val_lt okx) (Nat.pow_le_pow_right B32_pos (show xs.length ≤ j by omega))
  have a2 := Nat.lt_of_lt_of_le (val_lt oky) (Nat.pow_le_pow_right B32_pos (show ys.length ≤ j by omega))
  rw [Nat.pow_succ] at h
  generalize B32 ^ j = p at *
  rcases Int.lt_or_eq_of_le hz with h1 | h1
  · have : 1 * ((p * B32 : Nat) : Int) ≤ z * ((p * B32 : Nat) : Int) := Int.mul_le_mul_of_nonneg_right (by omega) (by omega)
    unfold B32 at *
    omega
  · subst h1
    omega

set_option maxRecDepth 100000 in
set_option maxHeartbeats 1000000 in
theorem raddDigits_any (v1 v2 : Value) (xs ys : List Nat) (w : World) (h1 : DigM w v1 xs) (h2 : DigM w v2 ys) (hx : xs.length ≤ 549755813888) (hy : ys.length ≤ 549755813888) :
    Calls Tryz.prog 92 #[v1, v2] w fun e w' => ∃ v', e = .returned v' ∧ DigM w' v' (digs (val xs + val ys)) ∧ Below w.heap.size w w' := by
  obtain ⟨A, l, c, rfl⟩ := h1.shape
  obtain ⟨hl, hl', hnc, hc⟩ := h1.len
  obtain ⟨A2, l2, c2, rfl⟩ := h2.shape
  obtain ⟨kl, kl', knc, kc⟩ := h2.len
  rcases Nat.lt_or_ge l l2 with hll | hll
  · have hmk := make_u32 (l2 + 1) (by omega)
    push_cast at hmk
    have HX : Hid (xs.length ≤ l2) := Lib.hid (by omega)
    have HY : Hid (ys.length ≤ l2) := Lib.hid (by omega)
    have hm4 : (l2 : Int) ≤ 549755813888 := by omega
    have ok1 := h1.ok
    have ok2 := h2.ok
    clear hl hl' kl kl' hx hy
    go_enter Tryz.func92, Tryz.ntmps92
    go_wp2
    clear hmk
    go_loopw [7, 8] (fun cy i wr => ∃ (k : Nat) (O : List Nat) (z : Int), k ≤ l2 + 1 ∧ i = .int .i64 k ∧ cy = .int .u64 z ∧ 0 ≤ z ∧ z ≤ 1 ∧ l2 + 1 ≤ O.length ∧ O.length ≤ l2 + 1 ∧ DigB wr w.heap.size O ∧ okD O ∧ Below w.heap.size w wr ∧
        (vt O k : Int) + z * ((B32 ^ k : Nat) : Int) = vt xs k + vt ys k) (fun _ i _ => l2 + 1 - (intOf i).toNat)
    case atStart => exact ⟨0, List.replicate (l2 + 1) 0, 0, by omega, rfl, rfl, by omega, by omega, by simp, by simp, DigB.zeros w _, okD_replicate _, (Below.refl _ _).alloc (Nat.le_refl _) _, by simp [vt_zero]⟩
    case round =>
      obtain ⟨k, O, z, hk, rfl, rfl, z0, z1, hO, hO', hB, ok, hbe, heq⟩ := hrel
      have HE := Lib.hid heq
      clear heq
      rcases Nat.lt_or_ge k (l2 + 1) with hkl | hkl
      · have x0 := di_nonneg xs k
        have x1 := di_le ok1 k
        have y0 := di_nonneg ys k
        have y1 := di_le ok2 k
        go_wp2_with fail
        refine (rdigit_any _ xs k _ (h1.below hbe) (by omega)).mono ?_
        rintro e w1 ⟨rfl, rfl⟩
        go_wp2_with fail
        refine (rdigit_any _ ys k _ (h2.below hbe) (by omega)).mono ?_
        rintro e w1 ⟨rfl, rfl⟩
        have ho := hB.cell (k := k) (by omega)
        have hf := hB.frozen k
        go_wp2
        go_roundw
        case rel => exact ⟨k + 1, O.set k ((z + di xs k + di ys k) % 4294967296).toNat, _, by omega, by go_num, rfl, by omega, by omega, by simpa using hO, by simpa using hO', hB.setI k (by omega), okD_set ok k (by unfold B32; omega), hbe.setCell (Nat.le_refl _) _, add_step (by omega) z0 rfl HE.out⟩
        case measure => simp [intOf]; omega
      · obtain rfl : k = l2 + 1 := by omega
        have hge : decide (((l2 : Int) + 1) < (l2 : Int) + 1) = false := by simp
        go_wp2_with fail
        refine (rtrim_any _ O _ ?_).mono ?_
        · have := hB.dig ok (c := l2 + 1) hO' (by unfold maxLen; omega)
          rwa [show O.length = l2 + 1 from by omega] at this
        rintro e w1 ⟨v', rfl, hv, rfl⟩
        go_wp2_with fail
        go_ret
        refine ⟨_, rfl, ?_, hbe⟩
        rwa [radd_fin (show O.length = l2 + 1 by omega) z0 (by have := HX.out; omega) (by have := HY.out; omega) ok1 ok2 HE.out] at hv
  · have hmk := make_u32 (l + 1) (by omega)
    push_cast at hmk
    have HX : Hid (xs.length ≤ l) := Lib.hid (by omega)
    have HY : Hid (ys.length ≤ l) := Lib.hid (by omega)
    have hm4 : (l : Int) ≤ 549755813888 := by omega
    have ok1 := h1.ok
    have ok2 := h2.ok
    clear hl hl' kl kl' hx hy
    go_enter Tryz.func92, Tryz.ntmps92
    go_wp2
    clear hmk
    go_loopw [7, 8] (fun cy i wr => ∃ (k : Nat) (O : List Nat) (z : Int), k ≤ l + 1 ∧ i = .int .i64 k ∧ cy = .int .u64 z ∧ 0 ≤ z ∧ z ≤ 1 ∧ l + 1 ≤ O.length ∧ O.length ≤ l + 1 ∧ DigB wr w.heap.size O ∧ okD O ∧ Below w.heap.size w wr ∧
        (vt O k : Int) + z * ((B32 ^ k : Nat) : Int) = vt xs k + vt ys k) (fun _ i _ => l + 1 - (intOf i).toNat)
    case atStart => exact ⟨0, List.replicate (l + 1) 0, 0, by omega, rfl, rfl, by omega, by omega, by simp, by simp, DigB.zeros w _, okD_replicate _, (Below.refl _ _).alloc (Nat.le_refl _) _, by simp [vt_zero]⟩
    case round =>
      obtain ⟨k, O, z, hk, rfl, rfl, z0, z1, hO, hO', hB, ok, hbe, heq⟩ := hrel
      have HE := Lib.hid heq
      clear heq
      rcases Nat.lt_or_ge k (l + 1) with hkl | hkl
      · have x0 := di_nonneg xs k
        have x1 := di_le ok1 k
        have y0 := di_nonneg ys k
        have y1 := di_le ok2 k
        go_wp2_with fail
        refine (rdigit_any _ xs k _ (h1.below hbe) (by omega)).mono ?_
        rintro e w1 ⟨rfl, rfl⟩
        go_wp2_with fail
        refine (rdigit_any _ ys k _ (h2.below hbe) (by omega)).mono ?_
        rintro e w1 ⟨rfl, rfl⟩
        have ho := hB.cell (k := k) (by omega)
        have hf := hB.frozen k
        go_wp2
        go_roundw
        case rel => exact ⟨k + 1, O.set k ((z + di xs k + di ys k) % 4294967296).toNat, _, by omega, by go_num, rfl, by omega, by omega, by simpa using hO, by simpa using hO', hB.setI k (by omega), okD_set ok k (by unfold B32; omega), hbe.setCell (Nat.le_refl _) _, add_step (by omega) z0 rfl HE.out⟩
        case measure => simp [intOf]; omega
      · obtain rfl : k = l + 1 := by omega
        have hge : decide (((l : Int) + 1) < (l : Int) + 1) = false := by simp
        go_wp2_with fail
        refine (rtrim_any _ O _ ?_).mono ?_
        · have := hB.dig ok (c := l + 1) hO' (by unfold maxLen; omega)
          rwa [show O.length = l + 1 from by omega] at this
        rintro e w1 ⟨v', rfl, hv, rfl⟩
        go_wp2_with fail
        go_ret
        refine ⟨_, rfl, ?_, hbe⟩
        rwa [radd_fin (show O.length = l + 1 by omega) z0 (by have := HX.out; omega) (by have := HY.out; omega) ok1 ok2 HE.out] at hv
end Go.Proofs.YtpanffbgihhjnaaGreat

/- Walks: package pairingref1: subDigits, mulDigits. -/
namespace Go.Proofs.YtpanffbgihhjnaaGreat
open Go.RowKit Pl
attribute [local go_sem ↓] Go.wp_at_zero Go.wp_at_succ

set_option maxRecDepth 100000 in
set_option maxHeartbeats 1000000 in
theorem rsubDigits_own (v1 v2 : Value) (xs ys : List Nat) (w : World) (h1 : DigM w v1 xs) (h2 : DigM w v2 ys) (hle : val ys ≤ val xs) (hlen : ys.length ≤ xs.length) (hs : xs.length ≤ 549755813888) :
    Calls Tryz.prog 94 #[v1, v2] w fun e w' => ∃ k l, e = .returned (.slice (some ⟨w.heap.size, 0, none⟩) k l) ∧ DigM w' (.slice (some ⟨w.heap.size, 0, none⟩) k l) (digs (val xs - val ys)) ∧ Below w.heap.size w w' := by
  have HL := Lib.hid hle
  clear hle
  obtain ⟨A, l, c, rfl⟩ := h1.shape
  obtain ⟨hl, hl', hnc, hc⟩ := h1.len
  have hmk := make_u32 l (by omega)
  have HX : Hid (xs.length ≤ l) := Lib.hid (by omega)
  have HY : Hid (ys.length ≤ l) := Lib.hid (by omega)
  have hm4 : (l : Int) ≤ 549755813888 := by omega
  have ok1 := h1.ok
  have ok2 := h2.ok
  clear hl hl' hlen hs
  go_enter Tryz.func94, Tryz.ntmps94
  go_wp2
  clear hmk
  go_loopw [6, 7] (fun cy i wr => ∃ (k : Nat) (O : List Nat) (z : Int), k ≤ l ∧ i = .int .i64 k ∧ cy = .int .u64 z ∧ 0 ≤ z ∧ z ≤ 1 ∧ l ≤ O.length ∧ O.length ≤ l ∧ DigB wr w.heap.size O ∧ okD O ∧ Below w.heap.size w wr ∧
      (vt O k : Int) - z * ((B32 ^ k : Nat) : Int) = vt xs k - vt ys k) (fun _ i _ => l - (intOf i).toNat)
  case atStart => exact ⟨0, List.replicate l 0, 0, by omega, rfl, rfl, by omega, by omega, by simp, by simp, DigB.zeros w _, okD_replicate _, (Below.refl _ _).alloc (Nat.le_refl _) _, by simp [vt_zero]⟩
  case round =>
    obtain ⟨k, O, z, hk, rfl, rfl, z0, z1, hO, hO', hB, ok, hbe, heq⟩ := hrel
    have HE := Lib.hid heq
    clear heq
    rcases Nat.lt_or_ge k l with hkl | hkl
    · have x0 := di_nonneg xs k
      have x1 := di_le ok1 k
      have y0 := di_nonneg ys k
      have y1 := di_le ok2 k
      have ho := hB.cell (k := k) (by omega)
      have hf := hB.frozen k
      go_wp2_with fail
      refine (rdigit_any _ xs k _ (h1.below hbe) (by omega)).mono ?_
      rintro e w1 ⟨rfl, rfl⟩
      go_wp2_with fail
      refine (rdigit_any _ ys k _ (h2.below hbe) (by omega)).mono ?_
      rintro e w1 ⟨rfl, rfl⟩
      obtain ⟨x, hx⟩ : ∃ x, x = di xs k + 4294967296 - di ys k - z := ⟨_, rfl⟩
      have HX2 := Lib.hid hx
      have q1 : IntKind.u64.wrap (di xs k + 4294967296) = di xs k + 4294967296 := u64_in _ (by omega) (by omega)
      have q2 : IntKind.u64.wrap (di xs k + 4294967296 - di ys k) = di xs k + 4294967296 - di ys k := u64_in _ (by omega) (by omega)
      have q3 : IntKind.u64.wrap (di xs k + 4294967296 - di ys k - z) = x := by rw [hx]; exact u64_in _ (by omega) (by omega)
      have r0 : 0 ≤ x := by omega
      have r1 : x ≤ 8589934591 := by omega
      clear hx
      have q4 : IntKind.u64.wrap (1 - x / 4294967296) = 1 - x / 4294967296 := u64_in _ (by omega) (by omega)
      go_wp2
      go_roundw
      case rel => exact ⟨k + 1, O.set k (x % 4294967296).toNat, 1 - x / 4294967296, by omega, by go_num, rfl, by omega, by omega, by simpa using hO, by simpa using hO', hB.setI k (by omega), okD_set ok k (by unfold B32; omega), hbe.setCell (Nat.le_refl _) _, sub_step (by omega) rfl (by omega) (by have := HX2.out; omega) HE.out⟩
      case measure => simp [intOf]; omega
    · obtain rfl : k = l := by omega
      go_wp2_with fail
      refine (rtrim_at _ _ _ O _ ?_).mono ?_
      · have := hB.dig ok (c := k) hO' (by unfold maxLen; omega)
        rwa [show O.length = k from by omega] at this
      rintro e w1 ⟨k', rfl, hv, rfl⟩
      go_wp2_with fail
      go_ret
      refine ⟨_, _, rfl, ?_, hbe⟩
      rwa [sub_fin (show O.length = k by omega) ok z0 HX.out HY.out HL.out HE.out] at hv

theorem rsubDigits_any (v1 v2 : Value) (xs ys : List Nat) (w : World) (h1 : DigM w v1 xs) (h2 : DigM w v2 ys) (hle : val ys ≤ val xs) (hlen : ys.length ≤ xs.length) (hs : xs.length ≤ 549755813888) :
    Calls Tryz.prog 94 #[v1, v2] w fun e w' => ∃ v', e = .returned v' ∧ DigM w' v' (digs (val xs - val ys)) ∧ Below w.heap.size w w' :=
  (rsubDigits_own v1 v2 xs ys w h1 h2 hle hlen hs).mono fun _ _ ⟨_, _, h1, h2, h3⟩ => ⟨_, h1, h2, h3⟩

set_option maxRecDepth 100000 in
set_option maxHeartbeats 2000000 in
theorem rmulDigits_any (v1 v2 : Value) (xs ys : List Nat) (w : World) (h1 : DigM w v1 xs) (h2 : DigM w v2 ys) (hs : xs.length + ys.length ≤ 1099511627776) :
    Calls Tryz.prog 96 #[v1, v2] w fun e w' => ∃ v', e = .returned v' ∧ DigM w' v' (digs (val xs * val ys)) ∧ Below w.heap.size w w' := by
  obtain ⟨A, l, c, rfl⟩ := h1.shape
  obtain ⟨hl, hl', hnc, hc⟩ := h1.len
  obtain ⟨A2, l2, c2, rfl⟩ := h2.shape
  obtain ⟨kl, kl', knc, kc⟩ := h2.len
  have ok1 := h1.ok
  have ok2 := h2.ok
  have hmk := make_u32 (l + l2) (by omega)
  push_cast at hmk
  have hm4 : (l : Int) + (l2 : Int) ≤ 1099511627776 := by omega
  have HX : Hid (xs.length ≤ l) := Lib.hid (by omega)
  have HY : Hid (ys.length = l2) := Lib.hid (by omega)
  clear hl hl' kl kl' hs
  go_enter Tryz.func96, Tryz.ntmps96
  go_wp2
  clear hmk
  go_loopw [6] (fun i wr => ∃ (k : Nat) (O : List Nat), k ≤ l ∧ i = .int .i64 k ∧ l + l2 ≤ O.length ∧ O.length ≤ l + l2 ∧ DigB wr w.heap.size O ∧ okD O ∧ Below w.heap.size w wr ∧
      (val O : Int) = (vt xs k : Int) * val ys ∧ (∀ j, k + l2 ≤ j → dg O j = 0)) (fun i _ => l - (intOf i).toNat)
  case atStart => exact ⟨0, List.replicate (l + l2) 0, by omega, rfl, by simp, by simp, DigB.zeros w _, okD_replicate _, (Below.refl _ _).alloc (Nat.le_refl _) _, by simp [vt_zero, val_replicate], fun j _ => dg_replicate _ _⟩
  case round =>
    obtain ⟨k, O, hk, rfl, hO, hO', hB, ok, hbe, heq, hzz⟩ := hrel
    have HE := Lib.hid heq
    have HZ := Lib.hid hzz
    clear heq hzz
    rcases Nat.lt_or_ge k l with hkl | hkl
    · obtain ⟨b1, off1, rfl, hb1, hcell1⟩ := h1.at_ (by omega)
      have HC1 := Lib.hid hcell1
      clear hcell1
      have x0 := di_nonneg xs k
      have x1 := di_le ok1 k
      obtain ⟨wo, hwo⟩ : ∃ wo : World, wo = wr := ⟨_, rfl⟩
      subst hwo
      go_wp2
      go_loopw [7, 8] (fun cy i wr => ∃ (j : Nat) (O' : List Nat) (z : Int), j ≤ l2 ∧ i = .int .i64 j ∧ cy = .int .u64 z ∧ 0 ≤ z ∧ z ≤ 4294967295 ∧ l + l2 ≤ O'.length ∧ O'.length ≤ l + l2 ∧ DigB wr w.heap.size O' ∧ okD O' ∧ Below w.heap.size w wr ∧
        (val O' : Int) + z * ((B32 ^ (k + j) : Nat) : Int) = (val O : Int) + di xs k * ((B32 ^ k : Nat) : Int) * vt ys j ∧ (∀ i, k + l2 ≤ i → dg O' i = 0)) (fun _ i _ => l2 - (intOf i).toNat)
      case atStart => exact ⟨0, O, 0, by omega, rfl, rfl, by omega, by omega, hO, hO', hB, ok, hbe, by simp [vt_zero], HZ.out⟩
      case round =>
        clear hbe hB
        obtain ⟨j, O', z, hj, rfl, rfl, z0, z1, hP, hP', hB', okP, hbe', heq', hzz'⟩ := hrel
        have HE' := Lib.hid heq'
        have HZ' := Lib.hid hzz'
        clear heq' hzz'
        rcases Nat.lt_or_ge j l2 with hjl | hjl
        · obtain ⟨b2, off2, rfl, hb2, hcell2⟩ := h2.at_ (by omega)
          have hx := dig_in hbe' hb1 HC1.out hkl
          have hy := dig_in hbe' hb2 hcell2 hjl
          clear hcell2
          have y0 := di_nonneg ys j
          have y1 := di_le ok2 j
          have p0 : 0 ≤ di xs k * di ys j := Int.mul_nonneg x0 y0
          have p1 : di xs k * di ys j ≤ 4294967295 * 4294967295 := Int.mul_le_mul x1 y1 y0 (by omega)
          have ho := hB'.cell (k := k + j) (by omega)
          have hf := hB'.frozen (k + j)
          have o0 := di_nonneg O' (k + j)
          have o1 := di_le okP (k + j)
          have g1 : IntKind.u64.wrap (di O' (k + j)) = di O' (k + j) := u64_in _ o0 (by omega)
          have g2 : IntKind.u64.wrap (z + di O' (k + j)) = z + di O' (k + j) := u64_in _ (by omega) (by omega)
          have g3 : IntKind.u64.wrap (di xs k) = di xs k := u64_in _ x0 (by omega)
          have g4 : IntKind.u64.wrap (di ys j) = di ys j := u64_in _ y0 (by omega)
          have g5 : IntKind.u64.wrap (di xs k * di ys j) = di xs k * di ys j := u64_in _ p0 (by omega)
          have g6 : IntKind.u64.wrap (z + di O' (k + j) + di xs k * di ys j) = z + di O' (k + j) + di xs k * di ys j := u64_in _ (by omega) (by omega)
          have g7 : IntKind.i64.wrap ((k : Int) + j) = (k : Int) + j := by simp only [IntKind.wrap, IntKind.bits, IntKind.signed]; simp; omega
          have g8 : ((k : Int) + j).toNat = k + j := by omega
          have g9 : (k : Int) + j < (l : Int) + l2 := by omega
          go_wp2
          go_quiet (fail)
          obtain ⟨T, hT⟩ : ∃ T, T = z + di O' (k + j) + di xs k * di ys j := ⟨_, rfl⟩
          have T0 : 0 ≤ T := by omega
          have T1 : T ≤ 18446744073709551615 := by omega
          rw [← hT]
          have HT := Lib.hid hT
          clear hT g1 g2 g3 g4 g5 g6 p0 p1
          go_wp2
          go_roundw
          case rel => exact ⟨j + 1, O'.set (k + j) (T % 4294967296).toNat, T / 4294967296, by omega, by go_num, rfl, by omega, by omega, by simpa using hP, by simpa using hP', (show DigB (wr.drewN nq) w.heap.size O' from hB').setI _ (by omega), okD_set okP _ (by unfold B32; omega), (below_drewN hbe' nq).setCell (Nat.le_refl _) _, mul_step (by omega) (by omega) (by have := HT.out; omega) HE'.out, fun i hi => by rw [dg_set_ne (by omega)]; exact HZ'.out i hi⟩
          case measure => simp [intOf]; omega
        · obtain rfl : j = l2 := by omega
          have ho := hB'.cell (k := k + j) (by omega)
          have hf := hB'.frozen (k + j)
          go_wp2
          go_roundw
          case rel => exact ⟨k + 1, O'.set (k + j) z.toNat, by omega, by go_num, by simpa using hP, by simpa using hP', hB'.setI _ (by omega), okD_set okP _ (by unfold B32; omega), hbe'.setCell (Nat.le_refl _) _, mul_outer HE.out (mul_carry' HY.out (by omega) z0 (HZ'.out _ (Nat.le_refl _)) HE'.out), fun i hi => by rw [dg_set_ne (by omega)]; exact HZ'.out i (by omega)⟩
          case measure => simp [intOf]; omega
    · obtain rfl : k = l := by omega
      go_wp2_with fail
      refine (rtrim_any _ O _ ?_).mono ?_
      · have := hB.dig ok (c := k + l2) hO' (by unfold maxLen; omega)
        rwa [show O.length = k + l2 from by omega] at this
      rintro e w1 ⟨v', rfl, hv, rfl⟩
      go_wp2_with fail
      go_ret
      refine ⟨_, rfl, ?_, hbe⟩
      rwa [mul_fin HX.out HE.out] at hv
end Go.Proofs.YtpanffbgihhjnaaGreat

/- Plain facts: lengths in bits, and the division bit by bit. -/
namespace Go.Proofs.YtpanffbgihhjnaaGreat.Pl

def bl (n : Nat) : Nat := if n = 0 then 0 else n.log2 + 1
theorem bl_zero : bl 0 = 0 := rfl
theorem bl_lt (n : Nat) : n < 2 ^ bl n := by
  unfold bl
  split
  · subst_vars; decide
  · rename_i h; exact (Nat.log2_lt h).1 (Nat.lt_succ_self _)
theorem bl_le {n : Nat} (h : n ≠ 0) : 0 < bl n ∧ 2 ^ (bl n - 1) ≤ n := by
  unfold bl
  rw [if_neg h]
  exact ⟨by omega, by simpa using (Nat.le_log2 h).1 (Nat.le_refl _)⟩
theorem bl_unique {n k : Nat} (h : n < 2 ^ k) (h2 : k = 0 ∨ 2 ^ (k - 1) ≤ n) : bl n = k := by
  rcases Nat.eq_zero_or_pos n with h0 | h0
  · subst h0
    rcases h2 with rfl | h2
    · rfl
    · have := Nat.pow_pos (n := k - 1) (show 0 < 2 by decide); omega
  · have h1 : n ≠ 0 := by omega
    have hk : k ≠ 0 := by rintro rfl; simp at h; omega
    rcases h2 with h2 | h2
    · exact absurd h2 hk
    · have a := (Nat.log2_lt h1).2 h
      have b := (Nat.le_log2 h1).2 h2
      unfold bl
      rw [if_neg h1]
      omega
theorem bl_half {n : Nat} (h : n ≠ 0) : bl n = bl (n / 2) + 1 := by
  have h1 := bl_lt (n / 2)
  have e : 2 ^ (bl (n / 2) + 1) = 2 * 2 ^ bl (n / 2) := by rw [Nat.pow_succ, Nat.mul_comm]
  apply bl_unique
  · omega
  · right
    rw [Nat.add_sub_cancel]
    rcases Nat.eq_zero_or_pos (n / 2) with h0 | h0
    · rw [h0, bl_zero]; omega
    · obtain ⟨p, q⟩ := bl_le (n := n / 2) (by omega)
      have e2 : 2 ^ bl (n / 2) = 2 * 2 ^ (bl (n / 2) - 1) := by
        rw [show bl (n / 2) = (bl (n / 2) - 1) + 1 by omega, Nat.pow_succ, Nat.mul_comm, Nat.add_sub_cancel]
      omega
theorem B32_pow (k : Nat) : B32 ^ k = 2 ^ (32 * k) := by rw [Nat.pow_mul]; rfl
theorem bl_high {a r k : Nat} (ha : a ≠ 0) (hr : r < 2 ^ k) : bl (r + a * 2 ^ k) = k + bl a := by
  apply bl_unique
  · rw [Nat.pow_add]
    have h : (a + 1) * 2 ^ k ≤ 2 ^ bl a * 2 ^ k := Nat.mul_le_mul_right _ (bl_lt a)
    rw [Nat.add_mul, Nat.one_mul] at h
    rw [Nat.mul_comm (2 ^ k)]
    omega
  · right
    obtain ⟨p, q⟩ := bl_le ha
    rw [show k + bl a - 1 = (bl a - 1) + k by omega, Nat.pow_add]
    have := Nat.mul_le_mul_right (2 ^ k) q
    omega
theorem bl_digs {n l : Nat} (hl : (digs n).length = l + 1) : bl n = 32 * l + bl (dg (digs n) l) := by
  have hv : n = vt (digs n) (l + 1) := by rw [vt_ge (by omega), val_digs]
  have h0 : dg (digs n) l ≠ 0 := by
    have hp : 0 < n := by
      rcases Nat.eq_zero_or_pos n with h | h
      · subst h; rw [digs_zero] at hl; simp at hl
      · exact h
    have := dg_digs_last hp
    rwa [hl, Nat.add_sub_cancel] at this
  have hr := vt_lt (okD_digs n) l
  rw [vt_succ'] at hv
  rw [B32_pow] at hv hr
  have := bl_high h0 hr
  rw [← hv] at this
  exact this
theorem bl_mono {a b : Nat} (h : a ≤ b) : bl a ≤ bl b := by
  rcases Nat.lt_or_ge (bl b) (bl a) with hlt | hge
  · exfalso
    have ha : a ≠ 0 := by rintro rfl; simp [bl] at hlt
    obtain ⟨p, q⟩ := bl_le ha
    have h1 := bl_lt b
    have h2 : 2 ^ bl b ≤ 2 ^ (bl a - 1) := Nat.pow_le_pow_right (by decide) (by omega)
    omega
  · exact hge
theorem bl_len {n : Nat} : bl n ≤ 32 * (digs n).length := by
  rcases Nat.lt_or_ge (32 * (digs n).length) (bl n) with h | h
  · exfalso
    have hn : n ≠ 0 := by rintro rfl; simp [bl] at h
    obtain ⟨p, q⟩ := bl_le hn
    have h1 := digs_lt_pow n
    rw [B32_pow] at h1
    have h2 : 2 ^ (32 * (digs n).length) ≤ 2 ^ (bl n - 1) := Nat.pow_le_pow_right (by decide) (by omega)
    omega
  · exact h
theorem bl_sub_lt {a b : Nat} (h : bl a < bl b) : a < b := by
  rcases Nat.lt_or_ge a b with g | g
  · exact g
  · have := bl_mono g; omega
theorem bl_start {a b : Nat} (h : bl b ≤ bl a) (hb : b ≠ 0) : a < b * 2 ^ (bl a - bl b + 1) := by
  obtain ⟨p, q⟩ := bl_le hb
  have h1 := bl_lt a
  have h2 := Nat.mul_le_mul_right (2 ^ (bl a - bl b + 1)) q
  rw [← Nat.pow_add, show bl b - 1 + (bl a - bl b + 1) = bl a by omega] at h2
  omega
theorem or_bit {a s : Nat} (h : 2 ^ (s + 1) ∣ a) : a ||| 2 ^ s = a + 2 ^ s := by
  obtain ⟨m, rfl⟩ := h
  have := Nat.shiftLeft_add_eq_or_of_lt (i := s + 1) (b := 2 ^ s) (by rw [Nat.pow_succ]; have := Nat.pow_pos (n := s) (show 0 < 2 by decide); omega) m
  rw [Nat.shiftLeft_eq, Nat.mul_comm m] at this
  exact this.symm
theorem dg_bits {Q : List Nat} {i : Nat} (ok : okD Q) (h : 2 ^ (i + 1) ∣ val Q) : 2 ^ (i % 32 + 1) ∣ dg Q (i / 32) := by
  have hs := val_split Q (i / 32)
  have hl := vt_lt ok (i / 32)
  have hd := dg_lt ok (i / 32)
  rw [B32_pow] at hs hl
  have hi : i + 1 = 32 * (i / 32) + (i % 32 + 1) := by omega
  rw [hi, Nat.pow_add] at h
  have hB : 2 ^ (i % 32 + 1) ∣ B32 := ⟨2 ^ (32 - (i % 32 + 1)), by rw [← Nat.pow_add, show i % 32 + 1 + (32 - (i % 32 + 1)) = 32 by omega]; rfl⟩
  generalize val (Q.drop (i / 32 + 1)) = H at *
  have h0 : vt Q (i / 32) = 0 := by
    have a : 2 ^ (32 * (i / 32)) ∣ val Q := Nat.dvd_trans (Nat.dvd_mul_right _ _) h
    have b : 2 ^ (32 * (i / 32)) ∣ vt Q (i / 32) := by
      rw [hs] at a
      exact (Nat.dvd_add_left (Nat.dvd_mul_right _ _)).1 a
    exact Nat.eq_zero_of_dvd_of_lt b hl
  rw [h0, Nat.zero_add] at hs
  rw [hs] at h
  have h3 := Nat.dvd_of_mul_dvd_mul_left (Nat.pow_pos (by decide)) h
  exact (Nat.dvd_add_left (Nat.dvd_trans hB (Nat.dvd_mul_right _ _))).1 h3
theorem val_bit {Q : List Nat} {i : Nat} (hi : i / 32 < Q.length) : val (Q.set (i / 32) (dg Q (i / 32) + 2 ^ (i % 32))) = val Q + 2 ^ i := by
  have h := val_set (ds := Q) (i := i / 32) (z := ((dg Q (i / 32) + 2 ^ (i % 32) : Nat) : Int)) hi (Int.natCast_nonneg _)
  rw [Int.toNat_natCast] at h
  have e : 2 ^ i = 2 ^ (i % 32) * B32 ^ (i / 32) := by
    rw [B32_pow, ← Nat.pow_add, show i % 32 + 32 * (i / 32) = i by omega]
  rw [e]
  have e2 : ((dg Q (i / 32) + 2 ^ (i % 32) : Nat) : Int) - di Q (i / 32) = ((2 ^ (i % 32) : Nat) : Int) := by unfold di; omega
  rw [e2, ← Int.natCast_mul] at h
  omega
theorem bit_fits {d s : Nat} (hs : s < 32) (hd : d < B32) (h : 2 ^ (s + 1) ∣ d) : d + 2 ^ s < B32 := by
  obtain ⟨m, rfl⟩ := h
  have hB : B32 = 2 ^ (s + 1) * 2 ^ (32 - (s + 1)) := by rw [← Nat.pow_add, show s + 1 + (32 - (s + 1)) = 32 by omega]; rfl
  rw [hB] at hd ⊢
  have hm := Nat.lt_of_mul_lt_mul_left hd
  have h2 : 2 ^ (s + 1) * (m + 1) ≤ 2 ^ (s + 1) * 2 ^ (32 - (s + 1)) := Nat.mul_le_mul_left _ hm
  have h3 : 2 ^ s < 2 ^ (s + 1) := Nat.pow_lt_pow_right (by decide) (by omega)
  rw [Nat.mul_add] at h2
  omega
theorem bit_step {X b Q R j : Nat} (hX : X = Q * b + R) (hR : R < b * 2 ^ (j + 1)) (hle : b * 2 ^ j ≤ R) (hd : 2 ^ (j + 1) ∣ Q) : X = (Q + 2 ^ j) * b + (R - b * 2 ^ j) ∧ R - b * 2 ^ j < b * 2 ^ j ∧ 2 ^ j ∣ Q + 2 ^ j := by
  rw [Nat.pow_succ, ← Nat.mul_assoc] at hR
  refine ⟨?_, by omega, Nat.dvd_add (Nat.dvd_trans ⟨2, by rw [Nat.pow_succ]⟩ hd) (Nat.dvd_refl _)⟩
  rw [Nat.add_mul, Nat.mul_comm (2 ^ j) b]
  omega
theorem bit_skip {Q j : Nat} (hd : 2 ^ (j + 1) ∣ Q) : 2 ^ j ∣ Q := Nat.dvd_trans ⟨2, by rw [Nat.pow_succ]⟩ hd
theorem half_pow (b j : Nat) : b * 2 ^ (j + 1) / 2 = b * 2 ^ j := by rw [Nat.pow_succ, ← Nat.mul_assoc, Nat.mul_div_cancel _ (by decide)]
theorem bit_end {X b Q R : Nat} (hX : X = Q * b + R) (hR : R < b) : Q = X / b ∧ R = X % b := by
  have h : X / b = Q ∧ X % b = R := by
    rw [hX, Nat.mul_comm, Nat.mul_add_div (by omega), Nat.div_eq_of_lt hR, Nat.mul_add_mod, Nat.mod_eq_of_lt hR]
    exact ⟨rfl, rfl⟩
  exact ⟨h.1.symm, h.2.symm⟩

theorem rshl_step {S xs : List Nat} {k q s : Nat} {hi lo : Int} (hk : k + q + 1 < S.length) (h0 : dg S (k + q + 1) = 0) (hlo : 0 ≤ lo) (hhi : 0 ≤ hi) (e : di xs k * 2 ^ s = lo + 4294967296 * hi)
    (h : (val S : Int) = vt xs k * 2 ^ (32 * q + s)) :
    ((val ((S.set (k + q) (di S (k + q) + lo).toNat).set (k + q + 1) hi.toNat) : Nat) : Int) = vt xs (k + 1) * 2 ^ (32 * q + s) := by
  have hd := di_nonneg S (k + q)
  rw [val_set (by simpa using hk) hhi, val_set (by omega) (by omega), di_eq (S.set _ _), dg_set_ne (by omega), h0, vt_cast_succ, pow_cast_succ, h]
  have e1 : ((B32 ^ (k + q) : Nat) : Int) = ((B32 ^ k : Nat) : Int) * 2 ^ (32 * q) := by
    rw [Nat.pow_add, B32_pow q, Int.natCast_mul, Int.natCast_pow 2]; rfl
  rw [e1, Int.pow_add]
  generalize ((B32 ^ k : Nat) : Int) = P at *
  generalize (2 : Int) ^ (32 * q) = T at *
  generalize (2 : Int) ^ s = U at *
  generalize (vt xs k : Int) = V at *
  generalize di S (k + q) = D at *
  generalize di xs k = x at *
  simp only [Int.natCast_zero, Int.sub_zero]
  grind
theorem half_fin {O xs : List Nat} {k : Nat} (hx : xs.length ≤ k) (hO : O.length ≤ k) (h : 2 * (vt O k : Int) + di xs 0 % 2 = (vt xs k : Int) + (di xs k % 2) * ((B32 ^ k : Nat) : Int)) : val O = val xs / 2 := by
  rw [vt_ge hx, vt_ge hO, di_eq xs k, dg_ge hx] at h
  have e2 : di xs 0 % 2 = ((dg xs 0 % 2 : Nat) : Int) := by rw [Int.natCast_emod]; rfl
  rw [e2] at h
  have : ((0 : Nat) : Int) % 2 * ((B32 ^ k : Nat) : Int) = 0 := by simp
  omega
end Go.Proofs.YtpanffbgihhjnaaGreat.Pl

/- Walks: package pairingref1: bitLen, shift, half. -/
namespace Go.Proofs.YtpanffbgihhjnaaGreat
open Go.RowKit Pl
attribute [local go_sem ↓] Go.wp_at_zero Go.wp_at_succ

set_option maxHeartbeats 400000 in
theorem rbitLen_any (v : Value) (ds : List Nat) (w : World) (h : DigM w v ds) (hs : (digs (val ds)).length ≤ 549755813888) :
    Calls Tryz.prog 117 #[v] w fun e w' => e = .returned (.int .i64 (bl (val ds) : Int)) ∧ w = w' := by
  generalize hX : val ds = X at *
  have HX := Lib.hid hX
  clear hX
  go_enter Tryz.func117, Tryz.ntmps117
  go_wp2_with fail
  refine (rtrim_any _ ds _ h).mono ?_
  rw [HX.out]
  rintro e w1 ⟨u1, rfl, g1, rfl⟩
  clear h
  obtain ⟨A, l, c, rfl⟩ := g1.shape
  obtain ⟨hl, hl', hnc, hc⟩ := g1.len
  rcases Nat.eq_zero_or_pos l with h0 | h0
  · have hv : X = 0 := len_zero (by omega)
    subst h0
    have HV := Lib.hid hv
    clear hv hl hl' hs
    go_wp2
    go_ret
    exact ⟨by rw [HV.out, bl_zero]; rfl, rfl⟩
  · obtain ⟨j, rfl⟩ : ∃ j, l = j + 1 := ⟨l - 1, by omega⟩
    have hbl : bl X = 32 * j + bl (dg (digs X) j) := bl_digs (by omega)
    obtain ⟨b, off, rfl, _, hcell⟩ := g1.at_ (by omega)
    have hcj := hcell j (by omega)
    have x0 := di_nonneg (digs X) j
    have x1 := di_le (okD_digs X) j
    have HB := Lib.hid hbl
    have hjb : (j : Int) ≤ 549755813888 := by omega
    clear hcell hbl hl hl' hs
    go_wp2
    go_loop [3, 4] (fun n x => ∃ (m : Nat) (y : Nat), n = .int .i64 (m : Int) ∧ x = .int .u32 (y : Int) ∧ y < 4294967296 ∧ m + bl y = 32 * j + bl (dg (digs X) j) ∧ m ≤ 32 * j + 32) (fun _ x => (intOf x).toNat)
    case atStart => exact ⟨32 * j, dg (digs X) j, by go_num, rfl, by unfold di at x1; omega, rfl, by omega⟩
    case round =>
      obtain ⟨m, y, rfl, rfl, hy, hm, hmb⟩ := hrel
      have HM := Lib.hid hm
      clear hm
      rcases Nat.eq_zero_or_pos y with hy0 | hy0
      · subst hy0
        go_wp2
        go_ret
        exact ⟨ret_int (by have := HB.out; have := HM.out; rw [bl_zero] at this; omega), rfl⟩
      · have hh := bl_half (n := y) (by omega)
        have hb2 := bl_le (n := dg (digs X) j)
        have hlb : bl (dg (digs X) j) ≤ 32 := by
          have h1 : bl (dg (digs X) j) ≤ bl 4294967295 := bl_mono (by unfold di at x1; omega)
          have h2 : bl 4294967295 = 32 := bl_unique (by decide) (.inr (by decide))
          omega
        have hm2 : m + 1 ≤ 32 * j + 32 := by have := HM.out; omega
        have HH := Lib.hid hh
        clear hh hb2 hlb
        go_wp2
        go_round
        case rel => exact ⟨m + 1, y / 2, by go_num, by go_num, by omega, by have := HM.out; have := HH.out; omega, hm2⟩
        case measure => simp [intOf]; omega

theorem or_place {z y : Int} {s : Nat} (hs : s ≤ 31) (z0 : 0 ≤ z) (z1 : z < 2 ^ s) (y0 : 0 ≤ y) (y1 : y ≤ 4294967295) : bits .or .u32 z (y * 2 ^ s % 4294967296) = z + y * 2 ^ s % 4294967296 ∧ z + y * 2 ^ s % 4294967296 ≤ 4294967295 := by
  obtain ⟨a, rfl⟩ := Int.eq_ofNat_of_zero_le z0
  obtain ⟨b, rfl⟩ := Int.eq_ofNat_of_zero_le y0
  have hB : 2 ^ s * 2 ^ (32 - s) = 4294967296 := by rw [← Nat.pow_add, show s + (32 - s) = 32 from by omega]
  have hpp := Nat.pow_pos (n := s) (show 0 < 2 by decide)
  have hps : 2 ^ s ≤ 2 ^ 31 := Nat.pow_le_pow_right (by decide) hs
  rw [pow_cast] at *
  have e : ((b : Int) * ((2 ^ s : Nat) : Int)) % 4294967296 = (((b % 2 ^ (32 - s)) * 2 ^ s : Nat) : Int) := by
    have : (b * 2 ^ s) % 4294967296 = (b % 2 ^ (32 - s)) * 2 ^ s := by rw [← hB, Nat.mul_comm (2 ^ s), Nat.mul_mod_mul_right]
    rw [← this]; omega
  rw [e]
  have hlt := Nat.mod_lt b (Nat.pow_pos (n := 32 - s) (show 0 < 2 by decide))
  generalize b % 2 ^ (32 - s) = m at *
  have hm : (m + 1) * 2 ^ s ≤ 4294967296 := by
    rw [← hB, Nat.mul_comm (2 ^ s)]; exact Nat.mul_le_mul_right _ hlt
  rw [Nat.add_mul, Nat.one_mul] at hm
  refine ⟨?_, by omega⟩
  rw [u32_or_nat _ _ (by omega) (by omega), Nat.or_comm, ← Nat.shiftLeft_eq, ← Nat.shiftLeft_add_eq_or_of_lt (by omega), Nat.shiftLeft_eq]
  omega

set_option maxRecDepth 100000 in
set_option maxHeartbeats 1000000 in
theorem rshift_own (v : Value) (ds : List Nat) (q s : Nat) (w : World) (h : DigM w v ds) (hs : s ≤ 31) (hl0 : ds.length + q ≤ 549755813888) :
    Calls Tryz.prog 118 #[v, .int .i64 ((32 * q + s : Nat) : Int)] w fun e w' => ∃ k l, e = .returned (.slice (some ⟨w.heap.size, 0, none⟩) k l) ∧ DigM w' (.slice (some ⟨w.heap.size, 0, none⟩) k l) (digs (val ds * 2 ^ (32 * q + s))) ∧ Below w.heap.size w w' := by
  obtain ⟨A, l, c, rfl⟩ := h.shape
  obtain ⟨hl, hl', hnc, hc⟩ := h.len
  have hp1 := pow_le_31 hs
  have hp0 : (1 : Int) ≤ 2 ^ s := pow_pos_1 s
  have hmk := make_u32 (l + q + 1) (by omega)
  push_cast at hmk
  have HX : Hid (ds.length ≤ l) := Lib.hid (by omega)
  have hq1 : (q : Int) ≤ 549755813888 := by omega
  have hl1 : (l : Int) + q ≤ 549755813888 := by omega
  have hok := h.ok
  generalize hN : ((32 * q + s : Nat) : Int) = N
  have hN0 : 0 ≤ N := by omega
  have hN1 : N ≤ 17592186044447 := by omega
  have hdq : N / 32 = (q : Int) := by omega
  have hds : N % 32 = (s : Int) := by omega
  clear hl hl' hl0 hN
  go_enter Tryz.func118, Tryz.ntmps118
  go_wp2
  clear hmk
  go_loopw [6] (fun i wr => ∃ (k : Nat) (O : List Nat), k ≤ l ∧ i = .int .i64 k ∧ l + q + 1 ≤ O.length ∧ O.length ≤ l + q + 1 ∧ DigB wr w.heap.size O ∧ okD O ∧ Below w.heap.size w wr ∧
      (val O : Int) = vt ds k * 2 ^ (32 * q + s) ∧ di O (k + q) < 2 ^ s ∧ ∀ j, k + q < j → dg O j = 0) (fun i _ => l - (intOf i).toNat)
  case atStart => exact ⟨0, List.replicate (l + q + 1) 0, by omega, rfl, by simp, by simp, DigB.zeros w _, okD_replicate _, (Below.refl _ _).alloc (Nat.le_refl _) _, by simp [vt_zero, val_replicate], by rw [di_eq, dg_replicate]; simp; omega, fun j _ => dg_replicate _ _⟩
  case round =>
    obtain ⟨k, O, hk, rfl, hO, hO', hB, ok, hbe, heq, htop, hz⟩ := hrel
    have HE := Lib.hid heq
    have HZ := Lib.hid hz
    clear heq hz
    rcases Nat.lt_or_ge k l with hkl | hkl
    · obtain ⟨b1, off1, rfl, hb1, hcell1⟩ := h.at_ (by omega)
      have hx := dig_in hbe hb1 hcell1 hkl
      have x0 := di_nonneg ds k
      have x1 := di_le hok k
      have z0 := di_nonneg O (k + q)
      obtain ⟨ho1, ho2⟩ := or_place hs z0 htop x0 x1
      have ho := hB.cell (k := k + q) (by omega)
      have hf := hB.frozen (k + q)
      have m0 : 0 ≤ di ds k * 2 ^ s % 4294967296 := Int.emod_nonneg _ (by decide)
      have hB' := hB.setI (k + q) (z := di O (k + q) + di ds k * 2 ^ s % 4294967296) (by omega)
      have ho' := hB'.cell (k := k + q + 1) (by simp; omega)
      have hf' := hB'.frozen (k + q + 1)
      have hn1 : (k : Int) + q < (l : Int) + q + 1 := by omega
      have hn2 : (k : Int) + q + 1 < (l : Int) + q + 1 := by omega
      have hn3 : ((k : Int) + q).toNat = k + q := by omega
      have hn4 : ((k : Int) + q + 1).toNat = k + q + 1 := by omega
      have p0 : 0 ≤ di ds k * 2 ^ s := Int.mul_nonneg x0 (by omega)
      have p1 : di ds k * 2 ^ s ≤ 4294967295 * 2147483648 := Int.mul_le_mul x1 hp1 (by omega) (by omega)
      have hlt : di ds k * 2 ^ s / 4294967296 < 2 ^ s := by
        have : di ds k * 2 ^ s < 4294967296 * 2 ^ s := Int.mul_lt_mul_of_pos_right (by omega) (by omega)
        exact Int.ediv_lt_of_lt_mul (by decide) (by rw [Int.mul_comm (2 ^ s)]; exact this)
      have hst : ∀ T : Int, T = di ds k * 2 ^ s → ((val ((O.set (k + q) (di O (k + q) + T % 4294967296).toNat).set (k + q + 1) (T / 4294967296).toNat) : Nat) : Int) = vt ds (k + 1) * 2 ^ (32 * q + s) := by
        rintro T rfl
        exact rshl_step (by omega) (HZ.out _ (by omega)) m0 (by omega) (by omega) HE.out
      obtain ⟨T, hT⟩ : ∃ T, T = di ds k * 2 ^ s := ⟨_, rfl⟩
      have HST := Lib.hid (hst T hT)
      rw [← hT] at ho1 ho2 m0 hB' ho' hf' p0 p1 hlt
      have hTs := hT.symm
      clear hT hst
      have hor : bits .or .u32 (di O (k + q)) (T % 4294967296) = di O (k + q) + T % 4294967296 := ho1
      go_wp2
      go_roundw
      case rel => exact ⟨k + 1, (O.set (k + q) (di O (k + q) + T % 4294967296).toNat).set (k + q + 1) (T / 4294967296).toNat, by omega, by go_num, by simpa using hO, by simpa using hO', hB'.setI _ (by omega), okD_set (okD_set ok _ (by unfold B32; omega)) _ (by unfold B32; omega), (hbe.setCell (Nat.le_refl _) _).setCell (Nat.le_refl _) _, HST.out, by rw [show k + 1 + q = k + q + 1 by omega, di_eq, dg_set_eq (by simp; omega)]; omega, fun j hj => by rw [dg_set_ne (by omega), dg_set_ne (by omega)]; exact HZ.out j (by omega)⟩
      case measure => simp [intOf]; omega
    · obtain rfl : k = l := by omega
      go_wp2_with fail
      refine (rtrim_at _ _ _ O _ ?_).mono ?_
      · have := hB.dig ok (c := k + q + 1) hO' (by unfold maxLen; omega)
        rwa [show O.length = k + q + 1 from by omega] at this
      rintro e w1 ⟨k', rfl, hv, rfl⟩
      go_wp2_with fail
      go_ret
      refine ⟨_, _, rfl, ?_, hbe⟩
      have := HE.out
      rw [vt_ge HX.out, pow_cast, ← Int.natCast_mul] at this
      rwa [Int.natCast_inj.1 this] at hv

theorem cell_far {w : World} {b o g : Nat} {v : Value} (hne : b ≠ g) (h : w.cell? ⟨b, o, none⟩ = some v) (k : Nat) (u : Value) : (w.setCell ⟨g, k, none⟩ u).drew.cell? ⟨b, o, none⟩ = some v :=
  (World.cell?_setCell_other w ⟨g, k, none⟩ ⟨b, o, none⟩ u (fun e => hne (by injection e with e1; exact e1.symm))).trans h
theorem or_half {x y : Int} (x0 : 0 ≤ x) (x1 : x ≤ 4294967295) (y0 : 0 ≤ y) (y1 : y ≤ 4294967295) : bits .or .u32 (x / 2) (y * 2147483648 % 4294967296) = x / 2 + 2147483648 * (y % 2) := by
  have e : y * 2147483648 % 4294967296 = ((2147483648 * (y.toNat % 2) : Nat) : Int) := by omega
  have e1 : x / 2 = ((x.toNat / 2 : Nat) : Int) := by omega
  rw [e, e1, u32_or_nat _ _ (by omega) (by omega)]
  have h : 2147483648 * (y.toNat % 2) ||| (x.toNat / 2) = 2147483648 * (y.toNat % 2) + x.toNat / 2 := by
    have := Nat.shiftLeft_add_eq_or_of_lt (i := 31) (b := x.toNat / 2) (by omega) (y.toNat % 2)
    rw [Nat.shiftLeft_eq, show (2 : Nat) ^ 31 = 2147483648 from rfl, Nat.mul_comm] at this
    exact this.symm
  rw [Nat.or_comm, h]
  omega
set_option maxHeartbeats 1000000 in
theorem rhalf_own (v : Value) (ds : List Nat) (w : World) (h : DigM w v ds) (hl0 : ds.length ≤ 549755813888) :
    Calls Tryz.prog 119 #[v] w fun e w' => ∃ k l, e = .returned (.slice (some ⟨w.heap.size, 0, none⟩) k l) ∧ DigM w' (.slice (some ⟨w.heap.size, 0, none⟩) k l) (digs (val ds / 2)) ∧ Below w.heap.size w w' := by
  obtain ⟨A, l, c, rfl⟩ := h.shape
  obtain ⟨hl, hl', hnc, hc⟩ := h.len
  have hmk := make_u32 l (by omega)
  have HX : Hid (ds.length ≤ l) := Lib.hid (by omega)
  have hl1 : (l : Int) ≤ 549755813888 := by omega
  have hok := h.ok
  clear hl hl' hl0
  go_enter Tryz.func119, Tryz.ntmps119
  go_wp2
  clear hmk
  go_loopw [4] (fun i wr => ∃ (k : Nat) (O : List Nat), k ≤ l ∧ i = .int .i64 k ∧ l ≤ O.length ∧ O.length ≤ l ∧ DigB wr w.heap.size O ∧ okD O ∧ Below w.heap.size w wr ∧
      2 * (vt O k : Int) + di ds 0 % 2 = (vt ds k : Int) + (di ds k % 2) * ((B32 ^ k : Nat) : Int)) (fun i _ => l - (intOf i).toNat)
  case atStart => exact ⟨0, List.replicate l 0, by omega, rfl, by simp, by simp, DigB.zeros w _, okD_replicate _, (Below.refl _ _).alloc (Nat.le_refl _) _, by simp [vt_zero]⟩
  case round =>
    obtain ⟨k, O, hk, rfl, hO, hO', hB, ok, hbe, heq⟩ := hrel
    have HE := Lib.hid heq
    clear heq
    rcases Nat.lt_or_ge k l with hkl | hkl
    · obtain ⟨b1, off1, rfl, hb1, hcell1⟩ := h.at_ (by omega)
      have hx := dig_in hbe hb1 hcell1 hkl
      have x0 := di_nonneg ds k
      have x1 := di_le hok k
      have y0 := di_nonneg ds (k + 1)
      have y1 := di_le hok (k + 1)
      have ho := hB.cell (k := k) (by omega)
      have hf := hB.frozen k
      clear hcell1
      have hor := or_half x0 x1 y0 y1
      have g1 : IntKind.i64.wrap ((k : Int) + 1) = ((k + 1 : Nat) : Int) := by simp only [IntKind.wrap, IntKind.bits, IntKind.signed]; simp; omega
      have g2 : IntKind.u64.wrap (di ds (k + 1) * 2147483648) = di ds (k + 1) * 2147483648 := u64_in _ (by omega) (by omega)
      have g3 : IntKind.u32.wrap (di ds (k + 1) * 2147483648) = di ds (k + 1) * 2147483648 % 4294967296 := by simp only [IntKind.wrap, IntKind.bits, IntKind.signed]; simp
      have hd := rdigit_any (.slice (some ⟨b1, off1, none⟩) l c) ds (k + 1) wr.drew ((h.below hbe).keep (Keep.drew _)) (by omega)
      have HST : Hid (2 * (vt (O.set k (di ds k / 2 + 2147483648 * (di ds (k + 1) % 2)).toNat) (k + 1) : Int) + di ds 0 % 2 = (vt ds (k + 1) : Int) + (di ds (k + 1) % 2) * ((B32 ^ (k + 1) : Nat) : Int)) := Lib.hid (shr_step (by omega) (by omega) (by omega) HE.out)
      go_wp2
      have hne : b1 ≠ w.heap.size := by omega
      go_region_held3 (fun w' => w'.cell? ⟨b1, off1 + k, none⟩ = some (.int .u32 (di ds k)))
        (first | exact hx | exact cell_far hne hx _ _)
        ((go_at_call 110; refine hd.mono ?_; rintro e w1 ⟨rfl, rfl⟩))
      go_wp2
      go_roundw
      case rel => exact ⟨k + 1, O.set k (di ds k / 2 + 2147483648 * (di ds (k + 1) % 2)).toNat, by omega, by go_num, by simpa using hO, by simpa using hO', hB.setI k (by omega), okD_set ok _ (by unfold B32; omega), (hbe.setCell (Nat.le_refl _) _).drew, HST.out⟩
      case measure => simp [intOf]; omega
    · obtain rfl : k = l := by omega
      go_wp2_with fail
      refine (rtrim_at _ _ _ O _ ?_).mono ?_
      · have := hB.dig ok (c := k) hO' (by unfold maxLen; omega)
        rwa [show O.length = k from by omega] at this
      rintro e w1 ⟨k', rfl, hv, rfl⟩
      go_wp2_with fail
      go_ret
      refine ⟨_, _, rfl, ?_, hbe⟩
      rwa [half_fin HX.out hO' HE.out] at hv
end Go.Proofs.YtpanffbgihhjnaaGreat

/- Walks: package pairingref1: append onto nothing; divDigits. -/
namespace Go.Proofs.YtpanffbgihhjnaaGreat
open Go.RowKit Pl
attribute [local go_sem ↓] Go.wp_at_zero Go.wp_at_succ

theorem run_append_dig (ty : TypeId) (w : World) (A : Option Addr) (n c : Nat) (ds : List Nat) (h : DigM w (.slice A n c) ds) (hs : ds.length ≤ 549755813888) :
    ∃ v' w', (Builtin.append_ #[43, 43] ty #[.slice none 0 0, .slice A n c]).run Tryz.prog w = .ok v' w' ∧ w'.ownsRow w.heap.size 85 1 v' ds.length (ds.map uc) ∧ Below w.heap.size w w' := by
  obtain ⟨i0, hi, hz0, hz1, hz2⟩ := info_parts info_u32
  obtain ⟨hl, hl', hnc, hc⟩ := h.len
  obtain rfl : n = ds.length := by omega
  rcases A with _ | ad
  · have hn : ds = [] := by
      rcases Nat.eq_zero_or_pos ds.length with h0 | h0
      · exact List.length_eq_zero_iff.1 h0
      · obtain ⟨b, off, hA, _⟩ := h.at_ h0
        cases hA
    subst hn
    refine ⟨.slice none 0 0, w, ?_, World.ownsRow_nil _ _ _ _, Below.refl _ _⟩
    simp [Builtin.append_, run_underlying Tryz.underlying43, sizeOf, typeInfo, hi, Builtin.lenOf, Builtin.firstCells]
  · obtain ⟨v', w', hrun, h2, h3, _, _⟩ := run_append_own_at (P := Tryz.prog) w w.heap.size 43 ty 85 i0 _ 1 4 Tryz.underlying43 hi hz0 hz1 hz2 rfl (by decide) (.slice none 0 0) 0 [] (World.ownsRow_nil _ _ _ _) ad ds.length c (ds.map uc) (by simp) h.news (uc_oneCell _) (by unfold maxLen; omega) (by omega) (Nat.le_refl _)
    exact ⟨v', w', hrun, by simpa using h2, (Below.refl _ _).grown h3 (Nat.le_refl _) (fun k hk => by simp [Value.ownBlock] at hk)⟩
theorem wp_append_dig {o : Oper} {a : Act} {K : Act → World → Prop} {Q : Exit → Act → World → Prop} (x : Operand)
    (ho : o.op = .call { callee := .builtin .append, args := #[.const (.slice none 0 0), x], argTypes := #[43, 43] })
    (w : World) (A : Option Addr) (n c : Nat) (ds : List Nat) (hx : a.eval x = .slice A n c) (h : DigM w (.slice A n c) ds) (hs : ds.length ≤ 549755813888)
    (hK : ∀ v' w', w'.ownsRow w.heap.size 85 1 v' ds.length (ds.map uc) → Below w.heap.size w w' → K (a.put o.dst v') w') : o.wp Tryz.prog a w K Q := by
  obtain ⟨v', w', hrun, h2, h3⟩ := run_append_dig o.type w A n c ds h hs
  have hc : a.eval (.const (.slice none 0 0)) = .slice none 0 0 := rfl
  unfold Oper.wp execOp
  simp only [ho, resolve, invoke, builtin, Sem.run_bind, Sem.run_pure, Result.andThen_ok, List.map_toArray, List.map_cons, List.map_nil, hc, hx, hrun]
  exact hK v' w' h2 h3
theorem wpList_append_dig {ops : Array Oper} {rest : List Oper} {o : Oper} {a : Act} {Q : Exit → Act → World → Prop} (hgd : o.guard = none) (x : Operand)
    (ho : o.op = .call { callee := .builtin .append, args := #[.const (.slice none 0 0), x], argTypes := #[43, 43] })
    (w : World) (A : Option Addr) (n c : Nat) (ds : List Nat) (hx : a.eval x = .slice A n c) (h : DigM w (.slice A n c) ds) (hs : ds.length ≤ 549755813888)
    (hK : ∀ v' w', w'.ownsRow w.heap.size 85 1 v' ds.length (ds.map uc) → Below w.heap.size w w' → wpList Tryz.prog ops Q rest (a.put o.dst v') w') : wpList Tryz.prog ops Q (o :: rest) a w :=
  wpList_plain hgd fun _ hk => wp_append_dig x ho w A n c ds hx h hs fun v' w' h2 h3 => hk _ _ (hK v' w' h2 h3)

theorem or_bit32 {d s : Nat} (hs : s ≤ 31) (hd : d < B32) (h : 2 ^ (s + 1) ∣ d) : bits .or .u32 (d : Int) (2 ^ s) = ((d + 2 ^ s : Nat) : Int) := by
  have h2 : 2 ^ s ≤ 2 ^ 31 := Nat.pow_le_pow_right (by decide) hs
  rw [pow_cast, u32_or_nat _ _ (by unfold B32 at hd; omega) (by omega), or_bit h]

def Off (g : Nat) (v : Value) : Prop := ∀ a n c, v = .slice (some a) n c → a.block ≠ g
theorem Off.mk {g b o n c : Nat} (h : b ≠ g) : Off g (.slice (some ⟨b, o, none⟩) n c) := fun a n' c' e => by
  injection e with e1
  injection e1 with e1
  subst e1
  exact h
theorem Off.own {w : World} {base e size n g : Nat} {v : Value} {xs : List Value} (h : w.ownsRow base e size v n xs) (hg : w.heap.size ≤ g) : Off g v := fun a n' c' he => by
  rcases h.2 with ⟨rfl, _⟩ | ⟨k, cap, cur, rfl, _, hh, _⟩
  · injection he with e1; cases e1
  · injection he with e1
    injection e1 with e1
    subst e1
    have := lt_heap hh
    show k ≠ g
    omega
theorem DigM.far {w : World} {v : Value} {ds : List Nat} {g : Nat} (h : DigM w v ds) (ho : Off g v) (k : Nat) (u : Value) : DigM (w.setCell ⟨g, k, none⟩ u) v ds := by
  obtain ⟨A, c, hv, h1, h2, h3, h4⟩ := h
  refine ⟨A, c, hv, h1, h2, h3, fun hp => ?_⟩
  obtain ⟨b, off, cs, fz, hA, hb, hc⟩ := h4 hp
  have hne : b ≠ g := by subst hA; exact ho _ _ _ hv
  exact ⟨b, off, cs, fz, hA, by rw [heap_setCell_other w _ _ _ hne]; exact hb, hc⟩

def DivAt (X Y q g : Nat) (w : World) (r d : Value) (z : Int) (wr : World) (Q : List Nat) (R D : Nat) : Prop :=
  DigM wr r (digs R) ∧ DigM wr d (digs D) ∧ D = Y * 2 ^ (z + 1).toNat / 2 ∧ R < Y * 2 ^ (z + 1).toNat ∧ X = val Q * Y + R ∧ 2 ^ (z + 1).toNat ∣ val Q ∧ DigB wr g Q ∧ okD Q ∧ q + 1 ≤ Q.length ∧ Q.length ≤ q + 1 ∧ Below w.heap.size w wr ∧ (digs R).length ≤ 137438953472 ∧ (digs D).length ≤ 549755813888 ∧ Off g r ∧ Off g d

def DivDigPost (X Y : Nat) (w : World) (e : Ending) (w' : World) : Prop :=
  ∃ v1 v2, e = .returned (.tuple #[v1, v2]) ∧ DigM w' v1 (digs (X / Y)) ∧ DigM w' v2 (digs (X % Y)) ∧ Below w.heap.size w w'

set_option maxRecDepth 100000 in
set_option maxHeartbeats 1000000 in
theorem rdivDigits_any (v1 v2 : Value) (xs ys : List Nat) (w : World) (h1 : DigM w v1 xs) (h2 : DigM w v2 ys) (hy : val ys ≠ 0) (hs1 : (digs (val xs)).length ≤ 137438953472) (hs2 : ys.length ≤ 137438953472) :
    Calls Tryz.prog 108 #[v1, v2] w (DivDigPost (val xs) (val ys) w) := by
  have hsy : (digs (val ys)).length ≤ 137438953472 := Nat.le_trans (digs_len_le h2.ok) hs2
  generalize hX : val xs = X at *
  generalize hY : val ys = Y at *
  have HX := Lib.hid hX
  have HY := Lib.hid hY
  have HYZ := Lib.hid hy
  clear hX hY hy
  go_enter Tryz.func108, Tryz.ntmps108
  go_wp2_with fail
  refine (rtrim_any _ xs _ h1).mono ?_
  rw [HX.out]
  rintro e w1 ⟨u1, rfl, g1, rfl⟩
  obtain ⟨A, l, c, rfl⟩ := g1.shape
  go_wp2_with (at_builtin; refine wpList_append_dig rfl (.tmp 12) rfl _ A l c (digs X) rfl g1 (by omega) ?_)
  intro v' w1 hown hbe
  have d1 := own_dig hown (okD_digs X)
  have o1 := Off.own hown (Nat.le_refl _)
  clear hown
  go_wp2_with fail
  refine (rbitLen_any _ xs _ (h1.below hbe) (by rw [HX.out]; omega)).mono ?_
  rw [HX.out]
  rintro e w2 ⟨rfl, rfl⟩
  go_wp2_with fail
  refine (rbitLen_any _ ys _ (h2.below hbe) (by rw [HY.out]; omega)).mono ?_
  rw [HY.out]
  rintro e w2 ⟨rfl, rfl⟩
  have b1 := @bl_len X
  have b2 := @bl_len Y
  rcases Nat.lt_or_ge (bl X) (bl Y) with hlt | hge
  · have hq : X / Y = 0 ∧ X % Y = X := ⟨Nat.div_eq_of_lt (bl_sub_lt hlt), Nat.mod_eq_of_lt (bl_sub_lt hlt)⟩
    have HQ := Lib.hid hq
    have ht : (bl X : Int) - bl Y < 0 := by omega
    clear hq
    go_wp2
    go_ret2
    exact ⟨_, _, rfl, by rw [HQ.out.1, digs_zero]; exact DigM.nil _ _ _ (by simp), by rw [HQ.out.2]; exact d1, hbe⟩
  · have hst := bl_start hge HYZ.out
    obtain ⟨n, hn⟩ : ∃ n : Nat, n = bl X - bl Y := ⟨_, rfl⟩
    have hn' : (bl X : Int) - bl Y = (n : Int) := by omega
    rw [← hn] at hst
    have HST := Lib.hid hst
    obtain ⟨q, s, hqs, hs⟩ : ∃ q s, n = 32 * q + s ∧ s ≤ 31 := ⟨n / 32, n % 32, by omega, by omega⟩
    have hnb : (n : Int) ≤ 4398046511104 := by omega
    have hqb : q ≤ 137438953472 := by omega
    have hq : (n : Int) / 32 = (q : Int) := by omega
    have HN := Lib.hid hqs
    have hmk := make_u32 (q + 1) (by omega)
    push_cast at hmk
    clear hst hn b1 b2 hqs
    go_wp2_with fail
    clear hmk
    obtain ⟨W, hW⟩ : ∃ W, W = w1.alloc (.cells (zc (q + 1)) 85) := ⟨_, rfl⟩
    have hbn : Below w1.heap.size w1 W := hW ▸ below_new _ _
    have hB : DigB W w1.heap.size (List.replicate (q + 1) 0) := hW ▸ DigB.zeros w1 _
    rw [← hW]
    clear hW
    have hbe2 := below_then hbe hbn hbe.size
    have hc := rshift_own v2 ys q s W (h2.below hbe2) hs (by omega)
    rw [← HN.out, HY.out] at hc
    refine hc.mono ?_
    clear hc
    rintro e w2 ⟨kd, ld, rfl, d2, hb2⟩
    have o2 : Off w1.heap.size (.slice (some ⟨W.heap.size, 0, none⟩) kd ld) := Off.mk (by have := hB.lt; omega)
    have hB2 := hB.below hb2 hB.lt
    have hbe3 := below_then hbe2 hb2 hbe2.size
    have d3 := (d1.below hbn).below hb2
    have hg1 : w.heap.size ≤ w1.heap.size := hbe.size
    clear hB hbe hbe2 d1 hbn hb2 g1 h1 h2
    have hD0 : (digs (Y * 2 ^ n)).length ≤ 549755813888 := by
      refine Nat.le_trans (mul_len Y (2 ^ n)) ?_
      have : (digs (2 ^ n)).length ≤ q + 1 := digs_lt (by rw [B32_pow]; exact Nat.pow_lt_pow_right (by decide) (by have := HN.out; omega))
      omega
    have HD0 := Lib.hid hD0
    have hsx : Hid ((digs X).length ≤ 137438953472) := Lib.hid hs1
    have hnn : ¬ (n : Int) < 0 := by omega
    clear hD0 hs1 hsy hge
    go_wp2
    go_loopw [6, 9, 10] (fun r d i wr => ∃ (z : Int) (Q : List Nat) (R D : Nat), -1 ≤ z ∧ z ≤ n ∧ i = .int .i64 z ∧ DivAt X Y q w1.heap.size w r d z wr Q R D) (fun _ _ i _ => (intOf i + 1).toNat)
    case atStart => exact ⟨n, List.replicate (q + 1) 0, X, Y * 2 ^ n, by omega, by omega, rfl, d3, d2, by rw [show ((n : Int) + 1).toNat = n + 1 by omega, half_pow], by rw [show ((n : Int) + 1).toNat = n + 1 by omega]; exact HST.out, by rw [val_replicate]; simp, by rw [val_replicate]; exact ⟨0, rfl⟩, hB2, okD_replicate _, by simp, by simp, hbe3, hsx.out, HD0.out, o1, o2⟩
    case round =>
      obtain ⟨z, Q, R, D, hz0, hz1, rfl, dr, dd, hD, hR, hXQ, hdv, hB, okQ, hQ, hQ', hbe, hsR, hsD, oR, oD⟩ := hrel
      have HD := Lib.hid hD
      have HR := Lib.hid hR
      have HXQ := Lib.hid hXQ
      have HDV := Lib.hid hdv
      clear hD hR hXQ hdv d2 d3 hB2 hbe3
      rcases Int.lt_or_le z 0 with hz | hz
      · obtain rfl : z = -1 := by omega
        have e0 : ((-1 : Int) + 1).toNat = 0 := rfl
        have := HR.out
        rw [e0, Nat.pow_zero, Nat.mul_one] at this
        have HE := Lib.hid (bit_end HXQ.out this)
        clear this e0
        go_wp2_with fail
        refine (rtrim_any _ Q _ ?_).mono ?_
        · have := hB.dig okQ (c := q + 1) hQ' (by unfold maxLen; omega)
          rwa [show Q.length = q + 1 from by omega] at this
        rintro e w3 ⟨v3, rfl, h3, rfl⟩
        go_wp2
        go_ret2
        exact ⟨_, _, rfl, by rw [← HE.out.1]; exact h3, by rw [← HE.out.2]; exact dr, hbe⟩
      · obtain ⟨i, rfl⟩ := Int.eq_ofNat_of_zero_le hz
        have e1 : ((i : Int) + 1).toNat = i + 1 := by omega
        have hR := HR.out
        have hD := HD.out
        have hdv := HDV.out
        rw [e1] at hR hD hdv
        rw [half_pow] at hD
        have HR1 := Lib.hid hR
        have HD1 := Lib.hid hD
        have HDV1 := Lib.hid hdv
        have hin : i ≤ n := by omega
        clear hR hD hdv HR HD HDV e1
        obtain ⟨I, hI⟩ : ∃ I, I = i / 32 := ⟨_, rfl⟩
        obtain ⟨J, hJ⟩ : ∃ J, J = i % 32 := ⟨_, rfl⟩
        have hi1 : (i : Int) / 32 = (I : Int) := by omega
        have hi2 : (i : Int) % 32 = (J : Int) := by omega
        have hiq : I ≤ q := by have := HN.out; omega
        have hJ31 : J ≤ 31 := by omega
        have hdb := dg_bits okQ HDV1.out
        have hval := fun h => val_bit (Q := Q) (i := i) h
        rw [← hI] at hval
        rw [← hJ] at hval
        rw [← hI, ← hJ] at hdb
        have HVAL := Lib.hid hval
        have HDB := Lib.hid hdb
        clear hI hJ hval hdb
        go_wp2_with fail
        refine (rcompareDigits_any _ _ _ _ _ dr dd).mono ?_
        rw [val_digs, val_digs]
        rintro e w3 ⟨rfl, hb3⟩
        have dr3 := dr.below hb3
        have dd3 := dd.below hb3
        have hB3 := hB.below hb3 hB.lt
        have hbe3 := below_then hbe hb3 hbe.size
        clear dr dd hB hbe hb3
        rcases Nat.lt_or_ge R D with hlt | hge
        · have hc : cmpN R D = -1 := cmpN_lt hlt
          have HLT := Lib.hid hlt
          rw [hc]
          clear hc hlt
          go_wp2_with fail
          refine (rhalf_own _ _ _ dd3 hsD).mono ?_
          rw [val_digs]
          rintro e w4 ⟨k4, l4, rfl, d4, hb4⟩
          go_wp2
          go_roundw
          case rel => exact ⟨(i : Int) - 1, Q, R, D / 2, by omega, by omega, rfl, dr3.below hb4, d4, by rw [show ((i : Int) - 1 + 1).toNat = i by omega, ← HD1.out], by rw [show ((i : Int) - 1 + 1).toNat = i by omega, ← HD1.out]; exact HLT.out, HXQ.out, by rw [show ((i : Int) - 1 + 1).toNat = i by omega]; exact bit_skip HDV1.out, hB3.below hb4 hB3.lt, okQ, hQ, hQ', below_then hbe3 hb4 hbe3.size, hsR, Nat.le_trans (digs_len_mono (Nat.div_le_self _ _)) hsD, oR, Off.mk (by have := hB3.lt; omega)⟩
          case measure => simp [intOf]
        · have hc : 0 ≤ cmpN R D := by unfold cmpN; split; omega; split <;> omega
          have hcb := cmpN_bd R D
          have hst := bit_step HXQ.out HR1.out (by rw [← HD1.out]; exact hge) HDV1.out
          rw [← HD1.out] at hst
          have HST2 := Lib.hid hst
          have hge2 := Lib.hid hge
          have hor := or_bit32 hJ31 (dg_lt okQ I) HDB.out
          have HFIT := Lib.hid (bit_fits (show J < 32 by omega) (dg_lt okQ I) HDB.out)
          have hpw := pow_le_31 hJ31
          have hpw0 := pow_pos_1 J
          generalize cmpN R D = cc at *
          clear hst hge
          go_wp2_with fail
          refine (rsubDigits_own _ _ _ _ _ dr3 dd3 (by rw [val_digs, val_digs]; exact hge2.out) (digs_len_mono hge2.out) (by omega)).mono ?_
          rw [val_digs, val_digs]
          rintro e w4 ⟨k4, l4, rfl, d4, hb4⟩
          have o4 : Off w1.heap.size (.slice (some ⟨w3.heap.size, 0, none⟩) k4 l4) := Off.mk (by have := hB3.lt; omega)
          have hB4 := hB3.below hb4 hB3.lt
          have dd4 := dd3.below hb4
          have hbe4 := below_then hbe3 hb4 hbe3.size
          clear dr3 dd3 hB3 hbe3 hb4
          have ho := hB4.cell (k := I) (by omega)
          have hf := hB4.frozen I
          rw [di_eq] at ho
          have hB5 := hB4.set_ I (dg Q I + 2 ^ J)
          have d5 := d4.far o4 I (.int .u32 ((dg Q I + 2 ^ J : Nat) : Int))
          have dd5 := dd4.far oD I (.int .u32 ((dg Q I + 2 ^ J : Nat) : Int))
          have hbe5 := hbe4.setCell (p := ⟨w1.heap.size, I, none⟩) hg1 (.int .u32 ((dg Q I + 2 ^ J : Nat) : Int))
          generalize ((dg Q I + 2 ^ J : Nat) : Int) = G at *
          clear dd4 d4
          go_wp2_with fail
          refine (rhalf_own _ _ _ dd5 hsD).mono ?_
          rw [val_digs]
          rintro e w6 ⟨k6, l6, rfl, d6, hb6⟩
          rw [World.size_setCell] at d6
          go_wp2
          go_roundw
          case rel => exact ⟨(i : Int) - 1, Q.set I (dg Q I + 2 ^ J), R - D, D / 2, by omega, by omega, rfl, d5.below hb6, d6, by rw [show ((i : Int) - 1 + 1).toNat = i by omega, ← HD1.out], by rw [show ((i : Int) - 1 + 1).toNat = i by omega, ← HD1.out]; exact HST2.out.2.1, by rw [HVAL.out (by omega)]; exact HST2.out.1, by rw [show ((i : Int) - 1 + 1).toNat = i by omega, HVAL.out (by omega)]; exact HST2.out.2.2, hB5.below hb6 hB5.lt, okD_set okQ _ HFIT.out, by simpa using hQ, by simpa using hQ', below_then hbe5 hb6 hbe5.size, Nat.le_trans (digs_len_mono (Nat.sub_le _ _)) hsR, Nat.le_trans (digs_len_mono (Nat.div_le_self _ _)) hsD, o4, Off.mk (by have := hB5.lt; rw [World.size_setCell] at this; omega)⟩
          case measure => simp [intOf]
end Go.Proofs.YtpanffbgihhjnaaGreat

/- Walks: package pairingref1: Mul, Add, Sub. -/
namespace Go.Proofs.YtpanffbgihhjnaaGreat
open Go.RowKit Pl
attribute [local go_sem ↓] Go.wp_at_zero Go.wp_at_succ

set_option maxRecDepth 100000 in
set_option maxHeartbeats 1000000 in
theorem rmul_any (v1 v2 : Value) (a b : RI) (w : World) (h1 : IntM w v1 a) (h2 : IntM w v2 b) (hs : a.ds.length + b.ds.length ≤ 549755813888) :
    Calls Tryz.prog 77 #[v1, v2] w fun e w' => ∃ v', e = .returned v' ∧ IntM w' v' (canI (a.z * b.z)) ∧ Below w.heap.size w w' := by
  obtain ⟨A, n, c, rfl, hd⟩ := h1.shape
  obtain ⟨A', n', c', rfl, hd'⟩ := h2.shape
  obtain ⟨W, hW, hX, hY, hR, hbe⟩ := box2 w (.bool a.neg) (.slice A n c) (.bool b.neg) (.slice A' n' c')
  have d1 := hd.below hbe
  have d2 := hd'.below hbe
  have hlen : (digs (val a.ds * val b.ds)).length ≤ 549755813888 := by
    have q1 := digs_len_le hd.ok
    have q2 := digs_len_le hd'.ok
    exact Nat.le_trans (mul_len _ _) (by omega)
  go_enter Tryz.func77, Tryz.ntmps77
  go_wp2_with fail
  clear hW
  have hn1 : w.heap.size ≠ w.heap.size + 1 + 1 := by omega
  have hn2 : w.heap.size + 1 ≠ w.heap.size + 1 + 1 := by omega
  go_region_held3 (fun w' => (w'.cell? ⟨w.heap.size, 0, none⟩ = some (.bool a.neg) ∧ w'.cell? ⟨w.heap.size, 1, none⟩ = some (.slice A n c)) ∧ (w'.cell? ⟨w.heap.size + 1, 0, none⟩ = some (.bool b.neg) ∧ w'.cell? ⟨w.heap.size + 1, 1, none⟩ = some (.slice A' n' c')))
    (first | with_reducible exact ⟨hX.drew.pair, hY.drew.pair⟩ | with_reducible exact ⟨(hX.drew.later hb1).pair, (hY.drew.later hb1).pair⟩ | with_reducible exact ⟨((hX.drew.later hb1).later hb2).pair, ((hY.drew.later hb1).later hb2).pair⟩ | with_reducible exact ⟨((hX.drew.later hb1).later hb2).two_far hn1 _ _, ((hY.drew.later hb1).later hb2).two_far hn2 _ _⟩)
    (first
      | (go_at_call 96; refine (rmulDigits_any _ _ a.ds b.ds _ (d1.keep (Keep.drew _)) (d2.keep (Keep.drew _)) (by omega)).mono ?_; rintro e w1 ⟨v1, rfl, e1, hb1⟩)
      | (go_at_call 88; refine (make_dig (a.neg != b.neg) _ _ _ e1 hlen).mono ?_; rintro e w2 ⟨v2, rfl, e2, hb2⟩; obtain ⟨A3, n3, k3, rfl, _⟩ := e2.shape; obtain ⟨c0, c1, f0, f1⟩ := ((hR.drew.later hb1).later hb2).two))
  go_wp2
  refine ret_cell Tryz.results77 Tryz.underlying45 (by kernel_rfl) rfl (((hR.drew.later hb1).later hb2).set2 _ _) rfl ?_
  rw [RI.z_eq, RI.z_eq, ← sm_mul]
  exact fin_int ((hR.drew.later hb1).later hb2) e2 (below_then (below_then hbe.drew hb1 hbe.size) hb2 (Nat.le_trans hbe.size hb1.size)) (by omega)

set_option maxRecDepth 100000 in
set_option maxHeartbeats 2000000 in
theorem radd_any (v1 v2 : Value) (a b : RI) (w : World) (h1 : IntM w v1 a) (h2 : IntM w v2 b) (hs : a.ds.length ≤ 274877906944) (hs2 : b.ds.length ≤ 274877906944) :
    Calls Tryz.prog 76 #[v1, v2] w fun e w' => ∃ v', e = .returned v' ∧ IntM w' v' (canI (a.z + b.z)) ∧ Below w.heap.size w w' := by
  obtain ⟨A, n, c, rfl, hd⟩ := h1.shape
  obtain ⟨A', n', c', rfl, hd'⟩ := h2.shape
  obtain ⟨W, hW, hX, hY, hR, hbe⟩ := box2 w (.bool a.neg) (.slice A n c) (.bool b.neg) (.slice A' n' c')
  have d1 := hd.below hbe
  have d2 := hd'.below hbe
  have q1 := digs_len_le hd.ok
  have q2 := digs_len_le hd'.ok
  have hn1 : w.heap.size ≠ w.heap.size + 1 + 1 := by omega
  have hn2 : w.heap.size + 1 ≠ w.heap.size + 1 + 1 := by omega
  obtain ⟨x0, x1, _, _⟩ := hX.two
  obtain ⟨y0, y1, _, _⟩ := hY.two
  by_cases hab : (a.neg == b.neg) = true
  · have hab' : b.neg = a.neg := (beq_iff_eq.1 hab).symm
    have hlen : (digs (val a.ds + val b.ds)).length ≤ 549755813888 := Nat.le_trans (add_len _ _ 274877906944 (by omega) (by omega)) (by decide)
    have HAB := Lib.hid hab'
    clear hab'
    go_enter Tryz.func76, Tryz.ntmps76
    go_wp2_with fail
    clear hW hab
    go_region_held3 (fun w' => (w'.cell? ⟨w.heap.size, 0, none⟩ = some (.bool a.neg) ∧ w'.cell? ⟨w.heap.size, 1, none⟩ = some (.slice A n c)) ∧ (w'.cell? ⟨w.heap.size + 1, 0, none⟩ = some (.bool b.neg) ∧ w'.cell? ⟨w.heap.size + 1, 1, none⟩ = some (.slice A' n' c')))
      (first | with_reducible exact ⟨hX.drew.pair, hY.drew.pair⟩ | with_reducible exact ⟨(hX.drew.later hb1).pair, (hY.drew.later hb1).pair⟩ | with_reducible exact ⟨((hX.drew.later hb1).later hb2).pair, ((hY.drew.later hb1).later hb2).pair⟩ | with_reducible exact ⟨((hX.drew.later hb1).later hb2).two_far hn1 _ _, ((hY.drew.later hb1).later hb2).two_far hn2 _ _⟩)
      (first
        | (go_at_call 92; refine (raddDigits_any _ _ a.ds b.ds _ (d1.keep (Keep.drew _)) (d2.keep (Keep.drew _)) (by omega) (by omega)).mono ?_; rintro e w1 ⟨v1, rfl, e1, hb1⟩)
        | (go_at_call 88; refine (make_dig a.neg _ _ _ e1 hlen).mono ?_; rintro e w2 ⟨v2, rfl, e2, hb2⟩; obtain ⟨A3, n3, k3, rfl, _⟩ := e2.shape; obtain ⟨c0, c1, f0, f1⟩ := ((hR.drew.later hb1).later hb2).two))
    go_wp2
    refine ret_cell Tryz.results76 Tryz.underlying45 (by kernel_rfl) rfl (((hR.drew.later hb1).later hb2).set2 _ _) rfl ?_
    rw [RI.z_eq, RI.z_eq, HAB.out, sm_add_same]
    exact fin_int ((hR.drew.later hb1).later hb2) e2 (below_then (below_then hbe.drew hb1 hbe.size) hb2 (Nat.le_trans hbe.size hb1.size)) (by omega)
  · have hab' : (a.neg == b.neg) = false := by simpa using hab
    clear hab
    have hcb := cmpN_bd (val a.ds) (val b.ds)
    rcases Nat.lt_or_ge (val a.ds) (val b.ds) with hlt | hge
    · have hc : cmpN (val a.ds) (val b.ds) = -1 := cmpN_lt hlt
      have hlen : (digs (val b.ds - val a.ds)).length ≤ 549755813888 := Nat.le_trans (digs_len_mono (Nat.sub_le _ _)) (by omega)
      have hl2 : (digs (val a.ds)).length ≤ b.ds.length := Nat.le_trans (digs_len_mono (Nat.le_of_lt hlt)) q2
      have HLT := Lib.hid hlt
      clear hlt hcb
      go_enter Tryz.func76, Tryz.ntmps76
      go_wp2_with fail
      clear hW
      refine (rcompareDigits_any _ _ a.ds b.ds _ d1 d2).mono ?_
      rw [hc]
      rintro e w0 ⟨rfl, hb0⟩
      have hX0 := hX.later hb0
      have hY0 := hY.later hb0
      have hR0 := hR.later hb0
      have d10 := d1.below hb0
      have d20 := d2.below hb0
      have hbe0 := below_then hbe hb0 hbe.size
      clear hX hY hR d1 d2 hbe hc x0 x1 y0 y1
      have HAB := Lib.hid hab'
      clear hab'
      go_wp2_with fail
      go_region_held3 (fun w' => (w'.cell? ⟨w.heap.size, 0, none⟩ = some (.bool a.neg) ∧ w'.cell? ⟨w.heap.size, 1, none⟩ = some (.slice A n c)) ∧ (w'.cell? ⟨w.heap.size + 1, 0, none⟩ = some (.bool b.neg) ∧ w'.cell? ⟨w.heap.size + 1, 1, none⟩ = some (.slice A' n' c')))
        (first | with_reducible exact ⟨hX0.drew.pair, hY0.drew.pair⟩ | with_reducible exact ⟨(hX0.drew.later hb1).pair, (hY0.drew.later hb1).pair⟩ | with_reducible exact ⟨((hX0.drew.later hb1).later hb2).pair, ((hY0.drew.later hb1).later hb2).pair⟩ | with_reducible exact ⟨((hX0.drew.later hb1).later hb2).two_far hn1 _ _, ((hY0.drew.later hb1).later hb2).two_far hn2 _ _⟩)
        (first
          | (go_at_call 95; refine (rtrim_any _ a.ds _ (d10.keep (Keep.drew _))).mono ?_; rintro e w3 ⟨v3, rfl, e3, rfl⟩)
          | (go_at_call 94; refine (rsubDigits_any _ _ b.ds (digs (val a.ds)) _ (d20.keep (Keep.drew _)) e3 (by rw [val_digs]; exact Nat.le_of_lt HLT.out) hl2 (by omega)).mono ?_; rw [val_digs]; rintro e w1 ⟨v1, rfl, e1, hb1⟩)
          | (go_at_call 88; refine (make_dig b.neg _ _ _ e1 hlen).mono ?_; rintro e w2 ⟨v2, rfl, e2, hb2⟩; obtain ⟨A3, n3, k3, rfl, _⟩ := e2.shape; obtain ⟨c0, c1, f0, f1⟩ := ((hR0.drew.later hb1).later hb2).two))
      go_wp2
      refine ret_cell Tryz.results76 Tryz.underlying45 (by kernel_rfl) rfl (((hR0.drew.later hb1).later hb2).set2 _ _) rfl ?_
      rw [RI.z_eq, RI.z_eq, sm_sub_r HAB.out (Nat.le_of_lt HLT.out)]
      exact fin_int ((hR0.drew.later hb1).later hb2) e2 (below_then (below_then hbe0.drew hb1 hbe0.size) hb2 (Nat.le_trans hbe0.size hb1.size)) (by omega)
    · have hc : 0 ≤ cmpN (val a.ds) (val b.ds) := by unfold cmpN; split; omega; split <;> omega
      have hlen : (digs (val a.ds - val b.ds)).length ≤ 549755813888 := Nat.le_trans (digs_len_mono (Nat.sub_le _ _)) (by omega)
      have hl2 : (digs (val b.ds)).length ≤ a.ds.length := Nat.le_trans (digs_len_mono hge) q1
      have HGE := Lib.hid hge
      clear hge
      go_enter Tryz.func76, Tryz.ntmps76
      go_wp2_with fail
      clear hW
      refine (rcompareDigits_any _ _ a.ds b.ds _ d1 d2).mono ?_
      rintro e w0 ⟨rfl, hb0⟩
      generalize cmpN (val a.ds) (val b.ds) = cc at *
      have hX0 := hX.later hb0
      have hY0 := hY.later hb0
      have hR0 := hR.later hb0
      have d10 := d1.below hb0
      have d20 := d2.below hb0
      have hbe0 := below_then hbe hb0 hbe.size
      clear hX hY hR d1 d2 hbe x0 x1 y0 y1
      have HAB := Lib.hid hab'
      clear hab'
      go_wp2_with fail
      go_region_held3 (fun w' => (w'.cell? ⟨w.heap.size, 0, none⟩ = some (.bool a.neg) ∧ w'.cell? ⟨w.heap.size, 1, none⟩ = some (.slice A n c)) ∧ (w'.cell? ⟨w.heap.size + 1, 0, none⟩ = some (.bool b.neg) ∧ w'.cell? ⟨w.heap.size + 1, 1, none⟩ = some (.slice A' n' c')))
        (first | with_reducible exact ⟨hX0.drew.pair, hY0.drew.pair⟩ | with_reducible exact ⟨(hX0.drew.later hb1).pair, (hY0.drew.later hb1).pair⟩ | with_reducible exact ⟨((hX0.drew.later hb1).later hb2).pair, ((hY0.drew.later hb1).later hb2).pair⟩ | with_reducible exact ⟨((hX0.drew.later hb1).later hb2).two_far hn1 _ _, ((hY0.drew.later hb1).later hb2).two_far hn2 _ _⟩)
        (first
          | (go_at_call 95; refine (rtrim_any _ b.ds _ (d20.keep (Keep.drew _))).mono ?_; rintro e w3 ⟨v3, rfl, e3, rfl⟩)
          | (go_at_call 94; refine (rsubDigits_any _ _ a.ds (digs (val b.ds)) _ (d10.keep (Keep.drew _)) e3 (by rw [val_digs]; exact HGE.out) hl2 (by omega)).mono ?_; rw [val_digs]; rintro e w1 ⟨v1, rfl, e1, hb1⟩)
          | (go_at_call 88; refine (make_dig a.neg _ _ _ e1 hlen).mono ?_; rintro e w2 ⟨v2, rfl, e2, hb2⟩; obtain ⟨A3, n3, k3, rfl, _⟩ := e2.shape; obtain ⟨c0, c1, f0, f1⟩ := ((hR0.drew.later hb1).later hb2).two))
      go_wp2
      refine ret_cell Tryz.results76 Tryz.underlying45 (by kernel_rfl) rfl (((hR0.drew.later hb1).later hb2).set2 _ _) rfl ?_
      rw [RI.z_eq, RI.z_eq, sm_sub_l HAB.out HGE.out]
      exact fin_int ((hR0.drew.later hb1).later hb2) e2 (below_then (below_then hbe0.drew hb1 hbe0.size) hb2 (Nat.le_trans hbe0.size hb1.size)) (by omega)

theorem len_canI (z : Int) : (canI z).ds.length = (digs z.natAbs).length := rfl

end Go.Proofs.YtpanffbgihhjnaaGreat

/- Walks: package pairingref1: Compare, Sign, SameInt. -/
namespace Go.Proofs.YtpanffbgihhjnaaGreat
open Go.RowKit Pl
attribute [local go_sem ↓] Go.wp_at_zero Go.wp_at_succ

theorem canI_neg (z : Int) : (canI z).neg = decide (z < 0) := rfl
namespace Pl
theorem cmp_nn {x y : Int} (hx : x < 0) (hy : y < 0) : cmpN y.natAbs x.natAbs = sgn (x - y) := by unfold cmpN sgn; split <;> split <;> (try split) <;> (try split) <;> omega
theorem cmp_pp {x y : Int} (hx : ¬ x < 0) (hy : ¬ y < 0) : cmpN x.natAbs y.natAbs = sgn (x - y) := by unfold cmpN sgn; split <;> split <;> (try split) <;> (try split) <;> omega
end Pl

def CanAt (x y : Int) (w : World) (wx : World) (A A' : Option Addr) (n c n' c' : Nat) : Prop :=
  Bk wx w.heap.size 45 [.bool (decide (x < 0)), .slice A n c] ∧ Bk wx (w.heap.size + 1) 45 [.bool (decide (y < 0)), .slice A' n' c'] ∧ DigM wx (.slice A n c) (digs x.natAbs) ∧ DigM wx (.slice A' n' c') (digs y.natAbs) ∧ Below w.heap.size w wx

theorem IntM.dig {w : World} {b : Bool} {A : Option Addr} {n c : Nat} {a : RI} (h : IntM w (.agg #[.bool b, .slice A n c]) a) : DigM w (.slice A n c) a.ds ∧ b = a.neg := by
  obtain ⟨s, e, d⟩ := h
  simp at e
  obtain ⟨rfl, rfl⟩ := e
  exact ⟨d, rfl⟩

theorem boxes_i (w : World) (x y x' y' : Value) : ∃ W, (w.alloc (.cells #[x, y] 45)).alloc (.cells #[x', y'] 45) = W ∧ Bk W w.heap.size 45 [x, y] ∧ Bk W (w.heap.size + 1) 45 [x', y'] ∧ Below w.heap.size w W := boxes w x y x' y'

set_option maxRecDepth 100000 in
set_option maxHeartbeats 2000000 in
theorem rcompare_any (v1 v2 : Value) (a b : RI) (w : World) (h1 : IntM w v1 a) (h2 : IntM w v2 b) (hs : (digs (val a.ds)).length ≤ 549755813888) (hs2 : (digs (val b.ds)).length ≤ 549755813888) :
    Calls Tryz.prog 91 #[v1, v2] w fun e w' => e = .returned (.int .i64 (sgn (a.z - b.z))) ∧ Below w.heap.size w w' := by
  obtain ⟨A, n, c, rfl, hd⟩ := h1.shape
  obtain ⟨A', n', c', rfl, hd'⟩ := h2.shape
  obtain ⟨W, hW, hX, hY, hbe⟩ := boxes_i w (.bool a.neg) (.slice A n c) (.bool b.neg) (.slice A' n' c')
  have i1 := h1.below hbe
  have i2 := h2.below hbe
  have hn1 : w.heap.size ≠ w.heap.size + 1 := by omega
  have tok : True := trivial
  obtain ⟨x0, x1, f0, f1⟩ := hX.two
  obtain ⟨y0, y1, k0, k1⟩ := hY.two
  go_enter Tryz.func91, Tryz.ntmps91
  go_wp2_with fail
  clear hW
  go_upto_region 1 with (fail)
  go_cut [] (fun wx => ∃ (A A' : Option Addr) (n c n' c' : Nat), CanAt a.z b.z w wx A A' n c n' c')
  case first =>
    go_region_with (first
      | (go_at_call 87; have _t := tok; refine (canonI_any _ a _ (i1.keep (Keep.drew _)) hs).mono ?_; clear tok _t; rintro e w6 ⟨v6, rfl, e6, hb6⟩; obtain ⟨A6, n6, k6, rfl, _⟩ := e6.shape; obtain ⟨y0', y1', _, _⟩ := (hY.drew.later hb6).two)
      | (go_at_call 87; refine (canonI_any _ b _ ((i2.keep (Keep.drew _)).below hb6) hs2).mono ?_; rintro e w7 ⟨v7, rfl, e7, hb7⟩; obtain ⟨A7, n7, k7, rfl, _⟩ := e7.shape; obtain ⟨c0, c1, r0, r1⟩ := ((hX.drew.later hb6).later hb7).two; obtain ⟨c0', c1', r0', r1'⟩ := ((hY.drew.later hb6).later hb7).two))
    all_goals
      go_wp2_with fail
      go_meet
      obtain ⟨a1, a2, a3, a4, a5⟩ := fin_div ((hX.drew.later hb6).later hb7) ((hY.drew.later hb6).later hb7) hn1 (e6.below hb7) e7 (below_then (below_then hbe.drew hb6 hbe.size) hb7 (Nat.le_trans hbe.size hb6.size)) (by omega) (by omega)
      exact ⟨A6, A7, n6, k6, n7, k7, a1, a2, a3.dig.1, a4.dig.1, a5⟩
  case rest =>
    obtain ⟨B, B', m, d, m', d', bX, bY, dX, dY, be⟩ := hcut
    clear x0 x1 f0 f1 y0 y1 k0 k1 hX hY hbe i1 i2 h1 h2 hd hd'
    obtain ⟨x0, x1, _, _⟩ := bX.two
    obtain ⟨y0, y1, _, _⟩ := bY.two
    by_cases hx : a.z < 0
    · by_cases hy : b.z < 0
      · have HC := Lib.hid (cmp_nn hx hy)
        rw [decide_eq_true hx] at x0
        rw [decide_eq_true hy] at y0
        clear hx hy
        go_wp2_with fail
        refine (rcompareDigits_any _ _ _ _ _ dY dX).mono ?_
        rw [val_digs, val_digs, HC.out]
        rintro e w3 ⟨rfl, hb3⟩
        go_wp2
        go_ret
        exact ⟨rfl, below_then be hb3 be.size⟩
      · have HC : Hid (sgn (a.z - b.z) = -1) := Lib.hid (sgn_neg (by omega))
        rw [decide_eq_true hx] at x0
        rw [decide_eq_false hy] at y0
        clear hx hy
        go_wp2
        go_ret
        exact ⟨by rw [HC.out]; rfl, be⟩
    · by_cases hy : b.z < 0
      · have HC : Hid (sgn (a.z - b.z) = 1) := Lib.hid (sgn_pos (by omega))
        rw [decide_eq_false hx] at x0
        rw [decide_eq_true hy] at y0
        clear hx hy
        go_wp2
        go_ret
        exact ⟨by rw [HC.out]; rfl, be⟩
      · have HC := Lib.hid (cmp_pp hx hy)
        rw [decide_eq_false hx] at x0
        rw [decide_eq_false hy] at y0
        clear hx hy
        go_wp2_with fail
        refine (rcompareDigits_any _ _ _ _ _ dX dY).mono ?_
        rw [val_digs, val_digs, HC.out]
        rintro e w3 ⟨rfl, hb3⟩
        go_wp2
        go_ret
        exact ⟨rfl, below_then be hb3 be.size⟩

set_option maxHeartbeats 1000000 in
theorem rsign_any (v : Value) (a : RI) (w : World) (h : IntM w v a) (hs : (digs (val a.ds)).length ≤ 549755813888) :
    Calls Tryz.prog 73 #[v] w fun e w' => e = .returned (.int .i64 (sgn a.z)) ∧ Below w.heap.size w w' := by
  obtain ⟨A, n, c, rfl, hd⟩ := h.shape
  have hX := Bk.new w 45 [.bool a.neg, .slice A n c]
  have hbe := below_new w (.cells [.bool a.neg, .slice A n c].toArray 45)
  have h' := h.below hbe
  obtain ⟨x0, x1, _, _⟩ := hX.two
  go_enter Tryz.func73, Tryz.ntmps73
  go_wp2_with fail
  generalize w.alloc _ = W at *
  refine (rcompare_any _ _ a (canI 0) _ h' (IntM.zero _) hs (by rw [val_canI, Int.natAbs_zero, digs_zero]; decide)).mono ?_
  rw [canI_z, Int.sub_zero]
  rintro e w1 ⟨rfl, hb1⟩
  go_wp2
  go_ret
  exact ⟨rfl, below_then hbe hb1 hbe.size⟩
end Go.Proofs.YtpanffbgihhjnaaGreat

/- Walks: package pairingref1: GCD, SameInt, DivMod where the division leaves nothing. -/
namespace Go.Proofs.YtpanffbgihhjnaaGreat
open Go.RowKit Pl
attribute [local go_sem ↓] Go.wp_at_zero Go.wp_at_succ

theorem step_append_dig {ops : Array Oper} {o : Oper} {a : Act} {K : Act → World → Prop} {Q : Exit → Act → World → Prop} {E : Prop} (hgd : o.guard = none) (x : Operand)
    (ho : o.op = .call { callee := .builtin .append, args := #[.const (.slice none 0 0), x], argTypes := #[43, 43] })
    (w : World) (A : Option Addr) (n c : Nat) (ds : List Nat) (hx : a.eval x = .slice A n c) (h : DigM w (.slice A n c) ds) (hs : ds.length ≤ 549755813888)
    (hK : ∀ v' w', w'.ownsRow w.heap.size 85 1 v' ds.length (ds.map uc) → Below w.heap.size w w' → K (a.put o.dst v') w') :
    if Region.wanted o (yielded ops a.tmps) = true then Oper.wp Tryz.prog o a w K Q else E := by
  have hw : Region.wanted o (yielded ops a.tmps) = true := by simp [Region.wanted, hgd]
  rw [if_pos hw]
  exact wp_append_dig x ho w A n c ds hx h hs hK

theorem Bk.snd {w : World} {g : Nat} {t : TypeId} {a b : Value} (h : Bk w g t [a, b]) : w.cell? ⟨g, 1, none⟩ = some b := h.two.2.1

def RGcdAt (G : Nat) (w : World) (Y : Nat) (s t : Value) (wr : World) : Prop :=
  ∃ X, DigM wr s (digs X) ∧ DigM wr t (digs Y) ∧ Nat.gcd X Y = G ∧ (digs X).length ≤ 137438953472 ∧ (digs Y).length ≤ 137438953472 ∧ Below w.heap.size w wr ∧ Bk wr (w.heap.size + 1 + 1) 45 [.bool false, .slice none 0 0]
set_option maxRecDepth 100000 in
set_option maxHeartbeats 2000000 in
theorem rgcd_any (v1 v2 : Value) (a b : RI) (w : World) (h1 : IntM w v1 a) (h2 : IntM w v2 b) (hs : (digs (val a.ds)).length ≤ 137438953472) (hs2 : (digs (val b.ds)).length ≤ 137438953472) :
    Calls Tryz.prog 85 #[v1, v2] w fun e w' => ∃ v', e = .returned v' ∧ IntM w' v' (canI (Nat.gcd (val a.ds) (val b.ds) : Nat)) ∧ Below w.heap.size w w' := by
  obtain ⟨A, n, c, rfl, hd⟩ := h1.shape
  obtain ⟨A', n', c', rfl, hd'⟩ := h2.shape
  obtain ⟨W, hW, hX, hY, hR, hbe⟩ := box2 w (.bool a.neg) (.slice A n c) (.bool b.neg) (.slice A' n' c')
  have d1 := hd.below hbe
  have d2 := hd'.below hbe
  obtain ⟨G, hG⟩ : ∃ G, G = Nat.gcd (val a.ds) (val b.ds) := ⟨_, rfl⟩
  rw [← hG]
  have HG := Lib.hid hG
  clear hG
  have tok : True := trivial
  go_enter Tryz.func85, Tryz.ntmps85
  go_wp2_with fail
  clear hW
  go_region_held3 (fun w' => w'.cell? ⟨w.heap.size, 1, none⟩ = some (.slice A n c) ∧ w'.cell? ⟨w.heap.size + 1, 1, none⟩ = some (.slice A' n' c'))
    (first | with_reducible exact ⟨hX.drew.snd, hY.drew.snd⟩ | with_reducible exact ⟨(hX.drew.later hb1).snd, (hY.drew.later hb1).snd⟩ | with_reducible exact ⟨((hX.drew.later hb1).later hb2).snd, ((hY.drew.later hb1).later hb2).snd⟩)
    (first
      | (go_at_call 95; have _t := tok; refine (rtrim_any _ a.ds _ (d1.keep (Keep.drew _))).mono ?_; clear tok _t; rintro e w3 ⟨v3, rfl, e3, rfl⟩; obtain ⟨A3, n3, k3, rfl⟩ := e3.shape)
      | (go_at_call 95; refine (rtrim_any _ b.ds _ ((d2.keep (Keep.drew _)).below hb1)).mono ?_; rintro e w3 ⟨v4, rfl, e4, rfl⟩; obtain ⟨A4, n4, k4, rfl⟩ := e4.shape)
      | (refine step_append_dig rfl (.tmp 15) rfl _ A4 n4 k4 (digs (val b.ds)) rfl e4 (by omega) ?_; intro v2 w2 o2 hb2)
      | (refine step_append_dig rfl (.tmp 11) rfl _ A3 n3 k3 (digs (val a.ds)) rfl e3 (by omega) ?_; intro v1 w1 o1 hb1))
  have dx := (own_dig o1 (okD_digs _)).below hb2
  have dy := own_dig o2 (okD_digs _)
  have hR2 := (hR.drew.later hb1).later hb2
  have bb1 := below_then hbe.drew hb1 hbe.size
  have hbe2 := below_then bb1 hb2 bb1.size
  clear o1 o2 bb1 hb1 hb2 e3 e4 d1 d2 hd hd' h1 h2 hX hY hR hbe
  go_wp2
  go_loopg [5, 6] (val b.ds) (fun k s t wr => RGcdAt G w k s t wr)
  case atStart => exact ⟨_, dx, dy, HG.out.symm, hs, hs2, hbe2, hR2⟩
  case round =>
    obtain ⟨X, dX, dY, hgcd, hsX, hsY, hbe, hR⟩ := hrel
    have HGC := Lib.hid hgcd
    clear hgcd dx dy hbe2 hR2
    obtain ⟨A3, n3, k3, rfl⟩ := dY.shape
    obtain ⟨kl, kl', knc, kc⟩ := dY.len
    rcases Nat.eq_zero_or_pos n3 with h0 | h0
    · have hv : gk = 0 := len_zero (by omega)
      have HV := Lib.hid hv
      subst h0
      clear hv kl kl'
      go_wp2_with fail
      refine (make_dig false _ X _ dX (by omega)).mono ?_
      rw [show sm false X = (G : Int) by have := HGC.out; rw [HV.out, Nat.gcd_zero_right] at this; rw [this]; rfl]
      rintro e w3 ⟨v3, rfl, e3, hb3⟩
      obtain ⟨A1, n1, k1, rfl, _⟩ := e3.shape
      have hR3 := hR.later hb3
      obtain ⟨c0, c1, f0, f1⟩ := hR3.two
      go_wp2
      refine ret_cell Tryz.results85 Tryz.underlying45 (by kernel_rfl) rfl (hR3.set2 _ _) rfl ?_
      exact fin_int hR3 e3 (below_then hbe hb3 hbe.size) (by omega)
    · have hv : gk ≠ 0 := len_pos (by omega)
      have HV := Lib.hid hv
      clear hv kl kl'
      go_wp2_with fail
      have hc := rdivDigits_any _ _ (digs X) (digs gk) _ dX dY (by rw [val_digs]; exact HV.out) (by rw [val_digs]; exact hsX) hsY
      rw [val_digs, val_digs] at hc
      refine hc.mono ?_
      clear hc
      rintro e w3 ⟨v3, v4, rfl, d3, d4, hb3⟩
      have hlt := Nat.mod_lt X (Nat.pos_of_ne_zero HV.out)
      go_wp2
      go_roundg (X % gk)
      case measure => exact hlt
      case rel => exact ⟨gk, dY.below hb3, d4, by rw [← HGC.out, Nat.gcd_comm X gk, Nat.gcd_rec gk X, Nat.gcd_comm], hsY, Nat.le_trans (digs_len_mono (Nat.le_of_lt hlt)) hsY, below_then hbe hb3 hbe.size, hR.later hb3⟩

def sameI (a b : RI) : Bool := (a.neg == b.neg) && decide (a.ds = b.ds)
def DivExPost (z : Int) (w : World) (e : Ending) (w' : World) : Prop := ∃ q r, e = .returned (.tuple #[q, r, .int .i64 0]) ∧ IntM w' q (canI z) ∧ IntM w' r (canI 0) ∧ Below w.heap.size w w'

theorem sameI_true {a b : RI} (h : a.neg = b.neg) (h2 : a.ds = b.ds) : sameI a b = true := by simp [sameI, h, h2]
theorem sameI_false1 {a b : RI} (h : (a.neg == b.neg) = false) : sameI a b = false := by simp [sameI, h]
theorem sameI_false2 {a b : RI} (h : a.ds ≠ b.ds) : sameI a b = false := by simp [sameI, h]
theorem ret_bool {a b : Bool} (h : b = a) : Ending.returned (.bool a) = .returned (.bool b) := by rw [h]
theorem dg_ne {a b : List Nat} {k : Nat} (h : dg a k ≠ dg b k) : a ≠ b := fun e => h (by rw [e])
theorem ds_eq {a b : List Nat} (hl : a.length = b.length) (h : ∀ k, k < a.length → dg a k = dg b k) : a = b :=
  val_eq_of_all hl fun j => by
    rcases Nat.lt_or_ge j a.length with g | g
    · exact h j g
    · rw [dg_ge g, dg_ge (by omega)]

set_option maxRecDepth 100000 in
set_option maxHeartbeats 2000000 in
theorem sameInt_any (v1 v2 : Value) (a b : RI) (w : World) (h1 : IntM w v1 a) (h2 : IntM w v2 b) :
    Calls Tryz.prog 53 #[v1, v2] w fun e w' => e = .returned (.bool (sameI a b)) ∧ Below w.heap.size w w' := by
  obtain ⟨A, n, c, rfl, hd⟩ := h1.shape
  obtain ⟨A', n', c', rfl, hd'⟩ := h2.shape
  obtain ⟨W, hW, hX, hY, hbe⟩ := boxes_i w (.bool a.neg) (.slice A n c) (.bool b.neg) (.slice A' n' c')
  have d1 := hd.below hbe
  have d2 := hd'.below hbe
  obtain ⟨x0, x1, _, _⟩ := hX.two
  obtain ⟨y0, y1, _, _⟩ := hY.two
  obtain ⟨hl, hl', hnc, hc⟩ := hd.len
  obtain ⟨kl, kl', knc, kc⟩ := hd'.len
  by_cases hab : (a.neg == b.neg) = true
  · have hb : (a.neg != b.neg) = false := by simpa [bne] using hab
    have HAB := Lib.hid (beq_iff_eq.1 hab)
    clear hab
    by_cases hn : n = n'
    · have hb2 : ((n : Int) != (n' : Int)) = false := by simp; omega
      subst hn
      have HL : Hid (a.ds.length = n ∧ b.ds.length = n) := Lib.hid ⟨by omega, by omega⟩
      clear hl hl' kl kl' hb2
      go_enter Tryz.func53, Tryz.ntmps53
      go_wp2
      clear hW hb
      go_loopw [5] (fun i wr => ∃ (k q : Nat), k ≤ n ∧ i = .int .i64 k ∧ wr = W.drewN q ∧ ∀ j, j < k → dg a.ds j = dg b.ds j) (fun i _ => n - (intOf i).toNat)
      case atStart => exact ⟨0, 0, by omega, rfl, rfl, fun j hj => by omega⟩
      case round =>
        obtain ⟨k, q, hk, rfl, rfl, hz⟩ := hrel
        have HZ := Lib.hid hz
        clear hz
        rcases Nat.lt_or_ge k n with hkl | hkl
        · obtain ⟨b1, off1, rfl, _, hcell1⟩ := d1.at_ (by omega)
          obtain ⟨b2, off2, rfl, _, hcell2⟩ := d2.at_ (by omega)
          have hx := hcell1 k hkl
          have hy := hcell2 k hkl
          clear hcell1 hcell2
          by_cases hne : dg a.ds k = dg b.ds k
          · have hb3 : (di a.ds k != di b.ds k) = false := by simp [di, hne]
            have HNE := Lib.hid hne
            clear hne
            go_wp2
            go_quiet (fail)
            go_wp2
            go_roundw
            case rel => exact ⟨k + 1, q + nq, by omega, by go_num, by rfl, fun j hj => by
              rcases Nat.eq_or_lt_of_le (Nat.le_of_lt_succ hj) with e | e
              · subst e; exact HNE.out
              · exact HZ.out j e⟩
            case measure => simp [intOf]; omega
          · have hb3 : (di a.ds k != di b.ds k) = true := by simp [di]; omega
            have HNE := Lib.hid hne
            clear hne
            go_wp2
            go_quiet (fail)
            go_wp2
            go_ret
            exact ⟨ret_bool (sameI_false2 (dg_ne HNE.out)), below_drewN (below_drewN hbe _) _⟩
        · go_wp2
          go_ret
          exact ⟨ret_bool (sameI_true HAB.out (ds_eq (by rw [HL.out.1, HL.out.2]) fun j hj => HZ.out j (by have := HL.out.1; omega))), below_drewN hbe _⟩
    · have hb2 : ((n : Int) != (n' : Int)) = true := by simp; omega
      have HL : Hid (a.ds ≠ b.ds) := Lib.hid fun e => hn (by rw [e] at hl hl'; omega)
      clear hl hl' kl kl' hn
      go_enter Tryz.func53, Tryz.ntmps53
      go_wp2
      go_ret
      exact ⟨ret_bool (sameI_false2 HL.out), hW ▸ hbe⟩
  · obtain ⟨na, da⟩ := a
    obtain ⟨nb, db⟩ := b
    simp only at *
    have hne : (na = true ∧ nb = false) ∨ (na = false ∧ nb = true) := by cases na <;> cases nb <;> simp_all
    clear hab hl hl' kl kl'
    rcases hne with ⟨rfl, rfl⟩ | ⟨rfl, rfl⟩
    all_goals
      go_enter Tryz.func53, Tryz.ntmps53
      go_wp2
      go_ret
      exact ⟨ret_bool (sameI_false1 rfl), hW ▸ hbe⟩
end Go.Proofs.YtpanffbgihhjnaaGreat

/- Walks: package pairingref1: DivMod where the division leaves nothing. -/
namespace Go.Proofs.YtpanffbgihhjnaaGreat
open Go.RowKit Pl
attribute [local go_sem ↓] Go.wp_at_zero Go.wp_at_succ

namespace Pl
theorem sm_exact {x y : Int} (hy : y ≠ 0) (h : y ∣ x) : sm (decide (x < 0) != decide (y < 0)) (x.natAbs / y.natAbs) = x / y ∧ x.natAbs % y.natAbs = 0 := by
  obtain ⟨k, rfl⟩ := h
  rw [Int.natAbs_mul, Nat.mul_div_cancel_left _ (by omega), Int.mul_ediv_cancel_left _ hy, Nat.mul_mod_right]
  refine ⟨?_, rfl⟩
  rcases Int.lt_or_gt_of_ne hy with h | h <;> rcases Int.lt_trichotomy k 0 with g | g | g
  · have := Int.mul_pos_of_neg_of_neg h g
    rw [decide_eq_false (by omega), decide_eq_true h]; simp [sm]; omega
  · subst g; simp [sm]
  · have := Int.mul_neg_of_neg_of_pos h g
    rw [decide_eq_true this, decide_eq_true h]; simp [sm]; omega
  · have := Int.mul_neg_of_pos_of_neg h g
    rw [decide_eq_true this, decide_eq_false (by omega)]; simp [sm]; omega
  · subst g; simp [sm]
  · have := Int.mul_pos h g
    rw [decide_eq_false (by omega), decide_eq_false (by omega)]; simp [sm]; omega
end Pl

def CanAt4 (x y : Int) (w : World) (wx : World) (A A' : Option Addr) (n c n' c' : Nat) : Prop :=
  CanAt x y w wx A A' n c n' c' ∧ Bk wx (w.heap.size + 1 + 1) 45 [.bool false, .slice none 0 0] ∧ Bk wx (w.heap.size + 1 + 1 + 1) 45 [.bool false, .slice none 0 0]

theorem IntM.zero_len {w : World} {b : Bool} {A : Option Addr} {n c : Nat} (h : IntM w (.agg #[.bool b, .slice A n c]) (canI 0)) : n = 0 := by
  obtain ⟨d, _⟩ := h.dig
  have := d.len
  rw [canI_zero] at this
  simp at this
  omega

theorem size_drew (w : World) : w.drew.heap.size = w.heap.size := rfl
theorem ext_alloc {w w' : World} (h : Below w.heap.size w w') (o : Obj) : Below w.heap.size w (w'.alloc o) := h.alloc h.size o
theorem ext_call {w w1 w2 : World} (h : Below w.heap.size w w1) (h2 : Below w1.heap.size w1 w2) : Below w.heap.size w w2 := below_then h h2 h.size
theorem ext_drew {w w' : World} (h : Below w.heap.size w w') : Below w.heap.size w w'.drew := h.drew
theorem ext_set {w w' : World} (h : Below w.heap.size w w') {g : Nat} (hg : w.heap.size ≤ g) (k : Nat) (u : Value) : Below w.heap.size w (w'.setCell ⟨g, k, none⟩ u) := h.setCell hg u
theorem IntM.set2 {w : World} {g : Nat} {t : TypeId} {x y : Value} {v : Value} {a : RI} (h : IntM w v a) (hb : Bk w g t [x, y]) (ht : t ≠ 85) (c d : Value) : IntM ((w.setCell ⟨g, 0, none⟩ c).setCell ⟨g, 1, none⟩ d) v a := h.keep (hb.keep2 ht c d)
theorem keep_alloc {w w' : World} (h : Keep w w') (o : Obj) : Keep w (w'.alloc o) := h.trans (Keep.alloc _ _)
theorem keep_call {w w1 w2 : World} (h : Keep w w1) (h2 : Below w1.heap.size w1 w2) : Keep w w2 := h.trans (Keep.of_below h2)
theorem keep_set2 {w w' : World} {g : Nat} {t : TypeId} {x y : Value} (h : Keep w w') (hb : Bk w' g t [x, y]) (ht : t ≠ 85) (c d : Value) : Keep w ((w'.setCell ⟨g, 0, none⟩ c).setCell ⟨g, 1, none⟩ d) := h.trans (hb.keep2 ht c d)
theorem size_ss (w : World) (a b : Addr) (u v : Value) : w.heap.size = ((w.setCell a u).setCell b v).heap.size := by simp
theorem Bk.made {w : World} {g : Nat} {t : TypeId} {cs : List Value} (h : g = w.heap.size) : Bk (w.alloc (.cells cs.toArray t)) g t cs := by subst h; exact Bk.new w t cs
theorem Bk.on {w w' : World} {g : Nat} {t : TypeId} {cs : List Value} (h : Bk w g t cs) (hb : Below w.heap.size w w') : Bk w' g t cs := h.later hb

set_option maxRecDepth 100000 in
set_option maxHeartbeats 40000000 in
theorem rdivMod_exact (v1 v2 : Value) (a b : RI) (w : World) (h1 : IntM w v1 a) (h2 : IntM w v2 b) (hs : (digs (val a.ds)).length ≤ 137438953472) (hs2 : (digs (val b.ds)).length ≤ 137438953472) (hz : b.z ≠ 0) (hdv : b.z ∣ a.z) :
    Calls Tryz.prog 86 #[v1, v2] w (DivExPost (a.z / b.z) w) := by
  obtain ⟨A, n, c, rfl, hd⟩ := h1.shape
  obtain ⟨A', n', c', rfl, hd'⟩ := h2.shape
  obtain ⟨W, hW, hX, hY, hR, hR', hbe⟩ := boxes4 w (.bool a.neg) (.slice A n c) (.bool b.neg) (.slice A' n' c')
  have i1 := h1.below hbe
  have i2 := h2.below hbe
  have hn1 : w.heap.size ≠ w.heap.size + 1 := by omega
  have hn2 : w.heap.size + 1 + 1 ≠ w.heap.size := by omega
  have hn3 : w.heap.size + 1 + 1 ≠ w.heap.size + 1 := by omega
  have hn4 : w.heap.size + 1 + 1 + 1 ≠ w.heap.size := by omega
  have hn5 : w.heap.size + 1 + 1 + 1 ≠ w.heap.size + 1 := by omega
  have tok : True := trivial
  have HS := Lib.hid (sm_exact hz hdv)
  have HNZ := Lib.hid hz
  have la : (digs a.z.natAbs).length ≤ 137438953472 := by rw [z_natAbs]; exact hs
  have lb : (digs b.z.natAbs).length ≤ 137438953472 := by rw [z_natAbs]; exact hs2
  obtain ⟨x0, x1, f0, f1⟩ := hX.two
  obtain ⟨y0, y1, k0, k1⟩ := hY.two
  clear hz hdv
  go_enter Tryz.func86, Tryz.ntmps86
  go_wp2_with fail
  clear hW
  go_upto_region 1 with (fail)
  go_cut [] (fun wx => ∃ (A A' : Option Addr) (n c n' c' : Nat), CanAt4 a.z b.z w wx A A' n c n' c')
  case first =>
    go_region_with (first
      | (go_at_call 87; have _t := tok; refine (canonI_any _ a _ (i1.keep (Keep.drew _)) (by omega)).mono ?_; clear tok _t; rintro e w6 ⟨v6, rfl, e6, hb6⟩; obtain ⟨A6, n6, k6, rfl, _⟩ := e6.shape; obtain ⟨y0', y1', _, _⟩ := (hY.drew.later hb6).two)
      | (go_at_call 87; refine (canonI_any _ b _ ((i2.keep (Keep.drew _)).below hb6) (by omega)).mono ?_; rintro e w7 ⟨v7, rfl, e7, hb7⟩; obtain ⟨A7, n7, k7, rfl, _⟩ := e7.shape; obtain ⟨c0, c1, r0, r1⟩ := ((hX.drew.later hb6).later hb7).two; obtain ⟨c0', c1', r0', r1'⟩ := ((hY.drew.later hb6).later hb7).two))
    all_goals
      go_wp2_with fail
      go_meet
      obtain ⟨a1, a2, a3, a4, a5⟩ := fin_div ((hX.drew.later hb6).later hb7) ((hY.drew.later hb6).later hb7) hn1 (e6.below hb7) e7 (below_then (below_then hbe.drew hb6 hbe.size) hb7 (Nat.le_trans hbe.size hb6.size)) (by omega) (by omega)
      exact ⟨A6, A7, n6, k6, n7, k7, ⟨a1, a2, a3.dig.1, a4.dig.1, a5⟩, (((hR.drew.later hb6).later hb7).far2 hn2 _ _).far2 hn3 _ _, (((hR'.drew.later hb6).later hb7).far2 hn4 _ _).far2 hn5 _ _⟩
  case rest =>
    obtain ⟨B, B', m, d, m', d', ⟨bX, bY, dX, dY, be⟩, bR, bR'⟩ := hcut
    clear x0 x1 f0 f1 y0 y1 k0 k1 hX hY hbe i1 i2 h1 h2 hd hd' hR hR' hs hs2
    obtain ⟨x0, x1, _, _⟩ := bX.two
    obtain ⟨y0, y1, _, _⟩ := bY.two
    obtain ⟨kl, kl', knc, kc⟩ := dY.len
    have hm0 : 0 < m' := by
      have := digs_len_pos (n := b.z.natAbs) (by have := HNZ.out; omega)
      omega
    have hmb : ((m' : Int) == 0) = false := by simp; omega
    clear kl kl' knc kc
    go_wp2_with fail
    have hc := rdivDigits_any _ _ _ _ _ dX dY (by rw [val_digs]; have := HNZ.out; omega) (by rw [val_digs]; exact la) lb
    rw [val_digs, val_digs] at hc
    refine hc.mono ?_
    clear hc
    rintro e w3 ⟨v3, v4, rfl, d3, d4, hb3⟩
    rw [HS.out.2] at d4
    have bX3 := bX.later hb3
    have bY3 := bY.later hb3
    have bR3 := bR.later hb3
    have bR3' := bR'.later hb3
    have be3 := below_then be hb3 be.size
    have lq : (digs (a.z.natAbs / b.z.natAbs)).length ≤ 549755813888 := Nat.le_trans (digs_len_mono (Nat.div_le_self _ _)) (by omega)
    have l0 : (digs 0).length ≤ 549755813888 := by rw [digs_zero]; decide
    clear bX bY bR bR' be dX dY hb3 x0 x1 y0 y1 hmb
    go_wp2_with fail
    go_upto_region 5 with (fail)
    go_cut [9, 10] (fun s9 s10 wx => ∃ (g9 g10 : Nat) (A6 A7 : Option Addr) (n6 k6 n7 k7 : Nat) (nb nb' : Bool), s9 = .pointer (some ⟨g9, 0, none⟩) ∧ s10 = .pointer (some ⟨g10, 0, none⟩) ∧ Bk wx g9 45 [.bool nb, .slice A6 n6 k6] ∧ Bk wx g10 45 [.bool nb', .slice A7 n7 k7] ∧ IntM wx (.agg #[.bool nb, .slice A6 n6 k6]) (canI (a.z / b.z)) ∧ IntM wx (.agg #[.bool nb', .slice A7 n7 k7]) (canI 0) ∧ Below w3.heap.size w3 wx ∧ w3.heap.size ≤ g9 ∧ w3.heap.size ≤ g10)
    case first =>
      go_region_held3 (fun w' => w'.cell? ⟨w.heap.size, 0, none⟩ = some (.bool (decide (a.z < 0))) ∧ w'.cell? ⟨w.heap.size + 1, 0, none⟩ = some (.bool (decide (b.z < 0))))
        (exact ⟨(bX3.later (by (repeat (first | (with_reducible exact Below.refl _ _) | (with_reducible refine ext_alloc ?_ _) | (with_reducible refine ext_drew ?_) | (with_reducible refine ext_call ?_ hb7) | (with_reducible refine ext_call ?_ hb6) | (with_reducible refine ext_set ?_ (by first | omega | (simp; omega)) _ _))))).two.1, (bY3.later (by (repeat (first | (with_reducible exact Below.refl _ _) | (with_reducible refine ext_alloc ?_ _) | (with_reducible refine ext_drew ?_) | (with_reducible refine ext_call ?_ hb7) | (with_reducible refine ext_call ?_ hb6) | (with_reducible refine ext_set ?_ (by first | omega | (simp; omega)) _ _))))).two.1⟩)
        (first
          | (go_at_call 88; have _t := tok; refine (make_dig _ _ _ _ (d3.below (by (repeat (first | (with_reducible exact Below.refl _ _) | (with_reducible refine ext_alloc ?_ _) | (with_reducible refine ext_drew ?_) | (with_reducible refine ext_call ?_ hb7) | (with_reducible refine ext_call ?_ hb6))))) lq).mono ?_; clear tok _t; rintro e w6 ⟨v6, rfl, e6, hb6⟩; obtain ⟨A6, n6, k6, rfl, _⟩ := e6.shape; have s6 : w3.heap.size ≤ w6.heap.size := (by have := hb6.size; first | exact this | omega | (simp at this; omega)); (try ((first | (with_reducible have bA := Bk.on (Bk.made (cs := [.bool false, .slice none 0 0]) rfl) hb6) | (with_reducible have bA := Bk.on (Bk.drew (Bk.made (cs := [.bool false, .slice none 0 0]) rfl)) hb6)); obtain ⟨za0, za1, za2, za3⟩ := bA.two; have zal := bA.lt; (try simp only [size_alloc, size_drew] at za0 za1 za2 za3 zal))); (try ((first | (with_reducible have bB := Bk.on (Bk.alloc (Bk.made (cs := [.bool false, .slice none 0 0]) rfl) _) hb6) | (with_reducible have bB := Bk.on (Bk.drew (Bk.alloc (Bk.made (cs := [.bool false, .slice none 0 0]) rfl) _)) hb6)); obtain ⟨zb0, zb1, zb2, zb3⟩ := bB.two; have zbl := bB.lt; (try simp only [size_alloc, size_drew] at zb0 zb1 zb2 zb3 zbl))))
          | (go_at_call 88; refine (make_dig _ _ _ _ (d4.below (by (repeat (first | (with_reducible exact Below.refl _ _) | (with_reducible refine ext_alloc ?_ _) | (with_reducible refine ext_drew ?_) | (with_reducible refine ext_call ?_ hb7) | (with_reducible refine ext_call ?_ hb6))))) l0).mono ?_; rw [sm_zero]; rintro e w7 ⟨v7, rfl, e7, hb7⟩; obtain ⟨A7, n7, k7, rfl, _⟩ := e7.shape; have s7 : w6.heap.size ≤ w7.heap.size := (by have := hb7.size; first | exact this | omega | (simp at this; omega)); (try ((with_reducible have bC := Bk.on (Bk.made (cs := [.bool false, .slice none 0 0]) rfl) hb7); obtain ⟨zc0, zc1, zc2, zc3⟩ := bC.two; have zcl := bC.lt; (try simp only [size_alloc, size_drew] at zc0 zc1 zc2 zc3 zcl))); (try ((with_reducible have bD := Bk.on (Bk.alloc (Bk.made (cs := [.bool false, .slice none 0 0]) rfl) _) hb7); obtain ⟨zd0, zd1, zd2, zd3⟩ := bD.two; have zdl := bD.lt; (try simp only [size_alloc, size_drew] at zd0 zd1 zd2 zd3 zdl))); (try (have bE := bA.on (show Below w6.heap.size w6 w7 from by (repeat (first | (with_reducible exact Below.refl _ _) | (with_reducible refine ext_alloc ?_ _) | (with_reducible refine ext_drew ?_) | (with_reducible refine ext_call ?_ hb7) | (with_reducible refine ext_call ?_ hb6)))); obtain ⟨ze0, ze1, ze2, ze3⟩ := bE.two; have zel := bE.lt; (try simp only [size_alloc, size_drew] at ze0 ze1 ze2 ze3 zel))); (try (have bF := bB.on (show Below w6.heap.size w6 w7 from by (repeat (first | (with_reducible exact Below.refl _ _) | (with_reducible refine ext_alloc ?_ _) | (with_reducible refine ext_drew ?_) | (with_reducible refine ext_call ?_ hb7) | (with_reducible refine ext_call ?_ hb6)))); obtain ⟨zf0, zf1, zf2, zf3⟩ := bF.two; have zfl := bF.lt; (try simp only [size_alloc, size_drew] at zf0 zf1 zf2 zf3 zfl)))))
      all_goals
        go_wp2_with fail
        go_meet
        have hq : canI (a.z / b.z) = canI (sm (!decide (a.z < 0) == decide (b.z < 0)) (a.z.natAbs / b.z.natAbs)) := by rw [← HS.out.1]; rfl
        rw [hq]
        clear hq
        refine ⟨_, _, A6, A7, n6, k6, n7, k7, _, _, rfl, rfl, ?_, ?_, e6.keep ?_, e7.keep ?_, ?_, by omega, by omega⟩
        · (repeat (first | (with_reducible exact Bk.made rfl) | (with_reducible exact Bk.made (size_alloc _ _).symm) | (with_reducible exact Bk.made (size_ss _ _ _ _ _)) | (with_reducible refine Bk.set2 (a := .bool false) (b := .slice none 0 0) ?_ _ _) | (with_reducible refine Bk.far2 ?_ (by first | omega | (simp; omega)) _ _) | (with_reducible refine Bk.alloc ?_ _) | (with_reducible refine Bk.drew ?_) | (with_reducible refine Bk.on ?_ hb7) | (with_reducible refine Bk.on ?_ hb6)))
        · (repeat (first | (with_reducible exact Bk.made rfl) | (with_reducible exact Bk.made (size_alloc _ _).symm) | (with_reducible exact Bk.made (size_ss _ _ _ _ _)) | (with_reducible refine Bk.set2 (a := .bool false) (b := .slice none 0 0) ?_ _ _) | (with_reducible refine Bk.far2 ?_ (by first | omega | (simp; omega)) _ _) | (with_reducible refine Bk.alloc ?_ _) | (with_reducible refine Bk.drew ?_) | (with_reducible refine Bk.on ?_ hb7) | (with_reducible refine Bk.on ?_ hb6)))
        · (repeat (first | (with_reducible exact Keep.refl _) | (with_reducible refine keep_alloc ?_ _) | (with_reducible refine keep_call ?_ hb7) | with_reducible refine keep_set2 (t := 45) (x := .bool false) (y := .slice none 0 0) ?_ (by (repeat (first | (with_reducible exact Bk.made rfl) | (with_reducible exact Bk.made (size_alloc _ _).symm) | (with_reducible exact Bk.made (size_ss _ _ _ _ _)) | (with_reducible refine Bk.set2 (a := .bool false) (b := .slice none 0 0) ?_ _ _) | (with_reducible refine Bk.far2 ?_ (by first | omega | (simp; omega)) _ _) | (with_reducible refine Bk.alloc ?_ _) | (with_reducible refine Bk.drew ?_) | (with_reducible refine Bk.on ?_ hb7) | (with_reducible refine Bk.on ?_ hb6)))) (by decide) _ _))
        · (repeat (first | (with_reducible exact Keep.refl _) | (with_reducible refine keep_alloc ?_ _) | (with_reducible refine keep_call ?_ hb7) | with_reducible refine keep_set2 (t := 45) (x := .bool false) (y := .slice none 0 0) ?_ (by (repeat (first | (with_reducible exact Bk.made rfl) | (with_reducible exact Bk.made (size_alloc _ _).symm) | (with_reducible exact Bk.made (size_ss _ _ _ _ _)) | (with_reducible refine Bk.set2 (a := .bool false) (b := .slice none 0 0) ?_ _ _) | (with_reducible refine Bk.far2 ?_ (by first | omega | (simp; omega)) _ _) | (with_reducible refine Bk.alloc ?_ _) | (with_reducible refine Bk.drew ?_) | (with_reducible refine Bk.on ?_ hb7) | (with_reducible refine Bk.on ?_ hb6)))) (by decide) _ _))
        · (repeat (first | (with_reducible exact Below.refl _ _) | (with_reducible refine ext_alloc ?_ _) | (with_reducible refine ext_drew ?_) | (with_reducible refine ext_call ?_ hb7) | (with_reducible refine ext_call ?_ hb6) | (with_reducible refine ext_set ?_ (by first | omega | (simp; omega)) _ _)))
    case rest =>
      obtain ⟨g9, g10, A6, A7, n6, k6, n7, k7, nb, nb', rfl, rfl, bQ, bE, iQ, iE, hb6, hg9, hg10⟩ := hcut
      have hlt := bR3'.lt
      have hn7 := iE.zero_len
      subst hn7
      have bX4 := bX3.later hb6
      have bY4 := bY3.later hb6
      have bR4 := bR3.later hb6
      have bR4' := bR3'.later hb6
      have be4 := below_then be3 hb6 be3.size
      clear bX3 bY3 bR3 bR3' be3 hb6 d3 d4 HS
      obtain ⟨q0, q1, _, _⟩ := bQ.two
      obtain ⟨r0, r1, _, _⟩ := bE.two
      obtain ⟨c0, c1, f0, f1⟩ := bR4.two
      obtain ⟨c0', c1', f0', f1'⟩ := bR4'.two
      have hq1 : w.heap.size + 1 + 1 ≠ g9 := by omega
      have hq2 : w.heap.size + 1 + 1 ≠ g10 := by omega
      have hq3 : w.heap.size + 1 + 1 + 1 ≠ g9 := by omega
      have hq4 : w.heap.size + 1 + 1 + 1 ≠ g10 := by omega
      have hq5 : w.heap.size + 1 + 1 ≠ w.heap.size + 1 + 1 + 1 := by omega
      clear hlt hg9 hg10
      go_wp2
      go_region_held3 (fun w' => (w'.cell? ⟨g9, 0, none⟩ = some (.bool nb) ∧ w'.cell? ⟨g9, 1, none⟩ = some (.slice A6 n6 k6)) ∧ (w'.cell? ⟨g10, 0, none⟩ = some (.bool nb') ∧ w'.cell? ⟨g10, 1, none⟩ = some (.slice A7 0 k7)))
        (first | with_reducible exact ⟨bQ.drew.pair, bE.drew.pair⟩ | with_reducible exact ⟨(bQ.far2 (Ne.symm hq1) _ _).drew.pair, (bE.far2 (Ne.symm hq2) _ _).drew.pair⟩ | with_reducible exact ⟨((bQ.far2 (Ne.symm hq1) _ _).far2 (Ne.symm hq3) _ _).drew.pair, ((bE.far2 (Ne.symm hq2) _ _).far2 (Ne.symm hq4) _ _).drew.pair⟩)
        (fail)
      go_wp2
      obtain ⟨a1, a2, a3, a4, a5⟩ := fin_div bR4.drew bR4'.drew hq5 (iQ.keep (Keep.drew _)) (iE.keep (Keep.drew _)) be4.drew (by omega) (by omega)
      refine ret_cct Tryz.results86 Tryz.underlying45 Tryz.underlying45 (by kernel_rfl) (by kernel_rfl) rfl rfl a1 a2 rfl ?_
      exact ⟨_, _, rfl, a3, a4, a5⟩
end Go.Proofs.YtpanffbgihhjnaaGreat

/- Walks: package pairingref1: Make and Canon, with the digits in a row of the call's own. -/
namespace Go.Proofs.YtpanffbgihhjnaaGreat
open Go.RowKit Pl
attribute [local go_sem ↓] Go.wp_at_zero Go.wp_at_succ

theorem own_keep {w w' : World} {base : Nat} {v : Value} {n : Nat} {xs : List Value} (h : w.ownsRow base 85 1 v n xs) (hk : Keep w w') : w'.ownsRow base 85 1 v n xs := by
  refine ⟨h.1, ?_⟩
  rcases h.2 with hn | ⟨g, cap, cur, rfl, hb, hgg, rest⟩
  · exact .inl hn
  · exact .inr ⟨g, cap, cur, rfl, hb, hk g _ _ hgg, rest⟩
theorem own_mono {w : World} {base base' : Nat} {v : Value} {n : Nat} {xs : List Value} (h : w.ownsRow base 85 1 v n xs) (hb : base' ≤ base) : w.ownsRow base' 85 1 v n xs := by
  refine ⟨h.1, ?_⟩
  rcases h.2 with hn | ⟨g, cap, cur, rfl, hb', rest⟩
  · exact .inl hn
  · exact .inr ⟨g, cap, cur, rfl, Nat.le_trans hb hb', rest⟩
def IntO (base : Nat) (w : World) (v : Value) (a : RI) : Prop := ∃ s, v = .agg #[.bool a.neg, s] ∧ w.ownsRow base 85 1 s a.ds.length (a.ds.map uc) ∧ okD a.ds
theorem IntO.int {base : Nat} {w : World} {v : Value} {a : RI} (h : IntO base w v a) : IntM w v a := by
  obtain ⟨s, h1, h2, h3⟩ := h
  exact ⟨s, h1, own_dig h2 h3⟩
theorem IntO.keep {base : Nat} {w w' : World} {v : Value} {a : RI} (h : IntO base w v a) (hk : Keep w w') : IntO base w' v a := by
  obtain ⟨s, h1, h2, h3⟩ := h
  exact ⟨s, h1, own_keep h2 hk, h3⟩
theorem IntO.below {base : Nat} {w w' : World} {v : Value} {a : RI} (h : IntO base w v a) (hb : Below w.heap.size w w') : IntO base w' v a := h.keep (Keep.of_below hb)
theorem IntO.mono {base base' : Nat} {w : World} {v : Value} {a : RI} (h : IntO base w v a) (hb : base' ≤ base) : IntO base' w v a := by
  obtain ⟨s, h1, h2, h3⟩ := h
  exact ⟨s, h1, own_mono h2 hb, h3⟩
theorem IntO.zero (base : Nat) (w : World) : IntO base w (.agg #[.bool false, .slice none 0 0]) (canI 0) := by
  rw [canI_zero]; exact ⟨_, rfl, World.ownsRow_nil _ _ _ _, okD_nil⟩
theorem IntO.shape {base : Nat} {w : World} {v : Value} {a : RI} (h : IntO base w v a) : ∃ A n c, v = .agg #[.bool a.neg, .slice A n c] := by
  obtain ⟨A, n, c, hv, _⟩ := h.int.shape
  exact ⟨A, n, c, hv⟩
theorem fin_intO {w w2 : World} {base m g : Nat} {x y b s : Value} {a : RI} (hR : Bk w2 g 45 [x, y]) (d : IntO base w2 (.agg #[b, s]) a) (hbe : Below m w w2) (hg : m ≤ g) :
    ∃ v', Ending.returned (.agg [b, s].toArray) = .returned v' ∧ IntO base ((w2.setCell ⟨g, 0, none⟩ b).setCell ⟨g, 1, none⟩ s) v' a ∧ Below m w ((w2.setCell ⟨g, 0, none⟩ b).setCell ⟨g, 1, none⟩ s) :=
  ⟨_, rfl, d.keep (hR.keep2 (by decide) _ _), below_set2 hbe hg _ _⟩

set_option maxRecDepth 100000 in
set_option maxHeartbeats 1000000 in
theorem make_own (neg : Bool) (v : Value) (ds : List Nat) (w : World) (h : DigM w v ds) (hs : (digs (val ds)).length ≤ 549755813888) :
    Calls Tryz.prog 88 #[.bool neg, v] w fun e w' => ∃ v', e = .returned v' ∧ IntO w.heap.size w' v' (canI (sm neg (val ds))) ∧ Below w.heap.size w w' := by
  have hR := Bk.new w 45 [.bool false, .slice none 0 0]
  have hbe := below_new w (.cells [.bool false, .slice none 0 0].toArray 45)
  have h' := h.below hbe
  obtain ⟨i0, hi, hz0, hz1, hz2⟩ := info_parts info_u32
  have HI := Lib.hid hi
  have HZ0 := Lib.hid hz0
  have HZ1 := Lib.hid hz1
  have HZ2 := Lib.hid hz2
  clear hi hz0 hz1 hz2
  go_enter Tryz.func88, Tryz.ntmps88
  go_wp2_with fail
  generalize w.alloc _ = W at *
  refine (rtrim_any _ ds _ h').mono ?_
  rintro e w1 ⟨v1, rfl, h1, rfl⟩
  obtain ⟨A, n, c, rfl⟩ := h1.shape
  obtain ⟨kl, kl', knc, kc⟩ := h1.len
  obtain ⟨c0, c1, f0, f1⟩ := hR.two
  rcases Nat.eq_zero_or_pos n with h0 | h0
  · have hv : val ds = 0 := len_zero (by omega)
    subst h0
    have HV := Lib.hid hv
    clear hv kl kl' hs
    go_wp2
    refine ret_cell Tryz.results88 Tryz.underlying45 (by kernel_rfl) rfl (hR.set2 _ _) rfl ?_
    exact ⟨_, rfl, by rw [HV.out, sm_zero]; exact IntO.zero _ _, below_set2 hbe (Nat.le_refl _) _ _⟩
  · have hv : val ds ≠ 0 := len_pos (by omega)
    have HV := Lib.hid hv
    have HS := Lib.hid hs
    obtain ⟨b, off, rfl, hb1, hcell1⟩ := h1.at_ h0
    clear hv hcell1 hs c0 c1 f0 f1
    have hln : (digs (val ds)).length = n := by omega
    have HLN := Lib.hid hln
    clear hln kl kl' kc knc
    go_wp2_with (at_builtin; refine wpList_append_own_at _ rfl (.const (.slice none 0 0)) (.tmp 12) _ rfl w.heap.size 85 i0 _ 1 4 Tryz.underlying43 HI.out HZ0.out HZ1.out HZ2.out rfl (by decide) (.slice none 0 0) 0 [] rfl ?c0 ⟨b, off, none⟩ n c ((digs (val ds)).map uc) rfl ?c1 ?c2 (uc_oneCell _) ?c3 ?c4 ?c5 ?_)
    case c0 => exact World.ownsRow_nil _ _ _ _
    case c1 => simp; exact HLN.out
    case c2 => exact h1.news
    case c3 => have := HS.out; have := HLN.out; unfold maxLen; omega
    case c4 => have := HS.out; have := HLN.out; omega
    case c5 => exact hbe.size
    · intro v' w1 hown hgrow _ _
      have hown' : w1.ownsRow w.heap.size 85 1 v' (digs (val ds)).length ((digs (val ds)).map uc) := by have := HLN.out; simpa [this] using hown
      have dg' := own_dig hown' (okD_digs (val ds))
      have hR1 := hR.grown hgrow (by simp [Value.ownBlock])
      have hbe1 : Below w.heap.size w w1 := hbe.grown hgrow hbe.size (fun k hk => by simp [Value.ownBlock] at hk)
      obtain ⟨A1, n1, k1, rfl⟩ := dg'.shape
      obtain ⟨c0, c1, f0, f1⟩ := hR1.two
      clear hown hgrow
      go_wp2
      refine ret_cell Tryz.results88 Tryz.underlying45 (by kernel_rfl) rfl (hR1.set2 _ _) rfl ?_
      rw [canI_sm _ _ HV.out]
      exact fin_intO hR1 ⟨_, rfl, hown', okD_digs _⟩ hbe1 (Nat.le_refl _)

set_option maxHeartbeats 1000000 in
theorem canonI_own (v : Value) (a : RI) (w : World) (h : IntM w v a) (hs : (digs (val a.ds)).length ≤ 549755813888) :
    Calls Tryz.prog 87 #[v] w fun e w' => ∃ v', e = .returned v' ∧ IntO w.heap.size w' v' (canI a.z) ∧ Below w.heap.size w w' := by
  obtain ⟨A, n, c, rfl, hd⟩ := h.shape
  obtain ⟨W, hW, hX, hR, hbe⟩ := box1 w (.bool a.neg) (.slice A n c)
  have hdX := hd.below hbe
  obtain ⟨x0, x1, y0, y1⟩ := hX.two
  go_enter Tryz.func87, Tryz.ntmps87
  go_wp2_with fail
  clear hW
  refine (make_own _ _ a.ds _ hdX hs).mono ?_
  rw [← RI.z_eq]
  rintro e w1 ⟨v1, rfl, e1, hb1⟩
  obtain ⟨A1, n1, k1, rfl⟩ := e1.shape
  have hR1 := hR.later hb1
  obtain ⟨c0, c1, f0, f1⟩ := hR1.two
  go_wp2
  refine ret_cell Tryz.results87 Tryz.underlying45 (by kernel_rfl) rfl (hR1.set2 _ _) rfl ?_
  exact fin_intO hR1 (e1.mono hbe.size) (below_then hbe hb1 hbe.size) (by omega)

end Go.Proofs.YtpanffbgihhjnaaGreat

/- Walks: package pairingref25: New. -/
namespace Go.Proofs.YtpanffbgihhjnaaGreat
open Go.RowKit Pl
attribute [local go_sem ↓] Go.wp_at_zero Go.wp_at_succ

def FracO (base : Nat) (w : World) (v : Value) (f : RF) : Prop := FracM w v f ∧ ∃ b s b' s', v = .agg #[b, s, b', s'] ∧ w.ownsRow base 85 1 s f.num.ds.length (f.num.ds.map uc)
theorem FracO.keep {base : Nat} {w w' : World} {v : Value} {f : RF} (h : FracO base w v f) (hk : Keep w w') : FracO base w' v f := by
  obtain ⟨h0, b, s, b', s', h1, h2⟩ := h
  exact ⟨h0.keep hk, b, s, b', s', h1, own_keep h2 hk⟩
theorem FracO.below {base : Nat} {w w' : World} {v : Value} {f : RF} (h : FracO base w v f) (hb : Below w.heap.size w w') : FracO base w' v f := h.keep (Keep.of_below hb)
theorem FracO.mono {base base' : Nat} {w : World} {v : Value} {f : RF} (h : FracO base w v f) (hb : base' ≤ base) : FracO base' w v f := by
  obtain ⟨h0, b, s, b', s', h1, h2⟩ := h
  exact ⟨h0, b, s, b', s', h1, own_mono h2 hb⟩
theorem FracO.mk {base : Nat} {w : World} {b b' s s' : Value} {x y : RI} (h1 : IntO base w (.agg #[b, s]) x) (h2 : IntM w (.agg #[b', s']) y) : FracO base w (.agg #[b, s, b', s']) ⟨x, y⟩ := by
  obtain ⟨A, n, c, e, d⟩ := h1.int.shape
  obtain ⟨A', n', c', e', d'⟩ := h2.shape
  simp at e e'
  obtain ⟨rfl, rfl⟩ := e
  obtain ⟨rfl, rfl⟩ := e'
  obtain ⟨t, e, o, _⟩ := h1
  simp at e
  subst e
  exact ⟨⟨_, _, _, _, _, _, rfl, d, d'⟩, _, _, _, _, rfl, o⟩
theorem fin_fracO {w w2 : World} {base m g : Nat} {x y z u b s b' s' : Value} {a : RF} (hR : Bk w2 g 47 [x, y, z, u]) (d : FracO base w2 (.agg #[b, s, b', s']) a) (hbe : Below m w w2) (hg : m ≤ g) :
    ∃ v', Ending.returned (.agg [b, s, b', s'].toArray) = .returned v' ∧ FracO base ((((w2.setCell ⟨g, 0, none⟩ b).setCell ⟨g, 1, none⟩ s).setCell ⟨g, 2, none⟩ b').setCell ⟨g, 3, none⟩ s') v' a ∧ Below m w ((((w2.setCell ⟨g, 0, none⟩ b).setCell ⟨g, 1, none⟩ s).setCell ⟨g, 2, none⟩ b').setCell ⟨g, 3, none⟩ s') :=
  ⟨_, rfl, d.keep (hR.keep4 (by decide) _ _ _ _), below_set4 hbe hg _ _ _ _⟩

namespace Pl
theorem canF_zero : canF 0 = ⟨canI 0, canI 1⟩ := by
  unfold canF
  rfl
theorem gcd_z (x y : RI) : Nat.gcd (val x.ds) (val y.ds) = Int.gcd x.z y.z := by
  unfold Int.gcd
  rw [z_natAbs, z_natAbs]
end Pl

def NewAt (a b : RI) (w : World) (x y : RI) (wx : World) (B B' : Option Addr) (m d m' d' : Nat) : Prop :=
  Bk wx w.heap.size 45 [.bool x.neg, .slice B m d] ∧ Bk wx (w.heap.size + 1) 45 [.bool y.neg, .slice B' m' d'] ∧ Bk wx (w.heap.size + 1 + 1) 47 [.bool false, .slice none 0 0, .bool false, .slice none 0 0] ∧ Below w.heap.size w wx ∧
  IntM wx (.agg #[.bool x.neg, .slice B m d]) x ∧ IntM wx (.agg #[.bool y.neg, .slice B' m' d']) y ∧ 0 < y.z ∧ Rat.divInt x.z y.z = Rat.divInt a.z b.z ∧ (digs (val x.ds)).length ≤ 137438953472 ∧ (digs (val y.ds)).length ≤ 137438953472

set_option maxRecDepth 100000 in
set_option maxHeartbeats 4000000 in
theorem rnew_own (v1 v2 : Value) (a b : RI) (w : World) (h1 : IntM w v1 a) (h2 : IntM w v2 b) (hs : (digs (val a.ds)).length ≤ 137438953472) (hs2 : (digs (val b.ds)).length ≤ 137438953472) :
    Calls Tryz.prog 56 #[v1, v2] w fun e w' => ∃ v', e = .returned v' ∧ FracO w.heap.size w' v' (canF (Rat.divInt a.z b.z)) ∧ Below w.heap.size w w' := by
  obtain ⟨A, n, c, rfl, hd⟩ := h1.shape
  obtain ⟨A', n', c', rfl, hd'⟩ := h2.shape
  obtain ⟨W, hW, hX, hX', hR, hbe⟩ := boxR w (.bool a.neg) (.slice A n c) (.bool b.neg) (.slice A' n' c')
  have e1 := h1.below hbe
  have e2 := h2.below hbe
  clear hd hd' h1 h2
  go_enter Tryz.func56, Tryz.ntmps56
  go_wp2_with fail
  clear hW
  refine (rfromInt64_any 1 _ (by omega) (by omega)).mono ?_
  rintro e w0 ⟨v0, rfl, iO, hb0⟩
  obtain ⟨A0, n0, k0, rfl, _⟩ := iO.shape
  have bO := Bk.new w0 45 [.bool (canI 1).neg, .slice A0 n0 k0]
  have bn := below_new w0 (.cells [.bool (canI 1).neg, .slice A0 n0 k0].toArray 45)
  have hb0' := below_then hb0 bn hb0.size
  have hX0 := hX.later hb0'
  have hX0' := hX'.later hb0'
  have hR0 := hR.later hb0'
  have hbe0 := below_then hbe hb0' hbe.size
  have e10 := e1.below hb0'
  have e20 := e2.below hb0'
  have iO0 := iO.below bn
  obtain ⟨y0, y1, _, _⟩ := hX0'.two
  clear hX hX' hR hbe e1 e2 hb0 hb0' bn iO
  generalize hO1 : canI 1 = ONE at *
  have HONE := Lib.hid hO1
  clear hO1
  go_wp2_with fail
  generalize w0.alloc _ = W0 at *
  refine (rsign_any _ b _ e20 (by omega)).mono ?_
  rintro e w1 ⟨rfl, hb1⟩
  have hX1 := hX0.later hb1
  have hX1' := hX0'.later hb1
  have hR1 := hR0.later hb1
  have bO1 := bO.later hb1
  have iO1 := iO0.below hb1
  have hbe1 := below_then hbe0 hb1 hbe0.size
  have e11 := e10.below hb1
  have e21 := e20.below hb1
  clear hX0 hX0' hR0 hbe0 e10 e20 hb1 y0 y1 bO iO0
  have zero_end : ∀ (W : World), Bk W (w.heap.size + 1 + 1) 47 [.bool false, .slice none 0 0, .bool false, .slice none 0 0] → IntM W (.agg #[.bool ONE.neg, .slice A0 n0 k0]) ONE → Below w.heap.size w W → Rat.divInt a.z b.z = 0 →
      ∃ v', Ending.returned (.agg [.bool false, .slice none 0 0, .bool ONE.neg, .slice A0 n0 k0].toArray) = .returned v' ∧ FracO w.heap.size ((((W.setCell ⟨w.heap.size + 1 + 1, 0, none⟩ (.bool false)).setCell ⟨w.heap.size + 1 + 1, 1, none⟩ (.slice none 0 0)).setCell ⟨w.heap.size + 1 + 1, 2, none⟩ (.bool ONE.neg)).setCell ⟨w.heap.size + 1 + 1, 3, none⟩ (.slice A0 n0 k0)) v' (canF (Rat.divInt a.z b.z)) ∧ Below w.heap.size w ((((W.setCell ⟨w.heap.size + 1 + 1, 0, none⟩ (.bool false)).setCell ⟨w.heap.size + 1 + 1, 1, none⟩ (.slice none 0 0)).setCell ⟨w.heap.size + 1 + 1, 2, none⟩ (.bool ONE.neg)).setCell ⟨w.heap.size + 1 + 1, 3, none⟩ (.slice A0 n0 k0)) := by
    intro W hR hI hb hz
    refine fin_fracO hR ?_ hb (by omega)
    rw [hz, canF_zero, HONE.out]
    exact FracO.mk (IntO.zero _ _) hI
  have HZE := Lib.hid zero_end
  clear zero_end
  by_cases hbz : b.z = 0
  · have hsb : sgn b.z = 0 := by rw [hbz, sgn_zero]
    have HZ : Hid (Rat.divInt a.z b.z = 0) := Lib.hid (by rw [hbz, Rat.divInt_zero])
    clear hbz
    obtain ⟨o0, o1, _, _⟩ := bO1.two
    obtain ⟨c0, c1, c2, c3⟩ := hR1.four
    obtain ⟨f0, f1, f2, f3⟩ := hR1.fourF
    go_wp2
    refine ret_cell Tryz.results56 Tryz.underlying47 (by kernel_rfl) rfl (hR1.set4 _ _ _ _) rfl ?_
    exact HZE.out _ hR1 iO1 hbe1 HZ.out
  · have hsb : (sgn b.z == 0) = false := by unfold sgn; split; rfl; rfl
    have HB := Lib.hid hbz
    clear hbz
    obtain ⟨x0, x1, _, _⟩ := hX1.two
    go_wp2_with fail
    refine (rsign_any _ a _ e11 (by omega)).mono ?_
    rintro e w2 ⟨rfl, hb2⟩
    have hX2 := hX1.later hb2
    have hX2' := hX1'.later hb2
    have hR2 := hR1.later hb2
    have bO2 := bO1.later hb2
    have iO2 := iO1.below hb2
    have hbe2 := below_then hbe1 hb2 hbe1.size
    have e12 := e11.below hb2
    have e22 := e21.below hb2
    clear hX1 hX1' hR1 hbe1 e11 e21 hb2 bO1 iO1 x0 x1
    by_cases haz : a.z = 0
    · have hsa : sgn a.z = 0 := by rw [haz, sgn_zero]
      have HZ : Hid (Rat.divInt a.z b.z = 0) := Lib.hid (by rw [haz, Rat.zero_divInt])
      clear haz
      obtain ⟨o0, o1, _, _⟩ := bO2.two
      obtain ⟨c0, c1, c2, c3⟩ := hR2.four
      obtain ⟨f0, f1, f2, f3⟩ := hR2.fourF
      go_wp2
      refine ret_cell Tryz.results56 Tryz.underlying47 (by kernel_rfl) rfl (hR2.set4 _ _ _ _) rfl ?_
      exact HZE.out _ hR2 iO2 hbe2 HZ.out
    · have hsa : (sgn a.z == 0) = false := by unfold sgn; split; rfl; rfl
      have HA := Lib.hid haz
      clear haz bO2 iO2 HZE HONE
      obtain ⟨y0, y1, _, _⟩ := hX2'.two
      go_wp2_with fail
      refine (rsign_any _ b _ e22 (by omega)).mono ?_
      rintro e w3 ⟨rfl, hb3⟩
      have hX3 := hX2.later hb3
      have hX3' := hX2'.later hb3
      have hR3 := hR2.later hb3
      have hbe3 := below_then hbe2 hb3 hbe2.size
      have e13 := e12.below hb3
      have e23 := e22.below hb3
      clear hX2 hX2' hR2 hbe2 e12 e22 hb3 y0 y1 hsb hsa
      have tok : True := trivial
      go_upto_if 26 with (fail)
      go_cut [2, 3] (fun s2 s3 wx => s2 = .pointer (some ⟨w.heap.size, 0, none⟩) ∧ s3 = .pointer (some ⟨w.heap.size + 1, 0, none⟩) ∧ ∃ (x y : RI) (B B' : Option Addr) (m d m' d' : Nat), NewAt a b w x y wx B B' m d m' d')
      case first =>
        rcases Int.lt_or_le b.z 0 with hz | hz
        · have HN := Lib.hid hz
          have hsg : sgn b.z = -1 := sgn_neg hz
          have hn1 : w.heap.size ≠ w.heap.size + 1 := by omega
          have hn2 : w.heap.size + 1 + 1 ≠ w.heap.size := by omega
          have hn3 : w.heap.size + 1 + 1 ≠ w.heap.size + 1 := by omega
          clear hz
          obtain ⟨x0, x1, f0, f1⟩ := hX3.two
          obtain ⟨y0, y1, k0, k1⟩ := hX3'.two
          go_wp2_with fail
          clear hsg
          go_region_with (first
            | (go_at_call 66; have _t := tok; refine (rnegate_any _ a _ (e13.keep (Keep.drew _)) (by omega)).mono ?_; clear tok _t; rintro e w6 ⟨v6, rfl, e6, hb6⟩; obtain ⟨A6, n6, k6, rfl, _⟩ := e6.shape; obtain ⟨y0', y1', _, _⟩ := (hX3'.drew.later hb6).two)
            | (go_at_call 66; refine (rnegate_any _ b _ ((e23.keep (Keep.drew _)).below hb6) (by omega)).mono ?_; rintro e w7 ⟨v7, rfl, e7, hb7⟩; obtain ⟨A7, n7, k7, rfl, _⟩ := e7.shape; obtain ⟨c0, c1, r0, r1⟩ := ((hX3.drew.later hb6).later hb7).two; obtain ⟨c0', c1', r0', r1'⟩ := ((hX3'.drew.later hb6).later hb7).two))
          all_goals
            go_wp2_with fail
            go_meet
            obtain ⟨a1, a2, a3, a4, a5⟩ := fin_div ((hX3.drew.later hb6).later hb7) ((hX3'.drew.later hb6).later hb7) hn1 (e6.below hb7) e7 (below_then (below_then hbe3.drew hb6 hbe3.size) hb7 (Nat.le_trans hbe3.size hb6.size)) (by omega) (by omega)
            refine ⟨rfl, rfl, _, _, A6, A7, n6, k6, n7, k7, a1, a2, ((((hR3.drew.later hb6).later hb7).far2 hn2 _ _).far2 hn3 _ _), a5, a3, a4, ?_, ?_, ?_, ?_⟩
            · rw [canI_z]; have := HN.out; omega
            · rw [canI_z, canI_z, Rat.neg_divInt_neg]
            · simp only [canI, val_digs, Int.natAbs_neg, z_natAbs]; exact hs
            · simp only [canI, val_digs, Int.natAbs_neg, z_natAbs]; exact hs2
        · have hz' : 0 < b.z := by have := HB.out; omega
          have hsg : sgn b.z = 1 := sgn_pos hz'
          have HZ := Lib.hid hz'
          clear hz hz'
          go_wp2_with fail
          go_meet
          exact ⟨rfl, rfl, a, b, A, A', n, c, n', c', hX3, hX3', hR3, hbe3, e13, e23, HZ.out, rfl, hs, hs2⟩
      case rest =>
        obtain ⟨rfl, rfl, x, y, B, B', m, d, m', d', hX4, hX4', hR4, hbe4, e14, e24, hy, hxy, hl1, hl2⟩ := hcut
        have HZ := Lib.hid hy
        have HXY := Lib.hid hxy
        clear hy hxy hX3 hX3' hR3 hbe3 e13 e23 hs hs2 tok
        obtain ⟨x0, x1, _, _⟩ := hX4.two
        obtain ⟨y0, y1, _, _⟩ := hX4'.two
        go_wp2_with fail
        refine (rgcd_any _ _ x y _ e14 e24 hl1 hl2).mono ?_
        rw [gcd_z]
        rintro e w6 ⟨v6, rfl, e6, hb6⟩
        obtain ⟨A6, n6, k6, rfl, _⟩ := e6.shape
        have bX := hX4.later hb6
        have bY := hX4'.later hb6
        have bR := hR4.later hb6
        have be6 := below_then hbe4 hb6 hbe4.size
        have i1 := e14.below hb6
        have i2 := e24.below hb6
        clear hX4 hX4' hR4 hbe4 e14 e24 hb6 x0 x1 y0 y1
        have gz : (canI (Int.gcd (RI.z x) (RI.z y) : Nat)).z = (Int.gcd (RI.z x) (RI.z y) : Nat) := canI_z _
        have gs : (digs (val (canI (Int.gcd (RI.z x) (RI.z y) : Nat)).ds)).length ≤ 137438953472 := by
          rw [show val (canI (Int.gcd (RI.z x) (RI.z y) : Nat)).ds = Int.gcd (RI.z x) (RI.z y) from by simp [canI, val_digs]]
          refine Nat.le_trans (digs_len_mono (Nat.le_of_dvd ?_ (show Int.gcd (RI.z x) (RI.z y) ∣ val (RI.ds y) from by rw [← z_natAbs]; exact Int.gcd_dvd_natAbs_right ..))) hl2
          have := HZ.out
          have := z_natAbs y
          omega
        generalize canI (Int.gcd (RI.z x) (RI.z y) : Nat) = G at *
        have GZ := Lib.hid gz
        clear gz
        have hG0 : G.z ≠ 0 := by
          rw [GZ.out]
          have := Int.gcd_pos_of_ne_zero_right (RI.z x) (show RI.z y ≠ 0 by have := HZ.out; omega)
          omega
        have HG0 := Lib.hid hG0
        clear hG0
        have bG := Bk.new w6 45 [.bool G.neg, .slice A6 n6 k6]
        have bn := below_new w6 (.cells [.bool G.neg, .slice A6 n6 k6].toArray 45)
        have cX := bX.later bn
        have cY := bY.later bn
        have cR := bR.later bn
        have be7 := below_then be6 bn be6.size
        have j1 := i1.below bn
        have j2 := i2.below bn
        have j3 := e6.below bn
        obtain ⟨x0, x1, _, _⟩ := cX.two
        obtain ⟨y0, y1, _, _⟩ := cY.two
        obtain ⟨g0, g1, _, _⟩ := bG.two
        clear bX bY bR be6 i1 i2 e6 bn
        go_wp2_with fail
        generalize w6.alloc _ = W7 at *
        refine (rdivMod_exact _ _ x G _ j1 j3 hl1 gs HG0.out (by rw [GZ.out]; exact Int.gcd_dvd_left ..)).mono ?_
        rintro e w8 ⟨q, r, rfl, dq, dr, hb8⟩
        obtain ⟨A8, n8, k8, rfl, _⟩ := dq.shape
        obtain ⟨A9, n9, k9, rfl, _⟩ := dr.shape
        have bX := cX.later hb8
        have bY := cY.later hb8
        have bR := cR.later hb8
        have bG8 := bG.later hb8
        have be8 := below_then be7 hb8 be7.size
        have i2 := j2.below hb8
        have i3 := j3.below hb8
        clear cX cY cR be7 j1 j2 j3 bG hb8 x0 x1 y0 y1 g0 g1
        have ls1 : (digs (val (canI (RI.z x / G.z)).ds)).length ≤ 137438953472 := by
          rw [val_canI]
          refine Nat.le_trans (digs_len_mono (Int.natAbs_ediv_le_natAbs ..)) ?_
          rw [z_natAbs]; exact hl1
        generalize canI 0 = R1 at *
        generalize hQ1 : canI ((RI.z x) / G.z) = Q1 at *
        have HQ1 := Lib.hid hQ1
        clear hQ1
        have bQ := (Bk.new w8 45 [.bool Q1.neg, .slice A8 n8 k8]).alloc (.cells #[.bool R1.neg, .slice A9 n9 k9] 45)
        have bn := (below_new w8 (.cells [.bool Q1.neg, .slice A8 n8 k8].toArray 45)).alloc (by simp) (.cells #[.bool R1.neg, .slice A9 n9 k9] 45)
        have cX := bX.later bn
        have cY := bY.later bn
        have cR := bR.later bn
        have cG := bG8.later bn
        have be9 := below_then be8 bn be8.size
        have j2 := i2.below bn
        have j3 := i3.below bn
        have j4 := dq.below bn
        obtain ⟨y0, y1, _, _⟩ := cY.two
        obtain ⟨g0, g1, _, _⟩ := cG.two
        obtain ⟨q0, q1, _, _⟩ := bQ.two
        clear bX bY bR bG8 be8 i2 i3 dq dr bn
        go_wp2_with fail
        generalize (w8.alloc _).alloc _ = W9 at *
        refine (rdivMod_exact _ _ y G _ j2 j3 hl2 gs HG0.out (by rw [GZ.out]; exact Int.gcd_dvd_right ..)).mono ?_
        rintro e w10 ⟨q', r', rfl, dq, dr, hb10⟩
        obtain ⟨A10, n10, k10, rfl, _⟩ := dq.shape
        obtain ⟨A11, n11, k11, rfl, _⟩ := dr.shape
        have bR := cR.later hb10
        have bQ10 := bQ.later hb10
        have be10 := below_then be9 hb10 be9.size
        have i4 := j4.below hb10
        clear cX cY cR cG be9 j2 j3 j4 bQ hb10 y0 y1 g0 g1 q0 q1
        have ls2 : (digs (val (canI (RI.z y / G.z)).ds)).length ≤ 137438953472 := by
          rw [val_canI]
          refine Nat.le_trans (digs_len_mono (Int.natAbs_ediv_le_natAbs ..)) ?_
          rw [z_natAbs]; exact hl2
        generalize canI 0 = R2 at *
        generalize hQ2 : canI ((RI.z y) / G.z) = Q2 at *
        have HQ2 := Lib.hid hQ2
        clear hQ2
        have bD := (Bk.new w10 45 [.bool Q2.neg, .slice A10 n10 k10]).alloc (.cells #[.bool R2.neg, .slice A11 n11 k11] 45)
        have bn := (below_new w10 (.cells [.bool Q2.neg, .slice A10 n10 k10].toArray 45)).alloc (by simp) (.cells #[.bool R2.neg, .slice A11 n11 k11] 45)
        have cR := bR.later bn
        have cQ := bQ10.later bn
        have be11 := below_then be10 bn be10.size
        have j4 := i4.below bn
        have j5 := dq.below bn
        clear bR bQ10 be10 i4 dq dr bn
        have hk1 : w8.heap.size ≠ w.heap.size + 1 + 1 := cQ.ne_of cR (by decide)
        have hk2 : w10.heap.size ≠ w.heap.size + 1 + 1 := bD.ne_of cR (by decide)
        have tok : True := trivial
        go_wp2_with fail
        generalize (w10.alloc _).alloc _ = W11 at *
        go_region_held3 (fun w' => (w'.cell? ⟨w8.heap.size, 0, none⟩ = some (.bool Q1.neg) ∧ w'.cell? ⟨w8.heap.size, 1, none⟩ = some (.slice A8 n8 k8)) ∧ (w'.cell? ⟨w10.heap.size, 0, none⟩ = some (.bool Q2.neg) ∧ w'.cell? ⟨w10.heap.size, 1, none⟩ = some (.slice A10 n10 k10)))
          (first | with_reducible exact ⟨cQ.drew.pair, bD.drew.pair⟩ | with_reducible exact ⟨(cQ.drew.later hb6).pair, (bD.drew.later hb6).pair⟩ | with_reducible exact ⟨((cQ.drew.later hb6).later hb7).pair, ((bD.drew.later hb6).later hb7).pair⟩ | with_reducible exact ⟨(((cQ.drew.later hb6).later hb7).far4 hk1 _ _ _ _).pair, (((bD.drew.later hb6).later hb7).far4 hk2 _ _ _ _).pair⟩)
          (first
            | (go_at_call 87; have _t := tok; refine (canonI_own _ Q1 _ (j4.keep (Keep.drew _)) (by omega)).mono ?_; clear tok _t; rintro e w6 ⟨v6, rfl, e6, hb6⟩; obtain ⟨A6, n6, k6, rfl⟩ := e6.shape)
            | (go_at_call 87; refine (canonI_own _ Q2 _ ((j5.keep (Keep.drew _)).below hb6) (by omega)).mono ?_; rintro e w7 ⟨v7, rfl, e7, hb7⟩; obtain ⟨A7, n7, k7, rfl⟩ := e7.shape; obtain ⟨c0, c1, c2, c3⟩ := ((cR.drew.later hb6).later hb7).four; obtain ⟨f0, f1, f2, f3⟩ := ((cR.drew.later hb6).later hb7).fourF))
        go_wp2
        refine ret_cell Tryz.results56 Tryz.underlying47 (by kernel_rfl) rfl (((cR.drew.later hb6).later hb7).set4 _ _ _ _) rfl ?_
        have bb0 := below_then be11.drew hb6 be11.size
        have hq1 : canI (RI.z Q1) = Q1 := by rw [← HQ1.out, canI_z]
        have hq2 : canI (RI.z Q2) = Q2 := by rw [← HQ2.out, canI_z]
        rw [← HXY.out, canF_words HZ.out, Int.gcd_comm, ← GZ.out, HQ1.out, HQ2.out]
        rw [hq1] at e6 ⊢
        rw [hq2] at e7 ⊢
        exact fin_fracO ((cR.drew.later hb6).later hb7) (FracO.mk ((e6.below hb7).mono be11.size) e7.int) (below_then bb0 hb7 bb0.size) (by omega)
end Go.Proofs.YtpanffbgihhjnaaGreat

/- Walks: package pairingref25: Canon, Int, Sign, Negate, Mul, Div, Add, Sub, Compare, Same. -/
namespace Go.Proofs.YtpanffbgihhjnaaGreat
open Go.RowKit Pl
attribute [local go_sem ↓] Go.wp_at_zero Go.wp_at_succ

namespace Pl
def RF.Sh (f : RF) : Prop := (digs (val f.num.ds)).length ≤ 34359738368 ∧ (digs (val f.den.ds)).length ≤ 34359738368
def Sz (k : Nat) (q : Rat) : Prop := (digs q.num.natAbs).length ≤ k ∧ (digs q.den).length ≤ k
theorem Sz.mono {j k : Nat} {q : Rat} (h : Sz j q) (hk : j ≤ k) : Sz k q := ⟨Nat.le_trans h.1 hk, Nat.le_trans h.2 hk⟩
theorem Sz.sh {k : Nat} {q : Rat} (h : Sz k q) (hk : k ≤ 34359738368) : (canF q).Sh := by
  unfold RF.Sh canF
  simp only [val_canI]
  exact ⟨Nat.le_trans h.1 hk, Nat.le_trans h.2 hk⟩
theorem RF.Sh.sm {f : RF} (h : f.Sh) : f.Sm := by
  unfold RF.Sh at h
  unfold RF.Sm RI.Sm
  omega
theorem Sz_divInt {a b : Int} {k : Nat} (h1 : (digs a.natAbs).length ≤ k) (h2 : (digs b.natAbs).length ≤ k) (hk : 1 ≤ k) : Sz k (Rat.divInt a b) := by
  unfold Sz
  rw [Rat.num_divInt, Rat.den_divInt]
  constructor
  · refine Nat.le_trans (digs_len_mono ?_) h1
    refine Nat.le_trans (Int.natAbs_ediv_le_natAbs ..) ?_
    rw [Int.natAbs_mul]
    have : b.sign.natAbs ≤ 1 := by rw [Int.natAbs_sign]; split <;> omega
    exact Nat.le_trans (Nat.mul_le_mul_right _ this) (by omega)
  · split
    · exact Nat.le_trans (digs_lt (k := 1) (by unfold B32; omega)) hk
    · exact Nat.le_trans (digs_len_mono (Nat.div_le_self _ _)) h2
theorem RF.Sh.sz {f : RF} (h : f.Sh) : Sz 34359738368 f.q := Sz_divInt (by rw [z_natAbs]; exact h.1) (by rw [z_natAbs]; exact h.2) (by decide)
theorem Sz_pos {k : Nat} {q : Rat} (h : Sz k q) : 1 ≤ k := by
  have := h.2
  have := digs_len_pos (n := q.den) q.den_pos
  omega
theorem div_eq (p q : Rat) : Rat.divInt (p.num * q.den) (p.den * q.num) = p / q := by
  conv => rhs; rw [← Rat.num_divInt_den p, ← Rat.num_divInt_den q]
  rw [Rat.div_def, Rat.inv_divInt, Rat.divInt_mul_divInt]
theorem mul_eq (p q : Rat) : Rat.divInt (p.num * q.num) (p.den * q.den) = p * q := by
  conv => rhs; rw [← Rat.num_divInt_den p, ← Rat.num_divInt_den q]
  rw [Rat.divInt_mul_divInt]
theorem add_eq (p q : Rat) : Rat.divInt (p.num * q.den + q.num * p.den) (p.den * q.den) = p + q := by
  conv => rhs; rw [← Rat.num_divInt_den p, ← Rat.num_divInt_den q]
  have h1 : (p.den : Int) ≠ 0 := by have := p.den_pos; omega
  have h2 : (q.den : Int) ≠ 0 := by have := q.den_pos; omega
  rw [Rat.divInt_add_divInt _ _ h1 h2]
theorem Sz_mul {j k : Nat} {p q : Rat} (h : Sz j p) (g : Sz k q) : Sz (j + k) (p * q) := by
  rw [← mul_eq]
  refine Sz_divInt ?_ ?_ (by have := Sz_pos h; omega)
  · rw [Int.natAbs_mul]; exact Nat.le_trans (mul_len _ _) (Nat.add_le_add h.1 g.1)
  · rw [Int.natAbs_mul]; exact Nat.le_trans (mul_len _ _) (Nat.add_le_add h.2 g.2)
theorem Sz_div {j k : Nat} {p q : Rat} (h : Sz j p) (g : Sz k q) : Sz (j + k) (p / q) := by
  rw [← div_eq]
  refine Sz_divInt ?_ ?_ (by have := Sz_pos h; omega)
  · rw [Int.natAbs_mul]; exact Nat.le_trans (mul_len _ _) (Nat.add_le_add h.1 g.2)
  · rw [Int.natAbs_mul]; exact Nat.le_trans (mul_len _ _) (Nat.add_le_add h.2 g.1)
theorem Sz_add {j k : Nat} {p q : Rat} (h : Sz j p) (g : Sz k q) : Sz (j + k + 1) (p + q) := by
  rw [← add_eq]
  refine Sz_divInt ?_ ?_ (by omega)
  · refine add_lenI ?_ ?_
    · rw [Int.natAbs_mul]; exact Nat.le_trans (mul_len _ _) (Nat.add_le_add h.1 g.2)
    · rw [Int.natAbs_mul, Nat.add_comm j k]; exact Nat.le_trans (mul_len _ _) (Nat.add_le_add g.1 h.2)
  · rw [Int.natAbs_mul]; exact Nat.le_trans (mul_len _ _) (Nat.le_trans (Nat.add_le_add h.2 g.2) (by omega))
theorem Sz_neg {k : Nat} {q : Rat} (h : Sz k q) : Sz k (-q) := by
  unfold Sz at *
  rw [Rat.neg_num, Rat.neg_den, Int.natAbs_neg]
  exact h
theorem Sz_sub {j k : Nat} {p q : Rat} (h : Sz j p) (g : Sz k q) : Sz (j + k + 1) (p - q) := by
  rw [Rat.sub_eq_add_neg]
  exact Sz_add h (Sz_neg g)
theorem Sz_zero : Sz 1 0 := by unfold Sz; exact ⟨by rw [show Int.natAbs (Rat.num 0) = 0 from rfl, digs_zero]; decide, digs_lt (by rw [show Rat.den 0 = 1 from rfl]; decide)⟩
theorem divInt_one' (z : Int) : Rat.divInt z 1 = (z : Rat) := Rat.mkRat_one z
theorem neg_raw (f : RF) : Rat.divInt (-f.num.z) f.den.z = -f.q := (Rat.neg_divInt _ _).symm
end Pl

theorem FracM.num {w : World} {A A' : Option Addr} {n c n' c' : Nat} {b b' : Bool} {f : RF} (h : FracM w (.agg #[.bool b, .slice A n c, .bool b', .slice A' n' c']) f) : IntM w (.agg #[.bool b, .slice A n c]) f.num ∧ IntM w (.agg #[.bool b', .slice A' n' c']) f.den := by
  obtain ⟨B, m, d, B', m', d', e, d1, d2⟩ := h
  simp at e
  obtain ⟨rfl, ⟨rfl, rfl, rfl⟩, rfl, rfl, rfl, rfl⟩ := e
  exact ⟨⟨_, rfl, d1⟩, _, rfl, d2⟩
theorem run_num (x y z u : Value) (w : World) : (Instr.field 47 (.agg #[x, y, z, u]) 0).run Tryz.prog w = .ok (.agg #[x, y]) w := by kernel_rfl
theorem boxF1 (w : World) (x1 x2 x3 x4 : Value) : ∃ W, w.alloc (.cells #[x1, x2, x3, x4] 47) = W ∧ Bk W w.heap.size 47 [x1, x2, x3, x4] ∧ Below w.heap.size w W :=
  ⟨_, rfl, Bk.new w _ [x1, x2, x3, x4], below_new w _⟩

set_option maxHeartbeats 1000000 in
theorem rcanon_own (v : Value) (a : RF) (w : World) (h : FracM w v a) (hs : a.Sh) :
    Calls Tryz.prog 74 #[v] w fun e w' => ∃ v', e = .returned v' ∧ FracO w.heap.size w' v' (canF a.q) ∧ Below w.heap.size w w' := by
  obtain ⟨A, n, c, A', n', c', rfl, _, _⟩ := id h
  obtain ⟨W, hW, hsz, hX, hR, hbe⟩ := boxF2 w (.bool a.num.neg) (.slice A n c) (.bool a.den.neg) (.slice A' n' c') (.bool false) (.slice none 0 0) (.bool false) (.slice none 0 0)
  obtain ⟨i1, i2⟩ := (h.below hbe).num
  obtain ⟨p1, p2, p3, p4⟩ := hX.four
  obtain ⟨hs1, hs2⟩ := hs
  go_enter Tryz.func74, Tryz.ntmps74
  go_wp2_with fail
  clear hW
  refine (rnew_own _ _ a.num a.den _ i1 i2 (by omega) (by omega)).mono ?_
  rintro e w1 ⟨v1, rfl, e1, hb1⟩
  obtain ⟨B, m, d, B', m', d', rfl, _, _⟩ := id e1.1
  have hR1 := hR.later hb1
  obtain ⟨c0, c1, c2, c3⟩ := hR1.four
  obtain ⟨f0, f1, f2, f3⟩ := hR1.fourF
  go_wp2
  refine ret_cell Tryz.results74 Tryz.underlying47 (by kernel_rfl) rfl (hR1.set4 _ _ _ _) rfl ?_
  exact fin_fracO hR1 (e1.mono hbe.size) (below_then hbe hb1 hbe.size) (by omega)

set_option maxHeartbeats 1000000 in
theorem rint_own (z : Int) (w : World) (h0 : -9223372036854775808 ≤ z) (h1 : z ≤ 9223372036854775807) :
    Calls Tryz.prog 25 #[.int .i64 z] w fun e w' => ∃ v', e = .returned v' ∧ FracO w.heap.size w' v' (canF (z : Rat)) ∧ Below w.heap.size w w' := by
  obtain ⟨W, hW, hR, hbe⟩ := boxF1 w (.bool false) (.slice none 0 0) (.bool false) (.slice none 0 0)
  have l1 : (digs (val (canI z).ds)).length ≤ 137438953472 := by rw [val_canI]; exact Nat.le_trans (digs_lt (k := 2) (by unfold B32; omega)) (by decide)
  have l2 : (digs (val (canI 1).ds)).length ≤ 137438953472 := by rw [val_canI]; exact Nat.le_trans (digs_lt (k := 2) (by unfold B32; omega)) (by decide)
  go_enter Tryz.func25, Tryz.ntmps25
  go_wp2_with fail
  clear hW
  refine (rfromInt64_any z _ h0 h1).mono ?_
  rintro e w1 ⟨v1, rfl, i1, hb1⟩
  go_wp2_with fail
  refine (rfromInt64_any 1 _ (by omega) (by omega)).mono ?_
  rintro e w2 ⟨v2, rfl, i2, hb2⟩
  go_wp2_with fail
  refine (rnew_own _ _ (canI z) (canI 1) _ (i1.below hb2) i2 l1 l2).mono ?_
  rw [canI_z, canI_z, divInt_one']
  rintro e w3 ⟨v3, rfl, e3, hb3⟩
  obtain ⟨B, m, d, B', m', d', rfl, _, _⟩ := id e3.1
  have hR1 := ((hR.later hb1).later hb2).later hb3
  have b1 := below_then hbe hb1 hbe.size
  have b2 := below_then b1 hb2 b1.size
  obtain ⟨c0, c1, c2, c3⟩ := hR1.four
  obtain ⟨f0, f1, f2, f3⟩ := hR1.fourF
  go_wp2
  refine ret_cell Tryz.results25 Tryz.underlying47 (by kernel_rfl) rfl (hR1.set4 _ _ _ _) rfl ?_
  exact fin_fracO hR1 (e3.mono b2.size) (below_then b2 hb3 b2.size) (by omega)

set_option maxRecDepth 100000 in
set_option maxHeartbeats 1000000 in
theorem rsignF_any (v : Value) (a : RF) (w : World) (h : FracM w v a) (hs : a.Sh) :
    Calls Tryz.prog 42 #[v] w fun e w' => e = .returned (.int .i64 (qs a.q)) ∧ Below w.heap.size w w' := by
  obtain ⟨A, n, c, A', n', c', rfl, _, _⟩ := id h
  obtain ⟨W, hW, hX, hbe⟩ := boxF1 w (.bool a.num.neg) (.slice A n c) (.bool a.den.neg) (.slice A' n' c')
  have h' := h.below hbe
  obtain ⟨p1, p2, p3, p4⟩ := hX.four
  have hz := hs.sz.1
  go_enter Tryz.func42, Tryz.ntmps42
  go_wp2_with fail
  clear hW
  refine (rcanon_own _ a _ h' hs).mono ?_
  rintro e w1 ⟨v1, rfl, e1, hb1⟩
  obtain ⟨B, m, d, B', m', d', rfl, _, _⟩ := id e1.1
  have hzn : sgn (canF a.q).num.z = qs a.q := by rw [show (canF a.q).num = canI a.q.num from rfl, canI_z]; rfl
  have hzl : (digs (val (canF a.q).num.ds)).length ≤ 549755813888 := by rw [show (canF a.q).num = canI a.q.num from rfl, val_canI]; omega
  have HZN := Lib.hid hzn
  clear hzn
  generalize canF a.q = P at *
  obtain ⟨i1, i2⟩ := e1.1.num
  have hf0 := fun (w : World) => run_num (.bool P.num.neg) (.slice B m d) (.bool P.den.neg) (.slice B' m' d') w
  go_wp2_with fail
  refine (rsign_any _ P.num _ i1 hzl).mono ?_
  rw [HZN.out]
  rintro e w2 ⟨rfl, hb2⟩
  go_wp2
  go_ret
  have b1 := below_then hbe hb1 hbe.size
  exact ⟨rfl, below_then b1 hb2 b1.size⟩

set_option maxHeartbeats 1000000 in
theorem rnegateF_own (v : Value) (a : RF) (w : World) (h : FracM w v a) (hs : a.Sh) :
    Calls Tryz.prog 34 #[v] w fun e w' => ∃ v', e = .returned v' ∧ FracO w.heap.size w' v' (canF (-a.q)) ∧ Below w.heap.size w w' := by
  obtain ⟨A, n, c, A', n', c', rfl, _, _⟩ := id h
  obtain ⟨W, hW, hsz, hX, hR, hbe⟩ := boxF2 w (.bool a.num.neg) (.slice A n c) (.bool a.den.neg) (.slice A' n' c') (.bool false) (.slice none 0 0) (.bool false) (.slice none 0 0)
  obtain ⟨i1, i2⟩ := (h.below hbe).num
  obtain ⟨hs1, hs2⟩ := hs
  have hn1 : w.heap.size ≠ w.heap.size + 1 := by omega
  go_enter Tryz.func34, Tryz.ntmps34
  go_wp2_with fail
  clear hW
  go_region_held3 (fun w' => w'.cell? ⟨w.heap.size, 0, none⟩ = some (.bool a.num.neg) ∧ w'.cell? ⟨w.heap.size, 1, none⟩ = some (.slice A n c) ∧ w'.cell? ⟨w.heap.size, 2, none⟩ = some (.bool a.den.neg) ∧ w'.cell? ⟨w.heap.size, 3, none⟩ = some (.slice A' n' c'))
    (first | with_reducible exact hX.drew.four | with_reducible exact (hX.drew.later hb6).four | with_reducible exact ((hX.drew.later hb6).later hb7).four | with_reducible exact (((hX.drew.later hb6).later hb7).far4 hn1 _ _ _ _).four)
    (first
      | (go_at_call 66; refine (rnegate_any _ a.num _ (i1.keep (Keep.drew _)) (by omega)).mono ?_; rintro e w6 ⟨v6, rfl, e6, hb6⟩)
      | (go_at_call 56; refine (rnew_own _ _ (canI (-a.num.z)) a.den _ e6 ((i2.keep (Keep.drew _)).below hb6) (by rw [val_canI, Int.natAbs_neg, z_natAbs]; omega) (by omega)).mono ?_; rw [canI_z, neg_raw]; rintro e w7 ⟨v7, rfl, e7, hb7⟩; obtain ⟨B, m, d, B', m', d', rfl, _, _⟩ := id e7.1; obtain ⟨c0, c1, c2, c3⟩ := ((hR.drew.later hb6).later hb7).four; obtain ⟨f0, f1, f2, f3⟩ := ((hR.drew.later hb6).later hb7).fourF))
  go_wp2
  refine ret_cell Tryz.results34 Tryz.underlying47 (by kernel_rfl) rfl (((hR.drew.later hb6).later hb7).set4 _ _ _ _) rfl ?_
  have b1 := below_then hbe.drew hb6 hbe.size
  exact fin_fracO ((hR.drew.later hb6).later hb7) (e7.mono b1.size) (below_then b1 hb7 b1.size) (by omega)

def CanF2 (p q : Rat) (w wx : World) (A A' B B' : Option Addr) (n c n' c' m d m' d' : Nat) : Prop :=
  Bk wx w.heap.size 47 [.bool (canF p).num.neg, .slice A n c, .bool (canF p).den.neg, .slice A' n' c'] ∧ Bk wx (w.heap.size + 1) 47 [.bool (canF q).num.neg, .slice B m d, .bool (canF q).den.neg, .slice B' m' d'] ∧ Bk wx (w.heap.size + 1 + 1) 47 [.bool false, .slice none 0 0, .bool false, .slice none 0 0] ∧
  FracM wx (.agg #[.bool (canF p).num.neg, .slice A n c, .bool (canF p).den.neg, .slice A' n' c']) (canF p) ∧ FracM wx (.agg #[.bool (canF q).num.neg, .slice B m d, .bool (canF q).den.neg, .slice B' m' d']) (canF q) ∧ Below w.heap.size w wx
theorem fin_two {w w4 : World} {g g' h : Nat} {x y z u x' y' z' u' : Value} {cs : List Value} {b1 s1 b2 s2 b3 s3 b4 s4 : Value} {p q : RF} (hX : Bk w4 g 47 [x, y, z, u]) (hY : Bk w4 g' 47 [x', y', z', u']) (hR : Bk w4 h 47 cs) (hne : g ≠ g') (hr1 : h ≠ g) (hr2 : h ≠ g') (dq : FracM w4 (.agg #[b1, s1, b2, s2]) p) (dr : FracM w4 (.agg #[b3, s3, b4, s4]) q) {m : Nat} (hbe : Below m w w4) (hg : m ≤ g) (hg' : m ≤ g') :
    ∀ W, W = ((((((((w4.setCell ⟨g, 0, none⟩ b1).setCell ⟨g, 1, none⟩ s1).setCell ⟨g, 2, none⟩ b2).setCell ⟨g, 3, none⟩ s2).setCell ⟨g', 0, none⟩ b3).setCell ⟨g', 1, none⟩ s3).setCell ⟨g', 2, none⟩ b4).setCell ⟨g', 3, none⟩ s4) →
    Bk W g 47 [b1, s1, b2, s2] ∧ Bk W g' 47 [b3, s3, b4, s4] ∧ Bk W h 47 cs ∧ FracM W (.agg #[b1, s1, b2, s2]) p ∧ FracM W (.agg #[b3, s3, b4, s4]) q ∧ Below m w W := by
  rintro W rfl
  have h1 := hX.set4 b1 s1 b2 s2
  have h2 := hY.far4 (Ne.symm hne) b1 s1 b2 s2
  have k1 := hX.keep4 (by decide) b1 s1 b2 s2
  have k2 := h2.keep4 (by decide) b3 s3 b4 s4
  exact ⟨h1.far4 hne _ _ _ _, h2.set4 _ _ _ _, (hR.far4 hr1 _ _ _ _).far4 hr2 _ _ _ _, dq.keep (k1.trans k2), dr.keep (k1.trans k2), below_set4 (below_set4 hbe hg _ _ _ _) hg' _ _ _ _⟩
theorem szI {k : Nat} {q : Rat} (h : Sz k q) : (canF q).num.ds.length ≤ k ∧ (canF q).den.ds.length ≤ k := h
theorem szV {k : Nat} {z : Int} (h : (digs z.natAbs).length ≤ k) : (digs (val (canI z).ds)).length ≤ k := by rw [val_canI]; exact h

theorem zN (q : Rat) : (canF q).num.z = q.num := canI_z _
theorem zD (q : Rat) : (canF q).den.z = q.den := canI_z _
end Go.Proofs.YtpanffbgihhjnaaGreat
