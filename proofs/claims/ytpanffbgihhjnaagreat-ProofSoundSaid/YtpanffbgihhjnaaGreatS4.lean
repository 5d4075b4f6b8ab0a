/- Contracts and plain facts that the claim is built on, joined out of smaller texts. -/
import Derived.Test.YtpanffbgihhjnaaGreatS3
set_option linter.unusedVariables false
set_option linter.unusedSimpArgs false
/- Walks: package pairingdata: LP. -/
namespace Go.Proofs.YtpanffbgihhjnaaGreat
open Go.RowKit Pl
attribute [local go_sem ↓] Go.wp_at_zero Go.wp_at_succ

theorem Bk.threeF {w : World} {g : Nat} {t : TypeId} {cs : List Value} (h : Bk w g t cs) : w.frozen? ⟨g, 0, none⟩ = false ∧ w.frozen? ⟨g, 1, none⟩ = false ∧ w.frozen? ⟨g, 2, none⟩ = false := ⟨h.frozen 0, h.frozen 1, h.frozen 2⟩
theorem FrsO.own_lt {base : Nat} {w : World} {v : Value} {fs : List RF} (h : FrsO base w v fs) : ∀ g, v.ownBlock = some g → g < w.heap.size := by
  obtain ⟨cs, h1, h2⟩ := h
  intro g hg
  rcases h1.2 with ⟨rfl, _⟩ | ⟨g', cap, cur, rfl, _, hgg, _⟩
  · simp [Value.ownBlock] at hg
  · simp [Value.ownBlock] at hg
    subst hg
    exact lt_heap hgg
theorem FrsO.slice {base : Nat} {w : World} {v : Value} {fs : List RF} (h : FrsO base w v fs) : ∃ A c, v = .slice A fs.length c := by
  obtain ⟨A, c, e, _, _⟩ := h.frs.shape; exact ⟨A, c, e⟩
theorem VecsO.slice {base : Nat} {w : World} {v : Value} {fs : List (List En)} (h : VecsO base w v fs) : ∃ A c, v = .slice A fs.length c := by
  obtain ⟨A, c, e, _, _⟩ := h.vecs.shape; exact ⟨A, c, e⟩
theorem FrsO.sliceN {base : Nat} {w : World} {v : Value} {fs : List RF} (h : FrsO base w v fs) : ∃ A n c, v = .slice A n c := by
  obtain ⟨A, c, e⟩ := h.slice; exact ⟨A, _, c, e⟩
theorem VecsO.sliceN {base : Nat} {w : World} {v : Value} {fs : List (List En)} (h : VecsO base w v fs) : ∃ A n c, v = .slice A n c := by
  obtain ⟨A, c, e⟩ := h.slice; exact ⟨A, _, c, e⟩
def LpO (base : Nat) (w : World) (v : Value) (p : LPd) : Prop :=
  ∃ s0 s1 s2 b1, v = .agg #[s0, s1, s2] ∧ FrsO base w s0 p.cost ∧ VecsM w s1 p.cols ∧ FrsO b1 w s2 p.right ∧ base ≤ b1 ∧ ∀ g, s0.ownBlock = some g → g < b1
theorem LpO.lp {base : Nat} {w : World} {v : Value} {p : LPd} (h : LpO base w v p) : LpM w v p := by
  obtain ⟨s0, s1, s2, b1, rfl, h0, h1, h2, _, _⟩ := h
  obtain ⟨A, c, rfl⟩ := h0.slice
  obtain ⟨A', c', rfl, _, _⟩ := h1.shape
  obtain ⟨A'', c'', rfl⟩ := h2.slice
  exact ⟨_, _, _, _, _, _, _, _, _, rfl, h0.frs, h1, h2.frs⟩
theorem LpO.below {base : Nat} {w w' : World} {v : Value} {p : LPd} (h : LpO base w v p) (hb : Below w.heap.size w w') : LpO base w' v p := by
  obtain ⟨s0, s1, s2, b1, rfl, h0, h1, h2, h3, h4⟩ := h
  exact ⟨s0, s1, s2, b1, rfl, h0.below hb, h1.below hb, h2.below hb, h3, h4⟩
namespace Pl
theorem RsL.snoc {k : Nat} {fs : List RF} (h : RsL k fs) {f : RF} (hf : f.Rs k) : RsL k (fs ++ [f]) := fun i g hg => by
  rcases Nat.lt_or_ge i fs.length with hi | hi
  · rw [List.getElem?_append_left hi] at hg; exact h i g hg
  · rw [List.getElem?_append_right hi] at hg
    have : i - fs.length = 0 := by
      rcases Nat.eq_zero_or_pos (i - fs.length) with e | e
      · exact e
      · rw [List.getElem?_eq_none (by simp; omega)] at hg; cases hg
    rw [this] at hg; simp at hg; subst hg; exact hf
theorem RsL.nil (k : Nat) : RsL k [] := fun i f h => by simp at h
theorem RsL.mono {j k : Nat} {fs : List RF} (h : RsL j fs) (hk : j ≤ k) : RsL k fs := fun i f hf => (h i f hf).mono hk
theorem cols_snoc {m : Nat} {cols : List (List En)} (h : ∀ (j : Nat) (c : List En), cols[j]? = some c → ColOK m c) {es : List En} (he : ColOK m es) : ∀ (j : Nat) (c : List En), (cols ++ [es])[j]? = some c → ColOK m c := fun j c hc => by
  rcases Nat.lt_or_ge j cols.length with hi | hi
  · rw [List.getElem?_append_left hi] at hc; exact h j c hc
  · rw [List.getElem?_append_right hi] at hc
    have : j - cols.length = 0 := by
      rcases Nat.eq_zero_or_pos (j - cols.length) with e | e
      · exact e
      · rw [List.getElem?_eq_none (by simp; omega)] at hc; cases hc
    rw [this] at hc; simp at hc; subst hc; exact he
def LpOK (p : LPd) : Prop := 1 ≤ p.right.length ∧ p.right.length ≤ 3 ∧ p.cols.length ≤ 5 ∧ p.cost.length = p.cols.length ∧ RsL 1 p.cost ∧ ∀ (j : Nat) (c : List En), p.cols[j]? = some c → ColOK p.right.length c
theorem colsErr_of {n : Int} {cs : List (List En)} (h : ∀ (j : Nat) (c : List En), cs[j]? = some c → vecErr c n = 0) : colsErr n cs = 0 := by
  induction cs with
  | nil => rfl
  | cons c cs ih =>
    rw [colsErr, if_pos (h 0 c rfl)]
    exact ih fun j d hd => h (j + 1) d (by simpa using hd)
theorem LpOK.err {p : LPd} (h : LpOK p) : lpErr p = 0 := by
  obtain ⟨h1, h2, h3, h4, h5, h6⟩ := h
  unfold lpErr
  rw [if_neg (by omega), if_neg (by omega)]
  exact colsErr_of fun j c hc => (h6 j c hc).err (by omega)
theorem LpOK.ok {p : LPd} (h : LpOK p) {K : Nat} (hK : 1 ≤ K) (hr : RsL K p.right) : p.Ok K := by
  obtain ⟨h1, h2, h3, h4, h5, h6⟩ := h
  refine ⟨h5.mono hK, hr, fun j c hc => ⟨fun k e he => ?_, fun k e he => ((h6 j c hc).2.2 k e he).2.2.2.mono hK⟩⟩
  have := (h6 j c hc).2.2 k e he
  omega
end Pl
theorem at_int (v : Value) (zs : List Int) (i : Int) (w : World) (h : IntsM w v zs) (h0 : 0 ≤ i) (hi : i ≤ 1099511627776) :
    Calls Tryz.prog 18 #[v, .int .i64 i] w fun e w' => ∃ z : Int, e = .returned (.int .i64 z) ∧ 0 ≤ z ∧ z ≤ 65535 + i ∧ Below w.heap.size w w' := by
  obtain ⟨k, rfl⟩ := Int.eq_ofNat_of_zero_le h0
  exact at_any v zs k w h (by omega)
theorem column_int (v : Value) (zs : List Int) (t : Int) (m : Nat) (w : World) (h : IntsM w v zs) (h0 : 0 ≤ t) (ht : t ≤ 1000000) (hm : m ≤ 1000) :
    Calls Tryz.prog 26 #[v, .int .i64 t, .int .i64 (m : Int)] w (ColPost m w) := by
  obtain ⟨k, rfl⟩ := Int.eq_ofNat_of_zero_le h0
  exact column_own v zs k m w h (by omega) hm
def LpPost (w : World) (e : Ending) (w' : World) : Prop := ∃ v' p, e = .returned v' ∧ LpO w.heap.size w' v' p ∧ LpOK p ∧ RsL 2 p.right ∧ Below w.heap.size w w'

set_option maxRecDepth 100000 in
set_option maxHeartbeats 8000000 in
theorem lp_own (v : Value) (zs : List Int) (w : World) (h : IntsM w v zs) :
    Calls Tryz.prog 7 #[v] w (LpPost w) := by
  obtain ⟨a, cap, rfl, hc1, hc2⟩ := h.shape
  generalize hn : zs.length = n at *
  clear hn
  obtain ⟨W, hW, hR, hbe0⟩ := box_lp w (.slice none 0 0) (.slice none 0 0) (.slice none 0 0)
  obtain ⟨W1, hW1, hX, hbe1⟩ := box_lp W (.slice none 0 0) (.slice none 0 0) (.slice none 0 0)
  have hR := hR.later hbe1
  have hbe := below_then hbe0 hbe1 hbe0.size
  have hsz : W.heap.size = w.heap.size + 1 := by rw [← hW]; simp
  rw [hsz] at hX
  clear hbe0 hbe1
  go_enter Tryz.func7, Tryz.ntmps7
  go_wp2_with fail
  clear hW hW1 hsz
  refine (at_any _ zs 0 _ (h.below hbe) (by omega)).mono ?_
  rintro _ w1 ⟨z, rfl, z0, z1, hb1⟩
  have hX1 := hX.later hb1
  have hR1 := hR.later hb1
  have hbe1 := below_then hbe hb1 hbe.size
  clear hX hR hbe hb1
  go_wp2_with fail
  refine (at_any _ zs 1 _ (h.below hbe1) (by omega)).mono ?_
  rintro _ w2 ⟨y, rfl, y0, y1, hb2⟩
  have hX2 := hX1.later hb2
  have hR2 := hR1.later hb2
  have hbe2 := below_then hbe1 hb2 hbe1.size
  obtain ⟨m, hm⟩ : ∃ m : Nat, 1 + z % 3 = (m : Int) := ⟨(1 + z % 3).toNat, by omega⟩
  obtain ⟨N, hN1, hN2⟩ : ∃ N : Nat, y % 6 ≤ (N : Int) ∧ (N : Int) ≤ y % 6 := ⟨(y % 6).toNat, by omega, by omega⟩
  have m1 : 1 ≤ m := by omega
  have m2 : m ≤ 3 := by omega
  have n1 : N ≤ 5 := by omega
  clear hX1 hR1 hbe1 hb2
  go_wp2
  clear hm z0 z1
  go_loopw [6] (fun i wr => ∃ (k : Nat) (s0 s1 : Value) (cs : List RF) (cols : List (List En)), k ≤ N ∧ i = .int .i64 k ∧ Below w.heap.size w wr ∧ Bk wr w.heap.size 26 [.slice none 0 0, .slice none 0 0, .slice none 0 0] ∧ Bk wr (w.heap.size + 1) 26 [s0, s1, .slice none 0 0] ∧ FrsO w.heap.size wr s0 cs ∧ VecsO w.heap.size wr s1 cols ∧ cs.length = k ∧ cols.length = k ∧ RsL 1 cs ∧ ∀ (j : Nat) (c : List En), cols[j]? = some c → ColOK m c) (fun i _ => N - (intOf i).toNat)
  case atStart => exact ⟨0, _, _, [], [], by omega, rfl, hbe2, hR2, hX2, FrsO.nil _ _, VecsO.nil _ _, rfl, rfl, RsL.nil _, fun j c h => by simp at h⟩
  case round =>
    clear hbe2 hR2 hX2
    obtain ⟨k, s0, s1, cs, cols, hk, rfl, hbe, hR, hX, hO, hV, hl1, hl2, hrs, hco⟩ := hrel
    have HL1 := Lib.hid hl1
    have HL2 := Lib.hid hl2
    have HR1 := Lib.hid hrs
    have HCO1 := Lib.hid hco
    have hlen : cs.length + 1 ≤ 1099511627776 := by omega
    have hlen2 : cols.length + 1 ≤ 1099511627776 := by omega
    clear hl1 hl2 hrs hco
    rcases Nat.lt_or_ge k N with hkl | hkl
    · obtain ⟨A0, c0, rfl⟩ := hO.slice
      obtain ⟨A1, c1, rfl⟩ := hV.slice
      obtain ⟨x0, x1, x2⟩ := hX.three
      go_wp2_with fail
      have C0 := stab x0
      have hS0 := below_drew' wr
      clear x0 x1 x2
      generalize hs0 : Value.slice A0 cs.length c0 = s0 at *
      generalize hs1 : Value.slice A1 cols.length c1 = s1 at *
      clear hs0 hs1
      refine region_seq 10 [0, 1, 2, 3, 4, 5, 6, 7, 8, 9, 10, 11, 12] (by kernel_rfl) (by kernel_rfl) ?_
      repeat ((first | (refine seq_takeP (v := ?_) rfl rfl rfl ?_ ?_; rotate_left; (· (intro _ hSw; go_simp; (try go_bits); (try with_reducible rfl)))) | (refine seq_take (v := ?_) rfl rfl rfl ?_ ?_; rotate_left; (· (intro _ hSw; go_simp; (try go_bits); (try with_reducible rfl)))) | refine seq_skip rfl rfl rfl ?_); (try simp only [Act.put, pu1, pu2, pu3, pu4, pu5, pu6]))
      refine seq_step rfl rfl (fun KR hKR => ?_)
      go_simp
      with_reducible refine (at_int _ zs (2 + (k : Int)) _ ((h.below hbe).below hS0) (by omega) (by omega)).mono ?_
      rintro _ w1 ⟨z, rfl, z0, z1, hb1⟩
      have hS1 := below_then hS0 hb1 hS0.size
      refine hKR.out _ _ (Or.inr hS1) ?_
      clear hKR KR
      (try simp only [Act.put, pu1, pu2, pu3, pu4, pu5, pu6])
      repeat ((first | (refine seq_takeP (v := ?_) rfl rfl rfl ?_ ?_; rotate_left; (· (intro _ hSw; go_simp; (try go_bits); (try with_reducible rfl)))) | (refine seq_take (v := ?_) rfl rfl rfl ?_ ?_; rotate_left; (· (intro _ hSw; go_simp; (try go_bits); (try with_reducible rfl)))) | refine seq_skip rfl rfl rfl ?_); (try simp only [Act.put, pu1, pu2, pu3, pu4, pu5, pu6]))
      refine seq_step rfl rfl (fun KR hKR => ?_)
      go_simp
      with_reducible refine (rint_own (z % 10 - 4) _ (by omega) (by omega)).mono ?_
      rintro _ w2 ⟨v2, rfl, e2, hb2⟩
      have hS2 := below_then hS1 hb2 hS1.size
      obtain ⟨B, l, d, B', l', d', rfl, _, _⟩ := id e2.frac
      have HF := Lib.hid e2.frac
      have HRS := Lib.hid (Sz_int (z := z % 10 - 4) (by omega) (by omega)).rs
      clear e2
      generalize canF ((z % 10 - 4 : Int) : Rat) = Q at *
      refine hKR.out _ _ (Or.inr hS2) ?_
      clear hKR KR
      (try simp only [Act.put, pu1, pu2, pu3, pu4, pu5, pu6])
      repeat ((first | (refine seq_takeP (v := ?_) rfl rfl rfl ?_ ?_; rotate_left; (· (intro _ hSw; go_simp; (try go_bits); (try with_reducible rfl)))) | (refine seq_take (v := ?_) rfl rfl rfl ?_ ?_; rotate_left; (· (intro _ hSw; go_simp; (try go_bits); (try with_reducible rfl)))) | refine seq_skip rfl rfl rfl ?_); (try simp only [Act.put, pu1, pu2, pu3, pu4, pu5, pu6]))
      refine seq_step rfl rfl (fun KR hKR => ?_)
      go_simp
      refine hKR.out _ _ (Or.inr (below_then hS2 (below_new _ _) hS2.size)) ?_
      clear hKR KR
      (try simp only [Act.put, pu1, pu2, pu3, pu4, pu5, pu6])
      have HO := Lib.hid (hO.below hS2)
      have hbs : w.heap.size ≤ w2.heap.size := by have := hbe.size; have := hS2.size; omega
      refine seq_append_frac rfl rfl rfl (by decide) (.tmp 21) (.tmp 29) rfl w2 w.heap.size s0 cs rfl HO.out _ _ B B' l d l' d' Q HF.out rfl hlen hbs ?_
      intro v' w4 hown4 hk4 hb4
      obtain ⟨A4, n4, c4, rfl⟩ := hown4.sliceN
      (try simp only [Act.put, pu1, pu2, pu3, pu4, pu5, pu6])
      have hX4 := hk4.bk (hX.later hS2) (by decide)
      have hR4 := hk4.bk (hR.later hS2) (by decide)
      have hV4 := (hV.below hS2).but hk4 (by decide) (by decide) (by decide)
      have hbe4 := (below_then hbe hS2 hbe.size).trans hb4
      obtain ⟨c0, c1, c2⟩ := hX4.three
      obtain ⟨f0, f1, f2⟩ := hX4.threeF
      refine seq_step rfl rfl (fun KR hKR => ?_)
      go_simp
      refine hKR.out _ _ (Or.inl (by decide)) ?_
      clear hKR KR
      (try simp only [Act.put, pu1, pu2, pu3, pu4, pu5, pu6])
      refine seq_step rfl rfl (fun KR hKR => ?_)
      go_simp
      refine hKR.out _ _ (Or.inl (by decide)) ?_
      clear hKR KR
      (try simp only [Act.put, pu1, pu2, pu3, pu4, pu5, pu6])
      refine seq_done ?_
      generalize hv' : Value.slice A4 n4 c4 = v' at *
      clear hv'
      have hX5 := hX4.set_ 0 v'
      have hR5 := hR4.far (p := ⟨w.heap.size + 1, 0, none⟩) (by simp) v'
      have hk5 := KeepBut.setCell hX4 0 v'
      have hO5 := hown4.but hk5 (by decide) (by decide)
      have hV5 := hV4.but hk5 (by decide) (by decide) (by decide)
      have hbe5 := hbe4.setCell (p := ⟨w.heap.size + 1, 0, none⟩) (by simp) v'
      generalize w4.setCell ⟨w.heap.size + 1, 0, none⟩ v' = W5 at *
      clear hX4 hR4 hk5 hown4 hV4 hbe4 hk4 hb4 c0 c1 c2 f0 f1 f2 hX hR hO hV hS0 hS1 hS2 hb1 hb2 HO HF C0 hbs hbe
      have HRS2 := Lib.hid (HR1.out.snoc HRS.out)
      simp only [List.set_cons_zero] at hX5
      obtain ⟨x0, x1, x2⟩ := hX5.three
      go_wp2_with fail
      have C1 := stab x1
      have hS0 := below_drew' W5
      clear x0 x1 x2
      refine region_seq 9 [0, 1, 2, 3, 4, 5, 6, 7, 8, 9, 10, 11] (by kernel_rfl) (by kernel_rfl) ?_
      repeat ((first | (refine seq_takeP (v := ?_) rfl rfl rfl ?_ ?_; rotate_left; (· (intro _ hSw; go_simp; (try go_bits); (try with_reducible rfl)))) | (refine seq_take (v := ?_) rfl rfl rfl ?_ ?_; rotate_left; (· (intro _ hSw; go_simp; (try go_bits); (try with_reducible rfl)))) | refine seq_skip rfl rfl rfl ?_); (try simp only [Act.put, pu1, pu2, pu3, pu4, pu5, pu6]))
      refine seq_step rfl rfl (fun KR hKR => ?_)
      go_simp
      with_reducible refine (column_int _ zs (8 + 3 * (k : Int)) m _ ((h.below hbe5).below hS0) (by omega) (by omega) (by omega)).mono ?_
      rintro _ w1 ⟨v1, es, rfl, e1, hcol, hb1⟩
      have hS1 := below_then hS0 hb1 hS0.size
      obtain ⟨Ae, ce, rfl, _, _⟩ := e1.vec.shape
      have HE := Lib.hid e1.vec
      have HCO := Lib.hid hcol
      clear e1 hcol
      refine hKR.out _ _ (Or.inr hS1) ?_
      clear hKR KR
      (try simp only [Act.put, pu1, pu2, pu3, pu4, pu5, pu6])
      repeat ((first | (refine seq_takeP (v := ?_) rfl rfl rfl ?_ ?_; rotate_left; (· (intro _ hSw; go_simp; (try go_bits); (try with_reducible rfl)))) | (refine seq_take (v := ?_) rfl rfl rfl ?_ ?_; rotate_left; (· (intro _ hSw; go_simp; (try go_bits); (try with_reducible rfl)))) | refine seq_skip rfl rfl rfl ?_); (try simp only [Act.put, pu1, pu2, pu3, pu4, pu5, pu6]))
      refine seq_step rfl rfl (fun KR hKR => ?_)
      go_simp
      refine hKR.out _ _ (Or.inr (below_then hS1 (below_new _ _) hS1.size)) ?_
      clear hKR KR
      (try simp only [Act.put, pu1, pu2, pu3, pu4, pu5, pu6])
      have HO := Lib.hid (hV5.below hS1)
      have hbs : w.heap.size ≤ w1.heap.size := by have := hbe5.size; have := hS1.size; omega
      refine seq_append_vec rfl rfl rfl (by decide) (.tmp 33) (.tmp 40) rfl w1 w.heap.size s1 cols rfl HO.out Ae es.length ce es HE.out rfl hlen2 hbs ?_
      intro v'' w6 hown6 hk6 hb6
      obtain ⟨A6, n6, c6, rfl⟩ := hown6.sliceN
      (try simp only [Act.put, pu1, pu2, pu3, pu4, pu5, pu6])
      have hX6 := hk6.bk (hX5.later hS1) (by decide)
      have hR6 := hk6.bk (hR5.later hS1) (by decide)
      have hO6 := (hO5.below hS1).but hk6 (by decide) (by decide)
      have hbe6 := (below_then hbe5 hS1 hbe5.size).trans hb6
      obtain ⟨c0, c1, c2⟩ := hX6.three
      obtain ⟨f0, f1, f2⟩ := hX6.threeF
      refine seq_step rfl rfl (fun KR hKR => ?_)
      go_simp
      refine hKR.out _ _ (Or.inl (by decide)) ?_
      clear hKR KR
      (try simp only [Act.put, pu1, pu2, pu3, pu4, pu5, pu6])
      refine seq_step rfl rfl (fun KR hKR => ?_)
      go_simp
      refine hKR.out _ _ (Or.inl (by decide)) ?_
      clear hKR KR
      (try simp only [Act.put, pu1, pu2, pu3, pu4, pu5, pu6])
      refine seq_done ?_
      generalize hv'' : Value.slice A6 n6 c6 = v'' at *
      clear hv''
      have hX7 := hX6.set_ 1 v''
      have hR7 := hR6.far (p := ⟨w.heap.size + 1, 1, none⟩) (by simp) v''
      have hk7 := KeepBut.setCell hX6 1 v''
      have hO7 := hO6.but hk7 (by decide) (by decide)
      have hV7 := hown6.but hk7 (by decide) (by decide) (by decide)
      have hbe7 := hbe6.setCell (p := ⟨w.heap.size + 1, 1, none⟩) (by simp) v''
      generalize w6.setCell ⟨w.heap.size + 1, 1, none⟩ v'' = W7 at *
      clear hX6 hR6 hk7 hown6 hO6 hbe6 hk6 hb6 c0 c1 c2 f0 f1 f2 hX5 hR5 hO5 hV5 hS0 hS1 hb1 HO HE C1 hbs hbe5
      simp only [List.set_cons_zero, List.set_cons_succ] at hX7
      go_wp2
      go_roundw
      case rel => exact ⟨k + 1, v', v'', cs ++ [Q], cols ++ [es], by omega, by go_num, hbe7, hR7, hX7, hO7, hV7, by rw [List.length_append, HL1.out]; rfl, by rw [List.length_append, HL2.out]; rfl, HRS2.out, cols_snoc HCO1.out HCO.out⟩
      case measure => simp [intOf]; omega
    · obtain rfl : k = N := by omega
      have hblk := hO.own_lt
      have HBLK := Lib.hid hblk
      clear hblk
      go_wp2
      generalize hw9 : wr = w9 at *
      clear hw9
      have hK9 := KeepBut.refl 26 w9
      go_loopw [7] (fun i wr => ∃ (k : Nat) (s2 : Value) (rs : List RF), k ≤ m ∧ i = .int .i64 k ∧ Below w.heap.size w wr ∧ KeepBut 26 w9 wr ∧ w9.heap.size ≤ wr.heap.size ∧ Bk wr w.heap.size 26 [.slice none 0 0, .slice none 0 0, .slice none 0 0] ∧ Bk wr (w.heap.size + 1) 26 [s0, s1, s2] ∧ FrsO w9.heap.size wr s2 rs ∧ rs.length = k ∧ RsL 2 rs) (fun i _ => m - (intOf i).toNat)
      case atStart => exact ⟨0, _, [], by omega, rfl, hbe, hK9, Nat.le_refl _, hR, hX, FrsO.nil _ _, rfl, RsL.nil _⟩
      case round =>
        have h90 := hbe.size
        have HO9 := Lib.hid hO
        have HV9 := Lib.hid hV
        clear hbe hR hX hO hV hK9
        obtain ⟨i, s2, rs, hi, rfl, hbe, hK, h9, hR, hX, hO, hl, hrs⟩ := hrel
        have HL := Lib.hid hl
        have HRR := Lib.hid hrs
        have hlen : rs.length + 1 ≤ 1099511627776 := by omega
        clear hl hrs
        rcases Nat.lt_or_ge i m with hil | hil
        · obtain ⟨x0, x1, x2⟩ := hX.three
          obtain ⟨A2, c2, rfl⟩ := hO.slice
          go_wp2_with fail
          have C2 := stab x2
          have hS0 := below_drew' wr
          clear x0 x1 x2
          generalize hs2 : Value.slice A2 rs.length c2 = s2 at *
          clear hs2
          refine region_seq 8 [0, 1, 2, 3, 4, 5, 6, 7, 8, 9, 10] (by kernel_rfl) (by kernel_rfl) ?_
          repeat ((first | (refine seq_takeP (v := ?_) rfl rfl rfl ?_ ?_; rotate_left; (· (intro _ hSw; go_simp; (try go_bits); (try with_reducible rfl)))) | (refine seq_take (v := ?_) rfl rfl rfl ?_ ?_; rotate_left; (· (intro _ hSw; go_simp; (try go_bits); (try with_reducible rfl)))) | refine seq_skip rfl rfl rfl ?_); (try simp only [Act.put, pu1, pu2, pu3, pu4, pu5, pu6]))
          refine seq_step rfl rfl (fun KR hKR => ?_)
          go_simp
          with_reducible refine (at_int _ zs (30 + (i : Int)) _ ((h.below hbe).below hS0) (by omega) (by omega)).mono ?_
          rintro _ w1 ⟨z, rfl, z0, z1, hb1⟩
          have hS1 := below_then hS0 hb1 hS0.size
          refine hKR.out _ _ (Or.inr hS1) ?_
          clear hKR KR
          (try simp only [Act.put, pu1, pu2, pu3, pu4, pu5, pu6])
          repeat ((first | (refine seq_takeP (v := ?_) rfl rfl rfl ?_ ?_; rotate_left; (· (intro _ hSw; go_simp; (try go_bits); (try with_reducible rfl)))) | (refine seq_take (v := ?_) rfl rfl rfl ?_ ?_; rotate_left; (· (intro _ hSw; go_simp; (try go_bits); (try with_reducible rfl)))) | refine seq_skip rfl rfl rfl ?_); (try simp only [Act.put, pu1, pu2, pu3, pu4, pu5, pu6]))
          refine seq_step rfl rfl (fun KR hKR => ?_)
          go_simp
          with_reducible refine (frac_own z _).mono ?_
          rintro _ w2 ⟨v2, q, rfl, e2, sq, hb2⟩
          have hS2 := below_then hS1 hb2 hS1.size
          obtain ⟨B, l, d, B', l', d', rfl, _, _⟩ := id e2.frac
          have HF := Lib.hid e2.frac
          have HRS := Lib.hid sq.rs
          clear e2 sq
          generalize canF q = Q at *
          refine hKR.out _ _ (Or.inr hS2) ?_
          clear hKR KR
          (try simp only [Act.put, pu1, pu2, pu3, pu4, pu5, pu6])
          repeat ((first | (refine seq_takeP (v := ?_) rfl rfl rfl ?_ ?_; rotate_left; (· (intro _ hSw; go_simp; (try go_bits); (try with_reducible rfl)))) | (refine seq_take (v := ?_) rfl rfl rfl ?_ ?_; rotate_left; (· (intro _ hSw; go_simp; (try go_bits); (try with_reducible rfl)))) | refine seq_skip rfl rfl rfl ?_); (try simp only [Act.put, pu1, pu2, pu3, pu4, pu5, pu6]))
          refine seq_step rfl rfl (fun KR hKR => ?_)
          go_simp
          refine hKR.out _ _ (Or.inr (below_then hS2 (below_new _ _) hS2.size)) ?_
          clear hKR KR
          (try simp only [Act.put, pu1, pu2, pu3, pu4, pu5, pu6])
          have HO := Lib.hid (hO.below hS2)
          have hbs : w9.heap.size ≤ w2.heap.size := by have := hS2.size; omega
          refine seq_append_frac rfl rfl rfl (by decide) (.tmp 49) (.tmp 55) rfl w2 w9.heap.size s2 rs rfl HO.out _ _ B B' l d l' d' Q HF.out rfl hlen hbs ?_
          intro v' w4 hown4 hk4 hb4
          obtain ⟨A4, n4, c4, rfl⟩ := hown4.sliceN
          (try simp only [Act.put, pu1, pu2, pu3, pu4, pu5, pu6])
          have hX4 := hk4.bk (hX.later hS2) (by decide)
          have hR4 := hk4.bk (hR.later hS2) (by decide)
          have hK4 := (hK.then (hS2.mono h9)).then hb4
          have hbe4 := (below_then hbe hS2 hbe.size).trans (hb4.mono h90)
          obtain ⟨c0, c1, c2⟩ := hX4.three
          obtain ⟨f0, f1, f2⟩ := hX4.threeF
          refine seq_step rfl rfl (fun KR hKR => ?_)
          go_simp
          refine hKR.out _ _ (Or.inl (by decide)) ?_
          clear hKR KR
          (try simp only [Act.put, pu1, pu2, pu3, pu4, pu5, pu6])
          refine seq_step rfl rfl (fun KR hKR => ?_)
          go_simp
          refine hKR.out _ _ (Or.inl (by decide)) ?_
          clear hKR KR
          (try simp only [Act.put, pu1, pu2, pu3, pu4, pu5, pu6])
          refine seq_done ?_
          generalize hv' : Value.slice A4 n4 c4 = v' at *
          clear hv'
          have hX5 := hX4.set_ 2 v'
          have hR5 := hR4.far (p := ⟨w.heap.size + 1, 2, none⟩) (by simp) v'
          have hk5 := KeepBut.setCell hX4 2 v'
          have hO5 := hown4.but hk5 (by decide) (by decide)
          have hK5 := hK4.trans hk5
          have hbe5 := hbe4.setCell (p := ⟨w.heap.size + 1, 2, none⟩) (by simp) v'
          have h95 : w9.heap.size ≤ (w4.setCell ⟨w.heap.size + 1, 2, none⟩ v').heap.size := by
            have := hb4.size; simp; omega
          generalize w4.setCell ⟨w.heap.size + 1, 2, none⟩ v' = W5 at *
          clear hX4 hR4 hk5 hown4 hbe4 hk4 hb4 c0 c1 c2 f0 f1 f2 hX hR hO hS0 hS1 hS2 hb1 hb2 HO HF C2 hbs hbe hK hK4 h9
          simp only [List.set_cons_zero, List.set_cons_succ] at hX5
          go_wp2
          go_roundw
          case rel => exact ⟨i + 1, v', rs ++ [Q], by omega, by go_num, hbe5, hK5, h95, hR5, hX5, hO5, by rw [List.length_append, HL.out]; rfl, HRR.out.snoc HRS.out⟩
          case measure => simp [intOf]; omega
        · obtain rfl : i = m := by omega
          have hO9 := HO9.out.but hK (by decide) (by decide)
          have hV9 := HV9.out.but hK (by decide) (by decide) (by decide)
          obtain ⟨x0, x1, x2⟩ := hX.three
          obtain ⟨c0, c1, c2⟩ := hR.three
          obtain ⟨f0, f1, f2⟩ := hR.threeF
          obtain ⟨A0, d0, rfl⟩ := hO9.slice
          obtain ⟨A1, d1, rfl⟩ := hV9.slice
          obtain ⟨A2, d2, rfl⟩ := hO.slice
          go_wp2
          generalize hs0 : Value.slice A0 cs.length d0 = s0 at *
          generalize hs1 : Value.slice A1 cols.length d1 = s1 at *
          generalize hs2 : Value.slice A2 rs.length d2 = s2 at *
          have hR5 := ((hR.set_ 0 s0).set_ 1 s1).set_ 2 s2
          refine ret_cell Tryz.results7 Tryz.underlying26 (by kernel_rfl) rfl hR5 rfl ?_
          have k1 := KeepBut.setCell hR 0 s0
          have k2 := KeepBut.setCell (hR.set_ 0 s0) 1 s1
          have k3 := KeepBut.setCell ((hR.set_ 0 s0).set_ 1 s1) 2 s2
          have k4 := (k1.trans k2).trans k3
          refine ⟨_, ⟨cs, cols, rs⟩, rfl, ⟨s0, s1, s2, w9.heap.size, rfl, hO9.but k4 (by decide) (by decide), (hV9.but k4 (by decide) (by decide) (by decide)).vecs, hO.but k4 (by decide) (by decide), h90, HBLK.out⟩, ⟨by rw [HL.out]; exact m1, by rw [HL.out]; exact m2, by rw [HL2.out]; exact n1, by rw [HL1.out, HL2.out], HR1.out, fun j c hc => by rw [HL.out]; exact HCO1.out j c hc⟩, HRR.out, ?_⟩
          exact ((hbe.setCell (p := ⟨w.heap.size, 0, none⟩) (Nat.le_refl _) s0).setCell (p := ⟨w.heap.size, 1, none⟩) (Nat.le_refl _) s1).setCell (p := ⟨w.heap.size, 2, none⟩) (Nat.le_refl _) s2
end Go.Proofs.YtpanffbgihhjnaaGreat

/- Memory: an append that says which blocks it leaves alone. Walks: package pairingdata: Fracs. -/
namespace Go.Proofs.YtpanffbgihhjnaaGreat
open Go.RowKit Pl
attribute [local go_sem ↓] Go.wp_at_zero Go.wp_at_succ

def Others (g : Option Nat) (w w' : World) : Prop := w.heap.size ≤ w'.heap.size ∧ ∀ b, b < w.heap.size → some b ≠ g → w'.heap[b]? = w.heap[b]?
theorem Others.bk {g : Option Nat} {w w' : World} {b : Nat} {t : TypeId} {cs : List Value} (h : Others g w w') (hb : Bk w b t cs) (hne : some b ≠ g) : Bk w' b t cs := (h.2 b hb.lt hne).trans hb
theorem Others.of_set {g i : Nat} {w : World} {v : Value} : Others (some g) w (w.setCell ⟨g, i, none⟩ v) := ⟨by simp, fun b _ hne => heap_setCell_other w _ _ _ (fun e => hne (by rw [e]))⟩
theorem Others.trans {g : Option Nat} {a b c : World} (h : Others g a b) (k : Others g b c) : Others g a c := ⟨Nat.le_trans h.1 k.1, fun x hx hne => (k.2 x (Nat.lt_of_lt_of_le hx h.1) hne).trans (h.2 x hx hne)⟩
theorem FrsO.others {base : Nat} {w w' : World} {g : Option Nat} {v : Value} {fs : List RF} (h : FrsO base w v fs) (ho : Others g w w') (hk : Keep w w') (hne : ∀ b, v.ownBlock = some b → some b ≠ g) : FrsO base w' v fs := by
  obtain ⟨cs, h1, h2⟩ := h
  refine ⟨cs, ⟨h1.1, ?_⟩, h2.keep hk⟩
  rcases h1.2 with hn | ⟨g', cap, cur, rfl, hb', hgg, rest⟩
  · exact .inl hn
  · exact .inr ⟨g', cap, cur, rfl, hb', (ho.2 g' (lt_heap hgg) (hne g' (by simp [Value.ownBlock]))).trans hgg, rest⟩
theorem run_append_oneG (ty t e : TypeId) (i : TypeInfo) (z : Value) (size bytes : Nat) (ht : Tryz.prog.underlying t = some (.slice e)) (hi : Tryz.prog.info? e = some i) (hz : i.zero = some z)
    (hsize : i.size = size) (hby : i.bytes = bytes) (hzs : z.cells.size = size) (hsz : 0 < size) (W : World) (base : Nat) (v : Value) (n : Nat) (xs news : List Value) (hown : W.ownsRow base e size v n xs)
    (hl : news.length = size) (h1 : ∀ u ∈ news, u.oneCell' = true) (hn : n + 1 ≤ maxLen) (hb : (n + 1) * bytes ≤ 140737488355328) (hbase : base ≤ W.heap.size) :
    ∃ v' w', (Builtin.append_ #[t, t] ty #[v, .slice (some ⟨W.heap.size, 0, none⟩) 1 1]).run Tryz.prog (W.alloc (.cells news.toArray e)) = .ok v' w' ∧ w'.ownsRow base e size v' (n + 1) (xs ++ news) ∧ KeepBut e W w' ∧ Below base W w' ∧ Others v.ownBlock W w' ∧ (v'.ownBlock = v.ownBlock ∨ ∀ g, v'.ownBlock = some g → W.heap.size ≤ g) := by
  have hnew : Bk (W.alloc (.cells news.toArray e)) W.heap.size e news := Bk.new W e news
  obtain ⟨v', w', hrun, h2, h3, _, h5⟩ := run_append_own_at (P := Tryz.prog) (W.alloc (.cells news.toArray e)) base t ty e i z size bytes ht hi hz hsize hby hzs hsz v n xs (hown.alloc _) ⟨W.heap.size, 0, none⟩ 1 1 news (by omega) (fun j u hj => by rw [addr_add, Nat.zero_add, hnew.cell]; exact hj) h1 hn hb (by simp; omega)
  refine ⟨v', w', hrun, h2, ?_, ?_, ⟨?_, ?_⟩, ?_⟩
  · intro b cs t' fz hne hc
    have hlt := lt_heap hc
    refine (h3.block b (by simp; omega) ?_).trans ((Below.heap_alloc W _ b hlt).trans hc)
    intro e1
    rcases hown.2 with ⟨rfl, _⟩ | ⟨g, cap, cur, rfl, _, hg, _⟩
    · simp [Value.ownBlock] at e1
    · simp [Value.ownBlock] at e1
      subst e1
      rw [hg] at hc
      injection hc with hc
      injection hc with _ h2 _
      exact hne h2.symm
  · refine ((Below.refl _ _).alloc hbase _).grown h3 (by simp; omega) (fun k hk => ?_)
    exact (hown.lt k hk).1
  · have := h3.size; simp at this; omega
  · intro b hb hne
    exact (h3.block b (by simp; omega) hne).trans (Below.heap_alloc W _ b hb)
  · rcases h5 with h5 | h5
    · exact .inl h5
    · right; intro g hg; rw [h5] at hg; injection hg with hg; simp at hg; omega
 where
  addr_add (g j : Nat) : (⟨g, 0, none⟩ : Addr).add j = ⟨g, 0 + j, none⟩ := by
    unfold Addr.add
    split
    · rename_i h; subst h; rfl
    · rfl
theorem wpList_append_fracG {ops : Array Oper} {rest : List Oper} {o : Oper} {a : Act} {Q : Exit → Act → World → Prop} (hgd : o.guard = none) (s x : Operand)
    (ho : o.op = .call { callee := .builtin .append, args := #[s, x], argTypes := #[23, 23] })
    (W : World) (base : Nat) (v : Value) (fs : List RF) (hs : a.eval s = v) (hown : FrsO base W v fs) (b b' : Bool) (A A' : Option Addr) (n c n' c' : Nat) (f : RF) (hf : FracM W (.agg #[.bool b, .slice A n c, .bool b', .slice A' n' c']) f)
    (hx : a.eval x = .slice (some ⟨W.heap.size, 0, none⟩) 1 1) (hn : fs.length + 1 ≤ 1099511627776) (hbase : base ≤ W.heap.size)
    (h : ∀ v' w', FrsO base w' v' (fs ++ [f]) → KeepBut 47 W w' → Below base W w' → Others v.ownBlock W w' → (v'.ownBlock = v.ownBlock ∨ ∀ g, v'.ownBlock = some g → W.heap.size ≤ g) → wpList Tryz.prog ops Q rest (a.put o.dst v') w') :
    wpList Tryz.prog ops Q (o :: rest) a (W.alloc (.cells #[.bool b, .slice A n c, .bool b', .slice A' n' c'] 47)) := by
  obtain ⟨cs, h1, h2⟩ := hown
  obtain ⟨i0, hi, hz0, hz1, hz2⟩ := info_parts info_frac
  refine wpList_plain hgd fun K hK => ?_
  obtain ⟨v', w', hr, g1, g2, g3, g4, g5⟩ := run_append_oneG o.type 23 47 i0 _ 4 64 Tryz.underlying23 hi hz0 hz1 hz2 rfl (by decide) W base v fs.length cs [.bool b, .slice A n c, .bool b', .slice A' n' c'] h1 rfl frac_oneCell (by unfold maxLen; omega) (by omega) hbase
  unfold Oper.wp execOp
  simp only [ho, resolve, invoke, builtin, Sem.run_bind, Sem.run_pure, Result.andThen_ok, List.map_toArray, List.map_cons, List.map_nil, hs, hx]
  rw [show (Obj.cells #[.bool b, .slice A n c, .bool b', .slice A' n' c'] 47) = (Obj.cells [.bool b, .slice A n c, .bool b', .slice A' n' c'].toArray 47) from rfl]
  simp only [hr, Result.andThen_ok]
  have hk := g2.keep (by decide)
  exact hK _ _ (h v' w' ⟨_, by simpa using g1, (h2.keep hk).snoc (hf.keep hk)⟩ g2 g3 g4 g5)

set_option maxHeartbeats 1000000 in
theorem fracs_own (v : Value) (zs : List Int) (m : Nat) (w : World) (h : IntsM w v zs) (hm : m ≤ 1000) :
    Calls Tryz.prog 17 #[v, .int .i64 (m : Int)] w fun e w' => ∃ v' fs, e = .returned v' ∧ FrsO w.heap.size w' v' fs ∧ fs.length = m ∧ RsL 2 fs ∧ Below w.heap.size w w' := by
  obtain ⟨a, cap, rfl, hc1, hc2⟩ := h.shape
  generalize hn : zs.length = n at *
  clear hn
  go_enter Tryz.func17, Tryz.ntmps17
  go_wp2
  go_loopw [5, 6] (fun s i wr => ∃ (k : Nat) (fs : List RF), k ≤ m ∧ i = .int .i64 k ∧ FrsO w.heap.size wr s fs ∧ fs.length = k ∧ RsL 2 fs ∧ Below w.heap.size w wr) (fun _ i _ => m - (intOf i).toNat)
  case atStart => exact ⟨0, [], by omega, rfl, FrsO.nil _ _, rfl, RsL.nil _, Below.refl _ _⟩
  case round =>
    obtain ⟨k, fs, hk, rfl, hown, hl, hrs, hbe⟩ := hrel
    have HL := Lib.hid hl
    have HR := Lib.hid hrs
    have hlen : fs.length + 1 ≤ 1099511627776 := by omega
    clear hl hrs
    rcases Nat.lt_or_ge k m with hkl | hkl
    · go_wp2_with fail
      refine (at_any _ zs k _ (h.below hbe) (by omega)).mono ?_
      rintro _ w1 ⟨z, rfl, z0, z1, hb1⟩
      go_wp2_with fail
      refine (frac_own z _).mono ?_
      rintro _ w2 ⟨v2, q, rfl, e2, sq, hb2⟩
      have hb12 := below_then hb1 hb2 hb1.size
      have HO := Lib.hid (hown.below hb12)
      have hbe2 := below_then hbe hb12 hbe.size
      obtain ⟨B, l, d, B', l', d', rfl, _, _⟩ := id e2.frac
      have HF := Lib.hid e2.frac
      have HRS := Lib.hid sq.rs
      have hbs := hbe2.size
      clear hown hbe hb1 hb2 e2 sq hb12
      generalize canF q = Q at *
      go_wp2_with (at_builtin; refine wpList_append_frac rfl (.tmp 12) (.tmp 17) rfl w2 w.heap.size u5 fs rfl HO.out _ _ B B' l d l' d' Q HF.out rfl hlen hbs ?_)
      intro v' w4 hown4 hk4 hb4
      go_wp2
      go_roundw
      case rel => exact ⟨k + 1, fs ++ [Q], by omega, by go_num, hown4, by rw [List.length_append, HL.out]; rfl, HR.out.snoc HRS.out, hbe2.trans hb4⟩
      case measure => simp [intOf]; omega
    · obtain rfl : k = m := by omega
      go_wp2
      go_ret
      exact ⟨_, fs, rfl, hown, HL.out, HR.out, hbe⟩
end Go.Proofs.YtpanffbgihhjnaaGreat

/- Walks: package pairingdata: Feasible. -/
namespace Go.Proofs.YtpanffbgihhjnaaGreat
open Go.RowKit Pl
attribute [local go_sem ↓] Go.wp_at_zero Go.wp_at_succ

namespace Pl
def colC (cols : List (List En)) (j : Nat) : Nat → Rat := match cols[j]? with | some c => colQ c | none => fun _ => 0
theorem col_colC (p : LPd) (j : Nat) : p.col (j : Int) = colC p.cols j := by
  unfold LPd.col colC
  rw [if_pos (by omega), Int.toNat_natCast]
  cases p.cols[j]? <;> rfl
def timesC (cols : List (List En)) (xs : List RF) (k i : Nat) : Rat := sumN (fun j => qAt xs j * colC cols j i) k
theorem timesQ_C (p : LPd) (xs : List RF) (k i : Nat) : timesQ p xs k i = timesC p.cols xs k i := sumN_congr fun j _ => by rw [col_colC]
theorem qAt_left {xs : List RF} {f : RF} {j : Nat} (h : j < xs.length) : qAt (xs ++ [f]) j = qAt xs j := by unfold qAt; rw [List.getElem?_append_left h]
theorem qAt_end {xs : List RF} {f : RF} : qAt (xs ++ [f]) xs.length = f.q := by unfold qAt; rw [List.getElem?_append_right (Nat.le_refl _), Nat.sub_self]; rfl
theorem timesC_snoc (cols : List (List En)) {xs : List RF} (f : RF) {k : Nat} (hk : xs.length = k) (i : Nat) : timesC cols (xs ++ [f]) (k + 1) i = timesC cols xs k i + f.q * colC cols k i := by
  subst hk
  unfold timesC
  rw [sumN_succ, qAt_end, sumN_congr fun j hj => by rw [qAt_left hj]]
def NN (xs : List RF) : Prop := ∀ (j : Nat) (f : RF), xs[j]? = some f → 0 ≤ f.q
theorem NN.nil : NN [] := fun j f h => by simp at h
theorem NN.snoc {xs : List RF} (h : NN xs) {f : RF} (hf : 0 ≤ f.q) : NN (xs ++ [f]) := fun i g hg => by
  rcases Nat.lt_or_ge i xs.length with hi | hi
  · rw [List.getElem?_append_left hi] at hg; exact h i g hg
  · rw [List.getElem?_append_right hi] at hg
    have : i - xs.length = 0 := by
      rcases Nat.eq_zero_or_pos (i - xs.length) with e | e
      · exact e
      · rw [List.getElem?_eq_none (by simp; omega)] at hg; cases hg
    rw [this] at hg; simp at hg; subst hg; exact hf
def mixR (T : Nat → Rat) (q : Rat) (C : Nat → Rat) (r i : Nat) : Rat := if i < r then T i + q * C i else T i
theorem mixR_zero (T : Nat → Rat) (q : Rat) (C : Nat → Rat) : mixR T q C 0 = T := by funext i; simp [mixR]
theorem mixR_at (T : Nat → Rat) (q : Rat) (C : Nat → Rat) (r : Nat) : mixR T q C r r + q * C r = mixR T q C (r + 1) r := by simp [mixR]
theorem mixR_next (T : Nat → Rat) (q : Rat) (C : Nat → Rat) (r : Nat) : (fun i => if i = r then mixR T q C (r + 1) r else mixR T q C r i) = mixR T q C (r + 1) := by
  funext i
  by_cases h : i = r
  · subst h; rw [if_pos rfl]
  · rw [if_neg h]; unfold mixR
    by_cases h2 : i < r
    · rw [if_pos h2, if_pos (by omega)]
    · rw [if_neg h2, if_neg (by omega)]
theorem Sz_colC {m : Nat} {cols : List (List En)} (h : ∀ (j : Nat) (c : List En), cols[j]? = some c → ColOK m c) (j i : Nat) : Sz 1 (colC cols j i) := by
  unfold colC
  cases hc : cols[j]? with
  | some c => exact Sz_col (fun k e he => ((h j c hc).2.2 k e he).2.2.2) (Nat.le_refl _) i
  | none => exact Sz_zero
theorem Sz_timesC {m : Nat} {cols : List (List En)} (h : ∀ (j : Nat) (c : List En), cols[j]? = some c → ColOK m c) {xs : List RF} (hx : RsL 2 xs) {k : Nat} (hk : k ≤ 5) (i : Nat) : Sz 21 (timesC cols xs k i) :=
  (Sz_sum (K := 3) fun j _ => (Sz_mul (hx.qAt (by decide) j) (Sz_colC h j i)).mono (by omega)).mono (by omega)
theorem Sz_mixR {T C : Nat → Rat} {q : Rat} {r i : Nat} (h1 : Sz 21 (T i)) (h2 : Sz 2 q) (h3 : Sz 1 (C i)) : Sz 32 (mixR T q C r i) := by
  unfold mixR
  split
  · exact (Sz_add h1 (Sz_mul h2 h3)).mono (by omega)
  · exact h1.mono (by omega)
end Pl
theorem FrsO.monoB {base base' : Nat} {w : World} {v : Value} {fs : List RF} (h : FrsO base w v fs) (hb : base' ≤ base) : FrsO base' w v fs := by
  obtain ⟨cs, h1, h2⟩ := h; exact ⟨cs, row_mono h1 hb, h2⟩
theorem Bk.far4' {w : World} {g g' : Nat} {t : TypeId} {cs : List Value} (h : Bk w g t cs) (hne : g ≠ g') (i j k l : Nat) (x y z u : Value) : Bk ((((w.setCell ⟨g', i, none⟩ x).setCell ⟨g', j, none⟩ y).setCell ⟨g', k, none⟩ z).setCell ⟨g', l, none⟩ u) g t cs :=
  (((h.far (p := ⟨g', i, none⟩) hne x).far (p := ⟨g', j, none⟩) hne y).far (p := ⟨g', k, none⟩) hne z).far (p := ⟨g', l, none⟩) hne u
theorem FrsO.own_ge {base : Nat} {w : World} {v : Value} {fs : List RF} (h : FrsO base w v fs) : ∀ g, v.ownBlock = some g → base ≤ g := by
  obtain ⟨cs, h1, h2⟩ := h
  intro g hg
  exact (h1.lt g hg).1

def FeasPost (w : World) (e : Ending) (w' : World) : Prop :=
  ∃ v1 v2 p xs, e = .returned (.tuple #[v1, v2]) ∧ LpO w.heap.size w' v1 p ∧ FrsO w.heap.size w' v2 xs ∧ LpOK p ∧ RsL 32 p.right ∧ RsL 2 xs ∧ xs.length = p.cols.length ∧ NN xs ∧ (∀ i, i < p.right.length → qAt p.right i = timesQ p xs p.cols.length i) ∧ Below w.heap.size w w'

set_option maxRecDepth 100000 in
set_option maxHeartbeats 16000000 in
theorem feasibleData_own (v : Value) (zs : List Int) (w : World) (h : IntsM w v zs) :
    Calls Tryz.prog 14 #[v] w (FeasPost w) := by
  obtain ⟨a, cap, rfl, hc1, hc2⟩ := h.shape
  generalize hn : zs.length = n at *
  clear hn
  obtain ⟨W, hW, hR, hbe0⟩ := box_lp w (.slice none 0 0) (.slice none 0 0) (.slice none 0 0)
  have hsz0 := hbe0.size
  go_enter Tryz.func14, Tryz.ntmps14
  go_wp2_with fail
  clear hW
  refine (lp_own _ zs _ (h.below hbe0)).mono ?_
  rintro _ w1 ⟨v1, p, rfl, hp, hok, hr2, hb1⟩
  obtain ⟨s0, s1, s2, b1, rfl, hO0, hV0, hO2, hbb, hlt0⟩ := hp
  have HOK := Lib.hid hok
  have hR1 := hR.later hb1
  have hbe1 := below_then hbe0 hb1 hbe0.size
  have hI1 := h.below hbe1
  obtain ⟨A0, n0, c0, rfl⟩ := hO0.sliceN
  obtain ⟨A1, n1, c1, rfl⟩ : ∃ A n c, s1 = .slice A n c := by obtain ⟨A, c, e, _⟩ := hV0.shape; exact ⟨A, _, c, e⟩
  obtain ⟨A2, m, c2, rfl⟩ := hO2.sliceN
  obtain ⟨N1, N2, N3⟩ := hV0.len
  obtain ⟨M1, M2, M3⟩ := hO2.frs.len
  have m1 : 1 ≤ m := by rw [M1]; exact hok.1
  have m2 : m ≤ 3 := by rw [M1]; exact hok.2.1
  have nN : n1 ≤ 5 := by rw [N1]; exact hok.2.2.1
  have HN1 := Lib.hid N1
  have HM1 := Lib.hid M1
  have HO0 := Lib.hid hO0
  have HV0 := Lib.hid hV0
  have HLT := Lib.hid hlt0
  clear hok hr2 hO2 hbb hb1 hR hbe0 N1 M1 hO0 hV0 hlt0 h
  obtain ⟨W2, hW2, hX, hbn⟩ := box_lp w1 (.slice A0 n0 c0) (.slice A1 n1 c1) (.slice A2 m c2)
  have hsz2 : W2.heap.size = w1.heap.size + 1 := by rw [← hW2]; simp
  obtain ⟨x0, x1, x2⟩ := hX.three
  go_wp2_with fail
  clear hW2 x0 x1 x2
  refine (zeros_own m _ (by omega)).mono ?_
  rintro _ w3 ⟨z2, rfl, hZ, hb3⟩
  rw [hsz2] at hZ
  obtain ⟨gz, cz, rfl, hgz1, hgz2, hcz1, hcz2⟩ := hZ.shape (by simp; omega)
  simp only [List.length_replicate] at hZ hcz1 ⊢
  rw [canL_zero] at hZ
  have hX3 := hX.later hb3
  have hbe3 := below_then hbn hb3 hbn.size
  obtain ⟨x0, x1, x2⟩ := hX3.three
  obtain ⟨f0, f1, f2⟩ := hX3.threeF
  clear hX hbn hb3 hsz2
  go_wp2
  clear x0 x1 x2 f0 f1 f2
  have hX4 := hX3.set_ 2 (.slice (some ⟨gz, 0, none⟩) m cz)
  have hZ4 := hZ.but (KeepBut.setCell hX3 2 (.slice (some ⟨gz, 0, none⟩) m cz)) (by decide) (by decide)
  have hbe4 := hbe3.setCell (p := ⟨w1.heap.size, 2, none⟩) (Nat.le_refl _) (.slice (some ⟨gz, 0, none⟩) m cz)
  have hbx : gz < (w3.setCell ⟨w1.heap.size, 2, none⟩ (.slice (some ⟨gz, 0, none⟩) m cz)).heap.size := by simp; exact hgz2
  have hbx1 : w1.heap.size ≤ (w3.setCell ⟨w1.heap.size, 2, none⟩ (.slice (some ⟨gz, 0, none⟩) m cz)).heap.size := by have := hbe3.size; simp; exact this
  generalize w3.setCell ⟨w1.heap.size, 2, none⟩ (.slice (some ⟨gz, 0, none⟩) m cz) = w4 at *
  simp only [List.set_cons_zero, List.set_cons_succ] at hX4
  clear hX3 hZ hbe3 hgz2
  generalize hbxe : w4.heap.size = bx at *
  have hw4 : bx ≤ w4.heap.size := by omega
  clear hbxe
  go_loopw [5, 6] (fun s i wr => ∃ (k : Nat) (xs : List RF), k ≤ n1 ∧ i = .int .i64 k ∧ Below w1.heap.size w1 wr ∧ Bk wr w1.heap.size 26 [.slice A0 n0 c0, .slice A1 n1 c1, .slice (some ⟨gz, 0, none⟩) m cz] ∧ FrsO (w1.heap.size + 1) wr (.slice (some ⟨gz, 0, none⟩) m cz) (canL m (timesC p.cols xs k)) ∧ FrsO bx wr s xs ∧ xs.length = k ∧ RsL 2 xs ∧ NN xs ∧ bx ≤ wr.heap.size) (fun _ i _ => n1 - (intOf i).toNat)
  case atStart => exact ⟨0, [], by omega, rfl, hbe4, hX4, hZ4, FrsO.nil _ _, rfl, RsL.nil _, NN.nil, hw4⟩
  case round =>
    clear hbe4 hX4 hZ4 hw4 w4
    obtain ⟨k, xs, hk, rfl, hbe, hX, hZ, hO, hl, hrs, hnn, hbw⟩ := hrel
    have HL := Lib.hid hl
    have HRX := Lib.hid hrs
    have HNN := Lib.hid hnn
    have hlen : xs.length + 1 ≤ 1099511627776 := by omega
    clear hl hrs hnn
    obtain ⟨x0, x1, x2⟩ := hX.three
    rcases Nat.lt_or_ge k n1 with hkl | hkl
    · go_wp2_with fail
      clear x0 x1 x2
      refine (at_int _ zs (40 + (k : Int)) _ (hI1.below hbe) (by omega) (by omega)).mono ?_
      rintro _ w2 ⟨z, rfl, z0, z1, hb2⟩
      go_wp2_with fail
      refine (frac_own z _).mono ?_
      rintro _ w3 ⟨v3, q, rfl, e3, sq, hb3⟩
      have hbw3 := below_then hb2 hb3 hb2.size
      obtain ⟨Bg, lg, dg, Bg', lg', dg', rfl, _, _⟩ := id e3.frac
      obtain ⟨Wv, hWv, hVv, hbn⟩ := boxF1 w3 (.bool (canF q).num.neg) (.slice Bg lg dg) (.bool (canF q).den.neg) (.slice Bg' lg' dg')
      have hbv := below_then hbw3 hbn hbw3.size
      have hgv := hbw3.size
      have hFv := e3.frac.below hbn
      obtain ⟨y0, y1, y2, y3⟩ := hVv.four
      have SQ := Lib.hid sq
      clear hb2 hb3 e3 hbn sq hbw3
      go_wp2_with fail
      clear hWv y0 y1 y2 y3
      refine (rsignF_any _ (canF q) _ hFv (SQ.out.sh (by decide))).mono ?_
      rw [canF_q]
      rintro _ w4 ⟨rfl, hb4⟩
      have hbv4 := below_then hbv hb4 hbv.size
      have hVv4 := hVv.later hb4
      have hFv4 := hFv.below hb4
      clear hbv hVv hFv hb4
      generalize hgve : w3.heap.size = gv at *
      clear hgve
      obtain ⟨f5, hfd⟩ : ∃ f5, canF q = f5 := ⟨_, rfl⟩
      have HFD := Lib.hid hfd
      have HQ0 : Hid (0 ≤ qs q → 0 ≤ f5.q) := Lib.hid (fun g => by
        rw [← hfd, canF_q]
        have := @qs_neg q
        rcases Rat.le_total (a := 0) (b := q) with e | e
        · exact e
        · rw [← Rat.not_lt]; exact fun g2 => by have := qs_neg.2 g2; omega)
      have HFR : Hid (f5.Rs 2) := Lib.hid (by rw [← hfd]; exact SQ.out.rs)
      rw [hfd] at hVv4 hFv4 ⊢
      clear hfd
      rcases Int.lt_or_le (qs q) 0 with hq | hq
      case' inr =>
        go_wp2_with fail
        refine (at_int _ zs (40 + (k : Int)) _ ((hI1.below hbe).below hbv4) (by omega) (by omega)).mono ?_
        rintro _ W6 ⟨z', rfl, z0', z1', hb4'⟩
        have hbv4x := below_then hbv4 hb4' hbv4.size
        have hVv4x := hVv4.later hb4'
        have hFv4 := hFv4.below hb4'
        clear hbv4 hVv4 hb4'
        by_cases hz : z' % 3 = 0
        case' pos =>
          have hz' : (z' % 3 == 0) = true := by simpa using hz
          clear hz
          go_wp2_with fail
          refine (rint_own 0 _ (by omega) (by omega)).mono ?_
          rw [show ((0 : Int) : Rat) = 0 from rfl]
          rintro _ w5 ⟨v5, rfl, e5, hb5⟩
          have hbv5 := below_then hbv4x hb5 hbv4x.size
          have hVv5 := hVv4x.later hb5
          have hF5 := Lib.hid e5.frac
          have HF0 : Hid (0 ≤ (canF 0).q) := Lib.hid (by rw [canF_q]; exact Rat.le_refl)
          have HF2 : Hid ((canF 0).Rs 2) := Lib.hid (Sz_zero.mono (by decide)).rs
          generalize canF 0 = f5 at *
          obtain ⟨Bg, lg, dg, Bg', lg', dg', rfl, _, _⟩ := id hF5.out
          obtain ⟨y0, y1, y2, y3⟩ := hVv5.four
          obtain ⟨g0, g1, g2, g3⟩ := hVv5.fourF
          clear e5 hb5 hbv4x hVv4x hFv4 HQ0 HFR HFD
          go_upto_region 10 with (fail)
          have hVg := hVv5.set4 (.bool f5.num.neg) (.slice Bg lg dg) (.bool f5.den.neg) (.slice Bg' lg' dg')
          have hFg := Lib.hid (hF5.out.keep (hVv5.keep4 (by decide) (.bool f5.num.neg) (.slice Bg lg dg) (.bool f5.den.neg) (.slice Bg' lg' dg')))
          have hbg := below_set4 hbv5 hgv (.bool f5.num.neg) (.slice Bg lg dg) (.bool f5.den.neg) (.slice Bg' lg' dg')
          clear y0 y1 y2 y3 g0 g1 g2 g3 hVv5 hF5 hbv5
          generalize (((w5.setCell ⟨gv, 0, none⟩ (.bool f5.num.neg)).setCell ⟨gv, 1, none⟩ (.slice Bg lg dg)).setCell ⟨gv, 2, none⟩ (.bool f5.den.neg)).setCell ⟨gv, 3, none⟩ (.slice Bg' lg' dg') = W6 at *
        case' neg =>
          have hz' : (z' % 3 == 0) = false := by simpa using hz
          have HF0 := Lib.hid (HQ0.out hq)
          clear hz
          go_upto_region 10 with (fail)
          have hVg := hVv4x
          have hFg := Lib.hid hFv4
          have hbg := hbv4x
          have HF2 := HFR
          clear hVv4x hFv4 hbv4x HFR HFD HQ0 hz' z0' z1' hq
      case' inl =>
        go_wp2_with fail
        refine (rint_own 0 _ (by omega) (by omega)).mono ?_
        rw [show ((0 : Int) : Rat) = 0 from rfl]
        rintro _ w5 ⟨v5, rfl, e5, hb5⟩
        have hbv5 := below_then hbv4 hb5 hbv4.size
        have hVv5 := hVv4.later hb5
        have hF5 := Lib.hid e5.frac
        have HF0 : Hid (0 ≤ (canF 0).q) := Lib.hid (by rw [canF_q]; exact Rat.le_refl)
        have HF2 : Hid ((canF 0).Rs 2) := Lib.hid (Sz_zero.mono (by decide)).rs
        generalize canF 0 = f5 at *
        obtain ⟨Bg, lg, dg, Bg', lg', dg', rfl, _, _⟩ := id hF5.out
        obtain ⟨y0, y1, y2, y3⟩ := hVv5.four
        obtain ⟨g0, g1, g2, g3⟩ := hVv5.fourF
        clear e5 hb5 hbv4 hVv4 hFv4 HQ0 HFR HFD
        go_upto_region 10 with (fail)
        have hVg := hVv5.set4 (.bool f5.num.neg) (.slice Bg lg dg) (.bool f5.den.neg) (.slice Bg' lg' dg')
        have hFg := Lib.hid (hF5.out.keep (hVv5.keep4 (by decide) (.bool f5.num.neg) (.slice Bg lg dg) (.bool f5.den.neg) (.slice Bg' lg' dg')))
        have hbg := below_set4 hbv5 hgv (.bool f5.num.neg) (.slice Bg lg dg) (.bool f5.den.neg) (.slice Bg' lg' dg')
        clear y0 y1 y2 y3 g0 g1 g2 g3 hVv5 hF5 hbv5
        generalize (((w5.setCell ⟨gv, 0, none⟩ (.bool f5.num.neg)).setCell ⟨gv, 1, none⟩ (.slice Bg lg dg)).setCell ⟨gv, 2, none⟩ (.bool f5.den.neg)).setCell ⟨gv, 3, none⟩ (.slice Bg' lg' dg') = W6 at *
      all_goals
        have hgW : gv < W6.heap.size := hVg.lt
        have hbeg := below_then hbe hbg hbe.size
        have HO := Lib.hid (hO.below hbg)
        have hbs : bx ≤ W6.heap.size := by have := hbg.size; omega
        have hX6 := hX.later hbg
        have hZ6 := hZ.below hbg
        have hown := hO.own_lt
        have hown2 := hO.own_ge
        have HNE1 : Hid (some gv ≠ u5.ownBlock) := Lib.hid fun e => by have := hown gv e.symm; omega
        have HNE2 : Hid (some gz ≠ u5.ownBlock) := Lib.hid fun e => by have := hown2 gz e.symm; omega
        obtain ⟨y0, y1, y2, y3⟩ := hVg.four
        clear hX hZ hO hbe hown hown2 hbg
        go_wp2_with (at_builtin; refine wpList_append_fracG rfl (.tmp 41) (.tmp 43) rfl W6 bx u5 xs rfl HO.out _ _ Bg Bg' lg dg lg' dg' f5 hFg.out rfl hlen hbs ?_)
        intro v' w7 hO7 hk7 hb7 hoth7 hblk7
        have hbe7 := hbeg.trans (hb7.mono hbx1)
        have hX7 := hk7.bk hX6 (by decide)
        have hV7 := hoth7.bk hVg HNE1.out
        have hF7 := hFg.out.keep (hk7.keep (by decide))
        have hZ7 := hZ6.others hoth7 (hk7.keep (by decide)) (fun b hb => by simp [Value.ownBlock] at hb; subst hb; exact HNE2.out)
        have hbs7 : bx ≤ w7.heap.size := by have := hoth7.1; omega
        clear hbeg HO hX6 hZ6 HNE1 HNE2 y0 y1 y2 y3 hVg hFg hk7 hb7 hoth7 hblk7 hgW hbs
        obtain ⟨Av, nv, cv, rfl⟩ := hO7.sliceN
        obtain ⟨x0, x1, x2⟩ := hX7.three
        generalize hvv : Value.slice Av nv cv = v' at *
        clear hvv
        have hok' : LpOK ⟨p.cost, p.cols, canL m (timesC p.cols xs k)⟩ := by
          have o := HOK.out
          refine ⟨?_, ?_, o.2.2.1, o.2.2.2.1, o.2.2.2.2.1, fun j c hc => ?_⟩
          · simp only [canL_length]; exact m1
          · simp only [canL_length]; exact m2
          · have := o.2.2.2.2.2 j c hc; simp only [canL_length]; rw [HM1.out]; exact this
        have hcols := HOK.out.2.2.2.2.2
        have hsT : ∀ i, Sz 21 (timesC p.cols xs k i) := fun i => Sz_timesC hcols HRX.out (by omega) i
        have hsr : RsL 32 (canL m (timesC p.cols xs k)) := canL_rs fun i _ => (hsT i).mono (by decide)
        have HOK2 := Lib.hid (hok'.ok (K := 32) (by decide) hsr)
        have HIN : Hid (LPd.In ⟨p.cost, p.cols, canL m (timesC p.cols xs k)⟩) := Lib.hid (lpErr_zero hok'.err).2.2.2.1
        have hLp : LpM w7 (.agg #[.slice A0 n0 c0, .slice A1 n1 c1, (.slice (some ⟨gz, 0, none⟩) m cz)]) ⟨p.cost, p.cols, canL m (timesC p.cols xs k)⟩ := ⟨_, _, _, _, _, _, _, _, _, rfl, (HO0.out.below hbe7).frs, HV0.out.below hbe7, hZ7.frs⟩
        have hc1 : ∀ i, Sz 1 (colC p.cols k i) := fun i => Sz_colC hcols k i
        have HC1 := Lib.hid hc1
        have HST := Lib.hid hsT
        clear hok' hcols hsT hsr hc1
        go_wp2_with fail
        clear x0 x1 x2
        refine (rcolumn_pos _ ⟨p.cost, p.cols, canL m (timesC p.cols xs k)⟩ 32 k _ hLp HOK2.out (by decide) HIN.out (by rw [← HN1.out]; exact hkl) (by simp only [canL_length]; omega)).mono ?_
        rw [show canL (LPd.mk p.cost p.cols (canL m (timesC p.cols xs k))).right.length ((LPd.mk p.cost p.cols (canL m (timesC p.cols xs k))).col (k : Int)) = canL m (colC p.cols k) from by rw [col_colC]; simp only [canL_length]]
        rintro _ w8 ⟨vc, rfl, hC, hb8⟩
        obtain ⟨Ac, cc, rfl, hcc1, hcc2⟩ := hC.frs.shape
        simp only [canL_length] at hC hcc1 ⊢
        have hbe8 := below_then hbe7 hb8 hbe7.size
        have hX8 := hX7.later hb8
        have hV8 := hV7.later hb8
        have hF8 := hF7.below hb8
        have hZ8 := hZ7.below hb8
        have hO8 := hO7.below hb8
        have hbs8 : bx ≤ w8.heap.size := by have := hb8.size; omega
        have hC8 : gz < w7.heap.size := by omega
        clear hbe7 hX7 hV7 hF7 hZ7 hO7 hLp HOK2 HIN hb8
        rw [← mixR_zero (timesC p.cols xs k) f5.q (colC p.cols k)] at hZ8
        generalize hTT : timesC p.cols xs k = TT at *
        generalize hCC : colC p.cols k = CC at *
        have HTT := Lib.hid hTT
        have HCC := Lib.hid hCC
        clear hTT hCC
        go_wp2
        go_loopw [9] (fun i wx => ∃ r : Nat, r ≤ m ∧ i = .int .i64 r ∧ Below w1.heap.size w1 wx ∧ Bk wx w1.heap.size 26 [.slice A0 n0 c0, .slice A1 n1 c1, .slice (some ⟨gz, 0, none⟩) m cz] ∧ Bk wx gv 47 [.bool f5.num.neg, .slice Bg lg dg, .bool f5.den.neg, .slice Bg' lg' dg'] ∧ FracM wx (.agg #[.bool f5.num.neg, .slice Bg lg dg, .bool f5.den.neg, .slice Bg' lg' dg']) f5 ∧ FrsO (w1.heap.size + 1) wx (.slice (some ⟨gz, 0, none⟩) m cz) (canL m (mixR TT f5.q CC r)) ∧ FrsO bx wx v' (xs ++ [f5]) ∧ FrsO w7.heap.size wx (.slice Ac m cc) (canL m CC) ∧ bx ≤ wx.heap.size) (fun i _ => m - (intOf i).toNat)
        case atStart => exact ⟨0, by omega, rfl, hbe8, hX8, hV8, hF8, hZ8, hO8, hC, hbs8⟩
        case round =>
          clear hbe8 hX8 hV8 hF8 hZ8 hO8 hC hbs8
          obtain ⟨r, hr, rfl, hbe, hX, hVv, hFm, hZ, hO, hC, hbw⟩ := hrel
          rcases Nat.lt_or_ge r m with hrm | hrm
          · obtain ⟨x0, x1, x2⟩ := hX.three
            obtain ⟨y0, y1, y2, y3⟩ := hVv.four
            obtain ⟨_, _, A3, n3, k3, A4, n4, k4, hAz, _, ⟨t0, t1, t2, t3⟩, hZm⟩ := hZ.frs.elem (Below.refl _ _) (canL_get hrm)
            injection hAz with hAz
            injection hAz with e1 e2
            subst e1 e2
            obtain ⟨bc, oc, A5, n5, k5, A6, n6, k6, rfl, _, ⟨q0, q1, q2, q3⟩, hCm⟩ := hC.frs.elem (Below.refl _ _) (canL_get hrm)
            simp only [Nat.zero_add] at t0 t1 t2 t3
            have hsf : f5.Sh := HF2.out.sh (by decide)
            have hsc : (canF (CC r)).Sh := (HC1.out r).sh (by decide)
            have hsz : (canF (mixR TT f5.q CC r r)).Sh := (Sz_mixR (HST.out r) (HF2.out.sz (by decide)) (HC1.out r)).sh (by decide)
            have hsp : (canF (f5.q * CC r)).Sh := (Sz_mul (HF2.out.sz (by decide)) (HC1.out r)).sh (by decide)
            have HMX := Lib.hid (mixR_at TT f5.q CC r)
            have hrI : (r : Int) < m := by omega
            go_wp2_with fail
            have C1 := stab x2
            have C2 := stab y0
            have C3 := stab y1
            have C4 := stab y2
            have C5 := stab y3
            have C6 := stab t0
            have C7 := stab t1
            have C8 := stab t2
            have C9 := stab t3
            have D6 := stab q0
            have D7 := stab q1
            have D8 := stab q2
            have D9 := stab q3
            have hS0 := below_drew' wr
            clear x0 x1 x2 y0 y1 y2 y3 t0 t1 t2 t3 q0 q1 q2 q3
            refine region_seq 16 [0, 1, 2, 3, 4, 5, 6, 7, 8, 9, 10, 11, 12, 13, 14, 15, 16] (by kernel_rfl) (by kernel_rfl) ?_
            repeat ((first | (refine seq_takeP (v := ?_) rfl rfl rfl ?_ ?_; rotate_left; (· (intro _ hSw; go_simp; (try go_bits); (try with_reducible rfl)))) | (refine seq_take (v := ?_) rfl rfl rfl ?_ ?_; rotate_left; (· (intro _ hSw; go_simp; (try go_bits); (try with_reducible rfl)))) | refine seq_skip rfl rfl rfl ?_); (try simp only [Act.put, pu1, pu2, pu3, pu4, pu5, pu6]))
            refine seq_step rfl rfl (fun KR hKR => ?_)
            go_simp
            with_reducible refine (rmulF_own _ _ f5 (canF (CC r)) _ (hFm.below hS0) (hCm.below hS0) hsf hsc).mono ?_
            rw [canF_q]
            rintro _ w9 ⟨v9, rfl, e9, hb9⟩
            have hS9 := below_then hS0 hb9 hS0.size
            refine hKR.out _ _ (Or.inr hS9) ?_
            clear hKR KR
            (try simp only [Act.put, pu1, pu2, pu3, pu4, pu5, pu6])
            repeat ((first | (refine seq_takeP (v := ?_) rfl rfl rfl ?_ ?_; rotate_left; (· (intro _ hSw; go_simp; (try go_bits); (try with_reducible rfl)))) | (refine seq_take (v := ?_) rfl rfl rfl ?_ ?_; rotate_left; (· (intro _ hSw; go_simp; (try go_bits); (try with_reducible rfl)))) | refine seq_skip rfl rfl rfl ?_); (try simp only [Act.put, pu1, pu2, pu3, pu4, pu5, pu6]))
            refine seq_step rfl rfl (fun KR hKR => ?_)
            go_simp
            with_reducible refine (raddF_own _ _ _ _ _ (hZm.below hS9) e9.frac hsz hsp).mono ?_
            rw [canF_q, canF_q, HMX.out]
            rintro _ w10 ⟨v10, rfl, e10, hb10⟩
            have hS10 := below_then hS9 hb10 hS9.size
            obtain ⟨E, l9, k9, E', l9', k9', rfl, _, _⟩ := id e10.frac
            have hZ10 := hZ.below hS10
            obtain ⟨_, _, _, _, ⟨c0', c1', c2', c3'⟩, ⟨f0, f1, f2, f3⟩, _⟩ := hZ10.at_ (canL_get hrm)
            refine hKR.out _ _ (Or.inr hS10) ?_
            clear hKR KR
            (try simp only [Act.put, pu1, pu2, pu3, pu4, pu5, pu6])
            repeat ((first | (refine seq_takeP (v := ?_) rfl rfl rfl ?_ ?_; rotate_left; (· (intro _ hSw; go_simp; (try go_bits); (try with_reducible rfl)))) | (refine seq_take (v := ?_) rfl rfl rfl ?_ ?_; rotate_left; (· (intro _ hSw; go_simp; (try go_bits); (try with_reducible rfl)))) | refine seq_skip rfl rfl rfl ?_); (try simp only [Act.put, pu1, pu2, pu3, pu4, pu5, pu6]))
            refine seq_step rfl rfl (fun KR hKR => ?_)
            go_simp
            refine hKR.out _ _ (Or.inl (by decide)) ?_
            clear hKR KR
            (try simp only [Act.put, pu1, pu2, pu3, pu4, pu5, pu6])
            refine seq_done ?_
            obtain ⟨hZ11, hk11⟩ := hZ10.set_ (by rw [canL_length]; exact hrm) e10.frac
            rw [canL_set hrm, mixR_next] at hZ11
            have hX11 := hk11.bk (hX.later hS10) (by decide)
            have hV11 := (hVv.later hS10)
            have hbb := below_then hbe hS10 hbe.size
            have hbe11 := below_set4' hbb (show w1.heap.size ≤ gz by omega) (r * 4) (r * 4 + 1) (r * 4 + 2) (r * 4 + 3)
            have hO11 := (hO.below hS10).far4 (i := r * 4) (j := r * 4 + 1) (k := r * 4 + 2) (l := r * 4 + 3) hbx _ rfl hk11
            have hC11 := (hC.below hS10).far4 (i := r * 4) (j := r * 4 + 1) (k := r * 4 + 2) (l := r * 4 + 3) hC8 _ rfl hk11
            have hV12 := hV11.far4' (show gv ≠ gz by omega) (r * 4) (r * 4 + 1) (r * 4 + 2) (r * 4 + 3)
            have hF11 := (hFm.below hS10).keep (hk11.keep (by decide))
            have hbw11 := hS10.size
            clear C1 C2 C3 C4 C5 C6 C7 C8 C9 D6 D7 D8 D9 hX hVv hFm hZ hO hC hbe hZ10 hS0 hS9 hS10 hb9 hb10 e9 e10 hV11 hbb c0' c1' c2' c3' f0 f1 f2 f3
            go_wp2
            go_roundw
            case rel => exact ⟨r + 1, by omega, by go_num, hbe11 _ _ _ _, hX11, hV12 _ _ _ _, hF11, hZ11, hO11, hC11, by simp; omega⟩
            case measure => simp [intOf]; omega
          · obtain rfl : r = m := by omega
            have HMM : Hid (∀ i, i < r → mixR TT f5.q CC r i = timesC p.cols (xs ++ [f5]) (k + 1) i) := Lib.hid fun i hi => by
              rw [timesC_snoc p.cols f5 HL.out, HTT.out, HCC.out]; unfold mixR; rw [if_pos hi]
            have hZ2 := hZ
            rw [canL_congr HMM.out] at hZ2
            clear hZ
            go_wp2
            go_roundw
            case rel => exact ⟨k + 1, xs ++ [f5], by omega, by go_num, hbe, hX, hZ2, hO, by rw [List.length_append, HL.out]; rfl, HRX.out.snoc HF2.out, HNN.out.snoc HF0.out, hbw⟩
            case measure => simp [intOf]; omega
    · obtain rfl : k = n1 := by omega
      have hR9 := hR1.later hbe
      have hbe9 := below_then hbe1 hbe hbe1.size
      obtain ⟨Ax, nx, cx, rfl⟩ := hO.sliceN
      obtain ⟨c0', c1', c2'⟩ := hR9.three
      obtain ⟨f0, f1, f2⟩ := hR9.threeF
      clear hcz1
      go_wp2
      have hR5 := ((hR9.set_ 0 (.slice A0 n0 c0)).set_ 1 (.slice A1 k c1)).set_ 2 (.slice (some ⟨gz, 0, none⟩) m cz)
      refine ret_ct Tryz.results14 Tryz.underlying26 (by kernel_rfl) rfl hR5 rfl ?_
      have k1 := KeepBut.setCell hR9 0 (.slice A0 n0 c0)
      have k2 := KeepBut.setCell (hR9.set_ 0 (.slice A0 n0 c0)) 1 (.slice A1 k c1)
      have k3 := KeepBut.setCell ((hR9.set_ 0 (.slice A0 n0 c0)).set_ 1 (.slice A1 k c1)) 2 (.slice (some ⟨gz, 0, none⟩) m cz)
      have k4 := (k1.trans k2).trans k3
      have hcols := HOK.out.2.2.2.2.2
      refine ⟨_, _, ⟨p.cost, p.cols, canL m (timesC p.cols xs k)⟩, xs, rfl, ⟨_, _, _, w1.heap.size + 1, rfl, ?_, (HV0.out.below hbe).but k4 (by decide) (by decide) (by decide), hZ.but k4 (by decide) (by decide), ?_, ?_⟩, ?_, ?_, ?_, HRX.out, ?_, HNN.out, ?_, ?_⟩
      · exact ((HO0.out.below hbe).but k4 (by decide) (by decide)).monoB hsz0
      · have := hbe1.size; omega
      · intro g hg; have := HO0.out.own_lt g hg; omega
      · exact (hO.but k4 (by decide) (by decide)).monoB (by have := hbe1.size; omega)
      · have o := HOK.out
        refine ⟨?_, ?_, o.2.2.1, o.2.2.2.1, o.2.2.2.2.1, fun j c hc => ?_⟩
        · simp only [canL_length]; exact m1
        · simp only [canL_length]; exact m2
        · have := o.2.2.2.2.2 j c hc; simp only [canL_length]; rw [HM1.out]; exact this
      · exact canL_rs fun i _ => (Sz_timesC hcols HRX.out (by omega) i).mono (by decide)
      · rw [HL.out, HN1.out]
      · intro i hi
        simp only [canL_length] at hi
        simp only
        rw [canL_qAt hi, timesQ_C, ← HN1.out]
      · exact ((hbe9.setCell (p := ⟨w.heap.size, 0, none⟩) (Nat.le_refl _) _).setCell (p := ⟨w.heap.size, 1, none⟩) (Nat.le_refl _) _).setCell (p := ⟨w.heap.size, 2, none⟩) (Nat.le_refl _) _
end Go.Proofs.YtpanffbgihhjnaaGreat

/- Plain: elimination over rational matrices, as the reference does it; the sizes of its numbers; that its success does not depend on the right-hand side. -/
namespace Go.Proofs.YtpanffbgihhjnaaGreat
open Go.RowKit
namespace Pl
abbrev Mx := Nat → Nat → Rat
def findFrom (M : Mx) (c : Nat) : Nat → Nat → Option Nat
  | _, 0 => none
  | r, n + 1 => if M r c ≠ 0 then some r else findFrom M c (r + 1) n
def findP (M : Mx) (k m : Nat) : Option Nat := findFrom M k k (m - k)
theorem findFrom_none {M : Mx} {c : Nat} : ∀ {n r : Nat}, (∀ s, r ≤ s → s < r + n → M s c = 0) → findFrom M c r n = none
  | 0, _, _ => rfl
  | n + 1, r, h => by
    unfold findFrom
    rw [if_neg (by simpa using h r (Nat.le_refl _) (by omega))]
    exact findFrom_none fun s h1 h2 => h s (by omega) (by omega)
theorem findFrom_some {M : Mx} {c : Nat} : ∀ {n r t : Nat}, r ≤ t → t < r + n → M t c ≠ 0 → (∀ s, r ≤ s → s < t → M s c = 0) → findFrom M c r n = some t
  | 0, r, t, h1, h2, _, _ => by omega
  | n + 1, r, t, h1, h2, h3, h4 => by
    unfold findFrom
    rcases Nat.eq_or_lt_of_le h1 with e | e
    · subst e; rw [if_pos h3]
    · rw [if_neg (by simpa using h4 r (Nat.le_refl _) e)]
      exact findFrom_some (by omega) (by omega) h3 fun s h5 h6 => h4 s (by omega) h6
theorem findP_none {M : Mx} {k m : Nat} (h : ∀ s, k ≤ s → s < m → M s k = 0) : findP M k m = none := findFrom_none fun s h1 h2 => h s h1 (by omega)
theorem findP_some {M : Mx} {k m t : Nat} (h1 : k ≤ t) (h2 : t < m) (h3 : M t k ≠ 0) (h4 : ∀ s, k ≤ s → s < t → M s k = 0) : findP M k m = some t := findFrom_some h1 (by omega) h3 h4
theorem findFrom_is {M : Mx} {c : Nat} : ∀ {n r t : Nat}, findFrom M c r n = some t → r ≤ t ∧ t < r + n ∧ M t c ≠ 0
  | 0, _, _, h => by cases h
  | n + 1, r, t, h => by
    unfold findFrom at h
    split at h
    · injection h with h; subst h; exact ⟨Nat.le_refl _, by omega, by assumption⟩
    · have := findFrom_is h; exact ⟨by omega, by omega, this.2.2⟩
theorem findP_is {M : Mx} {k m t : Nat} (h : findP M k m = some t) : k ≤ t ∧ t < m ∧ M t k ≠ 0 := by
  have := findFrom_is h; exact ⟨this.1, by omega, this.2.2⟩
theorem findFrom_congr {A B : Mx} {c : Nat} (h : ∀ r, A r c = B r c) : ∀ (n r : Nat), findFrom A c r n = findFrom B c r n
  | 0, _ => rfl
  | n + 1, r => by unfold findFrom; rw [h r, findFrom_congr h n]

def updM (M : Mx) (r i : Nat) (q : Rat) : Mx := fun s c => if s = r ∧ c = i then q else M s c
def swapM (M : Mx) (k t : Nat) : Mx := fun r => if r = k then M t else if r = t then M k else M r
def scaleTo (M : Mx) (k i : Nat) (f : Rat) : Mx := fun r c => if r = k ∧ k ≤ c ∧ c < i then M r c / f else M r c
def elimTo (M : Mx) (k s i : Nat) (g : Rat) : Mx := fun r c => if r = s ∧ k ≤ c ∧ c < i then M r c - g * M k c else M r c
def elimAll (M : Mx) (k s m : Nat) : Mx := fun r c => if r ≠ k ∧ r < s ∧ k ≤ c ∧ c ≤ m then M r c - M r k * M k c else M r c
def gjStep (M : Mx) (k m : Nat) : Option Mx := match findP M k m with
  | none => none
  | some t => some (elimAll (scaleTo (swapM M k t) k (m + 1) (swapM M k t k k)) k m m)
def gj (M : Mx) (m : Nat) : Nat → Option Mx
  | 0 => some M
  | k + 1 => match gj M m k with
    | none => none
    | some M' => gjStep M' k m
def augM (m : Nat) (cols : Mx) (b : Nat → Rat) : Mx := fun r c => if c < m then cols c r else b r
def solveQ (m : Nat) (cols : Mx) (b : Nat → Rat) : Option (Nat → Rat) := (gj (augM m cols b) m m).map fun M k => M k m

theorem scaleTo_start (M : Mx) (k : Nat) (f : Rat) : scaleTo M k k f = M := by
  funext r c; unfold scaleTo; rw [if_neg (by omega)]
theorem scaleTo_next {M : Mx} {k i : Nat} {f : Rat} (h : k ≤ i) : updM (scaleTo M k i f) k i (scaleTo M k i f k i / f) = scaleTo M k (i + 1) f := by
  funext r c; unfold updM scaleTo
  by_cases h1 : r = k ∧ c = i
  · obtain ⟨rfl, rfl⟩ := h1
    rw [if_pos ⟨rfl, rfl⟩, if_neg (by omega), if_pos ⟨rfl, h, by omega⟩]
  · rw [if_neg h1]
    by_cases h2 : r = k ∧ k ≤ c ∧ c < i
    · rw [if_pos h2, if_pos ⟨h2.1, h2.2.1, by omega⟩]
    · rw [if_neg h2, if_neg (by omega)]
theorem elimTo_start (M : Mx) (k s : Nat) (g : Rat) : elimTo M k s k g = M := by
  funext r c; unfold elimTo; rw [if_neg (by omega)]
theorem elimTo_row {M : Mx} {k s i : Nat} {g : Rat} (h : s ≠ k) (c : Nat) : elimTo M k s i g k c = M k c := by
  unfold elimTo; rw [if_neg (by omega)]
theorem elimTo_next {M : Mx} {k s i : Nat} {g : Rat} (h : k ≤ i) (hs : s ≠ k) : updM (elimTo M k s i g) s i (elimTo M k s i g s i - g * elimTo M k s i g k i) = elimTo M k s (i + 1) g := by
  funext r c
  rw [elimTo_row hs]
  unfold updM elimTo
  by_cases h1 : r = s ∧ c = i
  · obtain ⟨rfl, rfl⟩ := h1
    rw [if_pos ⟨rfl, rfl⟩, if_neg (by omega), if_pos ⟨rfl, h, by omega⟩]
  · rw [if_neg h1]
    by_cases h2 : r = s ∧ k ≤ c ∧ c < i
    · rw [if_pos h2, if_pos ⟨h2.1, h2.2.1, by omega⟩]
    · rw [if_neg h2, if_neg (by omega)]
theorem elimAll_start (M : Mx) (k m : Nat) : elimAll M k 0 m = M := by
  funext r c; unfold elimAll; rw [if_neg (by omega)]
theorem elimAll_row {M : Mx} {k s m : Nat} (c : Nat) : elimAll M k s m k c = M k c := by
  unfold elimAll; rw [if_neg (by omega)]
theorem elimAll_at {M : Mx} {k s m : Nat} (c : Nat) : elimAll M k s m s c = M s c := by
  unfold elimAll; rw [if_neg (by omega)]
theorem elimAll_skip {M : Mx} {k s m : Nat} (h : s = k ∨ M s k = 0) : elimAll M k s m = elimAll M k (s + 1) m := by
  funext r c
  unfold elimAll
  by_cases h1 : r ≠ k ∧ r < s ∧ k ≤ c ∧ c ≤ m
  · rw [if_pos h1, if_pos ⟨h1.1, by omega, h1.2.2⟩]
  · rw [if_neg h1]
    by_cases h2 : r ≠ k ∧ r < s + 1 ∧ k ≤ c ∧ c ≤ m
    · rw [if_pos h2]
      have : r = s := by omega
      subst this
      rcases h with h | h
      · exact absurd h h2.1
      · rw [h]; grind
    · rw [if_neg h2]
theorem elimAll_next {M : Mx} {k s m : Nat} (hs : s ≠ k) : elimTo (elimAll M k s m) k s (m + 1) (elimAll M k s m s k) = elimAll M k (s + 1) m := by
  funext r c
  unfold elimTo
  rw [elimAll_row, elimAll_at]
  unfold elimAll
  by_cases h1 : r = s ∧ k ≤ c ∧ c < m + 1
  · obtain ⟨rfl, h2, h3⟩ := h1
    rw [if_pos ⟨rfl, h2, h3⟩, if_neg (by omega), if_pos ⟨hs, by omega, h2, by omega⟩]
  · rw [if_neg h1]
    by_cases h2 : r ≠ k ∧ r < s ∧ k ≤ c ∧ c ≤ m
    · rw [if_pos h2, if_pos ⟨h2.1, by omega, h2.2.2⟩]
    · rw [if_neg h2, if_neg (by omega)]

def MB (m n K : Nat) (M : Mx) : Prop := ∀ r c, r < m → c < n → Sz K (M r c)
theorem MB.mono {m n K K' : Nat} {M : Mx} (h : MB m n K M) (hk : K ≤ K') : MB m n K' M := fun r c h1 h2 => (h r c h1 h2).mono hk
theorem MB.swap {m n K : Nat} {M : Mx} (h : MB m n K M) {k t : Nat} (hk : k < m) (ht : t < m) : MB m n K (swapM M k t) := fun r c h1 h2 => by
  unfold swapM; split
  · exact h t c ht h2
  · split
    · exact h k c hk h2
    · exact h r c h1 h2
theorem MB.scale {m n K : Nat} {M : Mx} (h : MB m n K M) {k i : Nat} {f : Rat} (hf : Sz K f) : MB m n (2 * K) (scaleTo M k i f) := fun r c h1 h2 => by
  unfold scaleTo; split
  · exact (Sz_div (h r c h1 h2) hf).mono (by omega)
  · exact (h r c h1 h2).mono (by omega)
theorem scale_other {m n K : Nat} {M : Mx} (h : MB m n K M) {k i : Nat} {f : Rat} {r c : Nat} (hr : r < m) (hc : c < n) (hne : r ≠ k) : Sz K (scaleTo M k i f r c) := by
  unfold scaleTo; rw [if_neg (by omega)]; exact h r c hr hc
theorem scale_any {m n K : Nat} {M : Mx} (h : MB m n K M) {k i : Nat} {f : Rat} (hf : Sz K f) {r c : Nat} (hr : r < m) (hc : c < n) : Sz (2 * K) (scaleTo M k i f r c) := h.scale hf r c hr hc
theorem MB.elim {m n K : Nat} {M : Mx} {k s m' : Nat} (hk : k < m) (h1 : ∀ r c, r < m → c < n → r ≠ k → Sz K (M r c)) (h2 : ∀ c, c < n → Sz (2 * K) (M k c)) (hn : k < n) : MB m n (5 * K) (elimAll M k s m') := fun r c hr hc => by
  unfold elimAll; split
  · rename_i h
    have a := h1 r c hr hc h.1
    have b := h1 r k hr hn h.1
    have := Sz_pos a
    exact (Sz_sub a (Sz_mul b (h2 c hc))).mono (by omega)
  · by_cases e : r = k
    · subst e; exact (h2 c hc).mono (by omega)
    · exact (h1 r c hr hc e).mono (by omega)
theorem gjStep_B {M M' : Mx} {k m K : Nat} (h : MB m (m + 1) K M) (hk : k < m) (e : gjStep M k m = some M') : MB m (m + 1) (5 * K) M' := by
  unfold gjStep at e
  cases hf : findP M k m with
  | none => rw [hf] at e; cases e
  | some t =>
    rw [hf] at e
    injection e with e
    subst e
    obtain ⟨h1, h2, _⟩ := findP_is hf
    have hs := h.swap hk h2
    exact MB.elim hk (fun r c hr hc hne => scale_other hs hr hc hne) (fun c hc => scale_any hs (hs k k hk (by omega)) hk hc) (by omega)
theorem gj_B {M : Mx} {m K : Nat} (h : MB m (m + 1) K M) : ∀ {k : Nat} {M' : Mx}, k ≤ m → gj M m k = some M' → MB m (m + 1) (5 ^ k * K) M'
  | 0, M', _, e => by unfold gj at e; injection e with e; subst e; simpa using h
  | k + 1, M', hk, e => by
    unfold gj at e
    cases hg : gj M m k with
    | none => rw [hg] at e; cases e
    | some N =>
      rw [hg] at e
      have := gjStep_B (gj_B h (by omega) hg) (by omega) e
      exact this.mono (by rw [Nat.pow_succ]; grind)
theorem aug_B {m K : Nat} {cols : Mx} {b : Nat → Rat} (h : ∀ r c, r < m → c < m → Sz K (cols c r)) (hb : ∀ r, r < m → Sz K (b r)) : MB m (m + 1) K (augM m cols b) := fun r c hr hc => by
  unfold augM; split
  · exact h r c hr (by assumption)
  · exact hb r hr
theorem solveQ_B {m K : Nat} {cols : Mx} {b x : Nat → Rat} (h : ∀ r c, r < m → c < m → Sz K (cols c r)) (hb : ∀ r, r < m → Sz K (b r)) (e : solveQ m cols b = some x) : ∀ r, r < m → Sz (5 ^ m * K) (x r) := by
  unfold solveQ at e
  cases hg : gj (augM m cols b) m m with
  | none => rw [hg] at e; cases e
  | some N =>
    rw [hg] at e
    injection e with e
    subst e
    exact fun r hr => gj_B (aug_B h hb) (Nat.le_refl _) hg r m hr (by omega)

def LeftEq (m : Nat) (A B : Mx) : Prop := ∀ r c, c < m → A r c = B r c
theorem LeftEq.step {m k : Nat} {A B : Mx} (h : LeftEq m A B) (hk : k < m) : match gjStep A k m, gjStep B k m with | some A', some B' => LeftEq m A' B' | none, none => True | _, _ => False := by
  unfold gjStep findP
  rw [findFrom_congr (fun r => h r k hk)]
  cases findFrom B k k (m - k) with
  | none => trivial
  | some t =>
    have hs : LeftEq m (swapM A k t) (swapM B k t) := fun r c hc => by
      unfold swapM; split
      · exact h t c hc
      · split
        · exact h k c hc
        · exact h r c hc
    have h2 : LeftEq m (scaleTo (swapM A k t) k (m + 1) (swapM A k t k k)) (scaleTo (swapM B k t) k (m + 1) (swapM B k t k k)) := fun r c hc => by
      unfold scaleTo; rw [hs r c hc, hs k k hk]
    show LeftEq m _ _
    intro r c hc
    unfold elimAll
    rw [h2 r c hc, h2 r k hk, h2 k c hc]
theorem LeftEq.gj {m : Nat} {A B : Mx} (h : LeftEq m A B) : ∀ (k : Nat), k ≤ m → match gj A m k, gj B m k with | some A', some B' => LeftEq m A' B' | none, none => True | _, _ => False
  | 0, _ => h
  | k + 1, hk => by
    have ih := LeftEq.gj h k (by omega)
    unfold Pl.gj
    generalize Pl.gj A m k = X at ih ⊢
    generalize Pl.gj B m k = Y at ih ⊢
    match X, Y, ih with
    | some A', some B', ih => exact ih.step (by omega)
    | none, none, _ => trivial
theorem solveQ_some {m : Nat} {cols : Mx} (b b' : Nat → Rat) : (solveQ m cols b).isSome = (solveQ m cols b').isSome := by
  have h : LeftEq m (augM m cols b) (augM m cols b') := fun r c hc => by unfold augM; rw [if_pos hc, if_pos hc]
  have := h.gj m (Nat.le_refl _)
  unfold solveQ
  generalize Pl.gj (augM m cols b) m m = X at this ⊢
  generalize Pl.gj (augM m cols b') m m = Y at this ⊢
  match X, Y, this with
  | some A', some B', _ => rfl
  | none, none, _ => rfl
end Pl
end Go.Proofs.YtpanffbgihhjnaaGreat

/- Memory: matrices of canonical fractions, as slices of slices. -/
namespace Go.Proofs.YtpanffbgihhjnaaGreat
open Go.RowKit Pl
attribute [local go_sem ↓] Go.wp_at_zero Go.wp_at_succ

def rowV (n : Nat) (G C : Nat → Nat) (r : Nat) : Value := .slice (some ⟨G r, 0, none⟩) n (C r)
def rowsL (m n : Nat) (G C : Nat → Nat) : List Value := (List.range m).map (rowV n G C)
theorem rowsL_get {m n r : Nat} {G C : Nat → Nat} (h : r < m) : (rowsL m n G C)[r]? = some (rowV n G C r) := by simp [rowsL, h]
theorem rowsL_length (m n : Nat) (G C : Nat → Nat) : (rowsL m n G C).length = m := by simp [rowsL]

def MatG (base : Nat) (w : World) (v : Value) (m n : Nat) (M : Mx) (G C : Nat → Nat) : Prop :=
  w.ownsRow base 23 1 v m (rowsL m n G C) ∧ (∀ r, r < m → FrsO base w (rowV n G C r) (canL n (M r))) ∧ ∀ r s, r < m → s < m → G r = G s → r = s
theorem MatG.below {base : Nat} {w w' : World} {v : Value} {m n : Nat} {M : Mx} {G C : Nat → Nat} (h : MatG base w v m n M G C) (hb : Below w.heap.size w w') : MatG base w' v m n M G C :=
  ⟨own_below h.1 hb, fun r hr => (h.2.1 r hr).below hb, h.2.2⟩
theorem MatG.congr {base : Nat} {w : World} {v : Value} {m n : Nat} {M M' : Mx} {G C : Nat → Nat} (h : MatG base w v m n M G C) (e : ∀ r c, r < m → c < n → M r c = M' r c) : MatG base w v m n M' G C :=
  ⟨h.1, fun r hr => by rw [← canL_congr (fun c hc => e r c hr hc)]; exact h.2.1 r hr, h.2.2⟩
theorem MatG.nil (base : Nat) (w : World) (n : Nat) (M : Mx) (G C : Nat → Nat) : MatG base w (.slice none 0 0) 0 n M G C :=
  ⟨World.ownsRow_nil _ _ _ _, fun r hr => absurd hr (by omega), fun r s hr => absurd hr (by omega)⟩
theorem MatG.lt {base : Nat} {w : World} {v : Value} {m n : Nat} {M : Mx} {G C : Nat → Nat} (h : MatG base w v m n M G C) {r : Nat} (hr : r < m) (hn : 0 < n) : base ≤ G r ∧ G r < w.heap.size ∧ n ≤ C r ∧ C r ≤ 9223372036854775807 := by
  obtain ⟨g, c, hv, h1, h2, h3, h4⟩ := (h.2.1 r hr).shape (by rw [canL_length]; exact hn)
  rw [canL_length] at hv h3
  unfold rowV at hv
  injection hv with e1 e2 e3
  injection e1 with e1
  injection e1 with e1
  subst e1 e3
  exact ⟨h1, h2, h3, h4⟩
theorem MatG.outer {base : Nat} {w : World} {v : Value} {m n : Nat} {M : Mx} {G C : Nat → Nat} (h : MatG base w v m n M G C) (hm : 0 < m) :
    ∃ g c, v = .slice (some ⟨g, 0, none⟩) m c ∧ base ≤ g ∧ g < w.heap.size ∧ m ≤ c ∧ c ≤ 9223372036854775807 ∧ ∀ r, r < m → w.cell? ⟨g, r, none⟩ = some (rowV n G C r) ∧ w.frozen? ⟨g, r, none⟩ = false := by
  have h0 := h.1
  rcases h.1.2 with ⟨rfl, e⟩ | ⟨g, cap, cur, rfl, hb, hg, hnc, hcm, hcs, htake⟩
  · omega
  · unfold maxLen at hcm
    exact ⟨g, cap, rfl, hb, lt_heap hg, hnc, by omega, fun r hr => row_cell h0 (rowsL_get hr)⟩
theorem MatG.shape {base : Nat} {w : World} {v : Value} {m n : Nat} {M : Mx} {G C : Nat → Nat} (h : MatG base w v m n M G C) : ∃ A c, v = .slice A m c ∧ m ≤ c ∧ c ≤ 9223372036854775807 := (RowM.of_own h.1).shape
theorem MatG.at_ {base : Nat} {w : World} {v : Value} {m n : Nat} {M : Mx} {G C : Nat → Nat} (h : MatG base w v m n M G C) {r c : Nat} (hr : r < m) (hc : c < n) :
    ∃ A1 n1 c1 A2 n2 c2, (w.cell? ⟨G r, c * 4, none⟩ = some (.bool (canF (M r c)).num.neg) ∧ w.cell? ⟨G r, c * 4 + 1, none⟩ = some (.slice A1 n1 c1) ∧ w.cell? ⟨G r, c * 4 + 2, none⟩ = some (.bool (canF (M r c)).den.neg) ∧ w.cell? ⟨G r, c * 4 + 3, none⟩ = some (.slice A2 n2 c2)) ∧ FracM w (.agg #[.bool (canF (M r c)).num.neg, .slice A1 n1 c1, .bool (canF (M r c)).den.neg, .slice A2 n2 c2]) (canF (M r c)) := by
  obtain ⟨b, off, A1, n1, c1, A2, n2, c2, hA, _, hc4, hm⟩ := (h.2.1 r hr).frs.elem (Below.refl _ _) (canL_get hc)
  injection hA with hA
  injection hA with e1 e2
  subst e1 e2
  simp only [Nat.zero_add] at hc4
  exact ⟨A1, n1, c1, A2, n2, c2, hc4, hm⟩
theorem MatG.frozen {base : Nat} {w : World} {v : Value} {m n : Nat} {M : Mx} {G C : Nat → Nat} (h : MatG base w v m n M G C) {r c : Nat} (hr : r < m) (hc : c < n) :
    w.frozen? ⟨G r, c * 4, none⟩ = false ∧ w.frozen? ⟨G r, c * 4 + 1, none⟩ = false ∧ w.frozen? ⟨G r, c * 4 + 2, none⟩ = false ∧ w.frozen? ⟨G r, c * 4 + 3, none⟩ = false := by
  obtain ⟨_, _, _, _, _, hf, _⟩ := (h.2.1 r hr).at_ (canL_get hc)
  exact hf
theorem others_set4 {w : World} {g i j k l : Nat} {x y z u : Value} : Others (some g) w ((((w.setCell ⟨g, i, none⟩ x).setCell ⟨g, j, none⟩ y).setCell ⟨g, k, none⟩ z).setCell ⟨g, l, none⟩ u) :=
  ((Others.of_set.trans Others.of_set).trans Others.of_set).trans Others.of_set
theorem MatG.set_ {base : Nat} {w : World} {v : Value} {m n : Nat} {M : Mx} {G C : Nat → Nat} (h : MatG base w v m n M G C) {r c : Nat} (hr : r < m) (hc : c < n) {x y z u : Value} {q : Rat} (hf : FracM w (.agg #[x, y, z, u]) (canF q)) :
    MatG base ((((w.setCell ⟨G r, c * 4, none⟩ x).setCell ⟨G r, c * 4 + 1, none⟩ y).setCell ⟨G r, c * 4 + 2, none⟩ z).setCell ⟨G r, c * 4 + 3, none⟩ u) v m n (updM M r c q) G C ∧
    KeepBut 47 w ((((w.setCell ⟨G r, c * 4, none⟩ x).setCell ⟨G r, c * 4 + 1, none⟩ y).setCell ⟨G r, c * 4 + 2, none⟩ z).setCell ⟨G r, c * 4 + 3, none⟩ u) := by
  obtain ⟨hs, hk⟩ := FrsO.set_ (h.2.1 r hr) (k := c) (by rw [canL_length]; exact hc) hf
  rw [canL_set hc] at hs
  refine ⟨⟨hk.own h.1 (by decide), fun s hs' => ?_, h.2.2⟩, hk⟩
  by_cases e : s = r
  · subst e
    have : canL n (updM M s c q s) = canL n (fun i => if i = c then q else M s i) := canL_congr fun i _ => by
      unfold updM
      by_cases e : i = c
      · rw [if_pos ⟨rfl, e⟩, if_pos e]
      · rw [if_neg (by omega), if_neg e]
    rw [this]
    exact hs
  · have : canL n (updM M r c q s) = canL n (M s) := canL_congr fun i _ => by unfold updM; rw [if_neg (by omega)]
    rw [this]
    refine (h.2.1 s hs').others others_set4 (hk.keep (by decide)) fun b hb hne => ?_
    simp [rowV, Value.ownBlock] at hb
    injection hne with hne
    exact e (h.2.2 s r hs' hr (by omega))
theorem MatG.far {base : Nat} {w w' : World} {v : Value} {m n : Nat} {M : Mx} {G C : Nat → Nat} (h : MatG base w v m n M G C) {g : Nat} (ho : Others (some g) w w') (hk : KeepBut 47 w w') (hne : ∀ r, r < m → G r ≠ g) : MatG base w' v m n M G C :=
  ⟨hk.own h.1 (by decide), fun r hr => (h.2.1 r hr).others ho (hk.keep (by decide)) fun b hb e => by
    simp [rowV, Value.ownBlock] at hb
    injection e with e
    exact hne r hr (by omega), h.2.2⟩
theorem MatG.but {base : Nat} {w w' : World} {v : Value} {m n : Nat} {M : Mx} {G C : Nat → Nat} {e : TypeId} (h : MatG base w v m n M G C) (hk : KeepBut e w w') (h1 : 23 ≠ e) (h2 : 47 ≠ e) (h3 : 85 ≠ e) : MatG base w' v m n M G C :=
  ⟨hk.own h.1 h1, fun r hr => (h.2.1 r hr).but hk h2 h3, h.2.2⟩
def swapF (F : Nat → Nat) (k t : Nat) : Nat → Nat := fun r => if r = k then F t else if r = t then F k else F r
theorem MatG.swap {base : Nat} {w : World} {m n : Nat} {M : Mx} {G C : Nat → Nat} {g c : Nat} (h : MatG base w (.slice (some ⟨g, 0, none⟩) m c) m n M G C) {k t : Nat} (hk : k < m) (ht : t < m) :
    MatG base ((w.setCell ⟨g, k, none⟩ (rowV n G C t)).setCell ⟨g, t, none⟩ (rowV n G C k)) (.slice (some ⟨g, 0, none⟩) m c) m n (swapM M k t) (swapF G k t) (swapF C k t) ∧
    KeepBut 23 w ((w.setCell ⟨g, k, none⟩ (rowV n G C t)).setCell ⟨g, t, none⟩ (rowV n G C k)) := by
  have o1 := row_set h.1 k (rowV n G C t) (by rw [rowsL_length]; exact hk)
  have o2 := row_set o1 t (rowV n G C k) (by rw [List.length_set, rowsL_length]; exact ht)
  obtain ⟨_, b0, _⟩ := row_block h.1
  obtain ⟨_, b1, _⟩ := row_block o1
  have kp := (KeepBut.setCell b0 k (rowV n G C t)).trans (KeepBut.setCell b1 t (rowV n G C k))
  have hrow : ∀ r, rowV n (swapF G k t) (swapF C k t) r = if r = k then rowV n G C t else if r = t then rowV n G C k else rowV n G C r := fun r => by
    unfold rowV swapF
    by_cases e : r = k
    · simp only [if_pos e]
    · simp only [if_neg e]
      by_cases e2 : r = t
      · simp only [if_pos e2]
      · simp only [if_neg e2]
  refine ⟨⟨?_, fun r hr => ?_, fun r s hr hs e => ?_⟩, kp⟩
  · have : ((rowsL m n G C).set k (rowV n G C t)).set t (rowV n G C k) = rowsL m n (swapF G k t) (swapF C k t) := by
      apply List.ext_getElem?
      intro i
      rcases Nat.lt_or_ge i m with hi | hi
      · rw [rowsL_get hi, hrow, List.getElem?_set, List.getElem?_set]
        simp only [List.length_set, rowsL_length]
        by_cases e1 : t = i
        · subst e1
          rw [if_pos rfl, if_pos ht]
          by_cases e2 : t = k
          · subst e2; rw [if_pos rfl]
          · rw [if_neg e2, if_pos rfl]
        · rw [if_neg e1]
          by_cases e2 : k = i
          · subst e2; rw [if_pos rfl, if_pos hk, if_pos rfl]
          · rw [if_neg e2, if_neg (fun h => e2 h.symm), if_neg (fun h => e1 h.symm), rowsL_get hi]
      · rw [List.getElem?_eq_none (by simp [rowsL_length]; exact hi), List.getElem?_eq_none (by rw [rowsL_length]; exact hi)]
    rw [← this]
    exact o2
  · rw [hrow]
    unfold swapM
    split
    · exact (h.2.1 t ht).but kp (by decide) (by decide)
    · split
      · exact (h.2.1 k hk).but kp (by decide) (by decide)
      · exact (h.2.1 r hr).but kp (by decide) (by decide)
  · have key : ∀ a, a < m → ∃ a', a' < m ∧ swapF G k t a = G a' ∧ ((a = k ∧ a' = t) ∨ (a ≠ k ∧ a = t ∧ a' = k) ∨ (a ≠ k ∧ a ≠ t ∧ a' = a)) := fun a ha => by
      unfold swapF
      by_cases e1 : a = k
      · exact ⟨t, ht, by rw [if_pos e1], .inl ⟨e1, rfl⟩⟩
      · by_cases e2 : a = t
        · exact ⟨k, hk, by rw [if_neg e1, if_pos e2], .inr (.inl ⟨e1, e2, rfl⟩)⟩
        · exact ⟨a, ha, by rw [if_neg e1, if_neg e2], .inr (.inr ⟨e1, e2, rfl⟩)⟩
    obtain ⟨r', hr', er, cr⟩ := key r hr
    obtain ⟨s', hs', es, cs⟩ := key s hs
    rw [er, es] at e
    have := h.2.2 _ _ hr' hs' e
    omega

theorem MatG.cellAt {base : Nat} {w : World} {m n : Nat} {M : Mx} {G C : Nat → Nat} {g c : Nat} (h : MatG base w (.slice (some ⟨g, 0, none⟩) m c) m n M G C) {r : Nat} (hr : r < m) : w.cell? ⟨g, r, none⟩ = some (rowV n G C r) ∧ w.frozen? ⟨g, r, none⟩ = false := row_cell h.1 (rowsL_get hr)
theorem MatG.swap1 {base : Nat} {w : World} {m n : Nat} {M : Mx} {G C : Nat → Nat} {g c : Nat} (h : MatG base w (.slice (some ⟨g, 0, none⟩) m c) m n M G C) {k t : Nat} {u : Value} (ht : t < m) : ∃ y, (w.setCell ⟨g, k, none⟩ u).cell? ⟨g, t, none⟩ = some y ∧ (w.setCell ⟨g, k, none⟩ u).frozen? ⟨g, t, none⟩ = false := by
  rcases Nat.lt_or_ge k m with hk | hk
  · have o1 := row_set h.1 k u (by rw [rowsL_length]; exact hk)
    obtain ⟨y, hy⟩ : ∃ y, ((rowsL m n G C).set k u)[t]? = some y := ⟨_, List.getElem?_eq_getElem (by rw [List.length_set, rowsL_length]; exact ht)⟩
    exact ⟨y, row_cell o1 hy⟩
  · obtain ⟨cur, b0, _⟩ := row_block h.1
    have hb := heap_setCell_same w g k cur 23 u b0
    obtain ⟨c0, _⟩ := h.cellAt ht
    rw [cell_of_row w g t cur _ _ b0] at c0
    have hlt : t < cur.size := by
      rcases Nat.lt_or_ge t cur.size with h9 | h9
      · exact h9
      · rw [Array.getElem?_eq_none (by omega)] at c0; cases c0
    refine ⟨(cur.setIfInBounds k u)[t]'(by simpa using hlt), ?_, frozen_of_row _ g t _ _ hb⟩
    rw [cell_of_row _ g t _ _ _ hb]
    exact Array.getElem?_eq_getElem (by simpa using hlt)
def ColsM (w : World) (v : Value) (m n : Nat) (M : Mx) : Prop := ∃ vs : Nat → Value, RowM w 23 1 v m ((List.range m).map vs) ∧ ∀ k, k < m → FrsM w (vs k) (canL n (M k))
theorem ColsM.below {w w' : World} {v : Value} {m n : Nat} {M : Mx} (h : ColsM w v m n M) (hb : Below w.heap.size w w') : ColsM w' v m n M := by
  obtain ⟨vs, h1, h2⟩ := h
  exact ⟨vs, h1.below hb, fun k hk => (h2 k hk).below hb⟩
theorem ColsM.shape {w : World} {v : Value} {m n : Nat} {M : Mx} (h : ColsM w v m n M) : ∃ A c, v = .slice A m c ∧ m ≤ c ∧ c ≤ 9223372036854775807 := by
  obtain ⟨vs, h1, h2⟩ := h
  exact h1.shape
theorem ColsM.at_ {w w0 : World} {A : Option Addr} {m n c : Nat} {M : Mx} (h0 : ColsM w0 (.slice A m c) m n M) (hb0 : Below w0.heap.size w0 w) {k : Nat} (hk : k < m) {r : Nat} (hr : r < n) :
    ∃ b off B cB b' off' A1 n1 c1 A2 n2 c2, A = some ⟨b, off, none⟩ ∧ b < w0.heap.size ∧ w.cell? ⟨b, off + k, none⟩ = some (.slice (some ⟨b', off', none⟩) n cB) ∧ n ≤ cB ∧ cB ≤ 9223372036854775807 ∧ B = (some ⟨b', off', none⟩ : Option Addr) ∧
    (w.cell? ⟨b', off' + r * 4, none⟩ = some (.bool (canF (M k r)).num.neg) ∧ w.cell? ⟨b', off' + r * 4 + 1, none⟩ = some (.slice A1 n1 c1) ∧ w.cell? ⟨b', off' + r * 4 + 2, none⟩ = some (.bool (canF (M k r)).den.neg) ∧ w.cell? ⟨b', off' + r * 4 + 3, none⟩ = some (.slice A2 n2 c2)) ∧ FracM w (.agg #[.bool (canF (M k r)).num.neg, .slice A1 n1 c1, .bool (canF (M k r)).den.neg, .slice A2 n2 c2]) (canF (M k r)) := by
  obtain ⟨vs, h1, h2⟩ := h0
  obtain ⟨b, off, hA, hlt, hc⟩ := h1.at_ (by omega)
  obtain ⟨B, cB, hv, hc1, hc2⟩ := (h2 k hk).shape
  rw [canL_length] at hv hc1
  have h3 := h2 k hk
  rw [hv] at h3
  obtain ⟨b', off', A1, n1, c1, A2, n2, c2, hA', _, h4, hm⟩ := h3.elem hb0 (canL_get hr)
  subst hA'
  refine ⟨b, off, _, cB, b', off', A1, n1, c1, A2, n2, c2, hA, hlt, ?_, hc1, hc2, rfl, h4, hm⟩
  have := hc k (vs k) (by simp [hk])
  rw [← hv]
  exact cell_later hb0 this
end Go.Proofs.YtpanffbgihhjnaaGreat

/- Memory: rows appended to a list of rows. Walks: package pairingref25: rows. -/
namespace Go.Proofs.YtpanffbgihhjnaaGreat
open Go.RowKit Pl
attribute [local go_sem ↓] Go.wp_at_zero Go.wp_at_succ

theorem info_rowT : (Tryz.prog.info? 23).map (fun i => (i.zero, i.size, i.bytes)) = some (some (.slice none 0 0), 1, 24) := by kernel_rfl
theorem wpList_append_slice {ops : Array Oper} {rest : List Oper} {o : Oper} {a : Act} {Q : Exit → Act → World → Prop} (hgd : o.guard = none) (s x : Operand)
    (ho : o.op = .call { callee := .builtin .append, args := #[s, x], argTypes := #[92, 92] })
    (W : World) (base : Nat) (v : Value) (m : Nat) (xs : List Value) (hs : a.eval s = v) (hown : W.ownsRow base 23 1 v m xs) (A : Option Addr) (n c : Nat)
    (hx : a.eval x = .slice (some ⟨W.heap.size, 0, none⟩) 1 1) (hn : m + 1 ≤ 1099511627776) (hbase : base ≤ W.heap.size)
    (h : ∀ v' w', w'.ownsRow base 23 1 v' (m + 1) (xs ++ [.slice A n c]) → KeepBut 23 W w' → Below base W w' → wpList Tryz.prog ops Q rest (a.put o.dst v') w') :
    wpList Tryz.prog ops Q (o :: rest) a (W.alloc (.cells #[.slice A n c] 23)) := by
  obtain ⟨i0, hi, hz0, hz1, hz2⟩ := info_parts info_rowT
  exact wpList_append_one hgd s x 92 ho 23 i0 _ 1 24 Tryz.underlying92 hi hz0 hz1 hz2 rfl (by decide) W base v m xs [.slice A n c] hs hown hx rfl (by intro u hu; simp at hu; subst hu; rfl) (by unfold maxLen; omega) (by omega) hbase h
def ColsO (base : Nat) (w : World) (v : Value) (m n : Nat) (M : Mx) : Prop := ∃ vs : Nat → Value, w.ownsRow base 23 1 v m ((List.range m).map vs) ∧ ∀ k, k < m → FrsM w (vs k) (canL n (M k))
theorem ColsO.cols {base : Nat} {w : World} {v : Value} {m n : Nat} {M : Mx} (h : ColsO base w v m n M) : ColsM w v m n M := by
  obtain ⟨vs, h1, h2⟩ := h
  exact ⟨vs, RowM.of_own h1, h2⟩
theorem ColsO.nil (base : Nat) (w : World) (n : Nat) (M : Mx) : ColsO base w (.slice none 0 0) 0 n M := ⟨fun _ => .slice none 0 0, World.ownsRow_nil _ _ _ _, fun k hk => absurd hk (by omega)⟩
theorem ColsO.below {base : Nat} {w w' : World} {v : Value} {m n : Nat} {M : Mx} (h : ColsO base w v m n M) (hb : Below w.heap.size w w') : ColsO base w' v m n M := by
  obtain ⟨vs, h1, h2⟩ := h
  exact ⟨vs, own_below h1 hb, fun k hk => (h2 k hk).below hb⟩
theorem wpList_append_cols {ops : Array Oper} {rest : List Oper} {o : Oper} {a : Act} {Q : Exit → Act → World → Prop} (hgd : o.guard = none) (s x : Operand)
    (ho : o.op = .call { callee := .builtin .append, args := #[s, x], argTypes := #[92, 92] })
    (W : World) (base : Nat) (v : Value) (m n : Nat) (M : Mx) (hs : a.eval s = v) (hown : ColsO base W v m n M) (A : Option Addr) (l c : Nat) (hf : FrsM W (.slice A l c) (canL n (M m)))
    (hx : a.eval x = .slice (some ⟨W.heap.size, 0, none⟩) 1 1) (hn : m + 1 ≤ 1099511627776) (hbase : base ≤ W.heap.size)
    (h : ∀ v' w', ColsO base w' v' (m + 1) n M → KeepBut 23 W w' → Below base W w' → wpList Tryz.prog ops Q rest (a.put o.dst v') w') :
    wpList Tryz.prog ops Q (o :: rest) a (W.alloc (.cells #[.slice A l c] 23)) := by
  obtain ⟨vs, h1, h2⟩ := hown
  refine wpList_append_slice hgd s x ho W base v m _ hs h1 A l c hx hn hbase fun v' w' g1 g2 g3 => h v' w' ⟨fun k => if k = m then .slice A l c else vs k, ?_, fun k hk => ?_⟩ g2 g3
  · rw [List.range_succ, List.map_append]
    have : (List.range m).map (fun k => if k = m then Value.slice A l c else vs k) = (List.range m).map vs := List.map_congr_left fun k hk => by
      have : k < m := List.mem_range.1 hk
      rw [if_neg (by omega)]
    rw [this]
    simpa using g1
  · by_cases e : k = m
    · subst e; simp only [if_true]; exact hf.but g2 (by decide) (by decide)
    · simp only [if_neg e]; exact (h2 k (by omega)).but g2 (by decide) (by decide)
theorem seq_append_cols {ops : Array Oper} {Q : Exit → Act → World → Prop} {S : World → Prop} {q : Nat} {i : Nat} {is : List Nat} {o : Oper} {a : Act} (hoi : ops[i]? = some o) (hfl : floatI ops q i = false) (hgd : o.guard = none) (hl0 : q ≤ i) (s x : Operand)
    (ho : o.op = .call { callee := .builtin .append, args := #[s, x], argTypes := #[92, 92] })
    (W : World) (base : Nat) (v : Value) (m n : Nat) (M : Mx) (hs : a.eval s = v) (hown : ColsO base W v m n M) (A : Option Addr) (l c : Nat) (hf : FrsM W (.slice A l c) (canL n (M m)))
    (hx : a.eval x = .slice (some ⟨W.heap.size, 0, none⟩) 1 1) (hn : m + 1 ≤ 1099511627776) (hbase : base ≤ W.heap.size)
    (h : ∀ v' w', ColsO base w' v' (m + 1) n M → KeepBut 23 W w' → Below base W w' → wpSeq Tryz.prog ops Q S q is (a.put o.dst v') w') :
    wpSeq Tryz.prog ops Q S q (i :: is) a (W.alloc (.cells #[.slice A l c] 23)) := by
  obtain ⟨vs, h1, h2⟩ := hown
  obtain ⟨i0, hi, hz0, hz1, hz2⟩ := info_parts info_rowT
  refine seq_append_one hoi hfl hgd hl0 s x 92 ho 23 i0 _ 1 24 Tryz.underlying92 hi hz0 hz1 hz2 rfl (by decide) W base v m _ [.slice A l c] hs h1 hx rfl (by intro u hu; simp at hu; subst hu; rfl) (by unfold maxLen; omega) (by omega) hbase fun v' w' g1 g2 g3 => h v' w' ⟨fun k => if k = m then .slice A l c else vs k, ?_, fun k hk => ?_⟩ g2 g3
  · rw [List.range_succ, List.map_append]
    have : (List.range m).map (fun k => if k = m then Value.slice A l c else vs k) = (List.range m).map vs := List.map_congr_left fun k hk => by
      have : k < m := List.mem_range.1 hk
      rw [if_neg (by omega)]
    rw [this]
    simpa using g1
  · by_cases e : k = m
    · subst e; simp only [if_true]; exact hf.but g2 (by decide) (by decide)
    · simp only [if_neg e]; exact (h2 k (by omega)).but g2 (by decide) (by decide)
theorem wpList_append_mat {ops : Array Oper} {rest : List Oper} {o : Oper} {a : Act} {Q : Exit → Act → World → Prop} (hgd : o.guard = none) (s x : Operand)
    (ho : o.op = .call { callee := .builtin .append, args := #[s, x], argTypes := #[92, 92] })
    (W : World) (base : Nat) (v : Value) (m n : Nat) (M : Mx) (G C : Nat → Nat) (hs : a.eval s = v) (hown : MatG base W v m n M G C) (g c : Nat) (hf : FrsO base W (.slice (some ⟨g, 0, none⟩) n c) (canL n (M m))) (hne : ∀ r, r < m → G r ≠ g)
    (hx : a.eval x = .slice (some ⟨W.heap.size, 0, none⟩) 1 1) (hn : m + 1 ≤ 1099511627776) (hbase : base ≤ W.heap.size)
    (h : ∀ v' w', MatG base w' v' (m + 1) n M (fun r => if r = m then g else G r) (fun r => if r = m then c else C r) → KeepBut 23 W w' → Below base W w' → wpList Tryz.prog ops Q rest (a.put o.dst v') w') :
    wpList Tryz.prog ops Q (o :: rest) a (W.alloc (.cells #[.slice (some ⟨g, 0, none⟩) n c] 23)) := by
  obtain ⟨h1, h2, h3⟩ := hown
  have hrow : ∀ r, rowV n (fun r => if r = m then g else G r) (fun r => if r = m then c else C r) r = if r = m then .slice (some ⟨g, 0, none⟩) n c else rowV n G C r := fun r => by
    unfold rowV
    by_cases e : r = m
    · simp only [if_pos e]
    · simp only [if_neg e]
  refine wpList_append_slice hgd s x ho W base v m _ hs h1 _ n c hx hn hbase fun v' w' g1 g2 g3 => h v' w' ⟨?_, fun r hr => ?_, fun r t hr ht e => ?_⟩ g2 g3
  · have : rowsL (m + 1) n (fun r => if r = m then g else G r) (fun r => if r = m then c else C r) = rowsL m n G C ++ [.slice (some ⟨g, 0, none⟩) n c] := by
      unfold rowsL
      rw [List.range_succ, List.map_append]
      have e1 : (List.range m).map (rowV n (fun r => if r = m then g else G r) (fun r => if r = m then c else C r)) = (List.range m).map (rowV n G C) := List.map_congr_left fun k hk => by
        have : k < m := List.mem_range.1 hk
        rw [hrow, if_neg (by omega)]
      rw [e1, List.map_cons, hrow, if_pos rfl, List.map_nil]
    rw [this]
    exact g1
  · rw [hrow]
    split
    · rename_i e; subst e; exact hf.but g2 (by decide) (by decide)
    · exact (h2 r (by omega)).but g2 (by decide) (by decide)
  · by_cases e1 : r = m <;> by_cases e2 : t = m
    · omega
    · simp only [if_pos e1, if_neg e2] at e; exact absurd e.symm (hne t (by omega))
    · simp only [if_neg e1, if_pos e2] at e; exact absurd e (hne r (by omega))
    · simp only [if_neg e1, if_neg e2] at e; exact h3 r t (by omega) (by omega) e

set_option maxRecDepth 100000 in
set_option maxHeartbeats 2000000 in
theorem rrows_own (v : Value) (m : Nat) (M : Mx) (w : World) (h : ColsM w v m m M) (hm : m ≤ 1000) :
    Calls Tryz.prog 65 #[v] w fun e w' => ∃ v', e = .returned v' ∧ ColsM w' v' m m (fun r k => M k r) ∧ Below w.heap.size w w' := by
  obtain ⟨A, c, rfl, hc1, hc2⟩ := h.shape
  go_enter Tryz.func65, Tryz.ntmps65
  go_wp2
  go_loopw [3, 4] (fun s i wr => ∃ r : Nat, r ≤ m ∧ i = .int .i64 r ∧ ColsO w.heap.size wr s r m (fun r k => M k r) ∧ Below w.heap.size w wr) (fun _ i _ => m - (intOf i).toNat)
  case atStart => exact ⟨0, by omega, rfl, ColsO.nil _ _ _ _, Below.refl _ _⟩
  case round =>
    obtain ⟨r, hr, rfl, hO, hbe⟩ := hrel
    obtain ⟨wO, rfl⟩ : ∃ x, x = wr := ⟨_, rfl⟩
    rcases Nat.lt_or_ge r m with hrm | hrm
    · go_wp2
      go_loopw [5, 6] (fun s i wx => ∃ k : Nat, k ≤ m ∧ i = .int .i64 k ∧ FrsO wO.heap.size wx s (canL k fun k => M k r) ∧ Below wO.heap.size wO wx) (fun _ i _ => m - (intOf i).toNat)
      case atStart => exact ⟨0, by omega, rfl, FrsO.nil _ _, Below.refl _ _⟩
      case round =>
        obtain ⟨k, hk, rfl, hF, hbx⟩ := hrel
        have hbs := hbx.size
        rcases Nat.lt_or_ge k m with hkm | hkm
        · obtain ⟨b, off, B, cB, b', off', A1, n1, c1, A2, n2, c2, rfl, hlt, hcell, hcB1, hcB2, _, ⟨q0, q1, q2, q3⟩, hmf⟩ := h.at_ (below_then hbe hbx hbe.size) hkm hrm
          have HF := Lib.hid hF
          have HMF := Lib.hid hmf
          have hlen : (canL k fun k => M k r).length + 1 ≤ 1099511627776 := by rw [canL_length]; omega
          have hkI : (k : Int) < m := by omega
          have hrI : (r : Int) < m := by omega
          clear hF hmf
          go_wp2_with (at_builtin; refine wpList_append_frac rfl (.tmp 19) (.tmp 27) rfl wr wO.heap.size u5 (canL k fun k => M k r) rfl HF.out _ _ A1 A2 n1 c1 n2 c2 (canF (M k r)) HMF.out rfl hlen hbs ?_)
          intro v' w4 hown4 hk4 hb4
          rw [canL_succ k fun k => M k r] at hown4
          go_wp2
          go_roundw
          case rel => exact ⟨k + 1, by omega, by go_num, hown4, hbx.trans hb4⟩
          case measure => simp [intOf]; omega
        · obtain rfl : k = m := by omega
          have HO := Lib.hid (hO.below hbx)
          have hF2 := hF.frs
          obtain ⟨B, cB, rfl, hcB1, hcB2⟩ := hF2.shape
          have HF := Lib.hid hF2
          have hbe2 := below_then hbe hbx hbe.size
          have hbs2 := hbe2.size
          clear hO hF hF2
          go_wp2_with (at_builtin; refine wpList_append_cols rfl (.tmp 29) (.tmp 31) rfl wr w.heap.size u3 r k (fun r k => M k r) rfl HO.out B _ cB HF.out rfl (by omega) hbs2 ?_)
          intro v' w4 hown4 hk4 hb4
          go_wp2
          go_roundw
          case rel => exact ⟨r + 1, by omega, by go_num, hown4, hbe2.trans hb4⟩
          case measure => simp [intOf]; omega
    · obtain rfl : r = m := by omega
      go_wp2
      go_ret
      exact ⟨_, rfl, hO.cols, hbe⟩
end Go.Proofs.YtpanffbgihhjnaaGreat

/- Walks: package pairingref25: Column (of an artificial column). -/
namespace Go.Proofs.YtpanffbgihhjnaaGreat
open Go.RowKit Pl
attribute [local go_sem ↓] Go.wp_at_zero Go.wp_at_succ

set_option maxRecDepth 100000 in
set_option maxHeartbeats 4000000 in
theorem rcolumn_neg (v : Value) (p : LPd) (K r : Nat) (w : World) (h : LpM w v p) (ok : p.Ok K) (hK : K ≤ 34359738368) (hr : r < p.right.length) (hm : p.right.length ≤ 64) :
    Calls Tryz.prog 43 #[v, .int .i64 (-1 - (r : Int))] w fun e w' => ∃ v', e = .returned v' ∧ FrsO w.heap.size w' v' (canL p.right.length (p.col (-1 - (r : Int)))) ∧ Below w.heap.size w w' := by
  obtain ⟨A, n, c, A', n', c', A'', n'', c'', rfl, hc, hv, hri⟩ := id h
  obtain ⟨W, hW, hX, hbe⟩ := box_lp w (.slice A n c) (.slice A' n' c') (.slice A'' n'' c'')
  obtain ⟨x0, x1, x2⟩ := hX.three
  obtain ⟨r1, r2, r3⟩ := hri.len
  obtain ⟨f, hf⟩ := get_some (fs := p.right) (i := r) hr
  have hsf := (ok.2.1 r f hf).sh hK
  have HQ := Lib.hid (qAt_some hf)
  have HCN : Hid (p.col (-1 - (r : Int)) = fun i => if i = r then (if qs (qAt p.right i) < 0 then -1 else 1) else 0) := Lib.hid LPd.col_neg
  have HF := Lib.hid hf
  rw [← r1]
  have hrn : r < n'' := by omega
  have hrI : (r : Int) < n'' := by omega
  have hn64 : n'' ≤ 64 := by omega
  generalize hj : -1 - (r : Int) = j at *
  have hj0 : j < 0 := by omega
  have hjr : -1 - j = (r : Int) := by omega
  clear hf hm r1 hr ok hc hv h hj
  go_enter Tryz.func43, Tryz.ntmps43
  go_wp2_with fail
  clear hW
  refine (zeros_own n'' _ (by omega)).mono ?_
  rw [canL_zero]
  rintro _ w1 ⟨v1, rfl, e1, hb1⟩
  obtain ⟨g, cg, rfl, hg1, hg2, hg3, hg4⟩ := e1.shape (by rw [canL_length]; omega)
  rw [canL_length] at e1 hg3 ⊢
  go_wp2_with fail
  refine (rint_own 1 _ (by omega) (by omega)).mono ?_
  rw [show ((1 : Int) : Rat) = 1 from rfl]
  rintro _ w2 ⟨v2, rfl, e2, hb2⟩
  have hO2 := e1.below hb2
  have hF2 := e2.frac
  generalize h1q : canF 1 = q1 at *
  obtain ⟨E, l9, k9, E', l9', k9', rfl, _, _⟩ := id hF2
  obtain ⟨_, _, _, _, ⟨c0', c1', c2', c3'⟩, ⟨f0, f1, f2, f3⟩, _⟩ := hO2.at_ (canL_get hrn)
  go_upto_region 6 with (fail)
  obtain ⟨hO3, hk3⟩ := hO2.set_ (k := r) (by rw [canL_length]; exact hrn) hF2
  rw [← h1q, canL_set hrn, h1q] at hO3
  have hb12 := below_then hb1 hb2 hb1.size
  have hb3 := below_set4' (below_then hbe hb12 hbe.size) (show w.heap.size ≤ g by have := hbe.size; omega) (r * 4) (r * 4 + 1) (r * 4 + 2) (r * 4 + 3) (.bool q1.num.neg) (.slice E l9 k9) (.bool q1.den.neg) (.slice E' l9' k9')
  have hX3 := hk3.bk ((hX.later hb1).later hb2) (by decide)
  clear c0' c1' c2' c3' f0 f1 f2 f3 hk3 hO2 e1 hb1 hb2 hb12 e2 hF2 x0 x1 x2 hX h1q
  generalize (((w2.setCell ⟨g, r * 4, none⟩ (.bool q1.num.neg)).setCell ⟨g, r * 4 + 1, none⟩ (.slice E l9 k9)).setCell ⟨g, r * 4 + 2, none⟩ (.bool q1.den.neg)).setCell ⟨g, r * 4 + 3, none⟩ (.slice E' l9' k9') = W3 at *
  obtain ⟨x0, x1, x2⟩ := hX3.three
  obtain ⟨b, off, B1, n1, k1, B2, n2, k2, rfl, hlt, ⟨q0', q1', q2', q3'⟩, hmf⟩ := hri.elem hb3 HF.out
  go_wp2_with fail
  refine (rsignF_any _ f _ hmf hsf).mono ?_
  rintro _ w4 ⟨rfl, hb4⟩
  have hO4 := hO3.below hb4
  have hb5 := below_then hb3 hb4 hb3.size
  clear q0' q1' q2' q3' hmf x0 x1 x2 hX3 hO3 hb3 hb4
  by_cases hq : qs f.q < 0
  · have HC : Hid (∀ i, i < n'' → (if i = r then (-1 : Rat) else if i = r then 1 else 0) = p.col j i) := Lib.hid fun i _ => by
      rw [HCN.out]
      by_cases e : i = r
      · simp only [if_pos e]; rw [e, HQ.out, if_pos hq]
      · simp only [if_neg e]
    go_wp2_with fail
    refine (rint_own (-1) _ (by omega) (by omega)).mono ?_
    rw [show ((-1 : Int) : Rat) = -1 from rfl]
    rintro _ w6 ⟨v6, rfl, e6, hb6⟩
    have hO6 := hO4.below hb6
    have hF6 := e6.frac
    generalize h6q : canF (-1) = q6 at *
    obtain ⟨E6, l6, k6, E6', l6', k6', rfl, _, _⟩ := id hF6
    obtain ⟨_, _, _, _, ⟨c0', c1', c2', c3'⟩, ⟨f0, f1, f2, f3⟩, _⟩ := hO6.at_ (canL_get hrn)
    go_wp2
    obtain ⟨hO7, hk7⟩ := hO6.set_ (k := r) (by rw [canL_length]; exact hrn) hF6
    rw [← h6q, canL_set hrn, h6q, canL_congr HC.out] at hO7
    have hb7 := below_set4' (below_then hb5 hb6 hb5.size) (show w.heap.size ≤ g by have := hbe.size; omega) (r * 4) (r * 4 + 1) (r * 4 + 2) (r * 4 + 3) (.bool q6.num.neg) (.slice E6 l6 k6) (.bool q6.den.neg) (.slice E6' l6' k6')
    go_ret
    obtain ⟨cs, ho, hf⟩ := hO7
    exact ⟨_, rfl, ⟨cs, row_mono ho hbe.size, hf⟩, hb7⟩
  · have HC : Hid (∀ i, i < n'' → (if i = r then (1 : Rat) else 0) = p.col j i) := Lib.hid fun i _ => by
      rw [HCN.out]
      by_cases e : i = r
      · simp only [if_pos e]; rw [e, HQ.out, if_neg hq]
      · simp only [if_neg e]
    go_wp2
    go_ret
    rw [canL_congr HC.out] at hO4
    obtain ⟨cs, ho, hf⟩ := hO4
    exact ⟨_, rfl, ⟨cs, row_mono ho hbe.size, hf⟩, hb5⟩
theorem rcolumn_any (v : Value) (p : LPd) (K : Nat) (j : Int) (w : World) (h : LpM w v p) (ok : p.Ok K) (hK : K ≤ 34359738368) (hin : p.In) (hj0 : -(p.right.length : Int) ≤ j) (hj1 : j < p.cols.length) (hm : p.right.length ≤ 64) :
    Calls Tryz.prog 43 #[v, .int .i64 j] w fun e w' => ∃ v', e = .returned v' ∧ FrsO w.heap.size w' v' (canL p.right.length (p.col j)) ∧ Below w.heap.size w w' := by
  rcases Int.lt_or_le j 0 with h0 | h0
  · obtain ⟨r, rfl⟩ : ∃ r : Nat, j = -1 - (r : Int) := ⟨(-1 - j).toNat, by omega⟩
    exact rcolumn_neg v p K r w h ok hK (by omega) hm
  · obtain ⟨r, rfl⟩ := Int.eq_ofNat_of_zero_le h0
    exact rcolumn_pos v p K r w h ok hK hin (by omega) hm

namespace Pl
structure LSt where
  phase : Int
  basis : List Int
  pivots : Int
def LSt.In (p : LPd) (s : LSt) : Prop := ∀ (i : Nat) (z : Int), s.basis[i]? = some z → -(p.right.length : Int) ≤ z ∧ z < p.cols.length
def LSt.at_ (s : LSt) (i : Nat) : Int := s.basis.getD i 0
def LSt.mat (p : LPd) (s : LSt) : Mx := fun i => p.col (s.at_ i)
theorem LSt.at_eq {s : LSt} {i : Nat} {z : Int} (h : s.basis[i]? = some z) : s.at_ i = z := by simp [LSt.at_, List.getD, h]
end Pl
def StM (w : World) (v : Value) (s : LSt) : Prop := ∃ A n c, v = .agg #[.int .i64 s.phase, .slice A n c, .int .i64 s.pivots] ∧ IntsM w (.slice A n c) s.basis
theorem StM.below {w w' : World} {v : Value} {s : LSt} (h : StM w v s) (hb : Below w.heap.size w w') : StM w' v s := by
  obtain ⟨A, n, c, h1, h2⟩ := h
  exact ⟨A, n, c, h1, h2.below hb⟩
theorem box_st (w : World) (x y z : Value) : ∃ W, w.alloc (.cells #[x, y, z] 34) = W ∧ Bk W w.heap.size 34 [x, y, z] ∧ Below w.heap.size w W := ⟨_, rfl, Bk.new w _ [x, y, z], below_new w _⟩
theorem IntsM.len {w : World} {A : Option Addr} {n c : Nat} {zs : List Int} (h : IntsM w (.slice A n c) zs) : n = zs.length ∧ n ≤ c ∧ c ≤ 9223372036854775807 := by
  obtain ⟨a, cap, h1, h2, h3⟩ := h.shape
  injection h1 with e1 e2 e3
  subst e2 e3
  exact ⟨rfl, h2, h3⟩

set_option maxRecDepth 100000 in
set_option maxHeartbeats 4000000 in
theorem rmatrix_own (v1 v2 : Value) (p : LPd) (s : LSt) (K : Nat) (w : World) (h : LpM w v1 p) (h2 : StM w v2 s) (ok : p.Ok K) (hK : K ≤ 34359738368) (hin : p.In) (hs : s.In p) (hm : p.right.length ≤ 64) (hl : s.basis.length ≤ 1000) :
    Calls Tryz.prog 63 #[v1, v2] w fun e w' => ∃ v', e = .returned v' ∧ ColsM w' v' s.basis.length p.right.length (s.mat p) ∧ Below w.heap.size w w' := by
  obtain ⟨A, n, c, A', n', c', A'', n'', c'', rfl, hc, hv, hr⟩ := id h
  obtain ⟨Ab, nb, cb, rfl, hI⟩ := id h2
  obtain ⟨W, hW, hX0, hbe0⟩ := box_lp w (.slice A n c) (.slice A' n' c') (.slice A'' n'' c'')
  obtain ⟨W1, hW1, hS0, hbe1⟩ := box_st W (.int .i64 s.phase) (.slice Ab nb cb) (.int .i64 s.pivots)
  have hX := hX0.later hbe1
  have hbe := below_then hbe0 hbe1 hbe0.size
  obtain ⟨b1, b2, b3⟩ := hI.len
  have hsz : W.heap.size = w.heap.size + 1 := by rw [← hW]; simp
  rw [hsz] at hS0
  have HLP := Lib.hid h
  have HOK := Lib.hid ok
  have HIN := Lib.hid hin
  have HSI := Lib.hid hs
  have HNB := Lib.hid b1
  rw [← b1]
  have hnb : nb ≤ 1000 := by omega
  have HI := Lib.hid hI
  obtain ⟨x0, x1, x2⟩ := hX.three
  obtain ⟨y0, y1, y2⟩ := hS0.three
  clear h h2 ok hin hs hc hv hr b1 hl hI hX0 hbe0 hbe1
  go_enter Tryz.func63, Tryz.ntmps63
  go_wp2
  clear hW hW1 x0 x1 x2 y0 y1 y2
  go_loopw [5, 6] (fun u i wr => ∃ k : Nat, k ≤ nb ∧ i = .int .i64 k ∧ Below w.heap.size w wr ∧ Bk wr w.heap.size 26 [.slice A n c, .slice A' n' c', .slice A'' n'' c''] ∧ Bk wr (w.heap.size + 1) 34 [.int .i64 s.phase, .slice Ab nb cb, .int .i64 s.pivots] ∧ ColsO w.heap.size wr u k p.right.length (s.mat p)) (fun _ i _ => nb - (intOf i).toNat)
  case atStart => exact ⟨0, by omega, rfl, hbe, hX, hS0, ColsO.nil _ _ _ _⟩
  case round =>
    clear hbe hX hS0
    obtain ⟨k, hk, rfl, hbe, hX, hS, hO⟩ := hrel
    obtain ⟨x0, x1, x2⟩ := hX.three
    obtain ⟨y0, y1, y2⟩ := hS.three
    rcases Nat.lt_or_ge k nb with hkl | hkl
    · obtain ⟨bb, bo, z, rfl, hz, hget, z0, z1⟩ := (HI.out.below hbe).at_ hkl
      have HZ : Hid (s.mat p k = p.col z) := Lib.hid (by unfold LSt.mat; rw [LSt.at_eq hget])
      obtain ⟨i0, i1⟩ := HSI.out k z hget
      have hkI : (k : Int) < nb := by omega
      clear hget
      go_wp2_with fail
      have C0 := stab x0
      have C1 := stab x1
      have C2 := stab x2
      have D1 := stab y1
      have E1 := stab hz
      have hS0 := below_drew' wr
      clear x0 x1 x2 y0 y1 y2 hz
      refine region_seq 8 [0, 1, 2, 3, 4, 5, 6, 7, 8, 9, 10] (by kernel_rfl) (by kernel_rfl) ?_
      repeat ((first | (refine seq_takeP (v := ?_) rfl rfl rfl ?_ ?_; rotate_left; (· (intro _ hSw; go_simp; (try go_bits); (try with_reducible rfl)))) | (refine seq_take (v := ?_) rfl rfl rfl ?_ ?_; rotate_left; (· (intro _ hSw; go_simp; (try go_bits); (try with_reducible rfl)))) | refine seq_skip rfl rfl rfl ?_); (try simp only [Act.put, pu1, pu2, pu3, pu4, pu5, pu6]))
      refine seq_step rfl rfl (fun KR hKR => ?_)
      go_simp
      with_reducible refine (rcolumn_any _ p K z _ ((HLP.out.below hbe).below hS0) HOK.out hK HIN.out i0 i1 hm).mono ?_
      rw [← HZ.out]
      rintro _ w5 ⟨v5, rfl, e5, hb5⟩
      have hS5 := below_then hS0 hb5 hS0.size
      obtain ⟨Ae, ce, rfl, _, _⟩ := e5.frs.shape
      have HF := Lib.hid e5.frs
      have HO := Lib.hid (hO.below hS5)
      have hbs : w.heap.size ≤ w5.heap.size := by have := hbe.size; have := hS5.size; omega
      clear e5
      refine hKR.out _ _ (Or.inr hS5) ?_
      clear hKR KR
      (try simp only [Act.put, pu1, pu2, pu3, pu4, pu5, pu6])
      refine seq_step rfl rfl (fun KR hKR => ?_)
      go_simp
      refine hKR.out _ _ (Or.inl (by decide)) ?_
      clear hKR KR
      (try simp only [Act.put, pu1, pu2, pu3, pu4, pu5, pu6])
      refine seq_append_cols rfl rfl rfl (by decide) (.tmp 14) (.tmp 22) rfl w5 w.heap.size u5 k p.right.length (s.mat p) rfl HO.out Ae _ ce HF.out rfl (by omega) hbs ?_
      intro v' w6 hown6 hk6 hb6
      (try simp only [Act.put, pu1, pu2, pu3, pu4, pu5, pu6])
      refine seq_step rfl rfl (fun KR hKR => ?_)
      go_simp
      refine hKR.out _ _ (Or.inl (by decide)) ?_
      clear hKR KR
      (try simp only [Act.put, pu1, pu2, pu3, pu4, pu5, pu6])
      refine seq_done ?_
      have hX6 := hk6.bk (hX.later hS5) (by decide)
      have hT6 := hk6.bk (hS.later hS5) (by decide)
      have hbe6 := (below_then hbe hS5 hbe.size).trans hb6
      clear C0 C1 C2 D1 E1 hX hS hbe hS0 hS5 hb5 hO HO HF hk6 hb6
      go_wp2
      go_roundw
      case rel => exact ⟨k + 1, by omega, by go_num, hbe6, hX6, hT6, hown6⟩
      case measure => simp [intOf]; omega
    · obtain rfl : k = nb := by omega
      go_wp2
      go_ret
      exact ⟨_, rfl, hO.cols, hbe⟩
end Go.Proofs.YtpanffbgihhjnaaGreat

/- Walks: package pairingref25: Solve. -/
namespace Go.Proofs.YtpanffbgihhjnaaGreat
open Go.RowKit Pl
attribute [local go_sem ↓] Go.wp_at_zero Go.wp_at_succ

namespace Pl
def solF (m : Nat) (cols : Mx) (b : Nat → Rat) : List RF := match solveQ m cols b with | some x => canL m x | none => []
theorem solF_some {m : Nat} {cols : Mx} {b x : Nat → Rat} (h : solveQ m cols b = some x) : solF m cols b = canL m x := by unfold solF; rw [h]
theorem solF_none {m : Nat} {cols : Mx} {b : Nat → Rat} (h : solveQ m cols b = none) : solF m cols b = [] := by unfold solF; rw [h]
theorem gj_fail {M : Mx} {m k : Nat} (h : gj M m k = none) : ∀ d, gj M m (k + d) = none
  | 0 => h
  | d + 1 => by rw [← Nat.add_assoc]; unfold gj; rw [gj_fail h d]
theorem solveQ_fail {m k : Nat} {cols : Mx} {b : Nat → Rat} {M : Mx} (hk : k < m) (h : gj (augM m cols b) m k = some M) (hf : findP M k m = none) : solveQ m cols b = none := by
  have h1 : gj (augM m cols b) m (k + 1) = none := by unfold gj; rw [h]; show gjStep M k m = none; unfold gjStep; rw [hf]
  have h2 := gj_fail h1 (m - (k + 1))
  rw [show k + 1 + (m - (k + 1)) = m by omega] at h2
  unfold solveQ; rw [h2]; rfl
theorem solveQ_done {m : Nat} {cols : Mx} {b : Nat → Rat} {M : Mx} (h : gj (augM m cols b) m m = some M) : solveQ m cols b = some fun k => M k m := by unfold solveQ; rw [h]; rfl
theorem gj_next {m k t : Nat} {A M : Mx} (h : gj A m k = some M) (hf : findP M k m = some t) : gj A m (k + 1) = some (elimAll (scaleTo (swapM M k t) k (m + 1) (swapM M k t k k)) k m m) := by
  unfold gj; rw [h]; show gjStep M k m = _; unfold gjStep; rw [hf]
theorem pow5_le {k m K : Nat} (h : k < m) : 5 * (5 ^ k * K) ≤ 5 ^ m * K := by
  have h1 : 5 ^ (k + 1) ≤ 5 ^ m := Nat.pow_le_pow_right (by decide) h
  have h2 := Nat.mul_le_mul_right K h1
  rw [Nat.pow_succ] at h2
  grind
end Pl

set_option maxRecDepth 100000 in
set_option maxHeartbeats 16000000 in
theorem rsolve_own (v1 v2 : Value) (m : Nat) (cols : Mx) (rs : List RF) (K : Nat) (w : World) (h1 : ColsM w v1 m m cols) (h2 : FrsM w v2 rs) (hl : rs.length = m) (hc : ∀ r c, r < m → c < m → Sz K (cols c r)) (hr : RsL K rs) (hK : 1 ≤ K) (hs : 5 ^ m * K ≤ 8589934592) (hm : m ≤ 1000) :
    Calls Tryz.prog 62 #[v1, v2] w fun e w' => ∃ v', e = .returned (.tuple #[v', .bool (solveQ m cols (qAt rs)).isSome]) ∧ FrsO w.heap.size w' v' (solF m cols (qAt rs)) ∧ Below w.heap.size w w' := by
  obtain ⟨A, c, rfl, hc1, hc2⟩ := h1.shape
  obtain ⟨Ar, cr, rfl, hr1, hr2⟩ := h2.shape
  rw [hl] at hr1 h2 ⊢
  have HAB : Hid (MB m (m + 1) K (augM m cols (qAt rs))) := Lib.hid (aug_B hc fun r _ => hr.qAt hK r)
  have HRS := Lib.hid hr
  have HL := Lib.hid hl
  have HS := Lib.hid hs
  have HKB : Hid (K ≤ 8589934592) := Lib.hid (by have := Nat.mul_le_mul_right K (Nat.pow_le_pow_right (show 0 < 5 by decide) (Nat.zero_le m)); simp at this; omega)
  have H1 := Lib.hid h1
  have H2 := Lib.hid h2
  clear hc hr hl hs h1 h2
  generalize hb : qAt rs = b at *
  have HB := Lib.hid hb
  clear hb
  go_enter Tryz.func62, Tryz.ntmps62
  go_wp2
  go_loopw [7, 8] (fun s i wr => ∃ (r : Nat) (G C : Nat → Nat), r ≤ m ∧ i = .int .i64 r ∧ Below w.heap.size w wr ∧ MatG w.heap.size wr s r (m + 1) (augM m cols b) G C) (fun _ i _ => m - (intOf i).toNat)
  case atStart => exact ⟨0, fun _ => 0, fun _ => 0, by omega, rfl, Below.refl _ _, MatG.nil _ _ _ _ _ _⟩
  case round =>
    obtain ⟨r, G, C, hr, rfl, hbe, hM⟩ := hrel
    obtain ⟨wO, rfl⟩ : ∃ x, x = wr := ⟨_, rfl⟩
    rcases Nat.lt_or_ge r m with hrm | hrm
    · go_wp2
      go_loopw [9, 10] (fun s i wx => ∃ k : Nat, k ≤ m ∧ i = .int .i64 k ∧ FrsO wO.heap.size wx s (canL k (augM m cols b r)) ∧ Below wO.heap.size wO wx) (fun _ i _ => m - (intOf i).toNat)
      case atStart => exact ⟨0, by omega, rfl, FrsO.nil _ _, Below.refl _ _⟩
      case round =>
        obtain ⟨k, hk, rfl, hF, hbx⟩ := hrel
        have hbs := hbx.size
        rcases Nat.lt_or_ge k m with hkm | hkm
        · obtain ⟨bb, off, B, cB, b', off', A1, n1, c1, A2, n2, c2, rfl, hlt, hcell, hcB1, hcB2, _, ⟨q0, q1, q2, q3⟩, hmf⟩ := H1.out.at_ (below_then hbe hbx hbe.size) hkm hrm
          have HF := Lib.hid hF
          have HMF := Lib.hid hmf
          have hlen : (canL k (augM m cols b r)).length + 1 ≤ 1099511627776 := by rw [canL_length]; omega
          have HE : Hid (canF (cols k r) = canF (augM m cols b r k)) := Lib.hid (by unfold augM; rw [if_pos hkm])
          have hkI : (k : Int) < m := by omega
          have hrI : (r : Int) < m := by omega
          clear hF hmf
          go_wp2_with (at_builtin; refine wpList_append_frac rfl (.tmp 33) (.tmp 41) rfl wr wO.heap.size u9 (canL k (augM m cols b r)) rfl HF.out _ _ A1 A2 n1 c1 n2 c2 (canF (cols k r)) HMF.out rfl hlen hbs ?_)
          intro v' w4 hown4 hk4 hb4
          rw [HE.out, canL_succ] at hown4
          go_wp2
          go_roundw
          case rel => exact ⟨k + 1, by omega, by go_num, hown4, hbx.trans hb4⟩
          case measure => simp [intOf]; omega
        · obtain rfl : k = m := by omega
          obtain ⟨f, hf⟩ := get_some (fs := rs) (i := r) (by rw [HL.out]; exact hrm)
          obtain ⟨b', off', B1, n1, k1, B2, n2, k2, rfl, _, ⟨q0, q1, q2, q3⟩, hmf⟩ := H2.out.elem (below_then hbe hbx hbe.size) hf
          have hsf : f.Sh := (HRS.out r f hf).sh (by have := HKB.out; omega)
          have HE : Hid (canF f.q = canF (augM k cols b r k)) := Lib.hid (by unfold augM; rw [if_neg (by omega), ← HB.out, qAt_some hf])
          have hrI : (r : Int) < k := by omega
          clear hf
          go_wp2_with fail
          refine (rcanon_own _ f _ hmf hsf).mono ?_
          rw [HE.out]
          rintro _ w5 ⟨v5, rfl, e5, hb5⟩
          have hbx5 := below_then hbx hb5 hbx.size
          have hbs5 := hbx5.size
          have HF := Lib.hid (hF.below hb5)
          have HMF := Lib.hid e5.frac
          have hlen : (canL k (augM k cols b r)).length + 1 ≤ 1099511627776 := by rw [canL_length]; omega
          generalize hQ : canF (augM k cols b r k) = Q at *
          obtain ⟨E, l9, k9, E', l9', k9', rfl, _, _⟩ := id HMF.out
          clear hF hmf q0 q1 q2 q3 e5 hbx
          go_wp2_with (at_builtin; refine wpList_append_frac rfl (.tmp 44) (.tmp 50) rfl w5 wO.heap.size u9 (canL k (augM k cols b r)) rfl HF.out _ _ E E' l9 k9 l9' k9' Q HMF.out rfl hlen hbs5 ?_)
          intro v' w6 hown6 hk6 hb6
          rw [← hQ, canL_succ] at hown6
          clear hQ
          have hbx6 := hbx5.trans hb6
          obtain ⟨g, cg, rfl, hg1, hg2, hg3, hg4⟩ := hown6.shape (by rw [canL_length]; omega)
          rw [canL_length] at hown6 hg3
          have HM := Lib.hid (hM.below hbx6)
          have hbe6 := below_then hbe hbx6 hbe.size
          have hbs6 := hbe6.size
          have HF6 : Hid (FrsO w.heap.size w6 (.slice (some ⟨g, 0, none⟩) (k + 1) cg) (canL (k + 1) (augM k cols b r))) := Lib.hid (by obtain ⟨cs, ho, hf⟩ := hown6; exact ⟨cs, row_mono ho hbe.size, hf⟩)
          have HNE : Hid (∀ s, s < r → G s ≠ g) := Lib.hid fun s hs => by have := (hM.lt hs (by omega)).2.1; omega
          clear hM hown6 hbx5 hbx6 hb5 hb6 hk6
          rw [canL_length]
          go_wp2_with (at_builtin; refine wpList_append_mat rfl (.tmp 43) (.tmp 52) rfl w6 w.heap.size u7 r (k + 1) (augM k cols b) G C rfl HM.out g cg HF6.out HNE.out rfl (by omega) hbs6 ?_)
          intro v' w7 hown7 hk7 hb7
          go_wp2
          go_roundw
          case rel => exact ⟨r + 1, _, _, by omega, by go_num, hbe6.trans hb7, hown7⟩
          case measure => simp [intOf]; omega
    · obtain rfl : r = m := by omega
      obtain ⟨Aa, ca, rfl, hca1, hca2⟩ := hM.shape
      generalize hva : Value.slice Aa r ca = va at *
      go_wp2
      go_loopw [11] (fun i wr => ∃ (k : Nat) (M : Mx) (G C : Nat → Nat), k ≤ r ∧ i = .int .i64 k ∧ Below w.heap.size w wr ∧ gj (augM r cols b) r k = some M ∧ MatG w.heap.size wr va r (r + 1) M G C) (fun i _ => r - (intOf i).toNat)
      case atStart => exact ⟨0, _, G, C, by omega, rfl, hbe, rfl, hM⟩
      case round =>
        clear hbe hM
        obtain ⟨k, M, G, C, hk, rfl, hbe, hgj, hM⟩ := hrel
        have HGJ := Lib.hid hgj
        clear hgj
        subst hva
        rcases Nat.lt_or_ge k r with hkr | hkr
        · obtain ⟨go, co, hvo, hgo1, hgo2, hco1, hco2, hcell⟩ := hM.outer (by omega)
          injection hvo with hv1 hv2 hv3
          subst hv1 hv3
          have HMB := Lib.hid (gj_B HAB.out hk HGJ.out)
          have hκ : 5 * (5 ^ k * K) ≤ 8589934592 := Nat.le_trans (pow5_le hkr) HS.out
          generalize hKK : 5 ^ k * K = κ at *
          clear hKK hca1
          obtain ⟨wP, rfl⟩ : ∃ x, x = wr := ⟨_, rfl⟩
          go_wp2
          go_loopw [12, 13] (fun a i wx => ∃ t : Nat, a = .int .i64 (-1) ∧ k ≤ t ∧ t ≤ r ∧ i = .int .i64 t ∧ Below wP.heap.size wP wx ∧ ∀ s, k ≤ s → s < t → M s k = 0) (fun _ i _ => r - (intOf i).toNat)
          case atStart => exact ⟨k, rfl, by omega, by omega, rfl, Below.refl _ _, fun s h1 h2 => by omega⟩
          case round =>
            obtain ⟨t, rfl, hkt, htr, rfl, hbx, hz⟩ := hrel
            have HZ := Lib.hid hz
            clear hz
            rcases Nat.lt_or_ge t r with htl | htl
            · have hMx := hM.below hbx
              have y0 := (hMx.cellAt htl).1
              obtain ⟨A1, n1, c1, A2, n2, c2, ⟨q0, q1, q2, q3⟩, hQ⟩ := hMx.at_ htl (show k < r + 1 by omega)
              have hsh : (canF (M t k)).Sh := (HMB.out t k htl (by omega)).sh (by omega)
              simp only [rowV] at y0
              generalize hq : M t k = q at *
              have HQQ := Lib.hid hq
              clear hq
              have hkI : (k : Int) < ((r + 1 : Nat) : Int) := by omega
              have hkI2 : (k : Int) < (r : Int) + 1 := by omega
              have htI : (t : Int) < r := by omega
              go_wp2_with fail
              refine (rsignF_any _ (canF q) _ hQ hsh).mono ?_
              rw [canF_q]
              rintro _ w5 ⟨rfl, hb5⟩
              clear y0 q0 q1 q2 q3 hQ hMx
              have hbx5 := below_then hbx hb5 hbx.size
              by_cases hz0 : q = 0
              · have hqs : (qs q != 0) = false := by rw [hz0]; decide
                have HZ2 : Hid (∀ s, k ≤ s → s < t + 1 → M s k = 0) := Lib.hid fun s h1 h2 => by
                  rcases Nat.lt_or_ge s t with h | h
                  · exact HZ.out s h1 h
                  · obtain rfl : s = t := by omega
                    rw [HQQ.out, hz0]
                clear hz0
                go_wp2
                go_roundw
                case rel => exact ⟨t + 1, rfl, by omega, by omega, by go_num, hbx5, HZ2.out⟩
                case measure => simp [intOf]; omega
              · have hqs : (qs q != 0) = true := by simpa using fun e => hz0 (qs_zero.1 e)
                have HFP : Hid (findP M k r = some t) := Lib.hid (findP_some hkt htl (by rw [HQQ.out]; exact hz0) HZ.out)
                have hM5 := hM.below hbx5
                have hMD := hM5.below (below_drew' w5)
                obtain ⟨hSw, hkS⟩ := hMD.swap hkr htl
                obtain ⟨y1, hy1, hyf1⟩ := hMD.swap1 (u := rowV (r + 1) G C t) htl (k := k)
                obtain ⟨a1, af1⟩ := hMD.cellAt hkr
                obtain ⟨a2, af2⟩ := hMD.cellAt htl
                have b1 := (hM5.cellAt hkr).1
                have b2 := (hM5.cellAt htl).1
                have HMB1 := Lib.hid (HMB.out.swap hkr htl)
                simp only [rowV] at hSw hkS hy1 hyf1 a1 a2 b1 b2
                generalize hM1 : swapM M k t = M1 at *
                generalize swapF G k t = G1 at *
                generalize swapF C k t = C1 at *
                have HM1 := Lib.hid hM1
                have hbe5 := below_then hbe hbx5 hbe.size
                have hbe5d := hbe5.drew
                clear hM1 hz0 hMD hM5 hM hbx hb5 hbx5 HZ HQQ hsh hbe
                go_wp2_with fail
                have C0 := stab b1
                have C1x := stab b2
                clear b1 b2
                refine region_seq 13 [0, 1, 2, 3, 4, 5, 6, 7, 8, 9, 10, 11, 12, 13, 14, 15] (by kernel_rfl) (by kernel_rfl) ?_
                generalize hwd : w5.drew = wD at *
                clear hwd
                repeat ((first | (refine seq_takeP (v := ?_) rfl rfl rfl ?_ ?_; rotate_left; (· (intro _ hSw; go_simp; (try go_bits); (try with_reducible rfl)))) | (refine seq_take (v := ?_) rfl rfl rfl ?_ ?_; rotate_left; (· (intro _ hSw; go_simp; (try go_bits); (try with_reducible rfl)))) | refine seq_skip rfl rfl rfl ?_); (try simp only [Act.put, pu1, pu2, pu3, pu4, pu5, pu6]))
                refine seq_step rfl rfl (fun KR hKR => ?_)
                go_simp
                refine hKR.out _ _ (Or.inl (by decide)) ?_
                clear hKR KR
                (try simp only [Act.put, pu1, pu2, pu3, pu4, pu5, pu6])
                generalize hW1 : wD.setCell ⟨go, k, none⟩ (.slice (some ⟨G t, 0, none⟩) (r + 1) (C t)) = W1 at *
                refine seq_step rfl rfl (fun KR hKR => ?_)
                go_simp
                refine hKR.out _ _ (Or.inl (by decide)) ?_
                clear hKR KR
                (try simp only [Act.put, pu1, pu2, pu3, pu4, pu5, pu6])
                refine seq_step rfl rfl (fun KR hKR => ?_)
                go_simp
                refine hKR.out _ _ (Or.inl (by decide)) ?_
                clear hKR KR
                (try simp only [Act.put, pu1, pu2, pu3, pu4, pu5, pu6])
                refine seq_done ?_
                have hbeD := (hbe5d.setCell (p := ⟨go, k, none⟩) hgo1 (.slice (some ⟨G t, 0, none⟩) (r + 1) (C t)))
                rw [hW1] at hbeD
                have hbe6 := hbeD.setCell (p := ⟨go, t, none⟩) hgo1 (.slice (some ⟨G k, 0, none⟩) (r + 1) (C k))
                clear C0 C1x hbeD hbe5 hbe5d hkS hy1 hyf1 a1 a2 af1 af2 hW1
                generalize W1.setCell ⟨go, t, none⟩ (.slice (some ⟨G k, 0, none⟩) (r + 1) (C k)) = W2 at *
                have y0 := (hSw.cellAt hkr).1
                obtain ⟨A1, n1, c1, A2, n2, c2, ⟨q0, q1, q2, q3⟩, hQ⟩ := hSw.at_ hkr (show k < r + 1 by omega)
                have szf := HMB1.out k k hkr (show k < r + 1 by omega)
                simp only [rowV] at y0
                generalize hqf : M1 k k = qf at *
                have HQF := Lib.hid hqf
                have HSZF := Lib.hid szf
                have HGL : Hid (∀ s, s < r → G1 s < W2.heap.size) := Lib.hid fun s hs => (hSw.lt hs (by omega)).2.1
                clear hqf szf
                obtain ⟨W3, hW3, hBf, hbn⟩ := boxF1 W2 (.bool (canF qf).num.neg) (.slice A1 n1 c1) (.bool (canF qf).den.neg) (.slice A2 n2 c2)
                have hM3 := hSw.below hbn
                have hQ3 := hQ.below hbn
                have hbe3 := below_then hbe6 hbn hbe6.size
                have hM3' : MatG w.heap.size W3 (.slice (some ⟨go, 0, none⟩) r ca) r (r + 1) (scaleTo M1 k k qf) G1 C1 := by rw [scaleTo_start]; exact hM3
                have hgt : W2.heap.size < W3.heap.size := hBf.lt
                go_wp2
                clear hW3 y0 q0 q1 q2 q3 hQ hSw hbe6 hbn hM3
                go_loopw [15] (fun i wx => ∃ c' : Nat, k ≤ c' ∧ c' ≤ r + 1 ∧ i = .int .i64 c' ∧ Below w.heap.size w wx ∧ MatG w.heap.size wx (.slice (some ⟨go, 0, none⟩) r ca) r (r + 1) (scaleTo M1 k c' qf) G1 C1 ∧ Bk wx W2.heap.size 47 [.bool (canF qf).num.neg, .slice A1 n1 c1, .bool (canF qf).den.neg, .slice A2 n2 c2] ∧ FracM wx (.agg #[.bool (canF qf).num.neg, .slice A1 n1 c1, .bool (canF qf).den.neg, .slice A2 n2 c2]) (canF qf)) (fun i _ => r + 1 - (intOf i).toNat)
                case atStart => exact ⟨k, by omega, by omega, rfl, hbe3, hM3', hBf, hQ3⟩
                case round =>
                  clear hbe3 hM3' hBf hQ3 hgt
                  obtain ⟨c', hkc, hcr, rfl, hbe, hM, hBf, hQf⟩ := hrel
                  rcases Nat.lt_or_ge c' (r + 1) with hcm | hcm
                  · have y0 := (hM.cellAt hkr).1
                    obtain ⟨A3, n3, c3, A4, n4, c4, ⟨q0, q1, q2, q3⟩, hQa⟩ := hM.at_ hkr hcm
                    obtain ⟨z0, z1, z2, z3⟩ := hBf.four
                    have shA : (canF (scaleTo M1 k c' qf k c')).Sh := (scale_any HMB1.out HSZF.out hkr hcm).sh (by omega)
                    have shF : (canF qf).Sh := HSZF.out.sh (by omega)
                    have HNX := Lib.hid (scaleTo_next (M := M1) (f := qf) hkc)
                    simp only [rowV] at y0
                    generalize hqa : scaleTo M1 k c' qf k c' = qa at *
                    clear hqa
                    have hcI : (c' : Int) < ((r + 1 : Nat) : Int) := by omega
                    have hcI3 : (c' : Int) < (r : Int) + 1 := by omega
                    have hcI2 : (c' : Int) ≤ r := by omega
                    go_wp2_with fail
                    have Y0 := stab y0
                    have Q0 := stab q0
                    have Q1 := stab q1
                    have Q2 := stab q2
                    have Q3 := stab q3
                    have Z0 := stab z0
                    have Z1 := stab z1
                    have Z2 := stab z2
                    have Z3 := stab z3
                    have hS0 := below_drew' wr
                    have hkm := hkr
                    clear y0 q0 q1 q2 q3 z0 z1 z2 z3
                    refine region_seq 15 [0, 1, 2, 3, 4, 5, 6, 7, 8, 9, 10, 11, 12, 13, 14, 15] (by kernel_rfl) (by kernel_rfl) ?_
                    repeat ((first | (refine seq_takeP (v := ?_) rfl rfl rfl ?_ ?_; rotate_left; (· (intro _ hSw; go_simp; (try go_bits); (try with_reducible rfl)))) | (refine seq_take (v := ?_) rfl rfl rfl ?_ ?_; rotate_left; (· (intro _ hSw; go_simp; (try go_bits); (try with_reducible rfl)))) | refine seq_skip rfl rfl rfl ?_); (try simp only [Act.put, pu1, pu2, pu3, pu4, pu5, pu6]))
                    refine seq_step rfl rfl (fun KR hKR => ?_)
                    go_simp
                    with_reducible refine (rdivF_own _ _ (canF qa) (canF qf) _ (hQa.below hS0) (hQf.below hS0) shA shF).mono ?_
                    rw [canF_q, canF_q]
                    rintro _ w9 ⟨v9, rfl, e9, hb9⟩
                    have hS9 := below_then hS0 hb9 hS0.size
                    have hM9 := hM.below hS9
                    have hF9 := e9.frac
                    obtain ⟨E, l9, k9, E', l9', k9', rfl, _, _⟩ := id hF9
                    obtain ⟨f0, f1, f2, f3⟩ := hM9.frozen hkm hcm
                    obtain ⟨_, _, _, _, _, _, ⟨t0, t1, t2, t3⟩, _⟩ := hM9.at_ hkm hcm
                    refine hKR.out _ _ (Or.inr hS9) ?_
                    clear hKR KR
                    (try simp only [Act.put, pu1, pu2, pu3, pu4, pu5, pu6])
                    repeat ((first | (refine seq_takeP (v := ?_) rfl rfl rfl ?_ ?_; rotate_left; (· (intro _ hSw; go_simp; (try go_bits); (try with_reducible rfl)))) | (refine seq_take (v := ?_) rfl rfl rfl ?_ ?_; rotate_left; (· (intro _ hSw; go_simp; (try go_bits); (try with_reducible rfl)))) | refine seq_skip rfl rfl rfl ?_); (try simp only [Act.put, pu1, pu2, pu3, pu4, pu5, pu6]))
                    refine seq_step rfl rfl (fun KR hKR => ?_)
                    go_simp
                    refine hKR.out _ _ (Or.inl (by decide)) ?_
                    clear hKR KR
                    (try simp only [Act.put, pu1, pu2, pu3, pu4, pu5, pu6])
                    refine seq_done ?_
                    obtain ⟨hM10, hk10⟩ := hM9.set_ hkr hcm hF9
                    rw [HNX.out] at hM10
                    have hbe9 := below_then hbe hS9 hbe.size
                    have hbe10 := below_set4' hbe9 (show w.heap.size ≤ G1 k from (hM.lt hkr (by omega)).1) (c' * 4) (c' * 4 + 1) (c' * 4 + 2) (c' * 4 + 3) (.bool (canF (qa / qf)).num.neg) (.slice E l9 k9) (.bool (canF (qa / qf)).den.neg) (.slice E' l9' k9')
                    have hBf10 := (hBf.later hS9).far4' (show W2.heap.size ≠ G1 k by have := HGL.out k hkr; omega) (c' * 4) (c' * 4 + 1) (c' * 4 + 2) (c' * 4 + 3) (.bool (canF (qa / qf)).num.neg) (.slice E l9 k9) (.bool (canF (qa / qf)).den.neg) (.slice E' l9' k9')
                    have hQf10 := (hQf.below hS9).keep (hk10.keep (by decide))
                    clear Y0 Q0 Q1 Q2 Q3 Z0 Z1 Z2 Z3 hM hBf hQf hM9 hS0 hS9 hb9 hF9 e9 f0 f1 f2 f3 t0 t1 t2 t3 hQa hbe hbe9 hk10
                    go_wp2
                    go_roundw
                    case rel => exact ⟨c' + 1, by omega, by omega, by go_num, hbe10, hM10, hBf10, hQf10⟩
                    case measure => simp [intOf]; omega
                  · have hcc : c' = r + 1 := by omega
                    rw [hcc] at hM
                    clear hBf hQf hcc
                    have HM2o : Hid (∀ s c, s < r → c < r + 1 → s ≠ k → Sz κ (scaleTo M1 k (r + 1) qf s c)) := Lib.hid fun s c h1 h2 h3 => scale_other HMB1.out h1 h2 h3
                    have HM2k : Hid (∀ c, c < r + 1 → Sz (2 * κ) (scaleTo M1 k (r + 1) qf k c)) := Lib.hid fun c h2 => scale_any HMB1.out HSZF.out hkr h2
                    have HNG : Hid (gj (augM r cols b) r (k + 1) = some (elimAll (scaleTo M1 k (r + 1) qf) k r r)) := Lib.hid (by rw [gj_next HGJ.out HFP.out, HM1.out, HQF.out])
                    generalize scaleTo M1 k (r + 1) qf = M2 at *
                    have hM' : MatG w.heap.size wr (.slice (some ⟨go, 0, none⟩) r ca) r (r + 1) (elimAll M2 k 0 r) G1 C1 := by rw [elimAll_start]; exact hM
                    clear hM HMB HMB1 HQF HSZF HGJ HFP HM1
                    go_wp2
                    rw [show decide (c' ≤ r) = false from by simp; omega]
                    go_loopw [16] (fun i wx => ∃ s : Nat, s ≤ r ∧ i = .int .i64 s ∧ Below w.heap.size w wx ∧ MatG w.heap.size wx (.slice (some ⟨go, 0, none⟩) r ca) r (r + 1) (elimAll M2 k s r) G1 C1) (fun i _ => r - (intOf i).toNat)
                    case atStart => exact ⟨0, by omega, rfl, hbe, hM'⟩
                    case round =>
                      clear hbe hM'
                      obtain ⟨s, hs, rfl, hbe, hM⟩ := hrel
                      rcases Nat.lt_or_ge s r with hsm | hsm
                      · by_cases hsk : s = k
                        · have HSK := Lib.hid (elimAll_skip (M := M2) (m := r) (Or.inl hsk : s = k ∨ M2 s k = 0))
                          have hM4 := hM
                          rw [HSK.out] at hM4
                          have hski : ((s : Int) == (k : Int)) = true := by simp; omega
                          go_wp2
                          go_roundw
                          case rel => exact ⟨s + 1, by omega, by go_num, hbe, hM4⟩
                          case measure => simp [intOf]; omega
                        · have hski : ((s : Int) == (k : Int)) = false := by simp; omega
                          have y0 := (hM.cellAt hsm).1
                          obtain ⟨A3, n3, c3, A4, n4, c4, ⟨q0, q1, q2, q3⟩, hQg⟩ := hM.at_ hsm (show k < r + 1 by omega)
                          have szg := HM2o.out s k hsm (by omega) hsk
                          rw [elimAll_at] at q0 q2 hQg
                          simp only [rowV] at y0
                          have HNXT := Lib.hid (elimAll_next (M := M2) (m := r) hsk)
                          rw [elimAll_at] at HNXT
                          generalize hqg : M2 s k = qg at *
                          have HQG := Lib.hid hqg
                          clear hqg
                          have shG : (canF qg).Sh := szg.sh (by omega)
                          have HSZG := Lib.hid szg
                          clear szg
                          have hkI : (k : Int) < ((r + 1 : Nat) : Int) := by omega
                          have hkI2 : (k : Int) < (r : Int) + 1 := by omega
                          have hsI : (s : Int) < r := by omega
                          go_wp2_with fail
                          refine (rsignF_any _ (canF qg) _ hQg shG).mono ?_
                          rw [canF_q]
                          rintro _ w5 ⟨rfl, hb5⟩
                          have hM5 := hM.below hb5
                          have hbe5 := below_then hbe hb5 hbe.size
                          by_cases hz0 : qg = 0
                          · have hqs : (qs qg == 0) = true := by rw [hz0]; decide
                            have HSK := Lib.hid (elimAll_skip (M := M2) (m := r) (Or.inr (by rw [HQG.out, hz0]) : s = k ∨ M2 s k = 0))
                            rw [HSK.out] at hM5
                            clear hz0
                            go_wp2
                            go_roundw
                            case rel => exact ⟨s + 1, by omega, by go_num, hbe5, hM5⟩
                            case measure => simp [intOf]; omega
                          · have hqs : (qs qg == 0) = false := by simpa using fun e => hz0 (qs_zero.1 e)
                            clear hz0
                            have hQg5 := hQg.below hb5
                            have y0' := cell_later hb5 y0
                            have q0' := cell_later hb5 q0
                            have q1' := cell_later hb5 q1
                            have q2' := cell_later hb5 q2
                            have q3' := cell_later hb5 q3
                            have HGL2 : Hid (∀ s, s < r → G1 s < w5.heap.size) := Lib.hid fun s hs => (hM5.lt hs (by omega)).2.1
                            clear y0 q0 q1 q2 q3 hQg hM hbe hb5
                            obtain ⟨W6, hW6, hBg, hbn⟩ := boxF1 w5 (.bool (canF qg).num.neg) (.slice A3 n3 c3) (.bool (canF qg).den.neg) (.slice A4 n4 c4)
                            have hM6 := hM5.below hbn
                            have hQ6 := hQg5.below hbn
                            have hbe6 := below_then hbe5 hbn hbe5.size
                            have hM6' : MatG w.heap.size W6 (.slice (some ⟨go, 0, none⟩) r ca) r (r + 1) (elimTo (elimAll M2 k s r) k s k qg) G1 C1 := by rw [elimTo_start]; exact hM6
                            go_wp2
                            clear hW6 y0' q0' q1' q2' q3' hQg5 hM5 hM6 hbn hbe5
                            go_loopw [18] (fun i wx => ∃ c' : Nat, k ≤ c' ∧ c' ≤ r + 1 ∧ i = .int .i64 c' ∧ Below w.heap.size w wx ∧ MatG w.heap.size wx (.slice (some ⟨go, 0, none⟩) r ca) r (r + 1) (elimTo (elimAll M2 k s r) k s c' qg) G1 C1 ∧ Bk wx w5.heap.size 47 [.bool (canF qg).num.neg, .slice A3 n3 c3, .bool (canF qg).den.neg, .slice A4 n4 c4] ∧ FracM wx (.agg #[.bool (canF qg).num.neg, .slice A3 n3 c3, .bool (canF qg).den.neg, .slice A4 n4 c4]) (canF qg)) (fun i _ => r + 1 - (intOf i).toNat)
                            case atStart => exact ⟨k, by omega, by omega, rfl, hbe6, hM6', hBg, hQ6⟩
                            case round =>
                              clear hbe6 hM6' hBg hQ6
                              obtain ⟨c', hkc, hcr, rfl, hbe, hM, hBg, hQg⟩ := hrel
                              rcases Nat.lt_or_ge c' (r + 1) with hcm | hcm
                              · have y0 := (hM.cellAt hsm).1
                                have x0 := (hM.cellAt hkr).1
                                obtain ⟨A5, n5, c5, A6, n6, c6, ⟨q0, q1, q2, q3⟩, hQa⟩ := hM.at_ hsm hcm
                                obtain ⟨A7, n7, c7, A8, n8, c8, ⟨p0, p1, p2, p3⟩, hQk⟩ := hM.at_ hkr hcm
                                obtain ⟨z0, z1, z2, z3⟩ := hBg.four
                                have HNX := Lib.hid (elimTo_next (M := elimAll M2 k s r) (g := qg) hkc hsk)
                                have ea : elimTo (elimAll M2 k s r) k s c' qg s c' = M2 s c' := by unfold elimTo; rw [if_neg (by omega), elimAll_at]
                                have ek : elimTo (elimAll M2 k s r) k s c' qg k c' = M2 k c' := by rw [elimTo_row hsk, elimAll_row]
                                rw [ea] at q0 q2 hQa HNX
                                rw [ek] at p0 p2 hQk HNX
                                have sza := HM2o.out s c' hsm hcm hsk
                                have szk := HM2k.out c' hcm
                                have szp := Sz_mul HSZG.out szk
                                simp only [rowV] at y0 x0
                                generalize M2 s c' = qa at *
                                generalize M2 k c' = qk at *
                                have shA : (canF qa).Sh := sza.sh (by omega)
                                have shK : (canF qk).Sh := szk.sh (by omega)
                                have shP : (canF (qg * qk)).Sh := szp.sh (by omega)
                                have hcI : (c' : Int) < ((r + 1 : Nat) : Int) := by omega
                                have hcI3 : (c' : Int) < (r : Int) + 1 := by omega
                                have hcI2 : (c' : Int) ≤ r := by omega
                                clear sza szk szp ea ek
                                go_wp2_with fail
                                have Y0 := stab y0
                                have X0 := stab x0
                                have Q0 := stab q0
                                have Q1 := stab q1
                                have Q2 := stab q2
                                have Q3 := stab q3
                                have P0 := stab p0
                                have P1 := stab p1
                                have P2 := stab p2
                                have P3 := stab p3
                                have Z0 := stab z0
                                have Z1 := stab z1
                                have Z2 := stab z2
                                have Z3 := stab z3
                                have hS0 := below_drew' wr
                                clear y0 x0 q0 q1 q2 q3 p0 p1 p2 p3 z0 z1 z2 z3
                                refine region_seq 23 [0, 1, 2, 3, 4, 5, 6, 7, 8, 9, 10, 11, 12, 13, 14, 15, 16, 17, 18, 19, 20, 21, 22, 23] (by kernel_rfl) (by kernel_rfl) ?_
                                repeat ((first | (refine seq_takeP (v := ?_) rfl rfl rfl ?_ ?_; rotate_left; (· (intro _ hSw; go_simp; (try go_bits); (try with_reducible rfl)))) | (refine seq_take (v := ?_) rfl rfl rfl ?_ ?_; rotate_left; (· (intro _ hSw; go_simp; (try go_bits); (try with_reducible rfl)))) | refine seq_skip rfl rfl rfl ?_); (try simp only [Act.put, pu1, pu2, pu3, pu4, pu5, pu6]))
                                refine seq_step rfl rfl (fun KR hKR => ?_)
                                go_simp
                                with_reducible refine (rmulF_own _ _ (canF qg) (canF qk) _ (hQg.below hS0) (hQk.below hS0) shG shK).mono ?_
                                rw [canF_q, canF_q]
                                rintro _ w8 ⟨v8, rfl, e8, hb8⟩
                                have hS8 := below_then hS0 hb8 hS0.size
                                refine hKR.out _ _ (Or.inr hS8) ?_
                                clear hKR KR
                                (try simp only [Act.put, pu1, pu2, pu3, pu4, pu5, pu6])
                                repeat ((first | (refine seq_takeP (v := ?_) rfl rfl rfl ?_ ?_; rotate_left; (· (intro _ hSw; go_simp; (try go_bits); (try with_reducible rfl)))) | (refine seq_take (v := ?_) rfl rfl rfl ?_ ?_; rotate_left; (· (intro _ hSw; go_simp; (try go_bits); (try with_reducible rfl)))) | refine seq_skip rfl rfl rfl ?_); (try simp only [Act.put, pu1, pu2, pu3, pu4, pu5, pu6]))
                                refine seq_step rfl rfl (fun KR hKR => ?_)
                                go_simp
                                with_reducible refine (rsubF_own _ _ (canF qa) (canF (qg * qk)) _ (hQa.below hS8) e8.frac shA shP).mono ?_
                                rw [canF_q, canF_q]
                                rintro _ w9 ⟨v9, rfl, e9, hb9⟩
                                have hS9 := below_then hS8 hb9 hS8.size
                                have hM9 := hM.below hS9
                                have hF9 := e9.frac
                                obtain ⟨E, l9, k9, E', l9', k9', rfl, _, _⟩ := id hF9
                                obtain ⟨f0, f1, f2, f3⟩ := hM9.frozen hsm hcm
                                obtain ⟨_, _, _, _, _, _, ⟨t0, t1, t2, t3⟩, _⟩ := hM9.at_ hsm hcm
                                refine hKR.out _ _ (Or.inr hS9) ?_
                                clear hKR KR
                                (try simp only [Act.put, pu1, pu2, pu3, pu4, pu5, pu6])
                                repeat ((first | (refine seq_takeP (v := ?_) rfl rfl rfl ?_ ?_; rotate_left; (· (intro _ hSw; go_simp; (try go_bits); (try with_reducible rfl)))) | (refine seq_take (v := ?_) rfl rfl rfl ?_ ?_; rotate_left; (· (intro _ hSw; go_simp; (try go_bits); (try with_reducible rfl)))) | refine seq_skip rfl rfl rfl ?_); (try simp only [Act.put, pu1, pu2, pu3, pu4, pu5, pu6]))
                                refine seq_step rfl rfl (fun KR hKR => ?_)
                                go_simp
                                refine hKR.out _ _ (Or.inl (by decide)) ?_
                                clear hKR KR
                                (try simp only [Act.put, pu1, pu2, pu3, pu4, pu5, pu6])
                                refine seq_done ?_
                                obtain ⟨hM10, hk10⟩ := hM9.set_ hsm hcm hF9
                                rw [HNX.out] at hM10
                                have hbe9 := below_then hbe hS9 hbe.size
                                have hbe10 := below_set4' hbe9 (show w.heap.size ≤ G1 s from (hM.lt hsm (by omega)).1) (c' * 4) (c' * 4 + 1) (c' * 4 + 2) (c' * 4 + 3) (.bool (canF (qa - qg * qk)).num.neg) (.slice E l9 k9) (.bool (canF (qa - qg * qk)).den.neg) (.slice E' l9' k9')
                                have hBg10 := (hBg.later hS9).far4' (show w5.heap.size ≠ G1 s by have := HGL2.out s hsm; omega) (c' * 4) (c' * 4 + 1) (c' * 4 + 2) (c' * 4 + 3) (.bool (canF (qa - qg * qk)).num.neg) (.slice E l9 k9) (.bool (canF (qa - qg * qk)).den.neg) (.slice E' l9' k9')
                                have hQg10 := (hQg.below hS9).keep (hk10.keep (by decide))
                                clear Y0 X0 Q0 Q1 Q2 Q3 P0 P1 P2 P3 Z0 Z1 Z2 Z3 hM hBg hQg hM9 hS0 hS8 hS9 hb8 hb9 hF9 e8 e9 f0 f1 f2 f3 t0 t1 t2 t3 hQa hQk hbe hbe9 hk10
                                go_wp2
                                go_roundw
                                case rel => exact ⟨c' + 1, by omega, by omega, by go_num, hbe10, hM10, hBg10, hQg10⟩
                                case measure => simp [intOf]; omega
                              · have hcc : c' = r + 1 := by omega
                                rw [hcc, HNXT.out] at hM
                                clear hBg hQg hcc
                                go_wp2
                                go_roundw
                                case rel => exact ⟨s + 1, by omega, by go_num, hbe, hM⟩
                                case measure => simp [intOf]; omega
                      · obtain rfl : s = r := by omega
                        go_wp2
                        go_roundw
                        case rel => exact ⟨k + 1, _, G1, C1, by omega, by go_num, hbe, HNG.out, hM⟩
                        case measure => simp [intOf]; omega
            · obtain rfl : t = r := by omega
              have HN : Hid (solveQ t cols b = none) := Lib.hid (solveQ_fail hkr HGJ.out (findP_none HZ.out))
              go_wp2
              go_ret2
              exact ⟨_, by rw [HN.out]; rfl, by rw [solF_none HN.out]; exact FrsO.nil _ _, below_then hbe hbx hbe.size⟩
        · obtain rfl : k = r := by omega
          obtain ⟨wP, rfl⟩ : ∃ x, x = wr := ⟨_, rfl⟩
          have HD := Lib.hid (solveQ_done HGJ.out)
          go_wp2
          go_loopw [19, 20] (fun s i wx => ∃ j : Nat, j ≤ k ∧ i = .int .i64 j ∧ FrsO wP.heap.size wx s (canL j fun j => M j k) ∧ Below wP.heap.size wP wx) (fun _ i _ => k - (intOf i).toNat)
          case atStart => exact ⟨0, by omega, rfl, FrsO.nil _ _, Below.refl _ _⟩
          case round =>
            obtain ⟨j, hj, rfl, hF, hbx⟩ := hrel
            have hbs := hbx.size
            rcases Nat.lt_or_ge j k with hjk | hjk
            · have hMx := hM.below hbx
              obtain ⟨go, co, hvo, hgo1, hgo2, hco1, hco2, hcell⟩ := hMx.outer (by omega)
              injection hvo with hv1 hv2 hv3
              subst hv1 hv3
              have y0 := (hMx.cellAt hjk).1
              obtain ⟨A1, n1, c1, A2, n2, c2, ⟨q0, q1, q2, q3⟩, hQ⟩ := hMx.at_ hjk (show k < k + 1 by omega)
              simp only [rowV] at y0
              have HF := Lib.hid hF
              have HMF := Lib.hid hQ
              have hlen : (canL j fun j => M j k).length + 1 ≤ 1099511627776 := by rw [canL_length]; omega
              have hjI : (j : Int) < k := by omega
              have hkI : (k : Int) < ((k + 1 : Nat) : Int) := by omega
              have hkI2 : (k : Int) < (k : Int) + 1 := by omega
              clear hF hQ hcell
              go_wp2_with (at_builtin; refine wpList_append_frac rfl (.tmp 179) (.tmp 187) rfl wr wP.heap.size u19 (canL j fun j => M j k) rfl HF.out _ _ A1 A2 n1 c1 n2 c2 (canF (M j k)) HMF.out rfl hlen hbs ?_)
              intro v' w4 hown4 hk4 hb4
              rw [canL_succ j fun j => M j k] at hown4
              go_wp2
              go_roundw
              case rel => exact ⟨j + 1, by omega, by go_num, hown4, hbx.trans hb4⟩
              case measure => simp [intOf]; omega
            · obtain rfl : j = k := by omega
              go_wp2
              go_ret2
              refine ⟨_, by rw [HD.out]; rfl, ?_, below_then hbe hbx hbe.size⟩
              rw [solF_some HD.out]
              obtain ⟨cs, ho, hf⟩ := hF
              exact ⟨cs, row_mono ho hbe.size, hf⟩
end Go.Proofs.YtpanffbgihhjnaaGreat

/- Plain: the reference's simplex method over rational numbers. Walks: package pairingref25: order, cost, artificial, basic, dual. -/
namespace Go.Proofs.YtpanffbgihhjnaaGreat
open Go.RowKit Pl
attribute [local go_sem ↓] Go.wp_at_zero Go.wp_at_succ

namespace Pl
def LPd.Fit (p : LPd) (K : Nat) : Prop := p.Ok K ∧ p.In ∧ p.right.length ≤ 64 ∧ p.cost.length = p.cols.length ∧ p.cols.length ≤ 1200 ∧ 1 ≤ K ∧ 130 * (5 ^ p.right.length * K) + 200 ≤ 8589934592
theorem LPd.Fit.k1 {p : LPd} {K : Nat} (h : p.Fit K) : 1 ≤ K := h.2.2.2.2.2.1
theorem LPd.Fit.le {p : LPd} {K : Nat} (_h : p.Fit K) : K ≤ 5 ^ p.right.length * K := by
  have := Nat.mul_le_mul_right K (Nat.pow_le_pow_right (show 0 < 5 by decide) (Nat.zero_le p.right.length)); simpa using this
theorem LPd.Fit.kb {p : LPd} {K : Nat} (h : p.Fit K) : K ≤ 34359738368 := by
  have h1 := h.le; have h2 := h.2.2.2.2.2.2; omega
theorem LPd.Fit.ks {p : LPd} {K : Nat} (h : p.Fit K) : 5 ^ p.right.length * K ≤ 8589934592 := by
  have h2 := h.2.2.2.2.2.2; omega
theorem LPd.Fit.ok {p : LPd} {K : Nat} (h : p.Fit K) : p.Ok K := h.1
theorem LPd.Fit.in_ {p : LPd} {K : Nat} (h : p.Fit K) : p.In := h.2.1
theorem LPd.Fit.rows {p : LPd} {K : Nat} (h : p.Fit K) : p.right.length ≤ 64 := h.2.2.1
theorem LPd.Fit.cl {p : LPd} {K : Nat} (h : p.Fit K) : p.cost.length = p.cols.length := h.2.2.2.1
theorem LPd.Fit.cols {p : LPd} {K : Nat} (h : p.Fit K) : p.cols.length ≤ 1200 := h.2.2.2.2.1
theorem LPd.Fit.rs {p : LPd} {K : Nat} (h : p.Fit K) : RsL K p.right := h.1.2.1
theorem LPd.Fit.cs {p : LPd} {K : Nat} (h : p.Fit K) : RsL K p.cost := h.1.1
def LSt.Fit (p : LPd) (s : LSt) : Prop := s.In p ∧ s.basis.length = p.right.length
theorem LSt.Fit.in_ {p : LPd} {s : LSt} (h : s.Fit p) : s.In p := h.1
theorem LSt.Fit.len {p : LPd} {s : LSt} (h : s.Fit p) : s.basis.length = p.right.length := h.2
theorem Sz_mat {p : LPd} {K : Nat} (h : p.Fit K) (s : LSt) (i r : Nat) : Sz K (s.mat p i r) := LPd.Sz_col h.ok h.k1 _ _
def ordQ (p : LPd) (j : Int) : Int := if 0 ≤ j then j else p.cols.length - 1 - j
def costQ (p : LPd) (ph j : Int) : Rat := if ph = 1 ∧ j < 0 then 1 else if ph = 2 ∧ 0 ≤ j then qAt p.cost j.toNat else 0
theorem costQ_art {p : LPd} {j : Int} (h : j < 0) : costQ p 1 j = 1 := by unfold costQ; rw [if_pos ⟨rfl, h⟩]
theorem costQ_real {p : LPd} {j : Int} (h : 0 ≤ j) : costQ p 2 j = qAt p.cost j.toNat := by unfold costQ; rw [if_neg (by omega), if_pos ⟨rfl, h⟩]
theorem costQ_none {p : LPd} {ph j : Int} (h1 : ¬ (ph = 1 ∧ j < 0)) (h2 : ¬ (ph = 2 ∧ 0 ≤ j)) : costQ p ph j = 0 := by unfold costQ; rw [if_neg h1, if_neg h2]
theorem Sz_cost {p : LPd} {K : Nat} (ok : p.Ok K) (hK : 1 ≤ K) (ph j : Int) : Sz K (costQ p ph j) := by
  unfold costQ; split
  · exact Sz_one.mono hK
  · split
    · exact ok.1.qAt hK _
    · exact Sz_zero.mono hK
def artN (s : LSt) (zs : List RF) : Nat → Bool
  | 0 => false
  | k + 1 => artN s zs k || (decide (s.at_ k < 0) && decide (qAt zs k ≠ 0))
theorem artN_true {s : LSt} {zs : List RF} {k : Nat} (h1 : s.at_ k < 0) (h2 : qAt zs k ≠ 0) : ∀ {n : Nat}, k < n → artN s zs n = true
  | 0, h => by omega
  | n + 1, h => by
    unfold artN
    rcases Nat.lt_or_ge k n with hk | hk
    · rw [artN_true h1 h2 hk]; rfl
    · obtain rfl : k = n := by omega
      simp [h1, h2]
theorem artN_next {s : LSt} {zs : List RF} {k : Nat} (h : artN s zs k = false) (h2 : ¬ s.at_ k < 0 ∨ qAt zs k = 0) : artN s zs (k + 1) = false := by
  unfold artN; rw [h]
  rcases h2 with e | e
  · simp [e]
  · simp [e]
def zL (p : LPd) (s : LSt) : List RF := solF p.right.length (s.mat p) (qAt p.right)
def zOk (p : LPd) (s : LSt) : Bool := (solveQ p.right.length (s.mat p) (qAt p.right)).isSome
def dualL (p : LPd) (s : LSt) : List RF := solF p.right.length (fun r k => s.mat p k r) (qAt (canL p.right.length fun i => costQ p s.phase (s.at_ i)))
theorem solF_B {m K : Nat} {cols : Mx} {b : Nat → Rat} (h : ∀ r c, r < m → c < m → Sz K (cols c r)) (hb : ∀ r, r < m → Sz K (b r)) : RsL (5 ^ m * K) (solF m cols b) := by
  unfold solF
  cases e : solveQ m cols b with
  | none => exact RsL.nil _
  | some x => exact canL_rs (solveQ_B h hb e)
theorem zL_B {p : LPd} {K : Nat} (F : p.Fit K) (s : LSt) : RsL (5 ^ p.right.length * K) (zL p s) := solF_B (fun _ _ _ _ => LPd.Sz_col F.1 F.k1 _ _) fun r _ => F.1.2.1.qAt F.k1 r
theorem dualL_B {p : LPd} {K : Nat} (F : p.Fit K) (s : LSt) : RsL (5 ^ p.right.length * K) (dualL p s) := solF_B (fun _ _ _ _ => LPd.Sz_col F.1 F.k1 _ _) fun r hr => by rw [canL_qAt hr]; exact Sz_cost F.1 F.k1 _ _
theorem solF_len {m : Nat} {cols : Mx} {b : Nat → Rat} : (solF m cols b).length ≤ m := by
  unfold solF; split
  · rw [canL_length]; exact Nat.le_refl _
  · simp
end Pl

set_option maxRecDepth 100000 in
set_option maxHeartbeats 2000000 in
theorem rorder_any (v : Value) (p : LPd) (j : Int) (w : World) (h : LpM w v p) (h0 : -1000000 ≤ j) (h1 : j ≤ 1000000) (hn : p.cols.length ≤ 1200) :
    Calls Tryz.prog 89 #[v, .int .i64 j] w fun e w' => e = .returned (.int .i64 (ordQ p j)) ∧ Below w.heap.size w w' := by
  obtain ⟨A, n, c, A', n', c', A'', n'', c'', rfl, hc, hv, hr⟩ := id h
  obtain ⟨W, hW, hX, hbe⟩ := box_lp w (.slice A n c) (.slice A' n' c') (.slice A'' n'' c'')
  obtain ⟨x0, x1, x2⟩ := hX.three
  obtain ⟨m1, m2, m3⟩ := hv.len
  have hn2 : n' ≤ 1200 := by omega
  rcases Int.lt_or_le j 0 with hj | hj
  · have HQ : Hid (ordQ p j = n' - 1 - j) := Lib.hid (by unfold ordQ; rw [if_neg (by omega), m1])
    rw [HQ.out]
    clear hc hv hr h m1 HQ
    go_enter Tryz.func89, Tryz.ntmps89
    go_wp2
    go_ret
    exact ⟨by go_num, hbe⟩
  · have HQ : Hid (ordQ p j = j) := Lib.hid (by unfold ordQ; rw [if_pos hj])
    rw [HQ.out]
    clear hc hv hr h m1 HQ
    go_enter Tryz.func89, Tryz.ntmps89
    go_wp2
    go_ret
    exact ⟨rfl, hbe⟩

set_option maxRecDepth 100000 in
set_option maxHeartbeats 4000000 in
theorem rcost_own (v : Value) (p : LPd) (K : Nat) (ph j : Int) (w : World) (h : LpM w v p) (F : p.Fit K) (hj : j < p.cost.length) :
    Calls Tryz.prog 64 #[v, .int .i64 ph, .int .i64 j] w fun e w' => ∃ v', e = .returned v' ∧ FracO w.heap.size w' v' (canF (costQ p ph j)) ∧ Below w.heap.size w w' := by
  obtain ⟨A, n, c, A', n', c', A'', n'', c'', rfl, hc, hv, hr⟩ := id h
  obtain ⟨W0, hW0, hX0, hbe0⟩ := box_lp w (.slice A n c) (.slice A' n' c') (.slice A'' n'' c'')
  obtain ⟨W, hW, hR, hbe1⟩ := boxF1 W0 (.bool false) (.slice none 0 0) (.bool false) (.slice none 0 0)
  have hsz : W0.heap.size = w.heap.size + 1 := by rw [← hW0]; simp
  rw [hsz] at hR
  have hX := hX0.later hbe1
  have hbe := below_then hbe0 hbe1 hbe0.size
  obtain ⟨x0, x1, x2⟩ := hX.three
  clear hX0 hbe0 hbe1
  by_cases h1 : ph = 1
  · subst h1
    rcases Int.lt_or_le j 0 with hj0 | hj0
    · rw [costQ_art hj0]
      clear hc hv hr h F hj
      go_enter Tryz.func64, Tryz.ntmps64
      go_wp2_with fail
      clear hW hW0
      refine (rint_own 1 _ (by omega) (by omega)).mono ?_
      rw [show ((1 : Int) : Rat) = 1 from rfl]
      rintro _ w1 ⟨v1, rfl, e1, hb1⟩
      obtain ⟨B, m, d, B', m', d', rfl, _, _⟩ := id e1.frac
      have hR1 := hR.later hb1
      obtain ⟨c0, c1, c2, c3⟩ := hR1.four
      obtain ⟨f0, f1, f2, f3⟩ := hR1.fourF
      go_wp2
      refine ret_cell Tryz.results64 Tryz.underlying47 (by kernel_rfl) rfl (hR1.set4 _ _ _ _) rfl ?_
      exact fin_fracO hR1 (e1.mono hbe.size) (below_then hbe hb1 hbe.size) (by omega)
    · rw [costQ_none (by omega) (by omega)]
      clear hc hv hr h F hj
      go_enter Tryz.func64, Tryz.ntmps64
      go_wp2_with fail
      clear hW hW0
      refine (rint_own 0 _ (by omega) (by omega)).mono ?_
      rw [show ((0 : Int) : Rat) = 0 from rfl]
      rintro _ w1 ⟨v1, rfl, e1, hb1⟩
      obtain ⟨B, m, d, B', m', d', rfl, _, _⟩ := id e1.frac
      have hR1 := hR.later hb1
      obtain ⟨c0, c1, c2, c3⟩ := hR1.four
      obtain ⟨f0, f1, f2, f3⟩ := hR1.fourF
      go_wp2
      refine ret_cell Tryz.results64 Tryz.underlying47 (by kernel_rfl) rfl (hR1.set4 _ _ _ _) rfl ?_
      exact fin_fracO hR1 (e1.mono hbe.size) (below_then hbe hb1 hbe.size) (by omega)
  · have h1' : (ph == 1) = false := by simpa using h1
    by_cases h2 : ph = 2
    · subst h2
      rcases Int.lt_or_le j 0 with hj0 | hj0
      · rw [costQ_none (by omega) (by omega)]
        clear hc hv hr h F hj
        go_enter Tryz.func64, Tryz.ntmps64
        go_wp2_with fail
        clear hW hW0
        refine (rint_own 0 _ (by omega) (by omega)).mono ?_
        rw [show ((0 : Int) : Rat) = 0 from rfl]
        rintro _ w1 ⟨v1, rfl, e1, hb1⟩
        obtain ⟨B, m, d, B', m', d', rfl, _, _⟩ := id e1.frac
        have hR1 := hR.later hb1
        obtain ⟨c0, c1, c2, c3⟩ := hR1.four
        obtain ⟨f0, f1, f2, f3⟩ := hR1.fourF
        go_wp2
        refine ret_cell Tryz.results64 Tryz.underlying47 (by kernel_rfl) rfl (hR1.set4 _ _ _ _) rfl ?_
        exact fin_fracO hR1 (e1.mono hbe.size) (below_then hbe hb1 hbe.size) (by omega)
      · rw [costQ_real hj0]
        obtain ⟨jn, rfl⟩ := Int.eq_ofNat_of_zero_le hj0
        rw [Int.toNat_natCast]
        have hjn : jn < p.cost.length := by omega
        obtain ⟨f, hf⟩ := get_some (fs := p.cost) (i := jn) hjn
        obtain ⟨r1, r2, r3⟩ := hc.len
        obtain ⟨b, off, B1, n1, k1, B2, n2, k2, rfl, hlt, ⟨q0, q1, q2, q3⟩, hmf⟩ := hc.elem hbe hf
        have hsf : f.Sh := (F.1.1 jn f hf).sh F.kb
        rw [qAt_some hf]
        have hjI : (jn : Int) < n := by omega
        clear hv hr h F hj hf hjn hc r1
        go_enter Tryz.func64, Tryz.ntmps64
        go_wp2_with fail
        clear hW hW0
        refine (rcanon_own _ f _ hmf hsf).mono ?_
        rintro _ w1 ⟨v1, rfl, e1, hb1⟩
        obtain ⟨B, m, d, B', m', d', rfl, _, _⟩ := id e1.frac
        have hR1 := hR.later hb1
        obtain ⟨c0, c1, c2, c3⟩ := hR1.four
        obtain ⟨f0, f1, f2, f3⟩ := hR1.fourF
        go_wp2
        refine ret_cell Tryz.results64 Tryz.underlying47 (by kernel_rfl) rfl (hR1.set4 _ _ _ _) rfl ?_
        exact fin_fracO hR1 (e1.mono hbe.size) (below_then hbe hb1 hbe.size) (by omega)
    · have h2' : (ph == 2) = false := by simpa using h2
      rw [costQ_none (by omega) (by omega)]
      clear hc hv hr h F hj h1 h2
      go_enter Tryz.func64, Tryz.ntmps64
      go_wp2_with fail
      clear hW hW0
      refine (rint_own 0 _ (by omega) (by omega)).mono ?_
      rw [show ((0 : Int) : Rat) = 0 from rfl]
      rintro _ w1 ⟨v1, rfl, e1, hb1⟩
      obtain ⟨B, m, d, B', m', d', rfl, _, _⟩ := id e1.frac
      have hR1 := hR.later hb1
      obtain ⟨c0, c1, c2, c3⟩ := hR1.four
      obtain ⟨f0, f1, f2, f3⟩ := hR1.fourF
      go_wp2
      refine ret_cell Tryz.results64 Tryz.underlying47 (by kernel_rfl) rfl (hR1.set4 _ _ _ _) rfl ?_
      exact fin_fracO hR1 (e1.mono hbe.size) (below_then hbe hb1 hbe.size) (by omega)

set_option maxRecDepth 100000 in
set_option maxHeartbeats 4000000 in
theorem rartificial_any (v1 v2 : Value) (s : LSt) (zs : List RF) (w : World) (h1 : StM w v1 s) (h2 : FrsM w v2 zs) (hl : zs.length ≤ s.basis.length) (hz : ∀ (i : Nat) (f : RF), zs[i]? = some f → f.Sh) :
    Calls Tryz.prog 60 #[v1, v2] w fun e w' => e = .returned (.bool (artN s zs zs.length)) ∧ Below w.heap.size w w' := by
  obtain ⟨Ab, nb, cb, rfl, hI⟩ := id h1
  obtain ⟨W, hW, hS, hbe⟩ := box_st w (.int .i64 s.phase) (.slice Ab nb cb) (.int .i64 s.pivots)
  obtain ⟨b1, b2, b3⟩ := hI.len
  obtain ⟨Az, cz, rfl, hz1, hz2⟩ := h2.shape
  have HI := Lib.hid hI
  have H2 := Lib.hid h2
  have HZ := Lib.hid hz
  generalize hn : zs.length = N at *
  have HN := Lib.hid hn
  have hnb : N ≤ nb := by omega
  clear h1 h2 hI hz hn hl b1
  go_enter Tryz.func60, Tryz.ntmps60
  go_wp2
  clear hW
  go_loopw [5] (fun i wr => ∃ k : Nat, k ≤ N ∧ i = .int .i64 k ∧ Below w.heap.size w wr ∧ Bk wr w.heap.size 34 [.int .i64 s.phase, .slice Ab nb cb, .int .i64 s.pivots] ∧ artN s zs k = false) (fun i _ => N - (intOf i).toNat)
  case atStart => exact ⟨0, by omega, rfl, hbe, hS, rfl⟩
  case round =>
    clear hbe hS
    obtain ⟨k, hk, rfl, hbe, hS, ha⟩ := hrel
    have HA := Lib.hid ha
    clear ha
    obtain ⟨y0, y1, y2⟩ := hS.three
    rcases Nat.lt_or_ge k N with hkl | hkl
    · obtain ⟨bb, bo, z, rfl, hzc, hget, z0, z1⟩ := (HI.out.below hbe).at_ (show k < nb by omega)
      obtain ⟨f, hf⟩ := get_some (fs := zs) (i := k) (by rw [HN.out]; exact hkl)
      obtain ⟨b, off, B1, n1, k1, B2, n2, k2, rfl, hlt, ⟨q0, q1, q2, q3⟩, hmf⟩ := H2.out.elem hbe hf
      have hsf := HZ.out k f hf
      have HAT := Lib.hid (LSt.at_eq hget)
      have HQ := Lib.hid (qAt_some hf)
      have hkI : (k : Int) < nb := by omega
      have hkI2 : (k : Int) < N := by omega
      clear hget hf
      rcases Int.lt_or_le z 0 with hz0 | hz0
      · go_wp2_with fail
        refine (rsignF_any _ f _ hmf hsf).mono ?_
        rintro _ w5 ⟨rfl, hb5⟩
        have hS5 := hS.later hb5
        have hbe5 := below_then hbe hb5 hbe.size
        by_cases hq : f.q = 0
        · have hqs : (qs f.q != 0) = false := by rw [hq]; decide
          have HA2 := Lib.hid (artN_next HA.out (Or.inr (by rw [HQ.out, hq])))
          clear hq
          go_wp2
          go_roundw
          case rel => exact ⟨k + 1, by omega, by go_num, hbe5, hS5, HA2.out⟩
          case measure => simp [intOf]; omega
        · have hqs : (qs f.q != 0) = true := by simpa using fun e => hq (qs_zero.1 e)
          have HA2 : Hid (artN s zs N = true) := Lib.hid (artN_true (by rw [HAT.out]; exact hz0) (by rw [HQ.out]; exact hq) hkl)
          clear hq
          go_wp2
          go_ret
          exact ⟨by rw [HA2.out]; rfl, hbe5⟩
      · have HA2 := Lib.hid (artN_next (zs := zs) HA.out (Or.inl (by rw [HAT.out]; omega)))
        go_wp2
        go_roundw
        case rel => exact ⟨k + 1, by omega, by go_num, hbe, hS, HA2.out⟩
        case measure => simp [intOf]; omega
    · obtain rfl : k = N := by omega
      go_wp2
      go_ret
      exact ⟨by rw [HA.out]; rfl, hbe⟩

set_option maxRecDepth 100000 in
set_option maxHeartbeats 4000000 in
theorem rbasic_own (v1 v2 : Value) (p : LPd) (s : LSt) (K : Nat) (w : World) (h : LpM w v1 p) (h2 : StM w v2 s) (F : p.Fit K) (S : s.Fit p) :
    Calls Tryz.prog 59 #[v1, v2] w fun e w' => ∃ v', e = .returned (.tuple #[v', .bool (zOk p s)]) ∧ FrsO w.heap.size w' v' (zL p s) ∧ Below w.heap.size w w' := by
  obtain ⟨A, n, c, A', n', c', A'', n'', c'', rfl, hc, hv, hr⟩ := id h
  obtain ⟨Ab, nb, cb, rfl, hI⟩ := id h2
  obtain ⟨W, hW, hX0, hbe0⟩ := box_lp w (.slice A n c) (.slice A' n' c') (.slice A'' n'' c'')
  obtain ⟨W1, hW1, hS0, hbe1⟩ := box_st W (.int .i64 s.phase) (.slice Ab nb cb) (.int .i64 s.pivots)
  have hX := hX0.later hbe1
  have hbe := below_then hbe0 hbe1 hbe0.size
  obtain ⟨b1, b2, b3⟩ := hI.len
  have hsz : W.heap.size = w.heap.size + 1 := by rw [← hW]; simp
  rw [hsz] at hS0
  have HLP := Lib.hid h
  have HST := Lib.hid h2
  have HI := Lib.hid hI
  have HFP := Lib.hid F
  have HFS := Lib.hid S
  have HNB := Lib.hid b1
  have HB1 : Hid (nb = p.right.length) := Lib.hid (by rw [b1]; exact S.2)
  have hnb : nb ≤ 64 := by rw [HB1.out]; exact F.2.2.1
  obtain ⟨x0, x1, x2⟩ := hX.three
  obtain ⟨y0, y1, y2⟩ := hS0.three
  have HRI := Lib.hid hr
  clear h h2 hc hv hr b1 hI hX0 hbe0 hbe1 F S
  have HSL : Hid (s.basis.length ≤ 1000) := Lib.hid (by rw [← HNB.out]; omega)
  have HM1 : Hid (p.right.length ≤ 1000) := Lib.hid (by have := HFP.out.rows; omega)
  go_enter Tryz.func59, Tryz.ntmps59
  go_wp2_with fail
  clear hW hW1
  have C0 := stab x0
  have C1 := stab x1
  have C2 := stab x2
  have D0 := stab y0
  have D1 := stab y1
  have D2 := stab y2
  have hS0 := below_drew' W1
  clear x0 x1 x2 y0 y1 y2
  refine region_seq 10 [0, 1, 3, 4, 2, 5, 6, 7, 8, 9] (by kernel_rfl) (by kernel_rfl) ?_
  repeat ((first | (refine seq_takeP (v := ?_) rfl rfl rfl ?_ ?_; rotate_left; (· (intro _ hSw; go_simp; (try go_bits); (try with_reducible rfl)))) | (refine seq_take (v := ?_) rfl rfl rfl ?_ ?_; rotate_left; (· (intro _ hSw; go_simp; (try go_bits); (try with_reducible rfl)))) | refine seq_skip rfl rfl rfl ?_); (try simp only [Act.put, pu1, pu2, pu3, pu4, pu5, pu6]))
  refine seq_step rfl rfl (fun KR hKR => ?_)
  go_simp
  with_reducible refine (rmatrix_own _ _ p s K _ ((HLP.out.below hbe).below hS0) ((HST.out.below hbe).below hS0) HFP.out.ok HFP.out.kb HFP.out.in_ HFS.out.in_ HFP.out.rows HSL.out).mono ?_
  rw [HFS.out.len]
  rintro _ w5 ⟨v5, rfl, e5, hb5⟩
  have hS5 := below_then hS0 hb5 hS0.size
  refine hKR.out _ _ (Or.inr hS5) ?_
  clear hKR KR
  (try simp only [Act.put, pu1, pu2, pu3, pu4, pu5, pu6])
  repeat ((first | (refine seq_takeP (v := ?_) rfl rfl rfl ?_ ?_; rotate_left; (· (intro _ hSw; go_simp; (try go_bits); (try with_reducible rfl)))) | (refine seq_take (v := ?_) rfl rfl rfl ?_ ?_; rotate_left; (· (intro _ hSw; go_simp; (try go_bits); (try with_reducible rfl)))) | refine seq_skip rfl rfl rfl ?_); (try simp only [Act.put, pu1, pu2, pu3, pu4, pu5, pu6]))
  refine seq_step rfl rfl (fun KR hKR => ?_)
  go_simp
  with_reducible refine (rsolve_own _ _ p.right.length (s.mat p) p.right K _ e5 ((HRI.out.below hbe).below hS5) rfl (fun r c _ _ => Sz_mat HFP.out s c r) HFP.out.rs HFP.out.k1 HFP.out.ks HM1.out).mono ?_
  rintro _ w6 ⟨v6, rfl, e6, hb6⟩
  have hS6 := below_then hS5 hb6 hS5.size
  refine hKR.out _ _ (Or.inr hS6) ?_
  clear hKR KR
  (try simp only [Act.put, pu1, pu2, pu3, pu4, pu5, pu6])
  repeat ((first | (refine seq_takeP (v := ?_) rfl rfl rfl ?_ ?_; rotate_left; (· (intro _ hSw; go_simp; (try go_bits); (try with_reducible rfl)))) | (refine seq_take (v := ?_) rfl rfl rfl ?_ ?_; rotate_left; (· (intro _ hSw; go_simp; (try go_bits); (try with_reducible rfl)))) | refine seq_skip rfl rfl rfl ?_); (try simp only [Act.put, pu1, pu2, pu3, pu4, pu5, pu6]))
  refine seq_done ?_
  clear C0 C1 C2 D0 D1 D2
  have hb7 := below_then hbe hS6 hbe.size
  have hb8 := hS5.size
  go_wp2
  go_ret2
  refine ⟨_, rfl, ?_, hb7⟩
  obtain ⟨cs, ho, hf⟩ := e6
  exact ⟨cs, row_mono ho (by have := hbe.size; omega), hf⟩

set_option maxRecDepth 100000 in
set_option maxHeartbeats 4000000 in
theorem rdual_own (v1 v2 : Value) (p : LPd) (s : LSt) (K : Nat) (w : World) (h : LpM w v1 p) (h2 : StM w v2 s) (F : p.Fit K) (S : s.Fit p) :
    Calls Tryz.prog 32 #[v1, v2] w fun e w' => ∃ v', e = .returned v' ∧ FrsO w.heap.size w' v' (dualL p s) ∧ Below w.heap.size w w' := by
  obtain ⟨A, n, c, A', n', c', A'', n'', c'', rfl, hc, hv, hr⟩ := id h
  obtain ⟨Ab, nb, cb, rfl, hI⟩ := id h2
  obtain ⟨W, hW, hX0, hbe0⟩ := box_lp w (.slice A n c) (.slice A' n' c') (.slice A'' n'' c'')
  obtain ⟨W1, hW1, hS0, hbe1⟩ := box_st W (.int .i64 s.phase) (.slice Ab nb cb) (.int .i64 s.pivots)
  have hX := hX0.later hbe1
  have hbe := below_then hbe0 hbe1 hbe0.size
  obtain ⟨b1, b2, b3⟩ := hI.len
  have hsz : W.heap.size = w.heap.size + 1 := by rw [← hW]; simp
  rw [hsz] at hS0
  have HLP := Lib.hid h
  have HST := Lib.hid h2
  have HI := Lib.hid hI
  have HFP := Lib.hid F
  have HFS := Lib.hid S
  have HNB := Lib.hid b1
  have HB1 : Hid (nb = p.right.length) := Lib.hid (by rw [b1]; exact S.2)
  have hnb : nb ≤ 64 := by rw [HB1.out]; exact F.2.2.1
  obtain ⟨x0, x1, x2⟩ := hX.three
  obtain ⟨y0, y1, y2⟩ := hS0.three
  clear h h2 hc hv hr b1 hI hX0 hbe0 hbe1 F S
  have HSL : Hid (s.basis.length ≤ 1000) := Lib.hid (by rw [← HNB.out]; omega)
  have HM1 : Hid (p.right.length ≤ 1000) := Lib.hid (by have := HFP.out.rows; omega)
  have HCL : Hid (p.cost.length = p.cols.length) := Lib.hid HFP.out.cl
  go_enter Tryz.func32, Tryz.ntmps32
  go_wp2
  clear hW hW1 x0 x1 x2 y0 y1 y2
  go_loopw [5, 6] (fun u i wr => ∃ k : Nat, k ≤ nb ∧ i = .int .i64 k ∧ Below w.heap.size w wr ∧ Bk wr w.heap.size 26 [.slice A n c, .slice A' n' c', .slice A'' n'' c''] ∧ Bk wr (w.heap.size + 1) 34 [.int .i64 s.phase, .slice Ab nb cb, .int .i64 s.pivots] ∧ FrsO w.heap.size wr u (canL k fun i => costQ p s.phase (s.at_ i))) (fun _ i _ => nb - (intOf i).toNat)
  case atStart => exact ⟨0, by omega, rfl, hbe, hX, hS0, FrsO.nil _ _⟩
  case round =>
    clear hbe hX hS0
    obtain ⟨k, hk, rfl, hbe, hX, hS, hO⟩ := hrel
    obtain ⟨x0, x1, x2⟩ := hX.three
    obtain ⟨y0, y1, y2⟩ := hS.three
    rcases Nat.lt_or_ge k nb with hkl | hkl
    · obtain ⟨bb, bo, z, rfl, hz, hget, z0, z1⟩ := (HI.out.below hbe).at_ hkl
      have HZ : Hid (s.at_ k = z) := Lib.hid (LSt.at_eq hget)
      obtain ⟨i0, i1⟩ := HFS.out.in_ k z hget
      have hkI : (k : Int) < nb := by omega
      have hlen : (canL k fun i => costQ p s.phase (s.at_ i)).length + 1 ≤ 1099511627776 := by rw [canL_length]; omega
      clear hget
      go_wp2_with fail
      have C0 := stab x0
      have C1 := stab x1
      have C2 := stab x2
      have D0 := stab y0
      have D1 := stab y1
      have E1 := stab hz
      have hS0 := below_drew' wr
      clear x0 x1 x2 y0 y1 y2 hz
      refine region_seq 10 [0, 1, 2, 3, 4, 5, 6, 7, 8, 9, 10, 11, 12] (by kernel_rfl) (by kernel_rfl) ?_
      repeat ((first | (refine seq_takeP (v := ?_) rfl rfl rfl ?_ ?_; rotate_left; (· (intro _ hSw; go_simp; (try go_bits); (try with_reducible rfl)))) | (refine seq_take (v := ?_) rfl rfl rfl ?_ ?_; rotate_left; (· (intro _ hSw; go_simp; (try go_bits); (try with_reducible rfl)))) | refine seq_skip rfl rfl rfl ?_); (try simp only [Act.put, pu1, pu2, pu3, pu4, pu5, pu6]))
      refine seq_step rfl rfl (fun KR hKR => ?_)
      go_simp
      with_reducible refine (rcost_own _ p K s.phase z _ ((HLP.out.below hbe).below hS0) HFP.out (HCL.out ▸ i1)).mono ?_
      rw [← HZ.out]
      rintro _ w5 ⟨v5, rfl, e5, hb5⟩
      have hS5 := below_then hS0 hb5 hS0.size
      obtain ⟨E, l9, k9, E', l9', k9', rfl, _, _⟩ := id e5.frac
      have HF := Lib.hid e5.frac
      have HO := Lib.hid (hO.below hS5)
      have hbs : w.heap.size ≤ w5.heap.size := by have := hbe.size; have := hS5.size; omega
      clear e5
      generalize hQ : canF (costQ p s.phase (s.at_ k)) = Q at *
      refine hKR.out _ _ (Or.inr hS5) ?_
      clear hKR KR
      (try simp only [Act.put, pu1, pu2, pu3, pu4, pu5, pu6])
      refine seq_step rfl rfl (fun KR hKR => ?_)
      go_simp
      refine hKR.out _ _ (Or.inl (by decide)) ?_
      clear hKR KR
      (try simp only [Act.put, pu1, pu2, pu3, pu4, pu5, pu6])
      refine seq_append_frac rfl rfl rfl (by decide) (.tmp 16) (.tmp 26) rfl w5 w.heap.size u5 (canL k fun i => costQ p s.phase (s.at_ i)) rfl HO.out _ _ E E' l9 k9 l9' k9' Q HF.out rfl hlen hbs ?_
      intro v' w6 hown6 hk6 hb6
      rw [← hQ, canL_succ k fun i => costQ p s.phase (s.at_ i)] at hown6
      (try simp only [Act.put, pu1, pu2, pu3, pu4, pu5, pu6])
      refine seq_step rfl rfl (fun KR hKR => ?_)
      go_simp
      refine hKR.out _ _ (Or.inl (by decide)) ?_
      clear hKR KR
      (try simp only [Act.put, pu1, pu2, pu3, pu4, pu5, pu6])
      refine seq_done ?_
      have hX6 := hk6.bk (hX.later hS5) (by decide)
      have hT6 := hk6.bk (hS.later hS5) (by decide)
      have hbe6 := (below_then hbe hS5 hbe.size).trans hb6
      clear C0 C1 C2 D0 D1 E1 hX hS hbe hS0 hS5 hb5 hO HO HF hk6 hb6 hQ
      go_wp2
      go_roundw
      case rel => exact ⟨k + 1, by omega, by go_num, hbe6, hX6, hT6, hown6⟩
      case measure => simp [intOf]; omega
    · obtain rfl : k = nb := by omega
      have HKR := HB1
      go_wp2_with fail
      refine (rmatrix_own _ _ p s K _ (HLP.out.below hbe) (HST.out.below hbe) HFP.out.ok HFP.out.kb HFP.out.in_ HFS.out.in_ HFP.out.rows HSL.out).mono ?_
      rw [HFS.out.len]
      rintro _ w5 ⟨v5, rfl, e5, hb5⟩
      go_wp2_with fail
      refine (rrows_own _ p.right.length (s.mat p) _ e5 HM1.out).mono ?_
      rintro _ w6 ⟨v6, rfl, e6, hb6⟩
      have hb56 := below_then hb5 hb6 hb5.size
      have hO6 := hO.below hb56
      have hbe6 := below_then hbe hb56 hbe.size
      have HO6 := Lib.hid hO6.frs
      have hOs := hO6.frs
      rw [HKR.out] at hOs
      have HO7 := Lib.hid hOs
      clear x0 x1 x2 y0 y1 y2 hO hO6 hOs e5 hX hS
      go_wp2_with fail
      refine (rsolve_own _ _ p.right.length (fun r k => s.mat p k r) (canL p.right.length fun i => costQ p s.phase (s.at_ i)) K _ e6 HO7.out (canL_length _ _) (fun r c _ _ => Sz_mat HFP.out s r c) (canL_rs fun i _ => Sz_cost HFP.out.ok HFP.out.k1 _ _) HFP.out.k1 HFP.out.ks HM1.out).mono ?_
      rintro _ w7 ⟨v7, rfl, e7, hb7⟩
      have hbe7 := below_then hbe6 hb7 hbe6.size
      go_wp2
      go_ret
      refine ⟨_, rfl, ?_, hbe7⟩
      obtain ⟨cs, ho, hf⟩ := e7
      exact ⟨cs, row_mono ho (by have := hbe6.size; omega), hf⟩
end Go.Proofs.YtpanffbgihhjnaaGreat

/- Walks: package pairingref25: reduced. -/
namespace Go.Proofs.YtpanffbgihhjnaaGreat
open Go.RowKit Pl
attribute [local go_sem ↓] Go.wp_at_zero Go.wp_at_succ

namespace Pl
def redQ (p : LPd) (s : LSt) (j : Int) : Rat := costQ p s.phase j - dotQ (dualL p s) (canL p.right.length (p.col j)) (min (dualL p s).length p.right.length)
def redL (p : LPd) (s : LSt) : List RF := canL p.cols.length fun j => redQ p s (j : Int)
theorem min_rows {p : LPd} {K : Nat} (F : p.Fit K) (s : LSt) : min (dualL p s).length p.right.length ≤ 64 := Nat.le_trans (Nat.min_le_right _ _) F.rows
theorem dot_bound {p : LPd} {K : Nat} (F : p.Fit K) (s : LSt) : 1 + min (dualL p s).length p.right.length * (2 * (5 ^ p.right.length * K) + 1) ≤ 129 * (5 ^ p.right.length * K) + 65 := by
  have h := Nat.mul_le_mul_right (2 * (5 ^ p.right.length * K) + 1) (min_rows F s)
  omega
theorem col_B {p : LPd} {K : Nat} (F : p.Fit K) (j : Int) : RsL (5 ^ p.right.length * K) (canL p.right.length (p.col j)) := canL_rs fun i _ => (LPd.Sz_col F.ok F.k1 j i).mono F.le
theorem Sz_red {p : LPd} {K : Nat} (F : p.Fit K) (s : LSt) (j : Int) : Sz (130 * (5 ^ p.right.length * K) + 100) (redQ p s j) := by
  have h1 := Sz_cost F.ok F.k1 s.phase j
  have h2 := Sz_dot (n := min (dualL p s).length p.right.length) (dualL_B F s) (col_B F j) (Nat.le_trans F.k1 F.le)
  have := dot_bound F s
  have := F.le
  exact (Sz_sub h1 h2).mono (by omega)
end Pl

set_option maxRecDepth 100000 in
set_option maxHeartbeats 4000000 in
theorem rreduced_own (v1 v2 : Value) (p : LPd) (s : LSt) (K : Nat) (w : World) (h : LpM w v1 p) (h2 : StM w v2 s) (F : p.Fit K) (S : s.Fit p) :
    Calls Tryz.prog 61 #[v1, v2] w fun e w' => ∃ v', e = .returned v' ∧ FrsO w.heap.size w' v' (redL p s) ∧ Below w.heap.size w w' := by
  obtain ⟨A, n, c, A', n', c', A'', n'', c'', rfl, hc, hv, hr⟩ := id h
  obtain ⟨Ab, nb, cb, rfl, hI⟩ := id h2
  obtain ⟨W, hW, hX0, hbe0⟩ := box_lp w (.slice A n c) (.slice A' n' c') (.slice A'' n'' c'')
  obtain ⟨W1, hW1, hS0, hbe1⟩ := box_st W (.int .i64 s.phase) (.slice Ab nb cb) (.int .i64 s.pivots)
  have hX := hX0.later hbe1
  have hbe := below_then hbe0 hbe1 hbe0.size
  obtain ⟨b1, b2, b3⟩ := hI.len
  have hsz : W.heap.size = w.heap.size + 1 := by rw [← hW]; simp
  rw [hsz] at hS0
  have HLP := Lib.hid h
  have HST := Lib.hid h2
  have HI := Lib.hid hI
  have HFP := Lib.hid F
  have HFS := Lib.hid S
  have HNB := Lib.hid b1
  have HB1 : Hid (nb = p.right.length) := Lib.hid (by rw [b1]; exact S.2)
  have hnb : nb ≤ 64 := by rw [HB1.out]; exact F.2.2.1
  obtain ⟨x0, x1, x2⟩ := hX.three
  obtain ⟨y0, y1, y2⟩ := hS0.three
  obtain ⟨m1, m2, m3⟩ := hv.len
  have HM1 := Lib.hid m1
  clear h h2 hc hv hr b1 hI hX0 hbe0 hbe1 F S
  clear m1
  have hn' : n' ≤ 1200 := by rw [HM1.out]; exact HFP.out.cols
  have HKS : Hid (130 * (5 ^ p.right.length * K) + 200 ≤ 8589934592) := Lib.hid HFP.out.2.2.2.2.2.2
  have HK1 : Hid (1 ≤ 5 ^ p.right.length * K) := Lib.hid (Nat.le_trans HFP.out.k1 HFP.out.le)
  have HDB := Lib.hid (dualL_B HFP.out s)
  have HSD : Hid (1 + min (dualL p s).length (canL p.right.length (p.col 0)).length * (2 * (5 ^ p.right.length * K) + 1) ≤ 34359738368) := Lib.hid (by rw [canL_length]; have := dot_bound HFP.out s; have := HKS.out; omega)
  have HS2 : Hid (2 * (5 ^ p.right.length * K) ≤ 34359738368) := Lib.hid (by have := HKS.out; omega)
  go_enter Tryz.func61, Tryz.ntmps61
  go_wp2_with fail
  clear hW hW1
  refine (rdual_own _ _ p s K _ (HLP.out.below hbe) (HST.out.below hbe) HFP.out HFS.out).mono ?_
  rintro _ w3 ⟨v3, rfl, e3, hb3⟩
  have hX3 := hX.later hb3
  have hT3 := hS0.later hb3
  have hbe3 := below_then hbe hb3 hbe.size
  have HY := Lib.hid e3.frs
  clear e3 hb3 hX hS0 x0 x1 x2 y0 y1 y2 hbe
  go_wp2
  go_loopw [6, 7] (fun u i wr => ∃ k : Nat, k ≤ n' ∧ i = .int .i64 k ∧ Below w.heap.size w wr ∧ Below w3.heap.size w3 wr ∧ Bk wr w.heap.size 26 [.slice A n c, .slice A' n' c', .slice A'' n'' c''] ∧ Bk wr (w.heap.size + 1) 34 [.int .i64 s.phase, .slice Ab nb cb, .int .i64 s.pivots] ∧ FrsO w3.heap.size wr u (canL k fun j => redQ p s (j : Int))) (fun _ i _ => n' - (intOf i).toNat)
  case atStart => exact ⟨0, by omega, rfl, hbe3, Below.refl _ _, hX3, hT3, FrsO.nil _ _⟩
  case round =>
    have hw3 := hbe3.size
    clear hbe3 hX3 hT3
    obtain ⟨k, hk, rfl, hbe, hbe', hX, hS, hO⟩ := hrel
    obtain ⟨x0, x1, x2⟩ := hX.three
    obtain ⟨y0, y1, y2⟩ := hS.three
    rcases Nat.lt_or_ge k n' with hkl | hkl
    · have HKN : Hid ((k : Int) < p.cols.length) := Lib.hid (by rw [← HM1.out]; omega)
      have HKC : Hid ((k : Int) < p.cost.length) := Lib.hid (by rw [HFP.out.cl]; exact HKN.out)
      have HCB := Lib.hid (col_B HFP.out (k : Int))
      have HSD : Hid (1 + min (dualL p s).length (canL p.right.length (p.col (k : Int))).length * (2 * (5 ^ p.right.length * K) + 1) ≤ 34359738368) := Lib.hid (by rw [canL_length]; have := dot_bound HFP.out s; have := HKS.out; omega)
      have HRD : Hid (canF (costQ p s.phase (k : Int) - dotQ (dualL p s) (canL p.right.length (p.col (k : Int))) (min (dualL p s).length p.right.length)) = canF (redQ p s (k : Int))) := Lib.hid rfl
      have HSC : Hid ((canF (costQ p s.phase (k : Int))).Sh) := Lib.hid ((Sz_cost HFP.out.ok HFP.out.k1 _ _).sh HFP.out.kb)
      have HSDT : Hid ((canF (dotQ (dualL p s) (canL p.right.length (p.col (k : Int))) (min (dualL p s).length p.right.length))).Sh) := Lib.hid ((Sz_dot HDB.out HCB.out HK1.out).sh (by have := dot_bound HFP.out s; have := HKS.out; omega))
      have hkI : (k : Int) < n' := by omega
      have hlen : (canL k fun j => redQ p s (j : Int)).length + 1 ≤ 1099511627776 := by rw [canL_length]; omega
      go_wp2_with fail
      have C0 := stab x0
      have C1 := stab x1
      have C2 := stab x2
      have D0 := stab y0
      have D1 := stab y1
      have hS0 := below_drew' wr
      clear x0 x1 x2 y0 y1 y2
      refine region_seq 12 [0, 1, 2, 3, 4, 6, 7, 8, 5, 9, 10, 11, 12, 13, 14] (by kernel_rfl) (by kernel_rfl) ?_
      repeat ((first | (refine seq_takeP (v := ?_) rfl rfl rfl ?_ ?_; rotate_left; (· (intro _ hSw; go_simp; (try go_bits); (try with_reducible rfl)))) | (refine seq_take (v := ?_) rfl rfl rfl ?_ ?_; rotate_left; (· (intro _ hSw; go_simp; (try go_bits); (try with_reducible rfl)))) | refine seq_skip rfl rfl rfl ?_); (try simp only [Act.put, pu1, pu2, pu3, pu4, pu5, pu6]))
      refine seq_step rfl rfl (fun KR hKR => ?_)
      go_simp
      with_reducible refine (rcost_own _ p K s.phase (k : Int) _ ((HLP.out.below hbe).below hS0) HFP.out HKC.out).mono ?_
      rintro _ w5 ⟨v5, rfl, e5, hb5⟩
      have hS5 := below_then hS0 hb5 hS0.size
      have hF5 := e5.frac
      clear e5
      refine hKR.out _ _ (Or.inr hS5) ?_
      clear hKR KR
      (try simp only [Act.put, pu1, pu2, pu3, pu4, pu5, pu6])
      repeat ((first | (refine seq_takeP (v := ?_) rfl rfl rfl ?_ ?_; rotate_left; (· (intro _ hSw; go_simp; (try go_bits); (try with_reducible rfl)))) | (refine seq_take (v := ?_) rfl rfl rfl ?_ ?_; rotate_left; (· (intro _ hSw; go_simp; (try go_bits); (try with_reducible rfl)))) | refine seq_skip rfl rfl rfl ?_); (try simp only [Act.put, pu1, pu2, pu3, pu4, pu5, pu6]))
      refine seq_step rfl rfl (fun KR hKR => ?_)
      go_simp
      with_reducible refine (rcolumn_any _ p K (k : Int) _ ((HLP.out.below hbe).below hS5) HFP.out.ok HFP.out.kb HFP.out.in_ (by omega) HKN.out HFP.out.rows).mono ?_
      rintro _ w6 ⟨v6, rfl, e6, hb6⟩
      have hS6 := below_then hS5 hb6 hS5.size
      have hF6 := hF5.below hb6
      have hC6 := e6.frs
      clear e6 hF5
      refine hKR.out _ _ (Or.inr hS6) ?_
      clear hKR KR
      (try simp only [Act.put, pu1, pu2, pu3, pu4, pu5, pu6])
      repeat ((first | (refine seq_takeP (v := ?_) rfl rfl rfl ?_ ?_; rotate_left; (· (intro _ hSw; go_simp; (try go_bits); (try with_reducible rfl)))) | (refine seq_take (v := ?_) rfl rfl rfl ?_ ?_; rotate_left; (· (intro _ hSw; go_simp; (try go_bits); (try with_reducible rfl)))) | refine seq_skip rfl rfl rfl ?_); (try simp only [Act.put, pu1, pu2, pu3, pu4, pu5, pu6]))
      refine seq_step rfl rfl (fun KR hKR => ?_)
      go_simp
      with_reducible refine (rdot_own _ _ (dualL p s) (canL p.right.length (p.col (k : Int))) (5 ^ p.right.length * K) _ ((HY.out.below hbe').below hS6) hC6 HK1.out HDB.out HCB.out HSD.out HS2.out).mono ?_
      rw [canL_length]
      rintro _ w7 ⟨v7, rfl, e7, hb7⟩
      have hS7 := below_then hS6 hb7 hS6.size
      have hF7 := hF6.below hb7
      have hD7 := e7
      clear e7 hF6 hC6
      refine hKR.out _ _ (Or.inr hS7) ?_
      clear hKR KR
      (try simp only [Act.put, pu1, pu2, pu3, pu4, pu5, pu6])
      repeat ((first | (refine seq_takeP (v := ?_) rfl rfl rfl ?_ ?_; rotate_left; (· (intro _ hSw; go_simp; (try go_bits); (try with_reducible rfl)))) | (refine seq_take (v := ?_) rfl rfl rfl ?_ ?_; rotate_left; (· (intro _ hSw; go_simp; (try go_bits); (try with_reducible rfl)))) | refine seq_skip rfl rfl rfl ?_); (try simp only [Act.put, pu1, pu2, pu3, pu4, pu5, pu6]))
      refine seq_step rfl rfl (fun KR hKR => ?_)
      go_simp
      with_reducible refine (rsubF_own _ _ (canF (costQ p s.phase (k : Int))) (canF (dotQ (dualL p s) (canL p.right.length (p.col (k : Int))) (min (dualL p s).length p.right.length))) _ hF7 hD7 HSC.out HSDT.out).mono ?_
      rw [canF_q, canF_q, HRD.out]
      rintro _ w8 ⟨v8, rfl, e8, hb8⟩
      have hS8 := below_then hS7 hb8 hS7.size
      have HF := Lib.hid e8.frac
      have HO := Lib.hid (hO.below hS8)
      have hbs : w3.heap.size ≤ w8.heap.size := by have := hbe'.size; have := hS8.size; omega
      obtain ⟨E, l9, k9, E', l9', k9', rfl, _, _⟩ := id e8.frac
      clear e8 hF7 hD7
      generalize hQ : canF (redQ p s (k : Int)) = Q at *
      refine hKR.out _ _ (Or.inr hS8) ?_
      clear hKR KR
      (try simp only [Act.put, pu1, pu2, pu3, pu4, pu5, pu6])
      refine seq_step rfl rfl (fun KR hKR => ?_)
      go_simp
      refine hKR.out _ _ (Or.inl (by decide)) ?_
      clear hKR KR
      (try simp only [Act.put, pu1, pu2, pu3, pu4, pu5, pu6])
      refine seq_append_frac rfl rfl rfl (by decide) (.tmp 18) (.tmp 30) rfl w8 w3.heap.size u6 (canL k fun j => redQ p s (j : Int)) rfl HO.out _ _ E E' l9 k9 l9' k9' Q HF.out rfl hlen hbs ?_
      intro v' w9 hown9 hk9 hb9
      rw [← hQ, canL_succ k fun j => redQ p s (j : Int)] at hown9
      (try simp only [Act.put, pu1, pu2, pu3, pu4, pu5, pu6])
      refine seq_step rfl rfl (fun KR hKR => ?_)
      go_simp
      refine hKR.out _ _ (Or.inl (by decide)) ?_
      clear hKR KR
      (try simp only [Act.put, pu1, pu2, pu3, pu4, pu5, pu6])
      refine seq_done ?_
      have hX6 := hk9.bk (hX.later hS8) (by decide)
      have hT6 := hk9.bk (hS.later hS8) (by decide)
      have hbe6 := (below_then hbe hS8 hbe.size).trans (hb9.mono hw3)
      have hbe6' := (below_then hbe' hS8 hbe'.size).trans hb9
      clear C0 C1 C2 D0 D1 hX hS hbe hbe' hS0 hS5 hS6 hS7 hS8 hb5 hb6 hb7 hb8 hO HO HF hk9 hb9 hQ
      go_wp2
      go_roundw
      case rel => exact ⟨k + 1, by omega, by go_num, hbe6, hbe6', hX6, hT6, hown9⟩
      case measure => simp [intOf]; omega
    · obtain rfl : k = n' := by omega
      go_wp2
      go_ret
      refine ⟨_, rfl, ?_, hbe⟩
      unfold redL
      rw [← HM1.out]
      obtain ⟨cs, ho, hf⟩ := hO
      exact ⟨cs, row_mono ho hw3, hf⟩
end Go.Proofs.YtpanffbgihhjnaaGreat

/- A region that draws its order, where now and then two operations may come up: a plan with forks. -/
namespace Go.Proofs.YtpanffbgihhjnaaGreat
open Go.RowKit Pl

inductive Plan where
  | done
  | go (i : Nat) (p : Plan)
  | fork (i : Nat) (p : Plan) (j : Nat) (q : Plan)
def Plan.of : List Nat → Plan → Plan
  | [], p => p
  | i :: is, p => .go i (Plan.of is p)
def planGo (md : Region.Mode) (ops : Array Oper) (n : Nat) : Bool → Plan → Array Bool → Bool
  | _, .done, listed => Region.ready md ops listed == []
  | d, .go i p, listed => seqAt md ops n listed i && (!(d && (floatI ops n i && !pureI ops i)) && planGo md ops n (d || decide (n ≤ i)) p (listed.setIfInBounds i true))
  | d, .fork i p j q, listed => (!floatI ops n i && !floatI ops n j) && (Region.ready md ops listed == [i, j] && (planGo md ops n (d || decide (n ≤ i)) p (listed.setIfInBounds i true) && planGo md ops n (d || decide (n ≤ j)) q (listed.setIfInBounds j true)))
section
variable {P : Program} {ops : Array Oper} {Q : Exit → Act → World → Prop} {md : Region.Mode} {S : World → Prop} {n : Nat}
def wpAlone (P : Program) (ops : Array Oper) (Q : Exit → Act → World → Prop) (S : World → Prop) (n i : Nat) (K : Act → World → Prop) (a : Act) (w : World) : Prop := match ops[i]? with
  | none => True
  | some o => if Region.wanted o (yielded ops a.tmps) = true then Oper.wp P o a w (fun a' w' => (n ≤ i ∨ S w') ∧ K a' w') Q else (n ≤ i ∨ S w) ∧ K (a.put o.dst undef) w
def wpPlan (P : Program) (ops : Array Oper) (Q : Exit → Act → World → Prop) (S : World → Prop) (n : Nat) : Plan → Act → World → Prop
  | .done, a, w => Q .normal a w
  | .go i p, a, w => match ops[i]? with
    | none => True
    | some o => if floatI ops n i = true then ∃ v, (if pureI ops i = true then YieldsIf P ops (fun _ => True) o v a else YieldsIf P ops S o v a) ∧ wpPlan P ops Q S n p (a.put o.dst v) w else wpAlone P ops Q S n i (wpPlan P ops Q S n p) a w
  | .fork i p j q, a, w => wpAlone P ops Q S n i (wpPlan P ops Q S n p) a w ∧ wpAlone P ops Q S n j (wpPlan P ops Q S n q) a w
theorem wpAlone.wpOp {i : Nat} {o : Oper} {K : Act → World → Prop} {a : Act} {w : World} (ho : ops[i]? = some o) (h : wpAlone P ops Q S n i K a w) : Go.wpOp P ops Q i (fun a' w' => (n ≤ i ∨ S w') ∧ K a' w') a w := by
  unfold wpAlone at h
  rw [ho] at h
  unfold Go.wpOp
  rw [ho]
  show if Region.wanted o (yielded ops a.tmps) = true then _ else _
  have h : if Region.wanted o (yielded ops a.tmps) = true then Oper.wp P o a w (fun a' w' => (n ≤ i ∨ S w') ∧ K a' w') Q else (n ≤ i ∨ S w) ∧ K (a.put o.dst undef) w := h
  split
  · rename_i hw; rw [if_pos hw] at h; exact .inl h
  · rename_i hw; rw [if_neg hw] at h; exact h
def Plan.len : Plan → Nat
  | .done => 0
  | .go _ p => p.len + 1
  | .fork _ p _ _ => p.len + 1
def Plan.even : Plan → Bool
  | .done => true
  | .go _ p => p.even
  | .fork _ p _ q => p.even && (q.even && (p.len == q.len))
def planOK (md : Region.Mode) (ops : Array Oper) (n : Nat) (p : Plan) : Bool := Region.noSelect ops && (planGo md ops n false p (Array.replicate ops.size false) && (p.even && decide (p.len = ops.size)))
theorem AnyG.of_plan (hQ : ∀ c a d v w, Q (.panic c) (a.put d v) w → Q (.panic c) a w) (hs : Region.noSelect ops = true) :
    ∀ (p : Plan) (listed : Array Bool) (a : Act) (w : World) (d : Bool), p.even = true → planGo md ops n d p listed = true → (d = false → S w) → wpPlan P ops Q S n p a w → AnyG P md ops Q S n p.len listed a w := by
  intro p
  induction p with
  | done =>
    intro listed a w d _ hgo _ h
    exact ⟨by simpa [planGo] using hgo, h⟩
  | go i p ih =>
    intro listed a w d hev hgo hS h
    simp only [planGo, Bool.and_eq_true] at hgo
    obtain ⟨hat, hd, hgo⟩ := hgo
    unfold wpPlan at h
    unfold seqAt at hat
    split at hat
    · rename_i hf
      simp only [Bool.and_eq_true] at hat
      obtain ⟨h1, h2, h3⟩ := hat
      have hf' := hf
      simp only [floatI, Bool.and_eq_true, decide_eq_true_eq] at hf'
      obtain ⟨o, ho⟩ : ∃ o, ops[i]? = some o := by
        cases hc : ops[i]? with
        | none => rw [hc] at hf'; simp at hf'
        | some o => exact ⟨o, rfl⟩
      simp only [ho] at h
      rw [if_pos hf] at h
      obtain ⟨v, hy, hr⟩ := h
      by_cases hp : pureI ops i = true
      · rw [if_pos hp] at hy
        exact anyG_takeP ho hs h1 h2 (fun c a w => hQ c a o.dst v w) hy (ih _ _ w _ hev hgo (fun hd' => hS (by simp at hd'; exact hd'.1)) hr)
      · rw [if_neg hp] at hy
        have hdf : d = false := by rw [hf] at hd; simpa [hp] using hd
        have hw := hS hdf
        exact anyG_takeT ho hs h1 h2 (by simpa [hp] using h3) (fun c a w => hQ c a o.dst v w) hy hw (ih _ _ w _ hev hgo (fun _ => hw) hr)
    · rename_i hf
      have hr : Region.ready md ops listed = [i] := by simpa using hat
      have hi : i ∈ Region.ready md ops listed := by rw [hr]; exact List.mem_singleton.2 rfl
      obtain ⟨_, o, ho, _⟩ := mem_ready.1 hi
      simp only [ho] at h
      rw [if_neg hf] at h
      refine ⟨fun h0 => (by rw [hr] at h0; cases h0), fun j hj => ?_⟩
      rw [hr] at hj
      obtain rfl : j = i := by simpa using hj
      exact wpOp_mono (fun a' w' h' => ⟨h'.1.imp id (fun h _ => h), ih _ a' w' _ hev hgo (fun hle => h'.1.resolve_left (by simp at hle; omega)) h'.2⟩) (h.wpOp ho)
  | fork i p j q ihp ihq =>
    intro listed a w d hev hgo hS h
    simp only [planGo, Bool.and_eq_true] at hgo
    obtain ⟨_, hr, hg1, hg2⟩ := hgo
    simp only [Plan.even, Bool.and_eq_true, beq_iff_eq] at hev
    obtain ⟨ev1, ev2, hlen⟩ := hev
    have hr : Region.ready md ops listed = [i, j] := by simpa using hr
    obtain ⟨h1, h2⟩ := h
    have hi : i ∈ Region.ready md ops listed := by rw [hr]; simp
    have hj : j ∈ Region.ready md ops listed := by rw [hr]; simp
    obtain ⟨_, oi, hoi, _⟩ := mem_ready.1 hi
    obtain ⟨_, oj, hoj, _⟩ := mem_ready.1 hj
    refine ⟨fun h0 => (by rw [hr] at h0; cases h0), fun k hk => ?_⟩
    rw [hr] at hk
    simp only [List.mem_cons, List.not_mem_nil, or_false] at hk
    rcases hk with rfl | rfl
    · exact wpOp_mono (fun a' w' h' => ⟨h'.1.imp id (fun h _ => h), ihp _ a' w' _ ev1 hg1 (fun hle => h'.1.resolve_left (by simp at hle; omega)) h'.2⟩) (h1.wpOp hoi)
    · exact wpOp_mono (fun a' w' h' => ⟨h'.1.imp id (fun h _ => h), by rw [hlen]; exact ihq _ a' w' _ ev2 hg2 (fun hle => h'.1.resolve_left (by simp at hle; omega)) h'.2⟩) (h2.wpOp hoj)
theorem region_plan {id : Nat} {l : List Oper} {a : Act} {w : World} (n : Nat) (p : Plan) (hm : P.follows .mixedOrders = true) (hok : planOK .any l.toArray n p = true)
    (h : wpPlan P l.toArray (NoPanic Q) (fun w' => Below w.heap.size w w') n p a w.drew) : (Code.region id l.toArray true).wp P Q a w := by
  simp only [planOK, Bool.and_eq_true, decide_eq_true_eq] at hok
  obtain ⟨hs, hgo, hev, hl⟩ := hok
  refine wp_region_noPanic (wp_region_any hm (AnyG.any _ _ _ _ (S := fun w' => Below w.heap.size w w') (n := n) ?_))
  have := AnyG.of_plan (P := P) (Q := NoPanic Q) (S := fun w' => Below w.heap.size w w') (fun c a d v w h => h) hs p _ a w.drew false hev hgo (fun _ => (Below.refl _ _).drew) h
  rwa [hl] at this
theorem plan_done {a : Act} {w : World} (h : Q .normal a w) : wpPlan P ops (NoPanic Q) S n .done a w := h
theorem plan_take {o : Oper} {i : Nat} {p : Plan} {a : Act} {w : World} {v : Value} (ho : ops[i]? = some o) (hf : (floatI ops n i && !pureI ops i) = true) (hw : Region.wanted o (yielded ops a.tmps) = true) (hy : ∀ w', S w' → (execOp a.eval o).run P w' = .ok (.value v) w') (h : wpPlan P ops Q S n p (a.put o.dst v) w) : wpPlan P ops Q S n (.go i p) a w := by
  simp only [Bool.and_eq_true, Bool.not_eq_true'] at hf
  unfold wpPlan
  rw [ho]
  show if _ then _ else _
  rw [if_pos hf.1]
  exact ⟨v, by rw [if_neg (by simp [hf.2])]; exact .inl ⟨hw, hy⟩, h⟩
theorem plan_takeP {o : Oper} {i : Nat} {p : Plan} {a : Act} {w : World} {v : Value} (ho : ops[i]? = some o) (hf : (floatI ops n i && pureI ops i) = true) (hw : Region.wanted o (yielded ops a.tmps) = true) (hy : ∀ w', True → (execOp a.eval o).run P w' = .ok (.value v) w') (h : wpPlan P ops Q S n p (a.put o.dst v) w) : wpPlan P ops Q S n (.go i p) a w := by
  simp only [Bool.and_eq_true] at hf
  unfold wpPlan
  rw [ho]
  show if _ then _ else _
  rw [if_pos hf.1]
  exact ⟨v, by rw [if_pos hf.2]; exact .inl ⟨hw, hy⟩, h⟩
theorem plan_skip {o : Oper} {i : Nat} {p : Plan} {a : Act} {w : World} (ho : ops[i]? = some o) (hf : floatI ops n i = true) (hw : Region.wanted o (yielded ops a.tmps) = false) (h : wpPlan P ops Q S n p (a.put o.dst undef) w) : wpPlan P ops Q S n (.go i p) a w := by
  unfold wpPlan
  rw [ho]
  show if _ then _ else _
  rw [if_pos hf]
  exact ⟨undef, by split <;> exact .inr ⟨hw, rfl⟩, h⟩
theorem alone_step {o : Oper} {i : Nat} {K : Act → World → Prop} {a : Act} {w : World} (ho : ops[i]? = some o)
    (h : ∀ K' : Act → World → Prop, Shut (∀ a w, (n ≤ i ∨ S w) → K a w → K' a w) → if Region.wanted o (yielded ops a.tmps) = true then Oper.wp P o a w K' Q else K' (a.put o.dst undef) w) : wpAlone P ops Q S n i K a w := by
  have h1 := h (fun a' w' => (n ≤ i ∨ S w') ∧ K a' w') (fun a w h1 h2 => ⟨h1, h2⟩)
  unfold wpAlone
  rw [ho]
  exact h1
theorem plan_step {o : Oper} {i : Nat} {p : Plan} {a : Act} {w : World} (ho : ops[i]? = some o) (hf : floatI ops n i = false)
    (h : ∀ K' : Act → World → Prop, Shut (∀ a w, (n ≤ i ∨ S w) → wpPlan P ops Q S n p a w → K' a w) → if Region.wanted o (yielded ops a.tmps) = true then Oper.wp P o a w K' Q else K' (a.put o.dst undef) w) : wpPlan P ops Q S n (.go i p) a w := by
  unfold wpPlan
  rw [ho]
  show if _ then _ else _
  rw [if_neg (by simp [hf])]
  exact alone_step ho h
theorem plan_skipc {o : Oper} {i : Nat} {p : Plan} {a : Act} {w : World} (ho : ops[i]? = some o) (hf : floatI ops n i = false) (hw : Region.wanted o (yielded ops a.tmps) = false) (hS : S w) (h : wpPlan P ops Q S n p (a.put o.dst undef) w) : wpPlan P ops Q S n (.go i p) a w := by
  refine plan_step ho hf fun K hK => ?_
  rw [if_neg (by rw [hw]; simp)]
  exact hK _ _ (.inr hS) h
theorem plan_fork {oi oj : Oper} {i j : Nat} {p q : Plan} {a : Act} {w : World} (hi : ops[i]? = some oi) (hj : ops[j]? = some oj)
    (h1 : ∀ K' : Act → World → Prop, Shut (∀ a w, (n ≤ i ∨ S w) → wpPlan P ops Q S n p a w → K' a w) → if Region.wanted oi (yielded ops a.tmps) = true then Oper.wp P oi a w K' Q else K' (a.put oi.dst undef) w)
    (h2 : ∀ K' : Act → World → Prop, Shut (∀ a w, (n ≤ j ∨ S w) → wpPlan P ops Q S n q a w → K' a w) → if Region.wanted oj (yielded ops a.tmps) = true then Oper.wp P oj a w K' Q else K' (a.put oj.dst undef) w) : wpPlan P ops Q S n (.fork i p j q) a w := ⟨alone_step hi h1, alone_step hj h2⟩
end
end Go.Proofs.YtpanffbgihhjnaaGreat

/- Walks: package pairingdata: Wild. -/
namespace Go.Proofs.YtpanffbgihhjnaaGreat
open Go.RowKit Pl
attribute [local go_sem ↓] Go.wp_at_zero Go.wp_at_succ

theorem region_planS {P : Program} {Q : Exit → Act → World → Prop} {id : Nat} {l : List Oper} {a : Act} {w : World} (S : World → Prop) (n : Nat) (p : Plan) (hm : P.follows .mixedOrders = true) (hok : planOK .any l.toArray n p = true) (hS : S w.drew)
    (h : wpPlan P l.toArray (NoPanic Q) S n p a w.drew) : (Code.region id l.toArray true).wp P Q a w := by
  simp only [planOK, Bool.and_eq_true, decide_eq_true_eq] at hok
  obtain ⟨hs, hgo, hev, hl⟩ := hok
  refine wp_region_noPanic (wp_region_any hm (AnyG.any _ _ _ _ (S := S) (n := n) ?_))
  have := AnyG.of_plan (P := P) (Q := NoPanic Q) (S := S) (fun c a d v w h => h) hs p _ a w.drew false hev hgo (fun _ => hS) h
  rwa [hl] at this
theorem run_append_digit (ty : TypeId) (W : World) (base b : Nat) (v : Value) (ds : List Nat) (hown : W.ownsRow base 85 1 v ds.length (ds.map uc)) (hz : Bk W b 85 [.int .u32 0]) (hn : ds.length ≤ 1099511627776) (hbase : base ≤ W.heap.size) :
    ∃ v' w', (Builtin.append_ #[43, 43] ty #[v, .slice (some ⟨b, 0, none⟩) 1 1]).run Tryz.prog W = .ok v' w' ∧ w'.ownsRow base 85 1 v' (ds ++ [0]).length ((ds ++ [0]).map uc) ∧ Others v.ownBlock W w' ∧ Below base W w' ∧ (v'.ownBlock = v.ownBlock ∨ ∀ g, v'.ownBlock = some g → W.heap.size ≤ g) := by
  obtain ⟨i0, hi, hz0, hz1, hz2⟩ := info_parts info_u32
  obtain ⟨v', w', hrun, h2, h3, _, h5⟩ := run_append_own_at (P := Tryz.prog) W base 43 ty 85 i0 (.int .u32 0) 1 4 Tryz.underlying43 hi hz0 hz1 hz2 rfl (by decide) v ds.length (ds.map uc) hown ⟨b, 0, none⟩ 1 1 [.int .u32 0] rfl (fun j u hj => by
    match j, hj with
    | 0, hj => simp at hj; subst hj; simpa [Addr.add] using hz.cellAt 0 rfl) (fun u hu => by simp at hu; subst hu; rfl) (by unfold maxLen; omega) (by omega) hbase
  refine ⟨v', w', hrun, by simpa [uc] using h2, ⟨h3.size, fun k hk hne => h3.block k hk hne⟩, (Below.refl _ _).grown h3 hbase (fun k hk => (hown.lt k hk).1), ?_⟩
  rcases h5 with h5 | h5
  · exact .inl h5
  · right; intro g hg; rw [h5] at hg; injection hg with hg; omega

theorem wp_append_run {P : Program} {o : Oper} {a : Act} {w w' : World} {K : Act → World → Prop} {Q : Exit → Act → World → Prop} {y : Nat → Option Bool} {s x : Operand} {t ty : TypeId} {v u v' : Value} (hr : (Builtin.append_ #[t, t] ty #[v, u]).run P w = .ok v' w') (hty : o.type = ty) (hgd : o.guard = none) (ho : o.op = .call { callee := .builtin .append, args := #[s, x], argTypes := #[t, t] })
    (hs : a.eval s = v) (hx : a.eval x = u) (h : K (a.put o.dst v') w') : if Region.wanted o y = true then Oper.wp P o a w K Q else K (a.put o.dst undef) w := by
  subst hty
  rw [if_pos (by simp [Region.wanted, hgd])]
  unfold Oper.wp execOp
  simp only [ho, resolve, invoke, builtin, Sem.run_bind, Sem.run_pure, Result.andThen_ok, List.map_toArray, List.map_cons, List.map_nil, hs, hx, hr]
  exact h
theorem box_i4 (w : World) (x y z u : Value) : ∃ W, w.alloc (.cells #[x, y, z, u] 3) = W ∧ Bk W w.heap.size 3 [x, y, z, u] ∧ Below w.heap.size w W := ⟨_, rfl, Bk.new w _ [x, y, z, u], below_new w _⟩
theorem box_int (w : World) (x y : Value) : ∃ W, w.alloc (.cells #[x, y] 45) = W ∧ Bk W w.heap.size 45 [x, y] ∧ Below w.heap.size w W := ⟨_, rfl, Bk.new w _ [x, y], below_new w _⟩
theorem pick4 (i : Nat) (hi : i < 4) : ∃ z : Int, [Value.int .i64 1, .int .i64 (-1), .int .i64 2, .int .i64 0][i]? = some (.int .i64 z) ∧ -1 ≤ z ∧ z ≤ 2 := by
  match i, hi with
  | 0, _ => exact ⟨1, rfl, by decide, by decide⟩
  | 1, _ => exact ⟨-1, rfl, by decide, by decide⟩
  | 2, _ => exact ⟨2, rfl, by decide, by decide⟩
  | 3, _ => exact ⟨0, rfl, by decide, by decide⟩
theorem IntO.own_lt {base : Nat} {w : World} {b s : Value} {a : RI} (h : IntO base w (.agg #[b, s]) a) : ∀ g, s.ownBlock = some g → g < w.heap.size := by
  obtain ⟨t, e, o, _⟩ := h
  simp at e
  obtain ⟨_, rfl⟩ := e
  intro g hg
  rcases o.2 with ⟨rfl, _⟩ | ⟨g', cap, cur, rfl, _, hgg, _⟩
  · simp [Value.ownBlock] at hg
  · simp [Value.ownBlock] at hg
    subst hg
    exact lt_heap hgg
theorem IntO.own_ge {base : Nat} {w : World} {b s : Value} {a : RI} (h : IntO base w (.agg #[b, s]) a) : ∀ g, s.ownBlock = some g → base ≤ g := by
  obtain ⟨t, e, o, _⟩ := h
  simp at e
  obtain ⟨_, rfl⟩ := e
  intro g hg
  exact (o.lt g hg).1
theorem IntO.row {base : Nat} {w : World} {b s : Value} {a : RI} (h : IntO base w (.agg #[b, s]) a) : w.ownsRow base 85 1 s a.ds.length (a.ds.map uc) ∧ okD a.ds := by
  obtain ⟨t, e, o, ok⟩ := h
  simp at e
  obtain ⟨_, rfl⟩ := e
  exact ⟨o, ok⟩
theorem own_others {base : Nat} {w w' : World} {g : Option Nat} {t : TypeId} {s n : Nat} {v : Value} {xs : List Value} (h : w.ownsRow base t s v n xs) (ho : Others g w w') (hne : ∀ b, v.ownBlock = some b → some b ≠ g) : w'.ownsRow base t s v n xs := by
  refine ⟨h.1, ?_⟩
  rcases h.2 with hn | ⟨g', cap, cur, rfl, hb', hgg, rest⟩
  · exact .inl hn
  · exact .inr ⟨g', cap, cur, rfl, hb', (ho.2 g' (lt_heap hgg) (hne g' (by simp [Value.ownBlock]))).trans hgg, rest⟩
theorem own_lt' {base : Nat} {w : World} {t : TypeId} {s n : Nat} {v : Value} {xs : List Value} (h : w.ownsRow base t s v n xs) : ∀ g, v.ownBlock = some g → g < w.heap.size := by
  intro g hg
  rcases h.2 with ⟨rfl, _⟩ | ⟨g', cap, cur, rfl, _, hgg, _⟩
  · simp [Value.ownBlock] at hg
  · simp [Value.ownBlock] at hg
    subst hg
    exact lt_heap hgg
theorem own_ne_bk {base : Nat} {w : World} {t t' : TypeId} {s n g : Nat} {v : Value} {xs cs : List Value} (h : w.ownsRow base t s v n xs) (hb : Bk w g t' cs) (ht : t ≠ t') : some g ≠ v.ownBlock := by
  intro e
  rcases h.2 with ⟨rfl, _⟩ | ⟨g', cap, cur, rfl, _, hgg, _⟩
  · simp [Value.ownBlock] at e
  · simp [Value.ownBlock] at e
    subst e
    unfold Bk at hb
    rw [hb] at hgg
    injection hgg with hgg
    injection hgg with _ h2 _
    exact ht h2.symm
theorem box_u (w : World) : ∃ W, w.alloc (.cells #[.int .u32 0] 85) = W ∧ Bk W w.heap.size 85 [.int .u32 0] ∧ Below w.heap.size w W := ⟨_, rfl, Bk.new w _ [.int .u32 0], below_new w _⟩
theorem intM_row {base : Nat} {w : World} {neg : Bool} {A : Option Addr} {l c : Nat} {ds : List Nat} (hl : (ds ++ [0]).length = l) (h : w.ownsRow base 85 1 (.slice A l c) l ((ds ++ [0]).map uc)) (ok : okD ds) : IntM w (.agg #[.bool neg, .slice A l c]) ⟨neg, ds ++ [0]⟩ := by
  subst hl
  exact (IntO.int ⟨_, rfl, h, okD_append.2 ⟨ok, okD_cons.2 ⟨by decide, okD_nil⟩⟩⟩ : IntM w (.agg #[.bool neg, .slice A _ c]) ⟨neg, ds ++ [0]⟩)
theorem Pl.val_zero_end (ds : List Nat) : val (ds ++ [0]) = val ds := by rw [val_append]; simp [val]
def WildPost (w : World) (e : Ending) (w' : World) : Prop := ∃ v' f, e = .returned v' ∧ FracM w' v' f ∧ f.Rs 8 ∧ Below w.heap.size w w'

set_option maxRecDepth 100000 in
set_option maxHeartbeats 8000000 in
theorem wild_any (n : Int) (w : World) : Calls Tryz.prog 22 #[.int .i64 n] w (WildPost w) := by
  have m2 := i64_and3
  obtain ⟨W, hW, hR, hbe0⟩ := boxF1 w (.bool false) (.slice none 0 0) (.bool false) (.slice none 0 0)
  obtain ⟨i, hi, hi4⟩ : ∃ i : Nat, n / 64 % 4 = (i : Int) ∧ i < 4 := ⟨(n / 64 % 4).toNat, by omega, by omega⟩
  obtain ⟨z, hz, z1, z2⟩ := pick4 i hi4
  have HZ := Lib.hid hz
  clear hz
  go_enter Tryz.func22, Tryz.ntmps22
  go_wp2_with fail
  clear hW
  refine (frac_own n _).mono ?_
  rintro _ w1 ⟨v1, q, rfl, e1, sq, hb1⟩
  have HF1 := Lib.hid e1.frac
  have HSQ := Lib.hid sq.rs
  clear e1 sq
  generalize canF q = fq at *
  obtain ⟨Bn, ln, dn, Bd, ld, dd, rfl, _, _⟩ := id HF1.out
  obtain ⟨W1, hW1, hX1, hbn1⟩ := boxF1 w1 (.bool fq.num.neg) (.slice Bn ln dn) (.bool fq.den.neg) (.slice Bd ld dd)
  obtain ⟨U1, hU1, hL1, hbu1⟩ := box_i4 W1 (.int .i64 1) (.int .i64 (-1)) (.int .i64 2) (.int .i64 0)
  have hc1 := hL1.cellAt i HZ.out
  have hb11 := below_then hbn1 hbu1 hbn1.size
  have hb1u := below_then hb1 hb11 hb1.size
  have hiI : (i : Int) < 4 := by omega
  go_wp2_with fail
  clear hW1 hU1
  refine (rint_own z _ (by omega) (by omega)).mono ?_
  rintro _ w2 ⟨v2, rfl, e2, hb2⟩
  have HSKA1 : Hid ((digs (val (canF (z : Rat)).num.ds)).length ≤ 1) := Lib.hid (Sz_int (z := z) (by omega) (by omega)).rs.1
  have HSK : Hid ((digs (val (canF (z : Rat)).num.ds)).length ≤ 1000) := Lib.hid (Nat.le_trans HSKA1.out (by decide))
  obtain ⟨B2, l2, d2, B2', l2', d2', rfl, _, _⟩ := id e2.frac
  have HE2 := Lib.hid e2.frac.num.1
  clear e2
  generalize hkA : (canF (z : Rat)) = fA at *
  clear hkA
  obtain ⟨kA, hkA⟩ : ∃ kA, fA.num = kA := ⟨_, rfl⟩
  rw [hkA] at HSK HSKA1 HE2 ⊢
  clear hkA
  have hfA := fun b s b' s' (w : World) => run_num b s b' s' w
  obtain ⟨U2, hU2, hA2, hbu2⟩ := box_int w2 (.bool kA.neg) (.slice B2 l2 d2)
  obtain ⟨U3, hU3, hL3, hbu3⟩ := box_i4 U2 (.int .i64 1) (.int .i64 (-1)) (.int .i64 2) (.int .i64 0)
  have hc3 := hL3.cellAt i HZ.out
  go_wp2_with fail
  clear hU2 hU3 hc1
  refine (rint_own z _ (by omega) (by omega)).mono ?_
  rintro _ w3 ⟨v3, rfl, e3, hb3⟩
  obtain ⟨B3, l3, d3, B3', l3', d3', rfl, _, _⟩ := id e3.frac
  have HE3 := Lib.hid e3.frac.num.1
  have HSKB1 : Hid ((digs (val (canF (z : Rat)).num.ds)).length ≤ 1) := Lib.hid (Sz_int (z := z) (by omega) (by omega)).rs.1
  have HSK3 : Hid ((digs (val (canF (z : Rat)).num.ds)).length ≤ 1000) := Lib.hid (Nat.le_trans HSKB1.out (by decide))
  clear e3
  generalize hkB : (canF (z : Rat)) = fB at *
  clear hkB
  obtain ⟨kB, hkB⟩ : ∃ kB, fB.num = kB := ⟨_, rfl⟩
  rw [hkB] at HSK3 HSKB1 HE3 ⊢
  clear hkB
  obtain ⟨U4, hU4, hA4, hbu4⟩ := box_int w3 (.bool kB.neg) (.slice B3 l3 d3)
  go_wp2_with fail
  clear hU4 hc3 hfA m2 hi
  have m2 := i64_and3
  have c3 := below_then hb3 hbu4 hb3.size
  have c2 := below_then hbu3 c3 hbu3.size
  have c1 := below_then hbu2 c2 hbu2.size
  have c0 := below_then hb2 c1 hb2.size
  have cU := below_then hbu1 c0 hbu1.size
  have hX := hX1.later cU
  have hFq := HF1.out.below (below_then hbn1 cU hbn1.size)
  have hNum := hFq.num.1
  have hDen := hFq.num.2
  have hKA := HE2.out.below c1
  have hKB := HE3.out.below hbu4
  have hA := hA2.later c2
  have hR4 := hR.later (below_then hb1u c0 hb1u.size)
  have hbe4 := below_then hbe0 (below_then hb1u c0 hb1u.size) hbe0.size
  have HSN : Hid ((digs (val fq.num.ds)).length ≤ 1000) := Lib.hid (Nat.le_trans HSQ.out.1 (by decide))
  have HSD : Hid ((digs (val fq.den.ds)).length ≤ 1000) := Lib.hid (Nat.le_trans HSQ.out.2 (by decide))
  have HSKA := HSK
  have HSKB := HSK3
  have hgf : w.heap.size < w1.heap.size := by have := hR.lt; have := hb1.size; omega
  clear hX1 hFq hA2 hR hbe0 hb1u c0 c1 c2 c3 cU hbn1 hbu1 hbu2 hbu3 hbu4 hb1 hb11 hb2 hb3 HF1 HE2 HE3 hL1 hL3 HSK HSK3 hi4 hiI HZ
  generalize hg1 : w1.heap.size = gf at *
  generalize hg2 : w2.heap.size = ga at *
  generalize hg3 : w3.heap.size = gb at *
  clear hg1 hg2 hg3
  obtain ⟨NN, hNN⟩ : ∃ NN, canI (fq.num.z * kA.z) = NN := ⟨_, rfl⟩
  obtain ⟨DD, hDD⟩ : ∃ DD, canI (fq.den.z * kB.z) = DD := ⟨_, rfl⟩
  have HNN := Lib.hid hNN
  have HDD := Lib.hid hDD
  have HRS : Hid ((digs (val NN.ds)).length ≤ 8 ∧ (digs (val DD.ds)).length ≤ 8) := Lib.hid (by
    rw [← hNN, ← hDD, val_canI, val_canI, Int.natAbs_mul, Int.natAbs_mul, z_natAbs, z_natAbs, z_natAbs, z_natAbs]
    exact ⟨Nat.le_trans (mul_len _ _) (by have := HSQ.out.1; have := HSKA1.out; omega), Nat.le_trans (mul_len _ _) (by have := HSQ.out.2; have := HSKB1.out; omega)⟩)
  have HCN : Hid (NN.ds.length = (digs (val NN.ds)).length) := Lib.hid (by rw [← hNN, val_canI]; rfl)
  have HCD : Hid (DD.ds.length = (digs (val DD.ds)).length) := Lib.hid (by rw [← hDD, val_canI]; rfl)
  clear hNN hDD
  obtain ⟨x0, x1, x2, x3⟩ := hX.four
  obtain ⟨y0, y1, _, _⟩ := hA.two
  obtain ⟨p0, p1, _, _⟩ := hA4.two
  have C0 := stab x0
  have C1 := stab x1
  have C2 := stab x2
  have C3 := stab x3
  have C4 := stab y0
  have C5 := stab y1
  have C6 := stab p0
  have C7 := stab p1
  have hS0 := below_drew' U4
  clear x0 x1 x2 x3 y0 y1 p0 p1
  refine region_seq 9 [0, 1, 2, 4, 5, 6, 3, 8, 7, 9, 10, 11] (by kernel_rfl) (by kernel_rfl) ?_
  repeat ((first | (refine seq_takeP (v := ?_) rfl rfl rfl ?_ ?_; rotate_left; (· (intro _ hSw; go_simp; (try go_bits); (try with_reducible rfl)))) | (refine seq_take (v := ?_) rfl rfl rfl ?_ ?_; rotate_left; (· (intro _ hSw; go_simp; (try go_bits); (try with_reducible rfl)))) | refine seq_skip rfl rfl rfl ?_); (try simp only [Act.put, pu1, pu2, pu3, pu4, pu5, pu6]))
  refine seq_step rfl rfl (fun KR hKR => ?_)
  go_simp
  with_reducible refine (ptimes_own _ _ fq.num kA _ (hNum.below hS0) (hKA.below hS0) HSN.out HSKA.out).mono ?_
  rw [HNN.out]
  rintro _ w5 ⟨v5, rfl, e5, hb5⟩
  have hS5 := below_then hS0 hb5 hS0.size
  obtain ⟨A5, n5, c5, rfl⟩ := e5.shape
  refine hKR.out _ _ (Or.inr hS5) ?_
  clear hKR KR
  (try simp only [Act.put, pu1, pu2, pu3, pu4, pu5, pu6])
  repeat ((first | (refine seq_takeP (v := ?_) rfl rfl rfl ?_ ?_; rotate_left; (· (intro _ hSw; go_simp; (try go_bits); (try with_reducible rfl)))) | (refine seq_take (v := ?_) rfl rfl rfl ?_ ?_; rotate_left; (· (intro _ hSw; go_simp; (try go_bits); (try with_reducible rfl)))) | refine seq_skip rfl rfl rfl ?_); (try simp only [Act.put, pu1, pu2, pu3, pu4, pu5, pu6]))
  refine seq_step rfl rfl (fun KR hKR => ?_)
  go_simp
  with_reducible refine (ptimes_own _ _ fq.den kB _ (hDen.below hS5) (hKB.below hS5) HSD.out HSKB.out).mono ?_
  rw [HDD.out]
  rintro _ w6 ⟨v6, rfl, e6, hb6⟩
  have hS6 := below_then hS5 hb6 hS5.size
  obtain ⟨A6, n6, c6, rfl⟩ := e6.shape
  have hX6 := hX.later hS6
  obtain ⟨t0, t1, t2, t3⟩ := hX6.four
  obtain ⟨f0, f1, f2, f3⟩ := hX6.fourF
  refine hKR.out _ _ (Or.inr hS6) ?_
  clear hKR KR
  (try simp only [Act.put, pu1, pu2, pu3, pu4, pu5, pu6])
  repeat ((first | (refine seq_takeP (v := ?_) rfl rfl rfl ?_ ?_; rotate_left; (· (intro _ hSw; go_simp; (try go_bits); (try with_reducible rfl)))) | (refine seq_take (v := ?_) rfl rfl rfl ?_ ?_; rotate_left; (· (intro _ hSw; go_simp; (try go_bits); (try with_reducible rfl)))) | refine seq_skip rfl rfl rfl ?_); (try simp only [Act.put, pu1, pu2, pu3, pu4, pu5, pu6]))
  refine seq_step rfl rfl (fun KR hKR => ?_)
  go_simp
  refine hKR.out _ _ (Or.inl (by decide)) ?_
  clear hKR KR
  (try simp only [Act.put, pu1, pu2, pu3, pu4, pu5, pu6])
  have hX7 := (hX6.set_ 0 (.bool NN.neg)).set_ 1 (.slice A5 n5 c5)
  simp only [List.set_cons_zero, List.set_cons_succ] at hX7
  clear t0 t1 t2 t3 f0 f1 f2 f3
  obtain ⟨t0, t1, t2, t3⟩ := hX7.four
  obtain ⟨f0, f1, f2, f3⟩ := hX7.fourF
  refine seq_step rfl rfl (fun KR hKR => ?_)
  go_simp
  refine hKR.out _ _ (Or.inl (by decide)) ?_
  clear hKR KR
  (try simp only [Act.put, pu1, pu2, pu3, pu4, pu5, pu6])
  refine seq_step rfl rfl (fun KR hKR => ?_)
  go_simp
  refine hKR.out _ _ (Or.inl (by decide)) ?_
  clear hKR KR
  (try simp only [Act.put, pu1, pu2, pu3, pu4, pu5, pu6])
  refine seq_done ?_
  clear C0 C1 C2 C3 C4 C5 C6 C7
  have hX8 := (hX7.set_ 2 (.bool DD.neg)).set_ 3 (.slice A6 n6 c6)
  simp only [List.set_cons_zero, List.set_cons_succ] at hX8
  have k4 := hX6.keep4 (by decide) (.bool NN.neg) (.slice A5 n5 c5) (.bool DD.neg) (.slice A6 n6 c6)
  have hN8 := (e5.below hb6).keep k4
  have hD8 := e6.keep k4
  have hb8 := below_set4 (below_then hbe4 hS6 hbe4.size) (show w.heap.size ≤ gf by omega) (.bool NN.neg) (.slice A5 n5 c5) (.bool DD.neg) (.slice A6 n6 c6)
  have hR8 := (hR4.later hS6).far4 (show w.heap.size ≠ gf by omega) (.bool NN.neg) (.slice A5 n5 c5) (.bool DD.neg) (.slice A6 n6 c6)
  have hs56 : U4.heap.size ≤ w5.heap.size := hS5.size
  have hs6 : w6.heap.size ≤ ((((w6.setCell ⟨gf, 0, none⟩ (.bool NN.neg)).setCell ⟨gf, 1, none⟩ (.slice A5 n5 c5)).setCell ⟨gf, 2, none⟩ (.bool DD.neg)).setCell ⟨gf, 3, none⟩ (.slice A6 n6 c6)).heap.size := by simp
  have hs67 := hb6.size
  have hnlt : ∀ g, (Value.slice A5 n5 c5).ownBlock = some g → g < w5.heap.size := e5.own_lt
  have hdge : ∀ g, (Value.slice A6 n6 c6).ownBlock = some g → w5.heap.size ≤ g := e6.own_ge
  have HNLT := Lib.hid hnlt
  have HDGE := Lib.hid hdge
  have hw0 : w.heap.size ≤ U4.heap.size := hbe4.size
  generalize (((w6.setCell ⟨gf, 0, none⟩ (.bool NN.neg)).setCell ⟨gf, 1, none⟩ (.slice A5 n5 c5)).setCell ⟨gf, 2, none⟩ (.bool DD.neg)).setCell ⟨gf, 3, none⟩ (.slice A6 n6 c6) = W8 at *
  clear hnlt hdge e5 e6 k4 hX hX6 hX7 hA hA4 hR4 hbe4 hNum hDen hKA hKB hS0 hS5 hS6 hb5 hb6 t0 t1 t2 t3 f0 f1 f2 f3 HNN HDD HSN HSD HSKA HSKB HSKA1 HSKB1 HSQ
  obtain ⟨x0, x1, x2, x3⟩ := hX8.four
  by_cases h3 : n / 256 % 4 = 3
  rotate_left
  · have h3' : (n / 256 % 4 == 3) = false := by simpa using h3
    clear h3
    have hF := FracM.mk hN8.int hD8.int
    obtain ⟨r0, r1, r2, r3⟩ := hR8.four
    obtain ⟨f0, f1, f2, f3⟩ := hR8.fourF
    go_wp2
    refine ret_cell Tryz.results22 Tryz.underlying47 (by kernel_rfl) rfl (hR8.set4 _ _ _ _) rfl ?_
    obtain ⟨v', q1, q2, q3⟩ := fin_frac hR8 hF hb8 (Nat.le_refl _)
    exact ⟨v', _, q1, q2, HRS.out, q3⟩
  · have h3' : (n / 256 % 4 == 3) = true := by simpa using h3
    clear h3
    obtain ⟨N1, okN⟩ := hN8.row
    obtain ⟨D1, okD'⟩ := hD8.row
    have HOKN := Lib.hid okN
    have HOKD := Lib.hid okD'
    have HRZ : Hid ((⟨⟨NN.neg, NN.ds ++ [0]⟩, ⟨DD.neg, DD.ds ++ [0]⟩⟩ : RF).Rs 8) := Lib.hid (by unfold RF.Rs; simp only [val_zero_end]; exact HRS.out)
    have hlN : NN.ds.length ≤ 1099511627776 := by rw [HCN.out]; exact Nat.le_trans HRS.out.1 (by decide)
    have hlD : DD.ds.length ≤ 1099511627776 := by rw [HCD.out]; exact Nat.le_trans HRS.out.2 (by decide)
    have hX9 := hX8.drew
    have hR9 := hR8.drew
    have hN9 := own_below N1 (below_drew' W8)
    have hD9 := own_below D1 (below_drew' W8)
    have hb9 := hb8.drew
    have hsz9 : w6.heap.size ≤ W8.drew.heap.size := hs6
    have hbsN : U4.drew.heap.size ≤ w6.heap.size := by show U4.heap.size ≤ _; omega
    have hbsD : w5.heap.size ≤ w6.heap.size := by omega
    have hU0 : w.heap.size ≤ U4.drew.heap.size := hw0
    have hU5 : w.heap.size ≤ w5.heap.size := by omega
    go_wp2_with fail
    clear hN8 hD8 N1 D1 okN okD' hX8 hR8 hb8 x0 x2
    refine region_planS (fun w' => w'.cell? ⟨gf, 1, none⟩ = some (.slice A5 n5 c5) ∧ w'.cell? ⟨gf, 3, none⟩ = some (.slice A6 n6 c6)) 12 (.go 0 (.go 1 (.go 2 (.go 5 (.go 6 (.go 7 (.fork 3 (.fork 4 (.go 10 (.go 11 (.go 8 (.go 9 (.go 12 (.go 13 (.go 14 (.go 15 .done)))))))) 8 (.go 4 (.go 10 (.go 11 (.go 9 (.go 12 (.go 13 (.go 14 (.go 15 .done))))))))) 8 (.go 3 (.go 4 (.go 10 (.go 11 (.go 9 (.go 12 (.go 13 (.go 14 (.go 15 .done)))))))))))))))) (by kernel_rfl) (by kernel_rfl) ⟨x1, x3⟩ ?_
    repeat ((first | (refine plan_takeP (v := ?_) rfl rfl rfl ?_ ?_; rotate_left; (· (intro _ hSw; go_simp; (try go_bits); (try with_reducible rfl)))) | (refine plan_take (v := ?_) rfl rfl rfl ?_ ?_; rotate_left; (· (intro _ hSw; go_simp; (try go_bits); (try with_reducible rfl)))) | refine plan_skip rfl rfl rfl ?_ | refine plan_skipc rfl rfl rfl (by assumption) ?_); (try simp only [Act.put, pu1, pu2, pu3, pu4, pu5, pu6]))
    refine plan_fork rfl rfl (fun KR hKR => ?_) (fun KR hKR => ?_)
    · obtain ⟨WZ1, hWZ1, hz1, hbz1⟩ := box_u W8.drew
      go_simp
      clear hWZ1
      have X2 := hX9.later hbz1
      have R2 := hR9.later hbz1
      have N2 := own_below hN9 hbz1
      have D2 := own_below hD9 hbz1
      have be2 := below_then hb9 hbz1 hb9.size
      have sz2 := Nat.le_trans hsz9 hbz1.size
      have gz1 := hsz9
      refine hKR.out _ _ (Or.inr ⟨X2.cellAt 1 rfl, X2.cellAt 3 rfl⟩) ?_
      clear hKR KR
      (try simp only [Act.put, pu1, pu2, pu3, pu4, pu5, pu6])
      refine plan_fork rfl rfl (fun KR hKR => ?_) (fun KR hKR => ?_)
      · obtain ⟨va3, wa3, hr3, ho3, hot3, hba3, hbl3⟩ := run_append_digit 43 WZ1 _ _ (.slice A5 n5 c5) NN.ds N2 hz1 (by omega) (Nat.le_trans hbsN sz2)
        obtain ⟨Aa3, ca3, rfl, _, _⟩ := (RowM.of_own ho3).shape
        generalize hle3 : (NN.ds ++ [0]).length = la3 at *
        have HLE3 := Lib.hid hle3
        clear hle3
        refine wp_append_run hr3 rfl rfl rfl rfl rfl ?_
        clear hr3
        have X3 := hot3.bk X2 (own_ne_bk N2 X2 (by decide))
        have R3 := hot3.bk R2 (own_ne_bk N2 R2 (by decide))
        have D3 := own_others D2 hot3 (fun b hb e => by have h1 := HNLT.out b e.symm; have h2 := HDGE.out b hb; omega)
        have NB3 : ∀ g, (Value.slice Aa3 la3 ca3).ownBlock = some g → g < w5.heap.size ∨ WZ1.heap.size ≤ g := fun g hg => by
          rcases hbl3 with e | e
          · rw [e] at hg; exact .inl (HNLT.out g hg)
          · exact .inr (e g hg)
        have DL3 := own_lt' D2
        have be3 := be2.trans (hba3.mono (by omega))
        have sz3 := Nat.le_trans sz2 hot3.1
        refine hKR.out _ _ (Or.inr ⟨X3.cellAt 1 rfl, X3.cellAt 3 rfl⟩) ?_
        clear hKR KR
        (try simp only [Act.put, pu1, pu2, pu3, pu4, pu5, pu6])
        repeat ((first | (refine plan_takeP (v := ?_) rfl rfl rfl ?_ ?_; rotate_left; (· (intro _ hSw; go_simp; (try go_bits); (try with_reducible rfl)))) | (refine plan_take (v := ?_) rfl rfl rfl ?_ ?_; rotate_left; (· (intro _ hSw; go_simp; (try go_bits); (try with_reducible rfl)))) | refine plan_skip rfl rfl rfl ?_ | refine plan_skipc rfl rfl rfl (by assumption) ?_); (try simp only [Act.put, pu1, pu2, pu3, pu4, pu5, pu6]))
        obtain ⟨WZ4, hWZ4, hz4, hbz4⟩ := box_u wa3
        refine plan_step rfl rfl (fun KR hKR => ?_)
        go_simp
        clear hWZ4
        have X5 := X3.later hbz4
        have R5 := R3.later hbz4
        have N5 := own_below ho3 hbz4
        have D5 := own_below D3 hbz4
        have be5 := below_then be3 hbz4 be3.size
        have sz5 := Nat.le_trans sz3 hbz4.size
        have gz4 := sz3
        refine hKR.out _ _ (Or.inr ⟨X5.cellAt 1 rfl, X5.cellAt 3 rfl⟩) ?_
        clear hKR KR
        (try simp only [Act.put, pu1, pu2, pu3, pu4, pu5, pu6])
        obtain ⟨va6, wa6, hr6, ho6, hot6, hba6, hbl6⟩ := run_append_digit 43 WZ4 _ _ (.slice A6 n6 c6) DD.ds D5 hz4 (by omega) (Nat.le_trans hbsD sz5)
        obtain ⟨Aa6, ca6, rfl, _, _⟩ := (RowM.of_own ho6).shape
        generalize hle6 : (DD.ds ++ [0]).length = la6 at *
        have HLE6 := Lib.hid hle6
        clear hle6
        refine plan_step rfl rfl (fun KR hKR => ?_)
        refine wp_append_run hr6 rfl rfl rfl rfl rfl ?_
        clear hr6
        have X6 := hot6.bk X5 (own_ne_bk D5 X5 (by decide))
        have R6 := hot6.bk R5 (own_ne_bk D5 R5 (by decide))
        have N6 := own_others N5 hot6 (fun b hb e => by have h2 := HDGE.out b e.symm; exact (NB3 b hb).elim (fun h1 => by omega) (fun h1 => by have := DL3 b e.symm; omega))
        have be6 := be5.trans (hba6.mono (by omega))
        have sz6 := Nat.le_trans sz5 hot6.1
        refine hKR.out _ _ (Or.inr ⟨X6.cellAt 1 rfl, X6.cellAt 3 rfl⟩) ?_
        clear hKR KR
        (try simp only [Act.put, pu1, pu2, pu3, pu4, pu5, pu6])
        obtain ⟨t0, t1, t2, t3⟩ := X6.four
        obtain ⟨f0, f1, f2, f3⟩ := X6.fourF
        refine plan_step rfl rfl (fun KR hKR => ?_)
        go_simp
        refine hKR.out _ _ (Or.inl (by decide)) ?_
        clear hKR KR
        (try simp only [Act.put, pu1, pu2, pu3, pu4, pu5, pu6])
        have X7 := X6.set_ 1 (.slice Aa3 la3 ca3)
        simp only [List.set_cons_zero, List.set_cons_succ] at X7
        have kb7 := KeepBut.setCell X6 1 (.slice Aa3 la3 ca3)
        have R7 := R6.far (p := ⟨gf, 1, none⟩) (show w.heap.size ≠ gf by omega) (.slice Aa3 la3 ca3)
        have N7 := kb7.own N6 (by decide)
        have D7 := kb7.own ho6 (by decide)
        have be7 := be6.setCell (p := ⟨gf, 1, none⟩) (show w.heap.size ≤ gf by omega) (.slice Aa3 la3 ca3)
        clear t0 t1 t2 t3 f0 f1 f2 f3
        refine plan_step rfl rfl (fun KR hKR => ?_)
        go_simp
        refine hKR.out _ _ (Or.inl (by decide)) ?_
        clear hKR KR
        (try simp only [Act.put, pu1, pu2, pu3, pu4, pu5, pu6])
        refine plan_step rfl rfl (fun KR hKR => ?_)
        go_simp
        refine hKR.out _ _ (Or.inl (by decide)) ?_
        clear hKR KR
        (try simp only [Act.put, pu1, pu2, pu3, pu4, pu5, pu6])
        obtain ⟨t0, t1, t2, t3⟩ := X7.four
        obtain ⟨f0, f1, f2, f3⟩ := X7.fourF
        refine plan_step rfl rfl (fun KR hKR => ?_)
        go_simp
        refine hKR.out _ _ (Or.inl (by decide)) ?_
        clear hKR KR
        (try simp only [Act.put, pu1, pu2, pu3, pu4, pu5, pu6])
        have X8 := X7.set_ 3 (.slice Aa6 la6 ca6)
        simp only [List.set_cons_zero, List.set_cons_succ] at X8
        have kb8 := KeepBut.setCell X7 3 (.slice Aa6 la6 ca6)
        have R8 := R7.far (p := ⟨gf, 3, none⟩) (show w.heap.size ≠ gf by omega) (.slice Aa6 la6 ca6)
        have N8 := kb8.own N7 (by decide)
        have D8 := kb8.own D7 (by decide)
        have be8 := be7.setCell (p := ⟨gf, 3, none⟩) (show w.heap.size ≤ gf by omega) (.slice Aa6 la6 ca6)
        clear t0 t1 t2 t3 f0 f1 f2 f3
        refine plan_done ?_
        have hFn : FracM _ (.agg #[.bool NN.neg, .slice Aa3 la3 ca3, .bool DD.neg, .slice Aa6 la6 ca6]) ⟨⟨NN.neg, NN.ds ++ [0]⟩, ⟨DD.neg, DD.ds ++ [0]⟩⟩ := FracM.mk (x := ⟨NN.neg, NN.ds ++ [0]⟩) (y := ⟨DD.neg, DD.ds ++ [0]⟩) (intM_row HLE3.out N8 HOKN.out) (intM_row HLE6.out D8 HOKD.out)
        obtain ⟨t0, t1, t2, t3⟩ := X8.four
        obtain ⟨r0, r1, r2, r3⟩ := R8.four
        obtain ⟨f0, f1, f2, f3⟩ := R8.fourF
        go_wp2
        refine ret_cell Tryz.results22 Tryz.underlying47 (by kernel_rfl) rfl (R8.set4 _ _ _ _) rfl ?_
        obtain ⟨v', q1, q2, q3⟩ := fin_frac R8 hFn be8 (Nat.le_refl _)
        exact ⟨v', _, q1, q2, HRZ.out, q3⟩
      · obtain ⟨WZ9, hWZ9, hz9, hbz9⟩ := box_u WZ1
        go_simp
        clear hWZ9
        have X10 := X2.later hbz9
        have R10 := R2.later hbz9
        have Z110 := hz1.later hbz9
        have N10 := own_below N2 hbz9
        have D10 := own_below D2 hbz9
        have be10 := below_then be2 hbz9 be2.size
        have sz10 := Nat.le_trans sz2 hbz9.size
        have gz9 := sz2
        refine hKR.out _ _ (Or.inr ⟨X10.cellAt 1 rfl, X10.cellAt 3 rfl⟩) ?_
        clear hKR KR
        (try simp only [Act.put, pu1, pu2, pu3, pu4, pu5, pu6])
        obtain ⟨va11, wa11, hr11, ho11, hot11, hba11, hbl11⟩ := run_append_digit 43 WZ9 _ _ (.slice A5 n5 c5) NN.ds N10 Z110 (by omega) (Nat.le_trans hbsN sz10)
        obtain ⟨Aa11, ca11, rfl, _, _⟩ := (RowM.of_own ho11).shape
        generalize hle11 : (NN.ds ++ [0]).length = la11 at *
        have HLE11 := Lib.hid hle11
        clear hle11
        refine plan_step rfl rfl (fun KR hKR => ?_)
        refine wp_append_run hr11 rfl rfl rfl rfl rfl ?_
        clear hr11
        have X11 := hot11.bk X10 (own_ne_bk N10 X10 (by decide))
        have R11 := hot11.bk R10 (own_ne_bk N10 R10 (by decide))
        have Z211 := hot11.bk hz9 (fun e => by have := HNLT.out _ e.symm; have := gz9; omega)
        have D11 := own_others D10 hot11 (fun b hb e => by have h1 := HNLT.out b e.symm; have h2 := HDGE.out b hb; omega)
        have NB11 : ∀ g, (Value.slice Aa11 la11 ca11).ownBlock = some g → g < w5.heap.size ∨ WZ9.heap.size ≤ g := fun g hg => by
          rcases hbl11 with e | e
          · rw [e] at hg; exact .inl (HNLT.out g hg)
          · exact .inr (e g hg)
        have DL11 := own_lt' D10
        have be11 := be10.trans (hba11.mono (by omega))
        have sz11 := Nat.le_trans sz10 hot11.1
        refine hKR.out _ _ (Or.inr ⟨X11.cellAt 1 rfl, X11.cellAt 3 rfl⟩) ?_
        clear hKR KR
        (try simp only [Act.put, pu1, pu2, pu3, pu4, pu5, pu6])
        repeat ((first | (refine plan_takeP (v := ?_) rfl rfl rfl ?_ ?_; rotate_left; (· (intro _ hSw; go_simp; (try go_bits); (try with_reducible rfl)))) | (refine plan_take (v := ?_) rfl rfl rfl ?_ ?_; rotate_left; (· (intro _ hSw; go_simp; (try go_bits); (try with_reducible rfl)))) | refine plan_skip rfl rfl rfl ?_ | refine plan_skipc rfl rfl rfl (by assumption) ?_); (try simp only [Act.put, pu1, pu2, pu3, pu4, pu5, pu6]))
        obtain ⟨va12, wa12, hr12, ho12, hot12, hba12, hbl12⟩ := run_append_digit 43 wa11 _ _ (.slice A6 n6 c6) DD.ds D11 Z211 (by omega) (Nat.le_trans hbsD sz11)
        obtain ⟨Aa12, ca12, rfl, _, _⟩ := (RowM.of_own ho12).shape
        generalize hle12 : (DD.ds ++ [0]).length = la12 at *
        have HLE12 := Lib.hid hle12
        clear hle12
        refine plan_step rfl rfl (fun KR hKR => ?_)
        refine wp_append_run hr12 rfl rfl rfl rfl rfl ?_
        clear hr12
        have X12 := hot12.bk X11 (own_ne_bk D11 X11 (by decide))
        have R12 := hot12.bk R11 (own_ne_bk D11 R11 (by decide))
        have N12 := own_others ho11 hot12 (fun b hb e => by have h2 := HDGE.out b e.symm; exact (NB11 b hb).elim (fun h1 => by omega) (fun h1 => by have := DL11 b e.symm; omega))
        have be12 := be11.trans (hba12.mono (by omega))
        have sz12 := Nat.le_trans sz11 hot12.1
        refine hKR.out _ _ (Or.inr ⟨X12.cellAt 1 rfl, X12.cellAt 3 rfl⟩) ?_
        clear hKR KR
        (try simp only [Act.put, pu1, pu2, pu3, pu4, pu5, pu6])
        obtain ⟨t0, t1, t2, t3⟩ := X12.four
        obtain ⟨f0, f1, f2, f3⟩ := X12.fourF
        refine plan_step rfl rfl (fun KR hKR => ?_)
        go_simp
        refine hKR.out _ _ (Or.inl (by decide)) ?_
        clear hKR KR
        (try simp only [Act.put, pu1, pu2, pu3, pu4, pu5, pu6])
        have X13 := X12.set_ 1 (.slice Aa11 la11 ca11)
        simp only [List.set_cons_zero, List.set_cons_succ] at X13
        have kb13 := KeepBut.setCell X12 1 (.slice Aa11 la11 ca11)
        have R13 := R12.far (p := ⟨gf, 1, none⟩) (show w.heap.size ≠ gf by omega) (.slice Aa11 la11 ca11)
        have N13 := kb13.own N12 (by decide)
        have D13 := kb13.own ho12 (by decide)
        have be13 := be12.setCell (p := ⟨gf, 1, none⟩) (show w.heap.size ≤ gf by omega) (.slice Aa11 la11 ca11)
        clear t0 t1 t2 t3 f0 f1 f2 f3
        refine plan_step rfl rfl (fun KR hKR => ?_)
        go_simp
        refine hKR.out _ _ (Or.inl (by decide)) ?_
        clear hKR KR
        (try simp only [Act.put, pu1, pu2, pu3, pu4, pu5, pu6])
        refine plan_step rfl rfl (fun KR hKR => ?_)
        go_simp
        refine hKR.out _ _ (Or.inl (by decide)) ?_
        clear hKR KR
        (try simp only [Act.put, pu1, pu2, pu3, pu4, pu5, pu6])
        obtain ⟨t0, t1, t2, t3⟩ := X13.four
        obtain ⟨f0, f1, f2, f3⟩ := X13.fourF
        refine plan_step rfl rfl (fun KR hKR => ?_)
        go_simp
        refine hKR.out _ _ (Or.inl (by decide)) ?_
        clear hKR KR
        (try simp only [Act.put, pu1, pu2, pu3, pu4, pu5, pu6])
        have X14 := X13.set_ 3 (.slice Aa12 la12 ca12)
        simp only [List.set_cons_zero, List.set_cons_succ] at X14
        have kb14 := KeepBut.setCell X13 3 (.slice Aa12 la12 ca12)
        have R14 := R13.far (p := ⟨gf, 3, none⟩) (show w.heap.size ≠ gf by omega) (.slice Aa12 la12 ca12)
        have N14 := kb14.own N13 (by decide)
        have D14 := kb14.own D13 (by decide)
        have be14 := be13.setCell (p := ⟨gf, 3, none⟩) (show w.heap.size ≤ gf by omega) (.slice Aa12 la12 ca12)
        clear t0 t1 t2 t3 f0 f1 f2 f3
        refine plan_done ?_
        have hFn : FracM _ (.agg #[.bool NN.neg, .slice Aa11 la11 ca11, .bool DD.neg, .slice Aa12 la12 ca12]) ⟨⟨NN.neg, NN.ds ++ [0]⟩, ⟨DD.neg, DD.ds ++ [0]⟩⟩ := FracM.mk (x := ⟨NN.neg, NN.ds ++ [0]⟩) (y := ⟨DD.neg, DD.ds ++ [0]⟩) (intM_row HLE11.out N14 HOKN.out) (intM_row HLE12.out D14 HOKD.out)
        obtain ⟨t0, t1, t2, t3⟩ := X14.four
        obtain ⟨r0, r1, r2, r3⟩ := R14.four
        obtain ⟨f0, f1, f2, f3⟩ := R14.fourF
        go_wp2
        refine ret_cell Tryz.results22 Tryz.underlying47 (by kernel_rfl) rfl (R14.set4 _ _ _ _) rfl ?_
        obtain ⟨v', q1, q2, q3⟩ := fin_frac R14 hFn be14 (Nat.le_refl _)
        exact ⟨v', _, q1, q2, HRZ.out, q3⟩
    · obtain ⟨WZ15, hWZ15, hz15, hbz15⟩ := box_u W8.drew
      go_simp
      clear hWZ15
      have X16 := hX9.later hbz15
      have R16 := hR9.later hbz15
      have N16 := own_below hN9 hbz15
      have D16 := own_below hD9 hbz15
      have be16 := below_then hb9 hbz15 hb9.size
      have sz16 := Nat.le_trans hsz9 hbz15.size
      have gz15 := hsz9
      refine hKR.out _ _ (Or.inr ⟨X16.cellAt 1 rfl, X16.cellAt 3 rfl⟩) ?_
      clear hKR KR
      (try simp only [Act.put, pu1, pu2, pu3, pu4, pu5, pu6])
      obtain ⟨WZ17, hWZ17, hz17, hbz17⟩ := box_u WZ15
      refine plan_step rfl rfl (fun KR hKR => ?_)
      go_simp
      clear hWZ17
      have X18 := X16.later hbz17
      have R18 := R16.later hbz17
      have Z218 := hz15.later hbz17
      have N18 := own_below N16 hbz17
      have D18 := own_below D16 hbz17
      have be18 := below_then be16 hbz17 be16.size
      have sz18 := Nat.le_trans sz16 hbz17.size
      have gz17 := sz16
      refine hKR.out _ _ (Or.inr ⟨X18.cellAt 1 rfl, X18.cellAt 3 rfl⟩) ?_
      clear hKR KR
      (try simp only [Act.put, pu1, pu2, pu3, pu4, pu5, pu6])
      obtain ⟨va19, wa19, hr19, ho19, hot19, hba19, hbl19⟩ := run_append_digit 43 WZ17 _ _ (.slice A5 n5 c5) NN.ds N18 hz17 (by omega) (Nat.le_trans hbsN sz18)
      obtain ⟨Aa19, ca19, rfl, _, _⟩ := (RowM.of_own ho19).shape
      generalize hle19 : (NN.ds ++ [0]).length = la19 at *
      have HLE19 := Lib.hid hle19
      clear hle19
      refine plan_step rfl rfl (fun KR hKR => ?_)
      refine wp_append_run hr19 rfl rfl rfl rfl rfl ?_
      clear hr19
      have X19 := hot19.bk X18 (own_ne_bk N18 X18 (by decide))
      have R19 := hot19.bk R18 (own_ne_bk N18 R18 (by decide))
      have Z219 := hot19.bk Z218 (fun e => by have := HNLT.out _ e.symm; have := gz15; omega)
      have D19 := own_others D18 hot19 (fun b hb e => by have h1 := HNLT.out b e.symm; have h2 := HDGE.out b hb; omega)
      have NB19 : ∀ g, (Value.slice Aa19 la19 ca19).ownBlock = some g → g < w5.heap.size ∨ WZ17.heap.size ≤ g := fun g hg => by
        rcases hbl19 with e | e
        · rw [e] at hg; exact .inl (HNLT.out g hg)
        · exact .inr (e g hg)
      have DL19 := own_lt' D18
      have be19 := be18.trans (hba19.mono (by omega))
      have sz19 := Nat.le_trans sz18 hot19.1
      refine hKR.out _ _ (Or.inr ⟨X19.cellAt 1 rfl, X19.cellAt 3 rfl⟩) ?_
      clear hKR KR
      (try simp only [Act.put, pu1, pu2, pu3, pu4, pu5, pu6])
      repeat ((first | (refine plan_takeP (v := ?_) rfl rfl rfl ?_ ?_; rotate_left; (· (intro _ hSw; go_simp; (try go_bits); (try with_reducible rfl)))) | (refine plan_take (v := ?_) rfl rfl rfl ?_ ?_; rotate_left; (· (intro _ hSw; go_simp; (try go_bits); (try with_reducible rfl)))) | refine plan_skip rfl rfl rfl ?_ | refine plan_skipc rfl rfl rfl (by assumption) ?_); (try simp only [Act.put, pu1, pu2, pu3, pu4, pu5, pu6]))
      obtain ⟨va20, wa20, hr20, ho20, hot20, hba20, hbl20⟩ := run_append_digit 43 wa19 _ _ (.slice A6 n6 c6) DD.ds D19 Z219 (by omega) (Nat.le_trans hbsD sz19)
      obtain ⟨Aa20, ca20, rfl, _, _⟩ := (RowM.of_own ho20).shape
      generalize hle20 : (DD.ds ++ [0]).length = la20 at *
      have HLE20 := Lib.hid hle20
      clear hle20
      refine plan_step rfl rfl (fun KR hKR => ?_)
      refine wp_append_run hr20 rfl rfl rfl rfl rfl ?_
      clear hr20
      have X20 := hot20.bk X19 (own_ne_bk D19 X19 (by decide))
      have R20 := hot20.bk R19 (own_ne_bk D19 R19 (by decide))
      have N20 := own_others ho19 hot20 (fun b hb e => by have h2 := HDGE.out b e.symm; exact (NB19 b hb).elim (fun h1 => by omega) (fun h1 => by have := DL19 b e.symm; omega))
      have be20 := be19.trans (hba20.mono (by omega))
      have sz20 := Nat.le_trans sz19 hot20.1
      refine hKR.out _ _ (Or.inr ⟨X20.cellAt 1 rfl, X20.cellAt 3 rfl⟩) ?_
      clear hKR KR
      (try simp only [Act.put, pu1, pu2, pu3, pu4, pu5, pu6])
      obtain ⟨t0, t1, t2, t3⟩ := X20.four
      obtain ⟨f0, f1, f2, f3⟩ := X20.fourF
      refine plan_step rfl rfl (fun KR hKR => ?_)
      go_simp
      refine hKR.out _ _ (Or.inl (by decide)) ?_
      clear hKR KR
      (try simp only [Act.put, pu1, pu2, pu3, pu4, pu5, pu6])
      have X21 := X20.set_ 1 (.slice Aa19 la19 ca19)
      simp only [List.set_cons_zero, List.set_cons_succ] at X21
      have kb21 := KeepBut.setCell X20 1 (.slice Aa19 la19 ca19)
      have R21 := R20.far (p := ⟨gf, 1, none⟩) (show w.heap.size ≠ gf by omega) (.slice Aa19 la19 ca19)
      have N21 := kb21.own N20 (by decide)
      have D21 := kb21.own ho20 (by decide)
      have be21 := be20.setCell (p := ⟨gf, 1, none⟩) (show w.heap.size ≤ gf by omega) (.slice Aa19 la19 ca19)
      clear t0 t1 t2 t3 f0 f1 f2 f3
      refine plan_step rfl rfl (fun KR hKR => ?_)
      go_simp
      refine hKR.out _ _ (Or.inl (by decide)) ?_
      clear hKR KR
      (try simp only [Act.put, pu1, pu2, pu3, pu4, pu5, pu6])
      refine plan_step rfl rfl (fun KR hKR => ?_)
      go_simp
      refine hKR.out _ _ (Or.inl (by decide)) ?_
      clear hKR KR
      (try simp only [Act.put, pu1, pu2, pu3, pu4, pu5, pu6])
      obtain ⟨t0, t1, t2, t3⟩ := X21.four
      obtain ⟨f0, f1, f2, f3⟩ := X21.fourF
      refine plan_step rfl rfl (fun KR hKR => ?_)
      go_simp
      refine hKR.out _ _ (Or.inl (by decide)) ?_
      clear hKR KR
      (try simp only [Act.put, pu1, pu2, pu3, pu4, pu5, pu6])
      have X22 := X21.set_ 3 (.slice Aa20 la20 ca20)
      simp only [List.set_cons_zero, List.set_cons_succ] at X22
      have kb22 := KeepBut.setCell X21 3 (.slice Aa20 la20 ca20)
      have R22 := R21.far (p := ⟨gf, 3, none⟩) (show w.heap.size ≠ gf by omega) (.slice Aa20 la20 ca20)
      have N22 := kb22.own N21 (by decide)
      have D22 := kb22.own D21 (by decide)
      have be22 := be21.setCell (p := ⟨gf, 3, none⟩) (show w.heap.size ≤ gf by omega) (.slice Aa20 la20 ca20)
      clear t0 t1 t2 t3 f0 f1 f2 f3
      refine plan_done ?_
      have hFn : FracM _ (.agg #[.bool NN.neg, .slice Aa19 la19 ca19, .bool DD.neg, .slice Aa20 la20 ca20]) ⟨⟨NN.neg, NN.ds ++ [0]⟩, ⟨DD.neg, DD.ds ++ [0]⟩⟩ := FracM.mk (x := ⟨NN.neg, NN.ds ++ [0]⟩) (y := ⟨DD.neg, DD.ds ++ [0]⟩) (intM_row HLE19.out N22 HOKN.out) (intM_row HLE20.out D22 HOKD.out)
      obtain ⟨t0, t1, t2, t3⟩ := X22.four
      obtain ⟨r0, r1, r2, r3⟩ := R22.four
      obtain ⟨f0, f1, f2, f3⟩ := R22.fourF
      go_wp2
      refine ret_cell Tryz.results22 Tryz.underlying47 (by kernel_rfl) rfl (R22.set4 _ _ _ _) rfl ?_
      obtain ⟨v', q1, q2, q3⟩ := fin_frac R22 hFn be22 (Nat.le_refl _)
      exact ⟨v', _, q1, q2, HRZ.out, q3⟩

end Go.Proofs.YtpanffbgihhjnaaGreat

/- Memory: a list of fractions copied by append to nil; append of one fraction behind a guard. -/
namespace Go.Proofs.YtpanffbgihhjnaaGreat
open Go.RowKit Pl

theorem FracM.cells {w : World} {x y z u : Value} {f : RF} (h : FracM w (.agg #[x, y, z, u]) f) : x.oneCell' = true ∧ y.oneCell' = true ∧ z.oneCell' = true ∧ u.oneCell' = true := by
  obtain ⟨A, n, c, A', n', c', e, _, _⟩ := h
  simp at e
  obtain ⟨rfl, rfl, rfl, rfl⟩ := e
  exact ⟨rfl, rfl, rfl, rfl⟩
theorem FrC.one {w : World} {cs : List Value} {fs : List RF} (h : FrC w cs fs) : ∀ u ∈ cs, u.oneCell' = true := by
  intro u hu
  obtain ⟨j, hj⟩ := List.mem_iff_getElem?.1 hu
  have hjl : j < cs.length := (List.getElem?_eq_some_iff.1 hj).1
  have hk : j / 4 < fs.length := by have := h.1; omega
  obtain ⟨f, hf⟩ : ∃ f, fs[j / 4]? = some f := ⟨fs[j / 4], List.getElem?_eq_getElem hk⟩
  obtain ⟨x, y, z, v, c0, c1, c2, c3, hm⟩ := h.2 _ f hf
  obtain ⟨o0, o1, o2, o3⟩ := hm.cells
  have h4 : j % 4 = 0 ∨ j % 4 = 1 ∨ j % 4 = 2 ∨ j % 4 = 3 := by omega
  rcases h4 with e | e | e | e
  · rw [show j / 4 * 4 = j by omega, hj] at c0; injection c0 with c0; subst c0; exact o0
  · rw [show j / 4 * 4 + 1 = j by omega, hj] at c1; injection c1 with c1; subst c1; exact o1
  · rw [show j / 4 * 4 + 2 = j by omega, hj] at c2; injection c2 with c2; subst c2; exact o2
  · rw [show j / 4 * 4 + 3 = j by omega, hj] at c3; injection c3 with c3; subst c3; exact o3
theorem addr_add0 (b off j : Nat) : (⟨b, off, none⟩ : Addr).add j = ⟨b, off + j, none⟩ := by
  unfold Addr.add
  split
  · rename_i h; subst h; rfl
  · rfl
theorem run_append_none (ty : TypeId) (c : Nat) (w : World) : (Builtin.append_ #[23, 23] ty #[.slice none 0 0, .slice none 0 c]).run Tryz.prog w = .ok (.slice none 0 0) w := by
  obtain ⟨i0, hi, hz0, hz1, hz2⟩ := info_parts info_frac
  simp [Builtin.append_, run_underlying Tryz.underlying23, sizeOf, typeInfo, zeroValue, hi, hz0, Builtin.lenOf, run_firstCells_none]
theorem run_append_copy (ty : TypeId) (W : World) (v : Value) (fs : List RF) (h : FrsM W v fs) (hn : fs.length ≤ 1099511627776) :
    ∃ v' w', (Builtin.append_ #[23, 23] ty #[.slice none 0 0, v]).run Tryz.prog W = .ok v' w' ∧ FrsO W.heap.size w' v' fs ∧ Below W.heap.size W w' := by
  obtain ⟨cs, h1, h2⟩ := h
  obtain ⟨A, c, rfl, hl, hc, hm, hrow⟩ := h1
  obtain ⟨i0, hi, hz0, hz1, hz2⟩ := info_parts info_frac
  have hlen := h2.1
  cases A with
  | none =>
    have h0 : fs.length = 0 := by
      rcases Nat.eq_zero_or_pos fs.length with e | e
      · exact e
      · obtain ⟨b, off, _, _, e1, _⟩ := hrow e; cases e1
    have hfs : fs = [] := List.eq_nil_of_length_eq_zero h0
    subst hfs
    exact ⟨_, _, run_append_none ty c W, FrsO.nil _ _, Below.refl _ _⟩
  | some ad =>
    obtain ⟨v', w', hr, g1, g2, _, _⟩ := run_append_own_at (P := Tryz.prog) W W.heap.size 23 ty 47 i0 _ 4 64 Tryz.underlying23 hi hz0 hz1 hz2 rfl (by decide) (.slice none 0 0) 0 [] (World.ownsRow_nil _ _ _ _) ad fs.length c cs hl (fun j u hj => by
      have hp : 0 < fs.length := by
        have h9 := (List.getElem?_eq_some_iff.1 hj).1
        rw [hlen] at h9
        omega
      obtain ⟨b, off, cs', fz, e, hb, hx⟩ := hrow hp
      have e := Option.some.inj e
      rw [e, addr_add0, cell_of_row W b (off + j) cs' _ fz hb, hx j u hj]) h2.one (by unfold maxLen; omega) (by omega) (Nat.le_refl _)
    refine ⟨v', w', hr, ⟨cs, by simpa using g1, h2.keep (Keep.of_below ?_)⟩, ?_⟩
    all_goals exact (Below.refl _ _).grown g2 (Nat.le_refl _) (fun k hk => by simp [Value.ownBlock] at hk)
end Go.Proofs.YtpanffbgihhjnaaGreat

/- Memory: proofs of a status. Walks: package proof: shaped. -/
namespace Go.Proofs.YtpanffbgihhjnaaGreat
open Go.RowKit Pl
attribute [local go_sem ↓] Go.wp_at_zero Go.wp_at_succ

namespace Pl
structure Prf where
  st : Int
  x : List RF
  y : List RF
  ray : List RF
def shX (p : LPd) (x : Prf) : Prop := x.x.length = if x.st = 2 then 0 else p.cols.length
def shY (p : LPd) (x : Prf) : Prop := x.y.length = if x.st = 3 then 0 else p.right.length
def shR (p : LPd) (x : Prf) : Prop := x.ray.length = if x.st = 3 then p.cols.length else 0
instance (p : LPd) (x : Prf) : Decidable (shX p x) := by unfold shX; infer_instance
instance (p : LPd) (x : Prf) : Decidable (shY p x) := by unfold shY; infer_instance
instance (p : LPd) (x : Prf) : Decidable (shR p x) := by unfold shR; infer_instance
def shB (p : LPd) (x : Prf) : Bool := decide (shX p x) && (decide (shY p x) && decide (shR p x))
theorem shB_no1 {p : LPd} {x : Prf} (h : ¬ shX p x) : shB p x = false := by simp [shB, h]
theorem shB_no2 {p : LPd} {x : Prf} (h : ¬ shY p x) : shB p x = false := by simp [shB, h]
theorem shB_no3 {p : LPd} {x : Prf} (h : ¬ shR p x) : shB p x = false := by simp [shB, h]
theorem shB_yes {p : LPd} {x : Prf} (h1 : shX p x) (h2 : shY p x) (h3 : shR p x) : shB p x = true := by simp [shB, h1, h2, h3]
theorem shB_true {p : LPd} {x : Prf} (h : shB p x = true) : shX p x ∧ shY p x ∧ shR p x := by simpa [shB] using h
end Pl
def PrfM (w : World) (v : Value) (x : Prf) : Prop :=
  ∃ A n c A' n' c' A'' n'' c'', v = .agg #[.int .i64 x.st, .slice A n c, .slice A' n' c', .slice A'' n'' c''] ∧ FrsM w (.slice A n c) x.x ∧ FrsM w (.slice A' n' c') x.y ∧ FrsM w (.slice A'' n'' c'') x.ray ∧ -9223372036854775808 ≤ x.st ∧ x.st ≤ 9223372036854775807
theorem PrfM.below {w w' : World} {v : Value} {x : Prf} (h : PrfM w v x) (hb : Below w.heap.size w w') : PrfM w' v x := by
  obtain ⟨A, n, c, A', n', c', A'', n'', c'', h1, h2, h3, h4, h5, h6⟩ := h
  exact ⟨A, n, c, A', n', c', A'', n'', c'', h1, h2.below hb, h3.below hb, h4.below hb, h5, h6⟩
theorem box_prf (w : World) (x y z u : Value) : ∃ W, w.alloc (.cells #[x, y, z, u] 29) = W ∧ Bk W w.heap.size 29 [x, y, z, u] ∧ Below w.heap.size w W := ⟨_, rfl, Bk.new w _ [x, y, z, u], below_new w _⟩
theorem seq_skipc {P : Program} {ops : Array Oper} {Q : Exit → Act → World → Prop} {S : World → Prop} {n : Nat} {o : Oper} {i : Nat} {is : List Nat} {a : Act} {w : World} (ho : ops[i]? = some o) (hf : floatI ops n i = false) (hw : Region.wanted o (yielded ops a.tmps) = false) (hS : S w) (h : wpSeq P ops Q S n is (a.put o.dst undef) w) : wpSeq P ops Q S n (i :: is) a w := by
  refine seq_step ho hf fun K hK => ?_
  rw [if_neg (by rw [hw]; simp)]
  exact hK _ _ (.inr hS) h

set_option maxHeartbeats 4000000 in
theorem shaped_1 (v1 v2 : Value) (p : LPd) (x : Prf) (w : World) (h : LpM w v1 p) (h2 : PrfM w v2 x) (hst : x.st = 1) :
    Calls Tryz.prog 38 #[v1, v2] w fun e w' => e = .returned (.bool (shB p x)) ∧ Below w.heap.size w w' := by
  obtain ⟨A, n, c, A', N, c', A'', m, c'', rfl, hc, hv, hr⟩ := id h
  obtain ⟨B, lx, d, B', ly, d', B'', lr, d'', rfl, hxx, hxy, hxr, s1, s2⟩ := id h2
  rw [hst]
  obtain ⟨W, hW, hX, hbe0⟩ := box_lp w (.slice A n c) (.slice A' N c') (.slice A'' m c'')
  obtain ⟨W1, hW1, hY, hbe1⟩ := box_prf W (.int .i64 1) (.slice B lx d) (.slice B' ly d') (.slice B'' lr d'')
  have hX := hX.later hbe1
  have hbe := below_then hbe0 hbe1 hbe0.size
  have hsz : W.heap.size = w.heap.size + 1 := by rw [← hW]; simp
  rw [hsz] at hY
  obtain ⟨x0, x1, x2⟩ := hX.three
  obtain ⟨y0, y1, y2, y3⟩ := hY.four
  obtain ⟨m1, m2, m3⟩ := hv.len
  obtain ⟨r1, r2, r3⟩ := hr.len
  obtain ⟨k1, k2, k3⟩ := hc.len
  obtain ⟨lx1, lx2, lx3⟩ := hxx.len
  obtain ⟨ly1, ly2, ly3⟩ := hxy.len
  obtain ⟨lr1, lr2, lr3⟩ := hxr.len
  have HM1 := Lib.hid m1
  have HR1 := Lib.hid r1
  have HK1 := Lib.hid k1
  have HLX := Lib.hid lx1
  have HLY := Lib.hid ly1
  have HLR := Lib.hid lr1
  clear m1 r1 k1 lx1 ly1 lr1 hbe0 hbe1
  have HST := Lib.hid hst
  clear hst h h2 hc hv hr hxx hxy hxr
  by_cases h0 : lx = N
  rotate_left
  · have e0 : ((lx : Int) == (N : Int)) = false := by simp; omega
    have HR : Hid (shB p x = false) := Lib.hid (shB_no1 (p := p) (x := x) (by unfold shX; rw [HST.out, ← HLX.out, ← HM1.out]; simpa using h0))
    clear h0
    go_enter Tryz.func38, Tryz.ntmps38
    go_wp2
    go_ret
    exact ⟨ret_bool HR.out, hbe⟩
  have e0 : ((lx : Int) == (N : Int)) = true := by simp; omega
  have H0 := Lib.hid h0
  clear h0
  by_cases h1 : ly = m
  rotate_left
  · have e1 : ((ly : Int) == (m : Int)) = false := by simp; omega
    have HR : Hid (shB p x = false) := Lib.hid (shB_no2 (p := p) (x := x) (by unfold shY; rw [HST.out, ← HLY.out, ← HR1.out]; simpa using h1))
    clear h1
    go_enter Tryz.func38, Tryz.ntmps38
    go_wp2
    go_ret
    exact ⟨ret_bool HR.out, hbe⟩
  have e1 : ((ly : Int) == (m : Int)) = true := by simp; omega
  have H1 := Lib.hid h1
  clear h1
  by_cases h2 : lr = 0
  rotate_left
  · have e2 : ((lr : Int) == (0 : Int)) = false := by simp; omega
    have HR : Hid (shB p x = false) := Lib.hid (shB_no3 (p := p) (x := x) (by unfold shR; rw [HST.out, ← HLR.out, ← HM1.out]; simpa using h2))
    clear h2
    go_enter Tryz.func38, Tryz.ntmps38
    go_wp2
    go_ret
    exact ⟨ret_bool HR.out, hbe⟩
  have e2 : ((lr : Int) == (0 : Int)) = true := by simp; omega
  have H2 := Lib.hid h2
  clear h2
  have HR : Hid (shB p x = true) := Lib.hid (shB_yes (by unfold shX; rw [HST.out, ← HLX.out, ← HM1.out]; simpa using H0.out) (by unfold shY; rw [HST.out, ← HLY.out, ← HR1.out]; simpa using H1.out) (by unfold shR; rw [HST.out, ← HLR.out, ← HM1.out]; simpa using H2.out))
  clear H0 H1 H2
  go_enter Tryz.func38, Tryz.ntmps38
  go_wp2
  go_ret
  exact ⟨ret_bool HR.out, hbe⟩

set_option maxHeartbeats 4000000 in
theorem shaped_2 (v1 v2 : Value) (p : LPd) (x : Prf) (w : World) (h : LpM w v1 p) (h2 : PrfM w v2 x) (hst : x.st = 2) :
    Calls Tryz.prog 38 #[v1, v2] w fun e w' => e = .returned (.bool (shB p x)) ∧ Below w.heap.size w w' := by
  obtain ⟨A, n, c, A', N, c', A'', m, c'', rfl, hc, hv, hr⟩ := id h
  obtain ⟨B, lx, d, B', ly, d', B'', lr, d'', rfl, hxx, hxy, hxr, s1, s2⟩ := id h2
  rw [hst]
  obtain ⟨W, hW, hX, hbe0⟩ := box_lp w (.slice A n c) (.slice A' N c') (.slice A'' m c'')
  obtain ⟨W1, hW1, hY, hbe1⟩ := box_prf W (.int .i64 2) (.slice B lx d) (.slice B' ly d') (.slice B'' lr d'')
  have hX := hX.later hbe1
  have hbe := below_then hbe0 hbe1 hbe0.size
  have hsz : W.heap.size = w.heap.size + 1 := by rw [← hW]; simp
  rw [hsz] at hY
  obtain ⟨x0, x1, x2⟩ := hX.three
  obtain ⟨y0, y1, y2, y3⟩ := hY.four
  obtain ⟨m1, m2, m3⟩ := hv.len
  obtain ⟨r1, r2, r3⟩ := hr.len
  obtain ⟨k1, k2, k3⟩ := hc.len
  obtain ⟨lx1, lx2, lx3⟩ := hxx.len
  obtain ⟨ly1, ly2, ly3⟩ := hxy.len
  obtain ⟨lr1, lr2, lr3⟩ := hxr.len
  have HM1 := Lib.hid m1
  have HR1 := Lib.hid r1
  have HK1 := Lib.hid k1
  have HLX := Lib.hid lx1
  have HLY := Lib.hid ly1
  have HLR := Lib.hid lr1
  clear m1 r1 k1 lx1 ly1 lr1 hbe0 hbe1
  have HST := Lib.hid hst
  clear hst h h2 hc hv hr hxx hxy hxr
  by_cases h0 : lx = 0
  rotate_left
  · have e0 : ((lx : Int) == (0 : Int)) = false := by simp; omega
    have HR : Hid (shB p x = false) := Lib.hid (shB_no1 (p := p) (x := x) (by unfold shX; rw [HST.out, ← HLX.out, ← HM1.out]; simpa using h0))
    clear h0
    go_enter Tryz.func38, Tryz.ntmps38
    go_wp2
    go_ret
    exact ⟨ret_bool HR.out, hbe⟩
  have e0 : ((lx : Int) == (0 : Int)) = true := by simp; omega
  have H0 := Lib.hid h0
  clear h0
  by_cases h1 : ly = m
  rotate_left
  · have e1 : ((ly : Int) == (m : Int)) = false := by simp; omega
    have HR : Hid (shB p x = false) := Lib.hid (shB_no2 (p := p) (x := x) (by unfold shY; rw [HST.out, ← HLY.out, ← HR1.out]; simpa using h1))
    clear h1
    go_enter Tryz.func38, Tryz.ntmps38
    go_wp2
    go_ret
    exact ⟨ret_bool HR.out, hbe⟩
  have e1 : ((ly : Int) == (m : Int)) = true := by simp; omega
  have H1 := Lib.hid h1
  clear h1
  by_cases h2 : lr = 0
  rotate_left
  · have e2 : ((lr : Int) == (0 : Int)) = false := by simp; omega
    have HR : Hid (shB p x = false) := Lib.hid (shB_no3 (p := p) (x := x) (by unfold shR; rw [HST.out, ← HLR.out, ← HM1.out]; simpa using h2))
    clear h2
    go_enter Tryz.func38, Tryz.ntmps38
    go_wp2
    go_ret
    exact ⟨ret_bool HR.out, hbe⟩
  have e2 : ((lr : Int) == (0 : Int)) = true := by simp; omega
  have H2 := Lib.hid h2
  clear h2
  have HR : Hid (shB p x = true) := Lib.hid (shB_yes (by unfold shX; rw [HST.out, ← HLX.out, ← HM1.out]; simpa using H0.out) (by unfold shY; rw [HST.out, ← HLY.out, ← HR1.out]; simpa using H1.out) (by unfold shR; rw [HST.out, ← HLR.out, ← HM1.out]; simpa using H2.out))
  clear H0 H1 H2
  go_enter Tryz.func38, Tryz.ntmps38
  go_wp2
  go_ret
  exact ⟨ret_bool HR.out, hbe⟩

set_option maxHeartbeats 4000000 in
theorem shaped_3 (v1 v2 : Value) (p : LPd) (x : Prf) (w : World) (h : LpM w v1 p) (h2 : PrfM w v2 x) (hst : x.st = 3) :
    Calls Tryz.prog 38 #[v1, v2] w fun e w' => e = .returned (.bool (shB p x)) ∧ Below w.heap.size w w' := by
  obtain ⟨A, n, c, A', N, c', A'', m, c'', rfl, hc, hv, hr⟩ := id h
  obtain ⟨B, lx, d, B', ly, d', B'', lr, d'', rfl, hxx, hxy, hxr, s1, s2⟩ := id h2
  rw [hst]
  obtain ⟨W, hW, hX, hbe0⟩ := box_lp w (.slice A n c) (.slice A' N c') (.slice A'' m c'')
  obtain ⟨W1, hW1, hY, hbe1⟩ := box_prf W (.int .i64 3) (.slice B lx d) (.slice B' ly d') (.slice B'' lr d'')
  have hX := hX.later hbe1
  have hbe := below_then hbe0 hbe1 hbe0.size
  have hsz : W.heap.size = w.heap.size + 1 := by rw [← hW]; simp
  rw [hsz] at hY
  obtain ⟨x0, x1, x2⟩ := hX.three
  obtain ⟨y0, y1, y2, y3⟩ := hY.four
  obtain ⟨m1, m2, m3⟩ := hv.len
  obtain ⟨r1, r2, r3⟩ := hr.len
  obtain ⟨k1, k2, k3⟩ := hc.len
  obtain ⟨lx1, lx2, lx3⟩ := hxx.len
  obtain ⟨ly1, ly2, ly3⟩ := hxy.len
  obtain ⟨lr1, lr2, lr3⟩ := hxr.len
  have HM1 := Lib.hid m1
  have HR1 := Lib.hid r1
  have HK1 := Lib.hid k1
  have HLX := Lib.hid lx1
  have HLY := Lib.hid ly1
  have HLR := Lib.hid lr1
  clear m1 r1 k1 lx1 ly1 lr1 hbe0 hbe1
  have HST := Lib.hid hst
  clear hst h h2 hc hv hr hxx hxy hxr
  by_cases h0 : lx = N
  rotate_left
  · have e0 : ((lx : Int) == (N : Int)) = false := by simp; omega
    have HR : Hid (shB p x = false) := Lib.hid (shB_no1 (p := p) (x := x) (by unfold shX; rw [HST.out, ← HLX.out, ← HM1.out]; simpa using h0))
    clear h0
    go_enter Tryz.func38, Tryz.ntmps38
    go_wp2
    go_ret
    exact ⟨ret_bool HR.out, hbe⟩
  have e0 : ((lx : Int) == (N : Int)) = true := by simp; omega
  have H0 := Lib.hid h0
  clear h0
  by_cases h1 : ly = 0
  rotate_left
  · have e1 : ((ly : Int) == (0 : Int)) = false := by simp; omega
    have HR : Hid (shB p x = false) := Lib.hid (shB_no2 (p := p) (x := x) (by unfold shY; rw [HST.out, ← HLY.out, ← HR1.out]; simpa using h1))
    clear h1
    go_enter Tryz.func38, Tryz.ntmps38
    go_wp2
    go_ret
    exact ⟨ret_bool HR.out, hbe⟩
  have e1 : ((ly : Int) == (0 : Int)) = true := by simp; omega
  have H1 := Lib.hid h1
  clear h1
  by_cases h2 : lr = N
  rotate_left
  · have e2 : ((lr : Int) == (N : Int)) = false := by simp; omega
    have HR : Hid (shB p x = false) := Lib.hid (shB_no3 (p := p) (x := x) (by unfold shR; rw [HST.out, ← HLR.out, ← HM1.out]; simpa using h2))
    clear h2
    go_enter Tryz.func38, Tryz.ntmps38
    go_wp2
    go_ret
    exact ⟨ret_bool HR.out, hbe⟩
  have e2 : ((lr : Int) == (N : Int)) = true := by simp; omega
  have H2 := Lib.hid h2
  clear h2
  have HR : Hid (shB p x = true) := Lib.hid (shB_yes (by unfold shX; rw [HST.out, ← HLX.out, ← HM1.out]; simpa using H0.out) (by unfold shY; rw [HST.out, ← HLY.out, ← HR1.out]; simpa using H1.out) (by unfold shR; rw [HST.out, ← HLR.out, ← HM1.out]; simpa using H2.out))
  clear H0 H1 H2
  go_enter Tryz.func38, Tryz.ntmps38
  go_wp2
  go_ret
  exact ⟨ret_bool HR.out, hbe⟩
end Go.Proofs.YtpanffbgihhjnaaGreat

/- Walks: package proof: holds. -/
namespace Go.Proofs.YtpanffbgihhjnaaGreat
open Go.RowKit Pl
attribute [local go_sem ↓] Go.wp_at_zero Go.wp_at_succ

namespace Pl
def nonTo (p : LPd) (ys : List RF) (k : Nat) : Prop := ∀ j, j < k → dotC ys (p.col (j : Int)) p.right.length ≤ 0
instance (p : LPd) (ys : List RF) (k : Nat) : Decidable (nonTo p ys k) := by unfold nonTo; infer_instance
theorem nonTo_zero (p : LPd) (ys : List RF) : nonTo p ys 0 := fun j h => by omega
theorem nonTo_next {p : LPd} {ys : List RF} {k : Nat} (h : nonTo p ys k) (h1 : dotC ys (p.col (k : Int)) p.right.length ≤ 0) : nonTo p ys (k + 1) := fun j hj => by
  rcases Nat.eq_or_lt_of_le (Nat.le_of_lt_succ hj) with e | e
  · subst e; exact h1
  · exact h j e
def hold1 (p : LPd) (x : Prf) : Bool := lowB p x.y && (feasB p x.x && (qs (dotQ x.y p.right p.right.length - dotQ p.cost x.x p.cols.length) == 0))
def hold2 (p : LPd) (x : Prf) : Bool := decide (nonTo p x.y p.cols.length) && decide (0 < qs (dotQ x.y p.right p.right.length))
def hold3 (p : LPd) (x : Prf) : Bool := feasB p x.x && (nnB x.ray && (combB p.right.length (timesQ p x.ray p.cols.length) [] && decide (qs (dotQ p.cost x.ray p.cols.length) < 0)))
def holdB (p : LPd) (x : Prf) : Bool := if x.st = 1 then hold1 p x else if x.st = 2 then hold2 p x else hold3 p x
end Pl

set_option maxRecDepth 100000 in
set_option maxHeartbeats 4000000 in
theorem holds_1 (v1 v2 : Value) (p : LPd) (x : Prf) (K : Nat) (w : World) (h : LpM w v1 p) (h2 : PrfM w v2 x) (ok : p.Ok K) (hkx : RsL K x.x) (hky : RsL K x.y) (hkr : RsL K x.ray) (hK : 1 ≤ K) (hz : lpErr p = 0) (hcl : ∀ (j : Nat) (c : List En), p.cols[j]? = some c → c.length ≤ 64) (hs : 1 + 1201 * (2 * K + 1) ≤ 34359738368) (hst : x.st = 1) (hl1 : x.x.length = p.cols.length) (hl2 : x.y.length = p.right.length) :
    Calls Tryz.prog 39 #[v1, v2] w fun e w' => e = .returned (.bool (hold1 p x)) ∧ Below w.heap.size w w' := by
  obtain ⟨A, n, c, A', N, c', A'', m, c'', rfl, hc, hv, hr⟩ := id h
  obtain ⟨B, lx, d, B', ly, d', B'', lr, d'', rfl, hxx, hxy, hxr, s1, s2⟩ := id h2
  rw [hst]
  obtain ⟨W, hW, hX, hbe0⟩ := box_lp w (.slice A n c) (.slice A' N c') (.slice A'' m c'')
  obtain ⟨W1, hW1, hY, hbe1⟩ := box_prf W (.int .i64 1) (.slice B lx d) (.slice B' ly d') (.slice B'' lr d'')
  have hX := hX.later hbe1
  have hbe := below_then hbe0 hbe1 hbe0.size
  have hsz : W.heap.size = w.heap.size + 1 := by rw [← hW]; simp
  rw [hsz] at hY
  obtain ⟨x0, x1, x2⟩ := hX.three
  obtain ⟨y0, y1, y2, y3⟩ := hY.four
  obtain ⟨m1, m2, m3⟩ := hv.len
  obtain ⟨r1, r2, r3⟩ := hr.len
  obtain ⟨k1, k2, k3⟩ := hc.len
  obtain ⟨lx1, lx2, lx3⟩ := hxx.len
  obtain ⟨ly1, ly2, ly3⟩ := hxy.len
  obtain ⟨lr1, lr2, lr3⟩ := hxr.len
  have HM1 := Lib.hid m1
  have HR1 := Lib.hid r1
  have HK1 := Lib.hid k1
  have HLX := Lib.hid lx1
  have HLY := Lib.hid ly1
  have HLR := Lib.hid lr1
  clear m1 r1 k1 lx1 ly1 lr1 hbe0 hbe1
  have HOK := Lib.hid ok
  have HZ := Lib.hid hz
  have HCL := Lib.hid hcl
  have HKX := Lib.hid hkx
  have HKY := Lib.hid hky
  have HKR := Lib.hid hkr
  have hs2 : 2 * K ≤ 34359738368 := by omega
  have HS1 : Hid (1 + 64 * (2 * K + 1) ≤ 34359738368) := Lib.hid (by omega)
  have HS := Lib.hid hs
  clear hst hcl ok hz hkx hky hkr h2 hs
  have HL1 := Lib.hid hl1
  have HL2 := Lib.hid hl2
  clear hl1 hl2
  obtain ⟨z1, z2, z3, z4, z5⟩ := lpErr_zero HZ.out
  have HZ3 := Lib.hid z3
  clear z3 z4 z5
  go_enter Tryz.func39, Tryz.ntmps39
  go_wp2_with fail
  clear hW hW1 hsz x0 x1 x2 y0 y1 y2 y3
  refine (lowerBound_any _ _ p x.y K _ (h.below hbe) (hxy.below hbe) HOK.out HKY.out hK HCL.out HS1.out).mono ?_
  rintro _ w1 ⟨v1, rfl, e1, hb1⟩
  obtain ⟨Bl, ll, dl, Bl', ll', dl', rfl, _, _⟩ := id e1
  have hX1 := hX.later hb1
  have hY1 := hY.later hb1
  have hbe1 := below_then hbe hb1 hbe.size
  clear hX hY hbe hb1
  cases hlb : lowB p x.y
  · have HR : Hid (hold1 p x = false) := Lib.hid (by simp [hold1, hlb])
    rw [lowF_no hlb] at e1 ⊢
    clear hlb e1
    go_wp2_with fail
    have hS0 := below_drew' (w1.alloc (.cells #[.bool zeroF.num.neg, .slice Bl ll dl, .bool zeroF.den.neg, .slice Bl' ll' dl'] 47))
    have hbe3 := below_then (below_then hbe1 (below_new w1 _) hbe1.size) hS0 (by simp; have := hbe1.size; omega)
    refine region_seq 18 [0, 1, 2, 3, 4, 5, 6, 7, 8, 9, 10, 11, 12, 13, 14, 15, 16, 17] (by kernel_rfl) (by kernel_rfl) ?_
    repeat ((first | (refine seq_takeP (v := ?_) rfl rfl rfl ?_ ?_; rotate_left; (· (intro _ hSw; go_simp; (try go_bits); (try with_reducible rfl)))) | (refine seq_take (v := ?_) rfl rfl rfl ?_ ?_; rotate_left; (· (intro _ hSw; go_simp; (try go_bits); (try with_reducible rfl)))) | refine seq_skip rfl rfl rfl ?_ | refine seq_skipc rfl rfl rfl (by assumption) ?_); (try simp only [Act.put, pu1, pu2, pu3, pu4, pu5, pu6]))
    refine seq_done ?_
    go_wp2
    go_ret
    exact ⟨ret_bool HR.out, hbe3⟩
  · have HLT := Lib.hid (lowB_true hlb)
    rw [lowF_yes hlb] at e1 ⊢
    have HLB := Lib.hid hlb
    clear hlb
    have HE1 := Lib.hid e1
    clear e1
    have hkR : RsL K p.right := HOK.out.2.1
    have HSL : Hid ((canF (dotQ x.y p.right p.right.length)).Sm) := Lib.hid (((Sz_dot HKY.out hkR hK).mono (by have := HS1.out; have := Nat.mul_le_mul_right (2 * K + 1) z1; omega : 1 + p.right.length * (2 * K + 1) ≤ 34359738368)).rs.sm (Nat.le_refl _))
    have HQL := Lib.hid (canF_q (dotQ x.y p.right p.right.length))
    generalize canF (dotQ x.y p.right p.right.length) = LF at *
    obtain ⟨W2, hW2, hL, hbn⟩ := boxF1 w1 (.bool LF.num.neg) (.slice Bl ll dl) (.bool LF.den.neg) (.slice Bl' ll' dl')
    have hX2 := hX1.later hbn
    have hY2 := hY1.later hbn
    have hbe2 := below_then hbe1 hbn hbe1.size
    have hE2 := HE1.out.below hbn
    obtain ⟨x0, x1, x2⟩ := hX2.three
    obtain ⟨y0, y1, y2, y3⟩ := hY2.four
    obtain ⟨l0, l1, l2, l3⟩ := hL.four
    clear hX1 hY1 hbe1 hbn HE1
    go_wp2_with fail
    clear hW2
    have C0 := stab x0
    have C1 := stab x1
    have C2 := stab x2
    have D0 := stab y0
    have D1 := stab y1
    have D2 := stab y2
    have D3 := stab y3
    have E0 := stab l0
    have E1 := stab l1
    have E2 := stab l2
    have E3 := stab l3
    have hS0 := below_drew' W2
    clear x0 x1 x2 y0 y1 y2 y3 l0 l1 l2 l3
    refine region_seq 18 [0, 1, 2, 3, 4, 5, 6, 7, 8, 9, 10, 11, 12, 13, 14, 15, 16, 17] (by kernel_rfl) (by kernel_rfl) ?_
    repeat ((first | (refine seq_takeP (v := ?_) rfl rfl rfl ?_ ?_; rotate_left; (· (intro _ hSw; go_simp; (try go_bits); (try with_reducible rfl)))) | (refine seq_take (v := ?_) rfl rfl rfl ?_ ?_; rotate_left; (· (intro _ hSw; go_simp; (try go_bits); (try with_reducible rfl)))) | refine seq_skip rfl rfl rfl ?_ | refine seq_skipc rfl rfl rfl (by assumption) ?_); (try simp only [Act.put, pu1, pu2, pu3, pu4, pu5, pu6]))
    refine seq_step rfl rfl (fun KR hKR => ?_)
    go_simp
    with_reducible refine (feasible_any _ _ p x.x K _ ((h.below hbe2).below hS0) ((hxx.below hbe2).below hS0) HOK.out HKX.out hK HZ.out HS.out).mono ?_
    rintro _ w3 ⟨rfl, hb3⟩
    have hS3 := below_then hS0 hb3 hS0.size
    refine hKR.out _ _ (Or.inr hS3) ?_
    clear hKR KR
    (try simp only [Act.put, pu1, pu2, pu3, pu4, pu5, pu6])
    cases hfb : feasB p x.x
    · have HR : Hid (hold1 p x = false) := Lib.hid (by simp [hold1, hfb])
      clear hfb
      repeat ((first | (refine seq_takeP (v := ?_) rfl rfl rfl ?_ ?_; rotate_left; (· (intro _ hSw; go_simp; (try go_bits); (try with_reducible rfl)))) | (refine seq_take (v := ?_) rfl rfl rfl ?_ ?_; rotate_left; (· (intro _ hSw; go_simp; (try go_bits); (try with_reducible rfl)))) | refine seq_skip rfl rfl rfl ?_ | refine seq_skipc rfl rfl rfl (by assumption) ?_); (try simp only [Act.put, pu1, pu2, pu3, pu4, pu5, pu6]))
      refine seq_done ?_
      clear C0 C1 C2 D0 D1 D2 D3 E0 E1 E2 E3
      have hbe3 := below_then hbe2 hS3 hbe2.size
      go_wp2
      go_ret
      exact ⟨ret_bool HR.out, hbe3⟩
    · have HR : Hid (hold1 p x = (qs (dotQ x.y p.right p.right.length - dotQ p.cost x.x p.cols.length) == 0)) := Lib.hid (by simp [hold1, hfb, HLB.out])
      have hsD : 1 + p.cost.length * (2 * K + 1) ≤ 34359738368 := by
        rw [HZ3.out]
        have := HS.out; have := Nat.mul_le_mul_right (2 * K + 1) z2; omega
      have hkC : RsL K p.cost := HOK.out.1
      have HSP : Hid ((canF (dotQ p.cost x.x p.cost.length)).Sm) := Lib.hid (((Sz_dot HOK.out.1 HKX.out hK).mono hsD).rs.sm (Nat.le_refl _))
      clear hfb
      repeat ((first | (refine seq_takeP (v := ?_) rfl rfl rfl ?_ ?_; rotate_left; (· (intro _ hSw; go_simp; (try go_bits); (try with_reducible rfl)))) | (refine seq_take (v := ?_) rfl rfl rfl ?_ ?_; rotate_left; (· (intro _ hSw; go_simp; (try go_bits); (try with_reducible rfl)))) | refine seq_skip rfl rfl rfl ?_ | refine seq_skipc rfl rfl rfl (by assumption) ?_); (try simp only [Act.put, pu1, pu2, pu3, pu4, pu5, pu6]))
      refine seq_step rfl rfl (fun KR hKR => ?_)
      go_simp
      with_reducible refine (product_any _ _ p.cost x.x K _ ((hc.below hbe2).below hS3) ((hxx.below hbe2).below hS3) (by rw [HZ3.out, HL1.out]; exact Nat.le_refl _) hK hkC HKX.out hsD (by omega)).mono ?_
      rintro _ w4 ⟨v4, rfl, e4, hb4⟩
      have hS4 := below_then hS3 hb4 hS3.size
      refine hKR.out _ _ (Or.inr hS4) ?_
      clear hKR KR
      (try simp only [Act.put, pu1, pu2, pu3, pu4, pu5, pu6])
      repeat ((first | (refine seq_takeP (v := ?_) rfl rfl rfl ?_ ?_; rotate_left; (· (intro _ hSw; go_simp; (try go_bits); (try with_reducible rfl)))) | (refine seq_take (v := ?_) rfl rfl rfl ?_ ?_; rotate_left; (· (intro _ hSw; go_simp; (try go_bits); (try with_reducible rfl)))) | refine seq_skip rfl rfl rfl ?_ | refine seq_skipc rfl rfl rfl (by assumption) ?_); (try simp only [Act.put, pu1, pu2, pu3, pu4, pu5, pu6]))
      refine seq_step rfl rfl (fun KR hKR => ?_)
      go_simp
      with_reducible refine (compareF_any _ _ LF _ _ (hE2.below hS4) e4 HSL.out HSP.out).mono ?_
      rw [canF_q, HQL.out, HZ3.out]
      generalize qs (dotQ x.y p.right p.right.length - dotQ p.cost x.x p.cols.length) = sD at *
      rintro _ w5 ⟨rfl, hb5⟩
      have hS5 := below_then hS4 hb5 hS4.size
      refine hKR.out _ _ (Or.inr hS5) ?_
      clear hKR KR
      (try simp only [Act.put, pu1, pu2, pu3, pu4, pu5, pu6])
      repeat ((first | (refine seq_takeP (v := ?_) rfl rfl rfl ?_ ?_; rotate_left; (· (intro _ hSw; go_simp; (try go_bits); (try with_reducible rfl)))) | (refine seq_take (v := ?_) rfl rfl rfl ?_ ?_; rotate_left; (· (intro _ hSw; go_simp; (try go_bits); (try with_reducible rfl)))) | refine seq_skip rfl rfl rfl ?_ | refine seq_skipc rfl rfl rfl (by assumption) ?_); (try simp only [Act.put, pu1, pu2, pu3, pu4, pu5, pu6]))
      refine seq_done ?_
      clear C0 C1 C2 D0 D1 D2 D3 E0 E1 E2 E3
      have hbe3 := below_then hbe2 hS5 hbe2.size
      go_wp2
      go_ret
      exact ⟨ret_bool HR.out, hbe3⟩

set_option maxRecDepth 100000 in
set_option maxHeartbeats 4000000 in
theorem holds_2 (v1 v2 : Value) (p : LPd) (x : Prf) (K : Nat) (w : World) (h : LpM w v1 p) (h2 : PrfM w v2 x) (ok : p.Ok K) (hkx : RsL K x.x) (hky : RsL K x.y) (hkr : RsL K x.ray) (hK : 1 ≤ K) (hz : lpErr p = 0) (hcl : ∀ (j : Nat) (c : List En), p.cols[j]? = some c → c.length ≤ 64) (hs : 1 + 1201 * (2 * K + 1) ≤ 34359738368) (hst : x.st = 2) (hl2 : x.y.length = p.right.length) :
    Calls Tryz.prog 39 #[v1, v2] w fun e w' => e = .returned (.bool (hold2 p x)) ∧ Below w.heap.size w w' := by
  obtain ⟨A, n, c, A', N, c', A'', m, c'', rfl, hc, hv, hr⟩ := id h
  obtain ⟨B, lx, d, B', ly, d', B'', lr, d'', rfl, hxx, hxy, hxr, s1, s2⟩ := id h2
  rw [hst]
  obtain ⟨W, hW, hX, hbe0⟩ := box_lp w (.slice A n c) (.slice A' N c') (.slice A'' m c'')
  obtain ⟨W1, hW1, hY, hbe1⟩ := box_prf W (.int .i64 2) (.slice B lx d) (.slice B' ly d') (.slice B'' lr d'')
  have hX := hX.later hbe1
  have hbe := below_then hbe0 hbe1 hbe0.size
  have hsz : W.heap.size = w.heap.size + 1 := by rw [← hW]; simp
  rw [hsz] at hY
  obtain ⟨x0, x1, x2⟩ := hX.three
  obtain ⟨y0, y1, y2, y3⟩ := hY.four
  obtain ⟨m1, m2, m3⟩ := hv.len
  obtain ⟨r1, r2, r3⟩ := hr.len
  obtain ⟨k1, k2, k3⟩ := hc.len
  obtain ⟨lx1, lx2, lx3⟩ := hxx.len
  obtain ⟨ly1, ly2, ly3⟩ := hxy.len
  obtain ⟨lr1, lr2, lr3⟩ := hxr.len
  have HM1 := Lib.hid m1
  have HR1 := Lib.hid r1
  have HK1 := Lib.hid k1
  have HLX := Lib.hid lx1
  have HLY := Lib.hid ly1
  have HLR := Lib.hid lr1
  clear m1 r1 k1 lx1 ly1 lr1 hbe0 hbe1
  have HOK := Lib.hid ok
  have HZ := Lib.hid hz
  have HCL := Lib.hid hcl
  have HKX := Lib.hid hkx
  have HKY := Lib.hid hky
  have HKR := Lib.hid hkr
  have hs2 : 2 * K ≤ 34359738368 := by omega
  have HS1 : Hid (1 + 64 * (2 * K + 1) ≤ 34359738368) := Lib.hid (by omega)
  have HS := Lib.hid hs
  clear hst hcl ok hz hkx hky hkr h2 hs
  have HL2 := Lib.hid hl2
  clear hl2
  go_enter Tryz.func39, Tryz.ntmps39
  go_wp2
  clear hW hW1 hsz x0 x1 x2 y0 y1 y2 y3
  go_loopw [43] (fun i wr => ∃ j : Nat, j ≤ N ∧ i = .int .i64 j ∧ Below w.heap.size w wr ∧ Bk wr w.heap.size 26 [.slice A n c, .slice A' N c', .slice A'' m c''] ∧ Bk wr (w.heap.size + 1) 29 [.int .i64 2, .slice B lx d, .slice B' ly d', .slice B'' lr d''] ∧ nonTo p x.y j) (fun i _ => N - (intOf i).toNat)
  case atStart => exact ⟨0, by omega, rfl, hbe, hX, hY, nonTo_zero _ _⟩
  case round =>
    clear hbe hX hY
    obtain ⟨j, hj, rfl, hbe, hX, hY, hnon⟩ := hrel
    have HNON := Lib.hid hnon
    clear hnon
    obtain ⟨z1, z2, z3, z4, z5⟩ := lpErr_zero HZ.out
    obtain ⟨x0, x1, x2⟩ := hX.three
    obtain ⟨y0, y1, y2, y3⟩ := hY.four
    rcases Nat.lt_or_ge j N with hjl | hjl
    · obtain ⟨es, hes⟩ := get_someC (cs := p.cols) (i := j) (by rw [← HM1.out]; exact hjl)
      obtain ⟨bc, offc, Ac, cc, rfl, hltc, hcellc, hvm⟩ := hv.elem (Below.refl _ _) hes
      have hcell1 := cell_keep hbe hcellc
      have hin : inR x.y.length es := by rw [HL2.out]; exact z4 j es hes
      have hse := (HOK.out.2.2 j es hes).2
      have hsE : 1 + es.length * (2 * K + 1) ≤ 34359738368 := by
        have := HS1.out; have := Nat.mul_le_mul_right (2 * K + 1) (HCL.out j es hes); omega
      have HAL : Hid (alongQ es x.y es.length = dotC x.y (p.col (j : Int)) p.right.length) := Lib.hid (by rw [LPd.col_pos hes]; exact alongQ_all (z4 j es hes) (z5 j es hes).2)
      have hj1 : (j : Int) < N := by omega
      clear z1 z2 z3 z4 z5 hes hltc
      go_wp2_with fail
      refine (along_any _ _ es x.y K _ (hvm.below hbe) (hxy.below hbe) hin hK hse HKY.out hsE (by omega)).mono ?_
      rintro _ w2 ⟨v2, rfl, e2, hb2⟩
      go_wp2_with fail
      refine (signF_any _ _ _ e2).mono ?_
      rw [canF_q, HAL.out]
      generalize hD : dotC x.y (p.col (j : Int)) p.right.length = D
      have HD := Lib.hid hD
      clear hD HAL
      rintro _ w3 ⟨rfl, hb3⟩
      have hb23 := below_then hb2 hb3 hb2.size
      have hX3 := hX.later hb23
      have hY3 := hY.later hb23
      have hbe3 := below_then hbe hb23 hbe.size
      clear hX hY hbe hb2 hb3 hb23 x0 x1 x2 y0 y1 y2 y3 hcellc hcell1 e2 hsE hse hin hs2 hvm
      by_cases hgt : D ≤ 0
      · have hsg : qs D ≤ 0 := qs_le.2 hgt
        have HN2 := Lib.hid (nonTo_next HNON.out (by rw [HD.out]; exact hgt))
        clear hgt
        generalize qs D = sD at *
        go_wp2
        go_roundw
        case rel => exact ⟨j + 1, by omega, by go_num, hbe3, hX3, hY3, HN2.out⟩
        case measure => simp [intOf]; omega
      · have hsg : 0 < qs D := Int.not_le.1 fun g => hgt (qs_le.1 g)
        have HR : Hid (hold2 p x = false) := Lib.hid (by
          have : ¬ nonTo p x.y p.cols.length := fun g => hgt (by rw [← HD.out]; exact g j (by rw [← HM1.out]; exact hjl))
          simp [hold2, this])
        clear hgt
        generalize qs D = sD at *
        go_wp2
        go_ret
        exact ⟨ret_bool HR.out, hbe3⟩
    · obtain rfl : j = N := by omega
      have HR : Hid (hold2 p x = decide (0 < qs (dotQ x.y p.right p.right.length))) := Lib.hid (by
        have : nonTo p x.y p.cols.length := by rw [← HM1.out]; exact HNON.out
        simp [hold2, this])
      have hsD : 1 + x.y.length * (2 * K + 1) ≤ 34359738368 := by
        rw [HL2.out]
        have := HS1.out; have := Nat.mul_le_mul_right (2 * K + 1) z1; omega
      clear z1 z2 z3 z4 z5
      go_wp2_with fail
      refine (product_any _ _ x.y p.right K _ (hxy.below hbe) (hr.below hbe) (by rw [HL2.out]; exact Nat.le_refl _) hK HKY.out HOK.out.2.1 hsD (by omega)).mono ?_
      rw [HL2.out]
      rintro _ w2 ⟨v2, rfl, e2, hb2⟩
      go_wp2_with fail
      refine (signF_any _ _ _ e2).mono ?_
      rw [canF_q]
      generalize qs (dotQ x.y p.right p.right.length) = sD at *
      rintro _ w3 ⟨rfl, hb3⟩
      have hb23 := below_then hb2 hb3 hb2.size
      have hbe3 := below_then hbe hb23 hbe.size
      clear hX hY hbe hb2 hb3 hb23 x0 x1 x2 y0 y1 y2 y3 e2
      go_wp2
      go_ret
      exact ⟨ret_bool HR.out, hbe3⟩

set_option maxRecDepth 100000 in
set_option maxHeartbeats 4000000 in
theorem holds_3 (v1 v2 : Value) (p : LPd) (x : Prf) (K : Nat) (w : World) (h : LpM w v1 p) (h2 : PrfM w v2 x) (ok : p.Ok K) (hkx : RsL K x.x) (hky : RsL K x.y) (hkr : RsL K x.ray) (hK : 1 ≤ K) (hz : lpErr p = 0) (hcl : ∀ (j : Nat) (c : List En), p.cols[j]? = some c → c.length ≤ 64) (hs : 1 + 1201 * (2 * K + 1) ≤ 34359738368) (hst : x.st = 3) (hl1 : x.x.length = p.cols.length) (hl3 : x.ray.length = p.cols.length) :
    Calls Tryz.prog 39 #[v1, v2] w fun e w' => e = .returned (.bool (hold3 p x)) ∧ Below w.heap.size w w' := by
  obtain ⟨A, n, c, A', N, c', A'', m, c'', rfl, hc, hv, hr⟩ := id h
  obtain ⟨B, lx, d, B', ly, d', B'', lr, d'', rfl, hxx, hxy, hxr, s1, s2⟩ := id h2
  rw [hst]
  obtain ⟨W, hW, hX, hbe0⟩ := box_lp w (.slice A n c) (.slice A' N c') (.slice A'' m c'')
  obtain ⟨W1, hW1, hY, hbe1⟩ := box_prf W (.int .i64 3) (.slice B lx d) (.slice B' ly d') (.slice B'' lr d'')
  have hX := hX.later hbe1
  have hbe := below_then hbe0 hbe1 hbe0.size
  have hsz : W.heap.size = w.heap.size + 1 := by rw [← hW]; simp
  rw [hsz] at hY
  obtain ⟨x0, x1, x2⟩ := hX.three
  obtain ⟨y0, y1, y2, y3⟩ := hY.four
  obtain ⟨m1, m2, m3⟩ := hv.len
  obtain ⟨r1, r2, r3⟩ := hr.len
  obtain ⟨k1, k2, k3⟩ := hc.len
  obtain ⟨lx1, lx2, lx3⟩ := hxx.len
  obtain ⟨ly1, ly2, ly3⟩ := hxy.len
  obtain ⟨lr1, lr2, lr3⟩ := hxr.len
  have HM1 := Lib.hid m1
  have HR1 := Lib.hid r1
  have HK1 := Lib.hid k1
  have HLX := Lib.hid lx1
  have HLY := Lib.hid ly1
  have HLR := Lib.hid lr1
  clear m1 r1 k1 lx1 ly1 lr1 hbe0 hbe1
  have HOK := Lib.hid ok
  have HZ := Lib.hid hz
  have HCL := Lib.hid hcl
  have HKX := Lib.hid hkx
  have HKY := Lib.hid hky
  have HKR := Lib.hid hkr
  have hs2 : 2 * K ≤ 34359738368 := by omega
  have HS1 : Hid (1 + 64 * (2 * K + 1) ≤ 34359738368) := Lib.hid (by omega)
  have HS := Lib.hid hs
  clear hst hcl ok hz hkx hky hkr h2 hs
  have HL1 := Lib.hid hl1
  have HL3 := Lib.hid hl3
  clear hl1 hl3
  obtain ⟨z1, z2, z3, z4, z5⟩ := lpErr_zero HZ.out
  have HZ3 := Lib.hid z3
  have hsN : 1 + (p.cols.length + 1) * (2 * K + 1) ≤ 34359738368 := by
    have := HS.out; have := Nat.mul_le_mul_right (2 * K + 1) (show p.cols.length + 1 ≤ 1201 by omega); omega
  have hmm : m ≤ 64 := by rw [HR1.out]; exact z1
  have hmk := make_frac m (by omega)
  have hfz := FrsO.zeros W1 m (by unfold maxLen; omega)
  have hbz := below_new W1 (.cells (zfc m) 47)
  have hX2 := hX.later hbz
  have hY2 := hY.later hbz
  have hbe2 := below_then hbe hbz hbe.size
  obtain ⟨p0, p1, p2⟩ := hX2.three
  obtain ⟨q0, q1, q2, q3⟩ := hY2.four
  clear z1 z3 z4 z5 hbz
  go_enter Tryz.func39, Tryz.ntmps39
  go_wp2_with fail
  clear hW hW1 hsz x0 x1 x2 y0 y1 y2 y3 hmk hX hY p0 p1 p2 q0 q1 q2 q3 hbe
  generalize W1.alloc (.cells (zfc m) 47) = W3 at *
  refine (feasible_any _ _ p x.x K _ (h.below hbe2) (hxx.below hbe2) HOK.out HKX.out hK HZ.out HS.out).mono ?_
  rintro _ w1 ⟨rfl, hb1⟩
  have hX1 := hX2.later hb1
  have hY1 := hY2.later hb1
  have hf1 := hfz.below hb1
  have hbe1 := below_then hbe2 hb1 hbe2.size
  obtain ⟨x0, x1, x2⟩ := hX1.three
  obtain ⟨y0, y1, y2, y3⟩ := hY1.four
  clear hX2 hY2 hfz hb1 hbe2
  cases hfb : feasB p x.x
  · have HR : Hid (hold3 p x = false) := Lib.hid (by simp [hold3, hfb])
    clear hfb
    go_wp2
    go_ret
    exact ⟨ret_bool HR.out, hbe1⟩
  have HFB := Lib.hid hfb
  clear hfb
  go_wp2_with fail
  refine (nonneg_any _ x.ray N _ (hxr.below hbe1) (by omega)).mono ?_
  rw [decide_eq_true (show x.ray.length = N by rw [HL3.out, HM1.out]), Bool.true_and]
  rintro _ w2 ⟨rfl, hb2⟩
  have hX2 := hX1.later hb2
  have hY2 := hY1.later hb2
  have hf2 := hf1.below hb2
  have hbe2 := below_then hbe1 hb2 hbe1.size
  clear x0 x1 x2 y0 y1 y2 y3 hX1 hY1 hf1 hb2 hbe1
  obtain ⟨x0, x1, x2⟩ := hX2.three
  obtain ⟨y0, y1, y2, y3⟩ := hY2.four
  cases hnn : nnB x.ray
  · have HR : Hid (hold3 p x = false) := Lib.hid (by simp [hold3, hnn])
    clear hnn
    go_wp2
    go_ret
    exact ⟨ret_bool HR.out, hbe2⟩
  have HNN := Lib.hid hnn
  clear hnn
  go_wp2_with fail
  refine (combines_any _ _ _ p x.ray (List.replicate m zeroF) K _ (h.below hbe2) (hxr.below hbe2) hf2.frs HOK.out HKR.out (RsL_zeros _ _) hK HZ.out HL3.out (by rw [List.length_replicate, HR1.out]; exact Nat.le_refl _) hsN (by omega)).mono ?_
  rw [show combB p.right.length (timesQ p x.ray p.cols.length) (List.replicate m zeroF) = combB p.right.length (timesQ p x.ray p.cols.length) [] from by unfold combB; apply decide_eq_decide.2; constructor <;> (intro g i hi; rw [g i hi, qAt_zeros]; simp [qAt])]
  rintro _ w3 ⟨rfl, hb3⟩
  have hX3 := hX2.later hb3
  have hY3 := hY2.later hb3
  have hbe3 := below_then hbe2 hb3 hbe2.size
  clear x0 x1 x2 y0 y1 y2 y3 hX2 hY2 hf2 hb3 hbe2
  obtain ⟨x0, x1, x2⟩ := hX3.three
  obtain ⟨y0, y1, y2, y3⟩ := hY3.four
  cases hcb : combB p.right.length (timesQ p x.ray p.cols.length) []
  · have HR : Hid (hold3 p x = false) := Lib.hid (by simp [hold3, hcb])
    clear hcb
    go_wp2
    go_ret
    exact ⟨ret_bool HR.out, hbe3⟩
  have HR : Hid (hold3 p x = decide (qs (dotQ p.cost x.ray p.cols.length) < 0)) := Lib.hid (by simp [hold3, hcb, HNN.out, HFB.out])
  have hsD : 1 + p.cost.length * (2 * K + 1) ≤ 34359738368 := by
    rw [HZ3.out]
    have := HS.out; have := Nat.mul_le_mul_right (2 * K + 1) z2; omega
  clear hcb
  go_wp2_with fail
  refine (product_any _ _ p.cost x.ray K _ (hc.below hbe3) (hxr.below hbe3) (by rw [HZ3.out, HL3.out]; exact Nat.le_refl _) hK HOK.out.1 HKR.out hsD (by omega)).mono ?_
  rw [HZ3.out]
  rintro _ w4 ⟨v4, rfl, e4, hb4⟩
  go_wp2_with fail
  refine (signF_any _ _ _ e4).mono ?_
  rw [canF_q]
  generalize qs (dotQ p.cost x.ray p.cols.length) = sD at *
  rintro _ w5 ⟨rfl, hb5⟩
  have hb45 := below_then hb4 hb5 hb4.size
  have hbe5 := below_then hbe3 hb45 hbe3.size
  clear hX3 hY3 hbe3 hb4 hb5 hb45 x0 x1 x2 y0 y1 y2 y3 e4
  go_wp2
  go_ret
  exact ⟨ret_bool HR.out, hbe5⟩
end Go.Proofs.YtpanffbgihhjnaaGreat

/- Walks: package proof: Verify. -/
namespace Go.Proofs.YtpanffbgihhjnaaGreat
open Go.RowKit Pl
attribute [local go_sem ↓] Go.wp_at_zero Go.wp_at_succ

namespace Pl
def verQ (p : LPd) (x : Prf) : Int := if lpErr p ≠ 0 then lpErr p else if x.st < 1 ∨ 3 < x.st then 5 else if shB p x = false then 12 else if holdB p x = false then 24 else 0
theorem verQ_1 {p : LPd} {x : Prf} (h : lpErr p ≠ 0) : verQ p x = lpErr p := by unfold verQ; rw [if_pos h]
theorem verQ_2 {p : LPd} {x : Prf} (h : lpErr p = 0) (h2 : x.st < 1 ∨ 3 < x.st) : verQ p x = 5 := by unfold verQ; rw [if_neg (by simpa using h), if_pos h2]
theorem verQ_3 {p : LPd} {x : Prf} (h : lpErr p = 0) (h2 : ¬ (x.st < 1 ∨ 3 < x.st)) (h3 : shB p x = false) : verQ p x = 12 := by unfold verQ; rw [if_neg (by simpa using h), if_neg h2, if_pos h3]
theorem verQ_4 {p : LPd} {x : Prf} (h : lpErr p = 0) (h2 : ¬ (x.st < 1 ∨ 3 < x.st)) (h3 : shB p x = true) (h4 : holdB p x = false) : verQ p x = 24 := by unfold verQ; rw [if_neg (by simpa using h), if_neg h2, if_neg (by simp [h3]), if_pos h4]
theorem verQ_5 {p : LPd} {x : Prf} (h : lpErr p = 0) (h2 : ¬ (x.st < 1 ∨ 3 < x.st)) (h3 : shB p x = true) (h4 : holdB p x = true) : verQ p x = 0 := by unfold verQ; rw [if_neg (by simpa using h), if_neg h2, if_neg (by simp [h3]), if_neg (by simp [h4])]
end Pl
theorem shaped_any (v1 v2 : Value) (p : LPd) (x : Prf) (w : World) (h : LpM w v1 p) (h2 : PrfM w v2 x) (hst : ¬ (x.st < 1 ∨ 3 < x.st)) :
    Calls Tryz.prog 38 #[v1, v2] w fun e w' => e = .returned (.bool (shB p x)) ∧ Below w.heap.size w w' := by
  have : x.st = 1 ∨ x.st = 2 ∨ x.st = 3 := by omega
  rcases this with e | e | e
  · exact shaped_1 v1 v2 p x w h h2 e
  · exact shaped_2 v1 v2 p x w h h2 e
  · exact shaped_3 v1 v2 p x w h h2 e
theorem holds_any (v1 v2 : Value) (p : LPd) (x : Prf) (K : Nat) (w : World) (h : LpM w v1 p) (h2 : PrfM w v2 x) (ok : p.Ok K) (hkx : RsL K x.x) (hky : RsL K x.y) (hkr : RsL K x.ray) (hK : 1 ≤ K) (hz : lpErr p = 0) (hcl : ∀ (j : Nat) (c : List En), p.cols[j]? = some c → c.length ≤ 64) (hs : 1 + 1201 * (2 * K + 1) ≤ 34359738368) (hst : ¬ (x.st < 1 ∨ 3 < x.st)) (hsh : shB p x = true) :
    Calls Tryz.prog 39 #[v1, v2] w fun e w' => e = .returned (.bool (holdB p x)) ∧ Below w.heap.size w w' := by
  obtain ⟨s1, s2, s3⟩ := shB_true hsh
  unfold shX at s1
  unfold shY at s2
  unfold shR at s3
  have : x.st = 1 ∨ x.st = 2 ∨ x.st = 3 := by omega
  unfold holdB
  rcases this with e | e | e
  · rw [if_pos e]
    rw [if_neg (by omega)] at s1 s2
    exact holds_1 v1 v2 p x K w h h2 ok hkx hky hkr hK hz hcl hs e s1 s2
  · rw [if_neg (by omega), if_pos e]
    rw [if_neg (by omega)] at s2
    exact holds_2 v1 v2 p x K w h h2 ok hkx hky hkr hK hz hcl hs e s2
  · rw [if_neg (by omega), if_neg (by omega)]
    rw [if_neg (by omega)] at s1
    rw [if_pos e] at s3
    exact holds_3 v1 v2 p x K w h h2 ok hkx hky hkr hK hz hcl hs e s1 s3
theorem ret_int' {a b : Int} (h : b = a) : Ending.returned (.int .i64 a) = .returned (.int .i64 b) := by rw [h]

set_option maxRecDepth 100000 in
set_option maxHeartbeats 4000000 in
theorem verify_any (v1 v2 : Value) (p : LPd) (x : Prf) (K : Nat) (w : World) (h : LpM w v1 p) (h2 : PrfM w v2 x) (ok : p.Ok K) (hkx : RsL K x.x) (hky : RsL K x.y) (hkr : RsL K x.ray) (hK : 1 ≤ K) (hcl : ∀ (j : Nat) (c : List En), p.cols[j]? = some c → c.length ≤ 64) (hs : 1 + 1201 * (2 * K + 1) ≤ 34359738368) :
    Calls Tryz.prog 11 #[v1, v2] w fun e w' => e = .returned (.int .i64 (verQ p x)) ∧ Below w.heap.size w w' := by
  obtain ⟨A, n, c, A', N, c', A'', m, c'', rfl, hc, hv, hr⟩ := id h
  obtain ⟨B, lx, d, B', ly, d', B'', lr, d'', rfl, hxx, hxy, hxr, s1, s2⟩ := id h2
  obtain ⟨W, hW, hX, hbe0⟩ := box_lp w (.slice A n c) (.slice A' N c') (.slice A'' m c'')
  obtain ⟨W1, hW1, hY, hbe1⟩ := box_prf W (.int .i64 x.st) (.slice B lx d) (.slice B' ly d') (.slice B'' lr d'')
  have hX := hX.later hbe1
  have hbe := below_then hbe0 hbe1 hbe0.size
  have hsz : W.heap.size = w.heap.size + 1 := by rw [← hW]; simp
  rw [hsz] at hY
  obtain ⟨x0, x1, x2⟩ := hX.three
  obtain ⟨y0, y1, y2, y3⟩ := hY.four
  obtain ⟨m1, m2, m3⟩ := hv.len
  obtain ⟨r1, r2, r3⟩ := hr.len
  obtain ⟨k1, k2, k3⟩ := hc.len
  obtain ⟨lx1, lx2, lx3⟩ := hxx.len
  obtain ⟨ly1, ly2, ly3⟩ := hxy.len
  obtain ⟨lr1, lr2, lr3⟩ := hxr.len
  have HM1 := Lib.hid m1
  have HR1 := Lib.hid r1
  have HK1 := Lib.hid k1
  have HLX := Lib.hid lx1
  have HLY := Lib.hid ly1
  have HLR := Lib.hid lr1
  clear m1 r1 k1 lx1 ly1 lr1 hbe0 hbe1
  have HOK := Lib.hid ok
  have HCL := Lib.hid hcl
  have HKX := Lib.hid hkx
  have HKY := Lib.hid hky
  have HKR := Lib.hid hkr
  clear ok hcl hkx hky hkr hc hv hr hxx hxy hxr lx2 lx3 ly2 ly3 lr2 lr3 m2 m3 r2 r3 k2 k3
  go_enter Tryz.func11, Tryz.ntmps11
  go_wp2_with fail
  clear hW hW1 hsz x0 x1 x2 y0 y1 y2 y3
  refine (validate_any _ p K _ (h.below hbe) HOK.out).mono ?_
  rintro _ w1 ⟨rfl, hb1⟩
  have hX1 := hX.later hb1
  have hY1 := hY.later hb1
  have hbe1 := below_then hbe hb1 hbe.size
  clear hX hY hbe hb1
  by_cases hz : lpErr p = 0
  rotate_left
  · have hz' : (lpErr p != 0) = true := by simpa using hz
    have HR := Lib.hid (verQ_1 (x := x) hz)
    clear hz
    generalize lpErr p = le at *
    go_wp2
    go_ret
    exact ⟨ret_int' HR.out, hbe1⟩
  have HZ := Lib.hid hz
  rw [hz]
  clear hz
  obtain ⟨y0, y1, y2, y3⟩ := hY1.four
  obtain ⟨x0, x1, x2⟩ := hX1.three
  by_cases hst : x.st < 1 ∨ 3 < x.st
  · have HR := Lib.hid (verQ_2 HZ.out hst)
    have n1 : (x.st != 1) = true := by simp; omega
    have n2 : (x.st != 2) = true := by simp; omega
    have n3 : (x.st != 3) = true := by simp; omega
    clear hst
    go_wp2
    go_ret
    exact ⟨ret_int' HR.out, hbe1⟩
  have HST := Lib.hid hst
  have key : ∀ s : Int, x.st = s → (s = 1 ∨ s = 2 ∨ s = 3) → (s != 1) = true ∨ (s != 1) = false := fun s _ _ => by cases (s != 1) <;> simp
  clear key
  have hc3 : x.st = 1 ∨ x.st = 2 ∨ x.st = 3 := by omega
  clear hst
  rcases hc3 with e | e | e
  case' inl =>
    have n1 : (x.st != 1) = false := by simp [e]
  case' inr.inl =>
    have n1 : (x.st != 1) = true := by simp [e]
    have n2 : (x.st != 2) = false := by simp [e]
  case' inr.inr =>
    have n1 : (x.st != 1) = true := by simp [e]
    have n2 : (x.st != 2) = true := by simp [e]
    have n3 : (x.st != 3) = false := by simp [e]
  all_goals
    clear e
    go_wp2_with fail
    clear x0 x1 x2 y0 y1 y2 y3
    refine (shaped_any _ _ p x _ (h.below hbe1) (h2.below hbe1) HST.out).mono ?_
    rintro _ w2 ⟨rfl, hb2⟩
    have hX2 := hX1.later hb2
    have hY2 := hY1.later hb2
    have hbe2 := below_then hbe1 hb2 hbe1.size
    clear hX1 hY1 hbe1 hb2
    cases hsh : shB p x
    · have HR := Lib.hid (verQ_3 HZ.out HST.out hsh)
      clear hsh
      go_wp2
      go_ret
      exact ⟨ret_int' HR.out, hbe2⟩
    · have HSH := Lib.hid hsh
      clear hsh
      obtain ⟨y0, y1, y2, y3⟩ := hY2.four
      obtain ⟨x0, x1, x2⟩ := hX2.three
      go_wp2_with fail
      clear x0 x1 x2 y0 y1 y2 y3
      refine (holds_any _ _ p x K _ (h.below hbe2) (h2.below hbe2) HOK.out HKX.out HKY.out HKR.out hK HZ.out HCL.out hs HST.out HSH.out).mono ?_
      rintro _ w3 ⟨rfl, hb3⟩
      have hbe3 := below_then hbe2 hb3 hbe2.size
      clear hX2 hY2 hbe2 hb3
      cases hho : holdB p x
      · have HR := Lib.hid (verQ_4 HZ.out HST.out HSH.out hho)
        clear hho
        go_wp2
        go_ret
        exact ⟨ret_int' HR.out, hbe3⟩
      · have HR := Lib.hid (verQ_5 HZ.out HST.out HSH.out hho)
        clear hho
        go_wp2
        go_ret
        exact ⟨ret_int' HR.out, hbe3⟩
end Go.Proofs.YtpanffbgihhjnaaGreat
