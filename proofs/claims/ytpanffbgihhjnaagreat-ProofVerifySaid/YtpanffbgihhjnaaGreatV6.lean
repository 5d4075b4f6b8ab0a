/- Contracts and plain facts that the claim is built on, joined out of smaller texts. -/
import Derived.Test.YtpanffbgihhjnaaGreatV5
set_option linter.unusedVariables false
set_option linter.unusedSimpArgs false
/- Walks: package pairingref25: Extract. -/
namespace Go.Proofs.YtpanffbgihhjnaaGreat
open Go.RowKit Pl
attribute [local go_sem ↓] Go.wp_at_zero Go.wp_at_succ

namespace Pl
def rayN (t : LSt) (D : List RF) (j : Int) : Nat → Nat → Rat
  | 0 => fun i => if j = (i : Int) then 1 else 0
  | k + 1 => fun i => if t.at_ k = (i : Int) then -qAt D k else rayN t D j k i
theorem rayN_succ (t : LSt) (D : List RF) (j : Int) (k i : Nat) : rayN t D j (k + 1) i = if t.at_ k = (i : Int) then -qAt D k else rayN t D j k i := rfl
def rayL (p : LPd) (t : LSt) : List RF := canL p.cols.length (rayN t (statD p t) (statJ p t) (statD p t).length)
def extP (p : LPd) (t : LSt) : Prf := if statQ p t = 1 then ⟨1, primL p t, dualL p t, []⟩ else if statQ p t = 2 then ⟨2, [], dualL p t, []⟩ else if statQ p t = 3 then ⟨3, primL p t, [], rayL p t⟩ else ⟨0, [], [], []⟩
def extE (p : LPd) (t : LSt) : Int := if statQ p t = 0 then 16 else 0
theorem statQ_cases (p : LPd) (t : LSt) : statQ p t = 0 ∨ statQ p t = 1 ∨ statQ p t = 2 ∨ statQ p t = 3 := by
  cases he : entQ p t with
  | none => rw [(stat_none he).1]; split <;> omega
  | some j => rw [(stat_some he).1]; split <;> omega
theorem ext_0 {p : LPd} {t : LSt} (h : statQ p t = 0) : extP p t = ⟨0, [], [], []⟩ ∧ extE p t = 16 := by unfold extP extE; rw [h]; exact ⟨rfl, rfl⟩
theorem ext_1 {p : LPd} {t : LSt} (h : statQ p t = 1) : extP p t = ⟨1, primL p t, dualL p t, []⟩ ∧ extE p t = 0 := by unfold extP extE; rw [h]; exact ⟨rfl, rfl⟩
theorem ext_2 {p : LPd} {t : LSt} (h : statQ p t = 2) : extP p t = ⟨2, [], dualL p t, []⟩ ∧ extE p t = 0 := by unfold extP extE; rw [h]; exact ⟨rfl, rfl⟩
theorem ext_3 {p : LPd} {t : LSt} (h : statQ p t = 3) : extP p t = ⟨3, primL p t, [], rayL p t⟩ ∧ extE p t = 0 := by unfold extP extE; rw [h]; exact ⟨rfl, rfl⟩
theorem stat3_ent {p : LPd} {s : LSt} (h : statQ p s = 3) : ∃ j : Nat, j < p.cols.length ∧ statJ p s = (j : Int) ∧ statD p s = dirL p s (j : Int) := by
  cases he : entQ p s with
  | none => rw [(stat_none he).1] at h; split at h <;> omega
  | some j => exact ⟨j, by have := (firstNeg_is he).2.1; omega, (stat_some he).2.1, (stat_some he).2.2⟩
theorem rayN_B {t : LSt} {D : List RF} {K : Nat} {j : Int} (h : RsL K D) (hK : 1 ≤ K) : ∀ (k i : Nat), Sz K (rayN t D j k i)
  | 0, i => by unfold rayN; split; exact Sz_one.mono hK; exact Sz_zero.mono hK
  | k + 1, i => by
    unfold rayN
    split
    · exact Sz_neg (h.qAt hK k)
    · exact rayN_B h hK k i
theorem statD_B3 {p : LPd} {s : LSt} {K : Nat} (F : p.Fit K) (h : statQ p s = 3) : RsL (5 ^ p.right.length * K) (statD p s) := by
  obtain ⟨j, _, _, hd⟩ := stat3_ent h
  rw [hd]
  exact dirL_B F s _
theorem rayL_B {p : LPd} {s : LSt} {K : Nat} (F : p.Fit K) (h : statQ p s = 3) : RsL (5 ^ p.right.length * K) (rayL p s) := canL_rs fun i _ => rayN_B (statD_B3 F h) (Nat.le_trans F.k1 F.le) _ i
theorem extP_B {p : LPd} {t : LSt} {K : Nat} (F : p.Fit K) : RsL (5 ^ p.right.length * K) (extP p t).x ∧ RsL (5 ^ p.right.length * K) (extP p t).y ∧ RsL (5 ^ p.right.length * K) (extP p t).ray ∧ (extP p t).x.length ≤ p.cols.length ∧ (extP p t).y.length ≤ p.right.length ∧ (extP p t).ray.length ≤ p.cols.length := by
  have h1 := primL_B F t
  have h2 := dualL_B F t
  have l1 : (primL p t).length ≤ p.cols.length := by unfold primL; rw [canL_length]; exact Nat.le_refl _
  have l2 : (dualL p t).length ≤ p.right.length := solF_len
  rcases statQ_cases p t with h | h | h | h
  · rw [(ext_0 h).1]; exact ⟨RsL.nil _, RsL.nil _, RsL.nil _, by simp, by simp, by simp⟩
  · rw [(ext_1 h).1]; exact ⟨h1, h2, RsL.nil _, l1, l2, by simp⟩
  · rw [(ext_2 h).1]; exact ⟨RsL.nil _, h2, RsL.nil _, by simp, l2, by simp⟩
  · rw [(ext_3 h).1]; exact ⟨h1, RsL.nil _, rayL_B F h, l1, by simp, by show (rayL p t).length ≤ _; unfold rayL; rw [canL_length]; exact Nat.le_refl _⟩
end Pl
theorem KeepBut.set_new {e : TypeId} {w w' : World} {g : Nat} (h : KeepBut e w w') (hg : w.heap.size ≤ g) (i : Nat) (u : Value) : KeepBut e w (w'.setCell ⟨g, i, none⟩ u) := by
  intro b cs t fz ht hb
  rw [heap_setCell_other _ _ _ _ (show b ≠ g from fun e => by have := lt_heap hb; omega)]
  exact h b cs t fz ht hb
theorem prf_store {w w0 : World} {B g : Nat} {x y z u : Value} (hB : Bk w g 29 [x, y, z, u]) (hb : Below B w0 w) (hg : B ≤ g) (x' y' z' u' : Value) :
    Bk ((((w.setCell ⟨g, 0, none⟩ x').setCell ⟨g, 1, none⟩ y').setCell ⟨g, 2, none⟩ z').setCell ⟨g, 3, none⟩ u') g 29 [x', y', z', u'] ∧ KeepBut 29 w ((((w.setCell ⟨g, 0, none⟩ x').setCell ⟨g, 1, none⟩ y').setCell ⟨g, 2, none⟩ z').setCell ⟨g, 3, none⟩ u') ∧ Below B w0 ((((w.setCell ⟨g, 0, none⟩ x').setCell ⟨g, 1, none⟩ y').setCell ⟨g, 2, none⟩ z').setCell ⟨g, 3, none⟩ u') ∧
    ∀ (g' : Nat) (t : TypeId) (cs : List Value), g' ≠ g → Bk w g' t cs → Bk ((((w.setCell ⟨g, 0, none⟩ x').setCell ⟨g, 1, none⟩ y').setCell ⟨g, 2, none⟩ z').setCell ⟨g, 3, none⟩ u') g' t cs := by
  refine ⟨hB.set4 _ _ _ _, (((KeepBut.setCell hB 0 x').trans (KeepBut.setCell (hB.set_ 0 x') 1 y')).trans (KeepBut.setCell ((hB.set_ 0 x').set_ 1 y') 2 z')).trans (KeepBut.setCell (((hB.set_ 0 x').set_ 1 y').set_ 2 z') 3 u'), (((hb.setCell (p := ⟨g, 0, none⟩) hg _).setCell (p := ⟨g, 1, none⟩) hg _).setCell (p := ⟨g, 2, none⟩) hg _).setCell (p := ⟨g, 3, none⟩) hg _, fun g' t cs hne h => h.far4 hne _ _ _ _⟩
theorem frs_nil (w : World) : FrsM w (.slice none 0 0) [] := (FrsO.nil 0 w).frs

set_option maxRecDepth 100000 in
set_option maxHeartbeats 16000000 in
theorem rextract_own (v1 v2 : Value) (p : LPd) (s : LSt) (K : Nat) (w : World) (h : LpM w v1 p) (h2 : StM w v2 s) (F : p.Fit K) (hz : lpErr p = 0) (hve : vsErr p s = 0) :
    Calls Tryz.prog 8 #[v1, v2] w fun e w' => ∃ v', e = .returned (.tuple #[v', .int .i64 (extE p (settleQ p s))]) ∧ PrfM w' v' (extP p (settleQ p s)) ∧ Below w.heap.size w w' := by
  obtain ⟨S, hsv, _⟩ := vs_zero hve
  have HVE := Lib.hid hve
  have HLE := Lib.hid hz
  have HFT := Lib.hid (settleQ_fit S)
  obtain ⟨t, hTT⟩ : ∃ T, settleQ p s = T := ⟨_, rfl⟩
  rw [hTT] at HFT ⊢
  have HTT := Lib.hid hTT
  clear hve hz hsv hTT
  obtain ⟨A, n, c, A', n', c', A'', n'', c'', rfl, hc, hv, hr⟩ := id h
  obtain ⟨Ab, nb, cb, rfl, hI⟩ := id h2
  obtain ⟨W, hW, hX0, hbe0⟩ := box_lp w (.slice A n c) (.slice A' n' c') (.slice A'' n'' c'')
  obtain ⟨W1, hW1, hS0, hbe1⟩ := box_st W (.int .i64 s.phase) (.slice Ab nb cb) (.int .i64 s.pivots)
  have hX := hX0.later hbe1
  have hbe := below_then hbe0 hbe1 hbe0.size
  obtain ⟨b1, b2, b3⟩ := hI.len
  have hsz : W.heap.size = w.heap.size + 1 := by rw [← hW]; simp
  rw [hsz] at hS0
  have HLP := Lib.hid h
  have HST := Lib.hid h2
  have HI := Lib.hid hI
  have HFP := Lib.hid F
  have HFS := Lib.hid S
  have HNB := Lib.hid b1
  have HB1 : Hid (nb = p.right.length) := Lib.hid (by rw [b1]; exact S.2)
  have hnb : nb ≤ 64 := by rw [HB1.out]; exact F.2.2.1
  obtain ⟨x0, x1, x2⟩ := hX.three
  obtain ⟨y0, y1, y2⟩ := hS0.three
  obtain ⟨m1, m2, m3⟩ := hv.len
  have HN1 := Lib.hid m1
  clear h h2 hc hv hr b1 hI hX0 hbe0 hbe1 F S
  clear m1
  have hn' : n' ≤ 1200 := by rw [HN1.out]; exact HFP.out.cols
  obtain ⟨W2, hW2, hR, hbe2⟩ := box_prf W1 (.int .i64 0) (.slice none 0 0) (.slice none 0 0) (.slice none 0 0)
  have hX2 := hX.later hbe2
  have hS2 := hS0.later hbe2
  have hb2 := below_then hbe hbe2 hbe.size
  have hsz1 : W1.heap.size = w.heap.size + 1 + 1 := by rw [← hW1]; simp [hsz]
  rw [hsz1] at hR
  clear x0 x1 x2 y0 y1 y2 hX hS0 hbe hbe2
  obtain ⟨x0, x1, x2⟩ := hX2.three
  obtain ⟨y0, y1, y2⟩ := hS2.three
  go_enter Tryz.func8, Tryz.ntmps8
  go_wp2_with fail
  clear hW hW1 hW2
  refine (rvalidateState_any _ _ p s K _ (HLP.out.below hb2) (HST.out.below hb2) HFP.out HLE.out).mono ?_
  rw [HVE.out]
  rintro _ w3 ⟨rfl, hb3⟩
  have hX3 := hX2.later hb3
  have hT3 := hS2.later hb3
  have hR3 := hR.later hb3
  have hbe3 := below_then hb2 hb3 hb2.size
  clear x0 x1 x2 y0 y1 y2 hX2 hS2 hR hb2 hb3
  obtain ⟨x0, x1, x2⟩ := hX3.three
  obtain ⟨y0, y1, y2⟩ := hT3.three
  go_wp2_with fail
  refine (rsettle_own _ _ p s K _ (HLP.out.below hbe3) (HST.out.below hbe3) HFP.out HFS.out).mono ?_
  rw [HTT.out]
  rintro _ w4 ⟨v4, rfl, ⟨A, l, c, rfl, hI4⟩, hb4⟩
  have hX4 := hX3.later hb4
  have hT4 := hT3.later hb4
  have hR4 := hR3.later hb4
  have hbe4 := below_then hbe3 hb4 hbe3.size
  have hw3 := hbe3.size
  clear x0 x1 x2 y0 y1 y2 hX3 hT3 hR3 hbe3 hb4
  obtain ⟨y0, y1, y2⟩ := hT4.three
  obtain ⟨f0, f1, f2⟩ := hT4.threeF
  obtain ⟨k1, k2, k3, k4⟩ := st_store (B := w.heap.size) (w0 := w) hT4 hbe4 (by omega) (.int .i64 t.phase) (.slice A l c) (.int .i64 t.pivots)
  go_upto_region 5 with (fail)
  have hX5 := k4 _ _ _ (by omega) hX4
  have hR5 := k4 _ _ _ (by omega) hR4
  have hI5 := (hI4.monoB hw3).but k2 (by decide)
  clear y0 y1 y2 f0 f1 f2 hX4 hT4 hR4 hbe4 hI4 k2 k4
  generalize ((w4.setCell ⟨w.heap.size + 1, 0, none⟩ (.int .i64 t.phase)).setCell ⟨w.heap.size + 1, 1, none⟩ (.slice A l c)).setCell ⟨w.heap.size + 1, 2, none⟩ (.int .i64 t.pivots) = W5 at *
  have hT5 := k1
  have hbe5 := k3
  clear k1 k3
  obtain ⟨x0, x1, x2⟩ := hX5.three
  obtain ⟨y0, y1, y2⟩ := hT5.three
  have HMT5 : Hid (StM W5 (.agg #[.int .i64 t.phase, .slice A l c, .int .i64 t.pivots]) t) := Lib.hid ⟨A, l, c, rfl, hI5.ints⟩
  obtain ⟨l1, l2, l3⟩ := hI5.ints.len
  have HL1 := Lib.hid l1
  have HLB : Hid (t.basis.length = p.right.length) := Lib.hid HFT.out.len
  have hl64 : l ≤ 64 := by rw [l1, HLB.out]; exact HFP.out.rows
  clear l1
  go_wp2_with fail
  refine (rstatus_own _ _ p t K _ (HLP.out.below hbe5) HMT5.out HFP.out HFT.out).mono ?_
  have hcas := statQ_cases p t
  generalize hsq : statQ p t = q at hcas ⊢
  generalize hsj : statJ p t = j
  have HQ := Lib.hid hsq
  have HJ := Lib.hid hsj
  clear hsq hsj
  rintro _ w6 ⟨v6, rfl, e6, hb6⟩
  have hD6 := e6.frs
  obtain ⟨Ad, nd, cd, rfl⟩ := e6.sliceN
  obtain ⟨W7, hW7, hP7, hb7⟩ := box_prf w6 (.int .i64 0) (.slice none 0 0) (.slice none 0 0) (.slice none 0 0)
  have hb67 := below_then hb6 hb7 hb6.size
  have hX7 := hX5.later hb67
  have hT7 := hT5.later hb67
  have hR7 := hR5.later hb67
  have hI7 := hI5.below hb67
  have hbe7 := below_then hbe5 hb67 hbe5.size
  have hD7 := hD6.below hb7
  have hgx : w.heap.size + 1 + 1 < w6.heap.size := Nat.lt_of_lt_of_le hR5.lt_ hb6.size
  obtain ⟨gx, hgx'⟩ : ∃ gx, gx = w6.heap.size := ⟨_, rfl⟩
  rw [← hgx'] at hP7 hgx
  clear x0 x1 x2 y0 y1 y2 hX5 hT5 hR5 hI5 hb6 hb7 hb67 hD6 e6
  obtain ⟨p0, p1, p2, p3⟩ := hP7.four
  obtain ⟨g0, g1, g2, g3⟩ := hP7.fourF
  obtain ⟨k1, k2, k3, k4⟩ := prf_store (B := w.heap.size) (w0 := w) hP7 hbe7 (by omega) (.int .i64 q) (.slice none 0 0) (.slice none 0 0) (.slice none 0 0)
  rw [hgx'] at p0 p1 p2 p3 g0 g1 g2 g3
  go_upto_region 7 with (fail)
  rw [← hgx']
  clear hgx' hW7 p0 p1 p2 p3 g0 g1 g2 g3
  have hX8 := k4 _ _ _ (by omega) hX7
  have hT8 := k4 _ _ _ (by omega) hT7
  have hR8 := k4 _ _ _ (by omega) hR7
  have hI8 := hI7.but k2 (by decide)
  have hD8 := hD7.but k2 (by decide) (by decide)
  clear hX7 hT7 hR7 hI7 hD7 hbe7 k2 k4
  generalize (((W7.setCell ⟨gx, 0, none⟩ (.int .i64 q)).setCell ⟨gx, 1, none⟩ (.slice none 0 0)).setCell ⟨gx, 2, none⟩ (.slice none 0 0)).setCell ⟨gx, 3, none⟩ (.slice none 0 0) = W8 at *
  have hP8 := k1
  have hbe8 := k3
  clear k1 k3 hP7
  have HMT8 : Hid (StM W8 (.agg #[.int .i64 t.phase, .slice A l c, .int .i64 t.pivots]) t) := Lib.hid ⟨A, l, c, rfl, hI8.ints⟩
  rcases hcas with rfl | rfl | rfl | rfl
  · obtain ⟨hE1, hE2⟩ := ext_0 HQ.out
    have HE1 := Lib.hid hE1
    have HE2 := Lib.hid hE2
    clear hE1 hE2
    obtain ⟨r0, r1, r2, r3⟩ := hR8.four
    obtain ⟨f0, f1, f2, f3⟩ := hR8.fourF
    obtain ⟨p0, p1, p2, p3⟩ := hP8.four
    go_wp2
    obtain ⟨k1, k2, k3, k4⟩ := prf_store (B := w.heap.size) (w0 := w) hR8 hbe8 (by omega) (.int .i64 0) (.slice none 0 0) (.slice none 0 0) (.slice none 0 0)
    refine ret_ct Tryz.results8 Tryz.underlying29 (by kernel_rfl) rfl k1 rfl ?_
    exact ⟨_, by rw [HE2.out]; rfl, by rw [HE1.out]; exact ⟨none, 0, 0, none, 0, 0, none, 0, 0, rfl, frs_nil _, frs_nil _, frs_nil _, by simp, by simp⟩, k3⟩
  · obtain ⟨hE1, hE2⟩ := ext_1 HQ.out
    have HE1 := Lib.hid hE1
    have HE2 := Lib.hid hE2
    clear hE1 hE2
    obtain ⟨x0, x1, x2⟩ := hX8.three
    obtain ⟨y0, y1, y2⟩ := hT8.three
    go_upto_region 10 with (fail)
    have C0 := stab x0
    have C1 := stab x1
    have C2 := stab x2
    have D0 := stab y0
    have D1 := stab y1
    have D2 := stab y2
    have hS0 := below_drew' W8
    clear x0 x1 x2 y0 y1 y2
    refine region_seq 7 [0, 1, 3, 4, 2, 6, 5, 7, 8, 9] (by kernel_rfl) (by kernel_rfl) ?_
    repeat ((first | (refine seq_takeP (v := ?_) rfl rfl rfl ?_ ?_; rotate_left; (· (intro _ hSw; go_simp; (try go_bits); (try with_reducible rfl)))) | (refine seq_take (v := ?_) rfl rfl rfl ?_ ?_; rotate_left; (· (intro _ hSw; go_simp; (try go_bits); (try with_reducible rfl)))) | refine seq_skip rfl rfl rfl ?_); (try simp only [Act.put, pu1, pu2, pu3, pu4, pu5, pu6]))
    refine seq_step rfl rfl (fun KR hKR => ?_)
    go_simp
    with_reducible refine (rprimal_own _ _ p t K _ ((HLP.out.below hbe8).below hS0) (HMT8.out.below hS0) HFP.out HFT.out).mono ?_
    rintro _ w9 ⟨v9, rfl, e9, hb9⟩
    have hS9 := below_then hS0 hb9 hS0.size
    obtain ⟨A1, n1, c1, rfl⟩ := e9.sliceN
    refine hKR.out _ _ (Or.inr hS9) ?_
    clear hKR KR
    (try simp only [Act.put, pu1, pu2, pu3, pu4, pu5, pu6])
    repeat ((first | (refine seq_takeP (v := ?_) rfl rfl rfl ?_ ?_; rotate_left; (· (intro _ hSw; go_simp; (try go_bits); (try with_reducible rfl)))) | (refine seq_take (v := ?_) rfl rfl rfl ?_ ?_; rotate_left; (· (intro _ hSw; go_simp; (try go_bits); (try with_reducible rfl)))) | refine seq_skip rfl rfl rfl ?_); (try simp only [Act.put, pu1, pu2, pu3, pu4, pu5, pu6]))
    refine seq_step rfl rfl (fun KR hKR => ?_)
    go_simp
    with_reducible refine (rdual_own _ _ p t K _ ((HLP.out.below hbe8).below hS9) (HMT8.out.below hS9) HFP.out HFT.out).mono ?_
    rintro _ w10 ⟨v10, rfl, e10, hb10⟩
    have hS10 := below_then hS9 hb10 hS9.size
    obtain ⟨A2, n2, c2, rfl⟩ := e10.sliceN
    have hP10 := hP8.later hS10
    obtain ⟨p0, p1, p2, p3⟩ := hP10.four
    obtain ⟨g0, g1, g2, g3⟩ := hP10.fourF
    refine hKR.out _ _ (Or.inr hS10) ?_
    clear hKR KR
    (try simp only [Act.put, pu1, pu2, pu3, pu4, pu5, pu6])
    refine seq_step rfl rfl (fun KR hKR => ?_)
    go_simp
    refine hKR.out _ _ (Or.inl (by decide)) ?_
    clear hKR KR
    (try simp only [Act.put, pu1, pu2, pu3, pu4, pu5, pu6])
    refine seq_step rfl rfl (fun KR hKR => ?_)
    go_simp
    refine hKR.out _ _ (Or.inl (by decide)) ?_
    clear hKR KR
    (try simp only [Act.put, pu1, pu2, pu3, pu4, pu5, pu6])
    refine seq_step rfl rfl (fun KR hKR => ?_)
    go_simp
    refine hKR.out _ _ (Or.inl (by decide)) ?_
    clear hKR KR
    (try simp only [Act.put, pu1, pu2, pu3, pu4, pu5, pu6])
    refine seq_done ?_
    clear C0 C1 C2 D0 D1 D2
    have hR10 := hR8.later hS10
    have hbe10 := below_then hbe8 hS10 hbe8.size
    have kb := (KeepBut.setCell hP10 1 (.slice A1 n1 c1)).trans (KeepBut.setCell (hP10.set_ 1 (.slice A1 n1 c1)) 2 (.slice A2 n2 c2))
    have hP11 := (hP10.set_ 1 (.slice A1 n1 c1)).set_ 2 (.slice A2 n2 c2)
    have hR11 := (hR10.set_other (g := gx) (by omega) 1 (.slice A1 n1 c1)).set_other (g := gx) (by omega) 2 (.slice A2 n2 c2)
    have hbe11 := (hbe10.setCell (p := ⟨gx, 1, none⟩) (by simp; omega) (.slice A1 n1 c1)).setCell (p := ⟨gx, 2, none⟩) (by simp; omega) (.slice A2 n2 c2)
    have hZ1 := (e9.frs.below hb10).but kb (by decide) (by decide)
    have hZ2 := e10.frs.but kb (by decide) (by decide)
    clear p0 p1 p2 p3 g0 g1 g2 g3 kb hP10 hR10 hbe10 hP8 hR8 hbe8 hS0 hS9 hS10 hb9 hb10 e9 e10
    go_upto_region 21 with (fail)
    generalize (w10.setCell ⟨gx, 1, none⟩ (.slice A1 n1 c1)).setCell ⟨gx, 2, none⟩ (.slice A2 n2 c2) = W11 at *
    obtain ⟨r0, r1, r2, r3⟩ := hR11.four
    obtain ⟨f0, f1, f2, f3⟩ := hR11.fourF
    obtain ⟨p0, p1, p2, p3⟩ := hP11.four
    go_wp2
    obtain ⟨k1, k2, k3, k4⟩ := prf_store (B := w.heap.size) (w0 := w) hR11 hbe11 (by omega) (.int .i64 1) (.slice A1 n1 c1) (.slice A2 n2 c2) (.slice none 0 0)
    refine ret_ct Tryz.results8 Tryz.underlying29 (by kernel_rfl) rfl k1 rfl ?_
    exact ⟨_, by rw [HE2.out]; rfl, by rw [HE1.out]; exact ⟨_, _, _, _, _, _, _, _, _, rfl, hZ1.but k2 (by decide) (by decide), hZ2.but k2 (by decide) (by decide), frs_nil _, by simp, by simp⟩, k3⟩
  · obtain ⟨hE1, hE2⟩ := ext_2 HQ.out
    have HE1 := Lib.hid hE1
    have HE2 := Lib.hid hE2
    clear hE1 hE2
    obtain ⟨x0, x1, x2⟩ := hX8.three
    obtain ⟨y0, y1, y2⟩ := hT8.three
    go_wp2_with fail
    refine (rdual_own _ _ p t K _ (HLP.out.below hbe8) HMT8.out HFP.out HFT.out).mono ?_
    rintro _ w9 ⟨v9, rfl, e9, hb9⟩
    obtain ⟨A2, n2, c2, rfl⟩ := e9.sliceN
    have hP9 := hP8.later hb9
    have hR9 := hR8.later hb9
    have hbe9 := below_then hbe8 hb9 hbe8.size
    have hP11 := hP9.set_ 2 (.slice A2 n2 c2)
    have hR11 := hR9.set_other (g := gx) (by omega) 2 (.slice A2 n2 c2)
    have hbe11 := hbe9.setCell (p := ⟨gx, 2, none⟩) (by simp; omega) (.slice A2 n2 c2)
    have hZ2 := e9.frs.but (KeepBut.setCell hP9 2 (.slice A2 n2 c2)) (by decide) (by decide)
    clear x0 x1 x2 y0 y1 y2 hP8 hR8 hbe8 hb9 e9 hR9 hbe9
    obtain ⟨p0, p1, p2, p3⟩ := hP9.four
    obtain ⟨g0, g1, g2, g3⟩ := hP9.fourF
    go_upto_region 21 with (fail)
    clear p0 p1 p2 p3 g0 g1 g2 g3 hP9
    generalize w9.setCell ⟨gx, 2, none⟩ (.slice A2 n2 c2) = W11 at *
    obtain ⟨r0, r1, r2, r3⟩ := hR11.four
    obtain ⟨f0, f1, f2, f3⟩ := hR11.fourF
    obtain ⟨p0, p1, p2, p3⟩ := hP11.four
    go_wp2
    obtain ⟨k1, k2, k3, k4⟩ := prf_store (B := w.heap.size) (w0 := w) hR11 hbe11 (by omega) (.int .i64 2) (.slice none 0 0) (.slice A2 n2 c2) (.slice none 0 0)
    refine ret_ct Tryz.results8 Tryz.underlying29 (by kernel_rfl) rfl k1 rfl ?_
    exact ⟨_, by rw [HE2.out]; rfl, by rw [HE1.out]; exact ⟨_, _, _, _, _, _, _, _, _, rfl, frs_nil _, hZ2.but k2 (by decide) (by decide), frs_nil _, by simp, by simp⟩, k3⟩
  · obtain ⟨hE1, hE2⟩ := ext_3 HQ.out
    have HE1 := Lib.hid hE1
    have HE2 := Lib.hid hE2
    obtain ⟨jn, hjn0, hjj, hDD⟩ := stat3_ent HQ.out
    have hjn : jn < n' := by rw [HN1.out]; exact hjn0
    obtain rfl : j = (jn : Int) := by rw [← HJ.out]; exact hjj
    have HDB := Lib.hid (statD_B3 HFP.out HQ.out)
    have HDN : Hid ((statD p t).length ≤ l) := Lib.hid (by rw [HL1.out, HLB.out, hDD]; exact solF_len)
    have HRL : Hid (rayL p t = canL n' (rayN t (statD p t) (jn : Int) (statD p t).length)) := Lib.hid (by unfold rayL; rw [HJ.out, HN1.out])
    have HKB : Hid (5 ^ p.right.length * K ≤ 34359738368) := Lib.hid (by have := HFP.out.ks; omega)
    clear hE1 hE2 hjn0 hjj hDD
    obtain ⟨x0, x1, x2⟩ := hX8.three
    obtain ⟨y0, y1, y2⟩ := hT8.three
    go_upto_region 14 with (fail)
    have C0 := stab x0
    have C1 := stab x1
    have C2 := stab x2
    have D0 := stab y0
    have D1 := stab y1
    have D2 := stab y2
    have hS0 := below_drew' W8
    clear x0 x1 x2 y0 y1 y2
    refine region_seq 8 [0, 1, 3, 4, 5, 2, 7, 6, 8, 9, 10] (by kernel_rfl) (by kernel_rfl) ?_
    repeat ((first | (refine seq_takeP (v := ?_) rfl rfl rfl ?_ ?_; rotate_left; (· (intro _ hSw; go_simp; (try go_bits); (try with_reducible rfl)))) | (refine seq_take (v := ?_) rfl rfl rfl ?_ ?_; rotate_left; (· (intro _ hSw; go_simp; (try go_bits); (try with_reducible rfl)))) | refine seq_skip rfl rfl rfl ?_); (try simp only [Act.put, pu1, pu2, pu3, pu4, pu5, pu6]))
    refine seq_step rfl rfl (fun KR hKR => ?_)
    go_simp
    with_reducible refine (rprimal_own _ _ p t K _ ((HLP.out.below hbe8).below hS0) (HMT8.out.below hS0) HFP.out HFT.out).mono ?_
    rintro _ w9 ⟨v9, rfl, e9, hb9⟩
    have hS9 := below_then hS0 hb9 hS0.size
    obtain ⟨A1, n1, c1, rfl⟩ := e9.sliceN
    refine hKR.out _ _ (Or.inr hS9) ?_
    clear hKR KR
    (try simp only [Act.put, pu1, pu2, pu3, pu4, pu5, pu6])
    repeat ((first | (refine seq_takeP (v := ?_) rfl rfl rfl ?_ ?_; rotate_left; (· (intro _ hSw; go_simp; (try go_bits); (try with_reducible rfl)))) | (refine seq_take (v := ?_) rfl rfl rfl ?_ ?_; rotate_left; (· (intro _ hSw; go_simp; (try go_bits); (try with_reducible rfl)))) | refine seq_skip rfl rfl rfl ?_); (try simp only [Act.put, pu1, pu2, pu3, pu4, pu5, pu6]))
    refine seq_step rfl rfl (fun KR hKR => ?_)
    go_simp
    with_reducible refine (zeros_own n' _ (by omega)).mono ?_
    rw [canL_zero]
    rintro _ w10 ⟨v10, rfl, e10, hb10⟩
    have hS10 := below_then hS9 hb10 hS9.size
    obtain ⟨A2, n2, c2, rfl⟩ := e10.sliceN
    have hP10 := hP8.later hS10
    obtain ⟨p0, p1, p2, p3⟩ := hP10.four
    obtain ⟨g0, g1, g2, g3⟩ := hP10.fourF
    refine hKR.out _ _ (Or.inr hS10) ?_
    clear hKR KR
    (try simp only [Act.put, pu1, pu2, pu3, pu4, pu5, pu6])
    refine seq_step rfl rfl (fun KR hKR => ?_)
    go_simp
    refine hKR.out _ _ (Or.inl (by decide)) ?_
    clear hKR KR
    (try simp only [Act.put, pu1, pu2, pu3, pu4, pu5, pu6])
    refine seq_step rfl rfl (fun KR hKR => ?_)
    go_simp
    refine hKR.out _ _ (Or.inl (by decide)) ?_
    clear hKR KR
    (try simp only [Act.put, pu1, pu2, pu3, pu4, pu5, pu6])
    refine seq_step rfl rfl (fun KR hKR => ?_)
    go_simp
    refine hKR.out _ _ (Or.inl (by decide)) ?_
    clear hKR KR
    (try simp only [Act.put, pu1, pu2, pu3, pu4, pu5, pu6])
    refine seq_done ?_
    clear C0 C1 C2 D0 D1 D2
    have hR10 := hR8.later hS10
    have hT10 := hT8.later hS10
    have hI10 := hI8.below hS10
    have hD10 := hD8.below hS10
    have hbe10 := below_then hbe8 hS10 hbe8.size
    have kb := (KeepBut.setCell hP10 1 (.slice A1 n1 c1)).trans (KeepBut.setCell (hP10.set_ 1 (.slice A1 n1 c1)) 3 (.slice A2 n2 c2))
    have hP12 := (hP10.set_ 1 (.slice A1 n1 c1)).set_ 3 (.slice A2 n2 c2)
    have hR12 := (hR10.set_other (g := gx) (by omega) 1 (.slice A1 n1 c1)).set_other (g := gx) (by omega) 3 (.slice A2 n2 c2)
    have hT12 := kb.bk hT10 (by decide)
    have hbe12 := (hbe10.setCell (p := ⟨gx, 1, none⟩) (by simp; omega) (.slice A1 n1 c1)).setCell (p := ⟨gx, 3, none⟩) (by simp; omega) (.slice A2 n2 c2)
    have hZ12 := (e9.frs.below hb10).but kb (by decide) (by decide)
    have hO12 := e10.but kb (by decide) (by decide)
    have hI12 := hI10.but kb (by decide)
    have hD12 := hD10.but kb (by decide) (by decide)
    have hk9 : KeepBut 29 w9 ((w10.setCell ⟨gx, 1, none⟩ (.slice A1 n1 c1)).setCell ⟨gx, 3, none⟩ (.slice A2 n2 c2)) := (KeepBut.of_below hb10).trans kb
    have hT9 := hT8.later hS9
    have hI9 := hI8.below hS9
    have hD9 := hD8.below hS9
    have hZ9 := e9.frs
    have hwx : w.heap.size ≤ w9.heap.size := by have := hbe8.size; have := hS9.size; omega
    clear p0 p1 p2 p3 g0 g1 g2 g3 kb hP10 hR10 hbe10 hP8 hR8 hbe8 hS0 hS9 hS10 hb9 hb10 e9 e10 hT10 hI10 hD10 hX8 hT8 hI8 hD8
    have HVS : Hid (∃ a d, Value.slice A2 n2 c2 = .slice a n' d ∧ n' ≤ d ∧ d ≤ 9223372036854775807) := Lib.hid (by
      have := hO12.frs.shape
      rw [canL_length] at this
      exact this)
    obtain ⟨a2, d2, hsl, hd21, hd22⟩ := HVS.out
    injection hsl with e1 e2 e3
    subst e1 e2 e3
    clear HVS
    obtain ⟨p0, p1, p2, p3⟩ := hP12.four
    go_upto_region 15 with (fail)
    generalize (w10.setCell ⟨gx, 1, none⟩ (.slice A1 n1 c1)).setCell ⟨gx, 3, none⟩ (.slice A2 n2 c2) = W12 at *
    have C0 := stab p0
    have C1 := stab p1
    have C2 := stab p2
    have C3 := stab p3
    have hS0 := below_drew' W12
    have hjI : (jn : Int) < n2 := by omega
    obtain ⟨g, cg, hvg, hg1, hg2, hg3, hg4⟩ := hO12.shape (by rw [canL_length]; omega)
    rw [canL_length] at hvg
    injection hvg with e1 e2 e3
    subst e1 e3
    clear p0 p1 p2 p3 e2
    refine region_seq 5 [0, 1, 2, 3, 4, 5] (by kernel_rfl) (by kernel_rfl) ?_
    repeat ((first | (refine seq_takeP (v := ?_) rfl rfl rfl ?_ ?_; rotate_left; (· (intro _ hSw; go_simp; (try go_bits); (try with_reducible rfl)))) | (refine seq_take (v := ?_) rfl rfl rfl ?_ ?_; rotate_left; (· (intro _ hSw; go_simp; (try go_bits); (try with_reducible rfl)))) | refine seq_skip rfl rfl rfl ?_); (try simp only [Act.put, pu1, pu2, pu3, pu4, pu5, pu6]))
    refine seq_step rfl rfl (fun KR hKR => ?_)
    go_simp
    with_reducible refine (rint_own 1 _ (by omega) (by omega)).mono ?_
    rw [show ((1 : Int) : Rat) = 1 from rfl]
    rintro _ w13 ⟨v13, rfl, e13, hb13⟩
    have hS13 := below_then hS0 hb13 hS0.size
    obtain ⟨E1, l9, k9, E2, l9', k9', rfl, _, _⟩ := id e13.frac
    have hO13 := hO12.below hS13
    obtain ⟨_, _, _, _, ⟨t0, t1, t2, t3⟩, ⟨f0, f1, f2, f3⟩, _⟩ := hO13.at_ (canL_get (f := fun _ => 0) hjn)
    refine hKR.out _ _ (Or.inr hS13) ?_
    clear hKR KR
    (try simp only [Act.put, pu1, pu2, pu3, pu4, pu5, pu6])
    repeat ((first | (refine seq_takeP (v := ?_) rfl rfl rfl ?_ ?_; rotate_left; (· (intro _ hSw; go_simp; (try go_bits); (try with_reducible rfl)))) | (refine seq_take (v := ?_) rfl rfl rfl ?_ ?_; rotate_left; (· (intro _ hSw; go_simp; (try go_bits); (try with_reducible rfl)))) | refine seq_skip rfl rfl rfl ?_); (try simp only [Act.put, pu1, pu2, pu3, pu4, pu5, pu6]))
    refine seq_step rfl rfl (fun KR hKR => ?_)
    go_simp
    refine hKR.out _ _ (Or.inl (by decide)) ?_
    clear hKR KR
    (try simp only [Act.put, pu1, pu2, pu3, pu4, pu5, pu6])
    refine seq_done ?_
    obtain ⟨hO14, hk14⟩ := hO13.set_ (k := jn) (by rw [canL_length]; exact hjn) e13.frac
    have HSET : Hid ((canL n2 fun _ => 0).set jn (canF 1) = canL n2 (rayN t (statD p t) (jn : Int) 0)) := Lib.hid (by
      rw [canL_set hjn]
      exact canL_congr fun i _ => by
        unfold rayN
        by_cases e : i = jn
        · rw [if_pos e, if_pos (by omega)]
        · rw [if_neg e, if_neg (by omega)])
    rw [HSET.out] at hO14
    have hP14 := hk14.bk (hP12.later hS13) (by decide)
    have hR14 := hk14.bk (hR12.later hS13) (by decide)
    have hbe14 := below_set4' (below_then hbe12 hS13 hbe12.size) (Nat.le_trans hwx hg1) (jn * 4) (jn * 4 + 1) (jn * 4 + 2) (jn * 4 + 3) (.bool (canF 1).num.neg) (.slice E1 l9 k9) (.bool (canF 1).den.neg) (.slice E2 l9' k9')
    have hk9' := ((((hk9.trans (KeepBut.of_below hS13)).set_new hg1 (jn * 4) (.bool (canF 1).num.neg)).set_new hg1 (jn * 4 + 1) (.slice E1 l9 k9)).set_new hg1 (jn * 4 + 2) (.bool (canF 1).den.neg)).set_new hg1 (jn * 4 + 3) (.slice E2 l9' k9')
    clear C0 C1 C2 C3 t0 t1 t2 t3 f0 f1 f2 f3 hk14 hk9 hO13 hO12 hP12 hR12 hT12 hbe12 hZ12 hI12 hD12 hS0 hS13 hb13 e13 HSET
    obtain ⟨nd1, nd2, nd3⟩ := hD9.len
    have HND := Lib.hid nd1
    have hndl : nd ≤ l := by rw [nd1]; exact HDN.out
    clear nd1
    generalize hDq : statD p t = D at *
    go_wp2
    generalize (((w13.setCell ⟨g, jn * 4, none⟩ (.bool (canF 1).num.neg)).setCell ⟨g, jn * 4 + 1, none⟩ (.slice E1 l9 k9)).setCell ⟨g, jn * 4 + 2, none⟩ (.bool (canF 1).den.neg)).setCell ⟨g, jn * 4 + 3, none⟩ (.slice E2 l9' k9') = W14 at *
    go_loopw [11] (fun i wr => ∃ k : Nat, k ≤ nd ∧ i = .int .i64 k ∧ Below w.heap.size w wr ∧ KeepBut 29 w9 wr ∧ Bk wr (w.heap.size + 1 + 1) 29 [.int .i64 0, .slice none 0 0, .slice none 0 0, .slice none 0 0] ∧ Bk wr gx 29 [.int .i64 3, .slice A1 n1 c1, .slice none 0 0, .slice (some ⟨g, 0, none⟩) n2 c2] ∧ FrsO w9.heap.size wr (.slice (some ⟨g, 0, none⟩) n2 c2) (canL n2 (rayN t D (jn : Int) k))) (fun i _ => nd - (intOf i).toNat)
    case atStart => exact ⟨0, by omega, rfl, hbe14, hk9', hR14, hP14, hO14⟩
    case round =>
      clear hbe14 hk9' hR14 hP14 hO14
      obtain ⟨k, hk, rfl, hbe, hkr, hR, hP, hO⟩ := hrel
      have hT := hkr.bk hT9 (by decide)
      rcases Nat.lt_or_ge k nd with hkl | hkl
      · obtain ⟨bb, bo, hA, hall⟩ := (hI9.but hkr (by decide)).ints.all (show 0 < l by omega)
        have c1 : wr.cell? ⟨bb, bo + k, none⟩ = some (.int .i64 (t.at_ k)) := hall k (by omega)
        obtain ⟨z, hz⟩ : ∃ z, t.basis[k]? = some z := ⟨_, List.getElem?_eq_getElem (by have := HL1.out; omega)⟩
        obtain ⟨i0, i1⟩ := HFT.out.1 k z hz
        rw [LSt.at_eq hz] at c1
        have HAT := Lib.hid (LSt.at_eq hz)
        have HI1 : Hid (z < n2) := Lib.hid (by rw [HN1.out]; exact i1)
        subst hA
        obtain ⟨y0, y1, y2⟩ := hT.three
        have hkI : (k : Int) < nd := by omega
        have hkI2 : (k : Int) < l := by omega
        clear hall hz i0 i1
        rcases Int.lt_or_le z 0 with hz0 | hz0
        · have HP : Hid (canL n2 (rayN t D (jn : Int) k) = canL n2 (rayN t D (jn : Int) (k + 1))) := Lib.hid (canL_congr fun j _ => by rw [rayN_succ, HAT.out, if_neg (by omega)])
          have hO2 := hO
          rw [HP.out] at hO2
          go_wp2
          go_roundw
          case rel => exact ⟨k + 1, by omega, by go_num, hbe, hkr, hR, hP, hO2⟩
          case measure => simp [intOf]; omega
        · obtain ⟨f, hf⟩ := get_some (fs := D) (i := k) (by rw [← HND.out]; exact hkl)
          obtain ⟨b', off', B1, m1, k1, B2, m2, k2, hAd, hlt, ⟨q0, q1, q2, q3⟩, hmf⟩ := (hD9.but hkr (by decide) (by decide)).elem (Below.refl _ _) hf
          subst hAd
          have hsf : f.Sh := (HDB.out k f hf).sh HKB.out
          have HFQ : Hid (canF (-f.q) = canF (-qAt D k)) := Lib.hid (by rw [qAt_some hf])
          obtain ⟨bn, rfl⟩ := Int.eq_ofNat_of_zero_le hz0
          have hbn : bn < n2 := by have := HI1.out; omega
          have hbI : (bn : Int) < n2 := by omega
          obtain ⟨p0, p1, p2, p3⟩ := hP.four
          clear hf
          go_upto_region 20 with (fail)
          have C0 := stab p0
          have C1 := stab p1
          have C2 := stab p2
          have C3 := stab p3
          have D0 := stab y0
          have D1 := stab y1
          have D2 := stab y2
          have E0 := stab c1
          have Q0 := stab q0
          have Q1 := stab q1
          have Q2 := stab q2
          have Q3 := stab q3
          have hS0 := below_drew' wr
          clear p0 p1 p2 p3 y0 y1 y2 c1 q0 q1 q2 q3
          refine region_seq 13 [0, 1, 2, 3, 4, 5, 6, 7, 8, 9, 10, 11, 12, 13] (by kernel_rfl) (by kernel_rfl) ?_
          repeat ((first | (refine seq_takeP (v := ?_) rfl rfl rfl ?_ ?_; rotate_left; (· (intro _ hSw; go_simp; (try go_bits); (try with_reducible rfl)))) | (refine seq_take (v := ?_) rfl rfl rfl ?_ ?_; rotate_left; (· (intro _ hSw; go_simp; (try go_bits); (try with_reducible rfl)))) | refine seq_skip rfl rfl rfl ?_); (try simp only [Act.put, pu1, pu2, pu3, pu4, pu5, pu6]))
          refine seq_step rfl rfl (fun KR hKR => ?_)
          go_simp
          with_reducible refine (rnegateF_own _ f _ (hmf.below hS0) hsf).mono ?_
          rw [HFQ.out]
          rintro _ w6 ⟨v6, rfl, e6, hb6⟩
          have hS6 := below_then hS0 hb6 hS0.size
          obtain ⟨E1, l9, k9, E2, l9', k9', rfl, _, _⟩ := id e6.frac
          have hO6 := hO.below hS6
          obtain ⟨_, _, _, _, ⟨t0, t1, t2, t3⟩, ⟨f0, f1, f2, f3⟩, _⟩ := hO6.at_ (canL_get hbn)
          refine hKR.out _ _ (Or.inr hS6) ?_
          clear hKR KR
          (try simp only [Act.put, pu1, pu2, pu3, pu4, pu5, pu6])
          repeat ((first | (refine seq_takeP (v := ?_) rfl rfl rfl ?_ ?_; rotate_left; (· (intro _ hSw; go_simp; (try go_bits); (try with_reducible rfl)))) | (refine seq_take (v := ?_) rfl rfl rfl ?_ ?_; rotate_left; (· (intro _ hSw; go_simp; (try go_bits); (try with_reducible rfl)))) | refine seq_skip rfl rfl rfl ?_); (try simp only [Act.put, pu1, pu2, pu3, pu4, pu5, pu6]))
          refine seq_step rfl rfl (fun KR hKR => ?_)
          go_simp
          refine hKR.out _ _ (Or.inl (by decide)) ?_
          clear hKR KR
          (try simp only [Act.put, pu1, pu2, pu3, pu4, pu5, pu6])
          refine seq_done ?_
          obtain ⟨hO7, hk7⟩ := hO6.set_ (k := bn) (by rw [canL_length]; exact hbn) e6.frac
          have HSET : Hid ((canL n2 (rayN t D (jn : Int) k)).set bn (canF (-qAt D k)) = canL n2 (rayN t D (jn : Int) (k + 1))) := Lib.hid (by
            rw [canL_set hbn]
            exact canL_congr fun i _ => by
              rw [rayN_succ, HAT.out]
              by_cases e : i = bn
              · rw [if_pos e, if_pos (by omega)]
              · rw [if_neg e, if_neg (by omega)])
          rw [HSET.out] at hO7
          have hP7 := hk7.bk (hP.later hS6) (by decide)
          have hR7 := hk7.bk (hR.later hS6) (by decide)
          have hbe7 := below_set4' (below_then hbe hS6 hbe.size) (Nat.le_trans hwx hg1) (bn * 4) (bn * 4 + 1) (bn * 4 + 2) (bn * 4 + 3) (.bool (canF (-qAt D k)).num.neg) (.slice E1 l9 k9) (.bool (canF (-qAt D k)).den.neg) (.slice E2 l9' k9')
          have hkr7 := ((((hkr.trans (KeepBut.of_below hS6)).set_new hg1 (bn * 4) (.bool (canF (-qAt D k)).num.neg)).set_new hg1 (bn * 4 + 1) (.slice E1 l9 k9)).set_new hg1 (bn * 4 + 2) (.bool (canF (-qAt D k)).den.neg)).set_new hg1 (bn * 4 + 3) (.slice E2 l9' k9')
          clear C0 C1 C2 C3 D0 D1 D2 E0 Q0 Q1 Q2 Q3 t0 t1 t2 t3 f0 f1 f2 f3
          go_wp2
          go_roundw
          case rel => exact ⟨k + 1, by omega, by go_num, hbe7, hkr7, hR7, hP7, hO7⟩
          case measure => simp [intOf]; omega
      · obtain rfl : nd = k := by omega
        have HRL2 : Hid (rayL p t = canL n2 (rayN t D (jn : Int) nd)) := Lib.hid (by rw [HRL.out, HND.out])
        have hZ1 := hZ9.but hkr (by decide) (by decide)
        obtain ⟨r0, r1, r2, r3⟩ := hR.four
        obtain ⟨f0, f1, f2, f3⟩ := hR.fourF
        obtain ⟨p0, p1, p2, p3⟩ := hP.four
        go_wp2
        obtain ⟨k1, k2, k3, k4⟩ := prf_store (B := w.heap.size) (w0 := w) hR hbe (by omega) (.int .i64 3) (.slice A1 n1 c1) (.slice none 0 0) (.slice (some ⟨g, 0, none⟩) n2 c2)
        refine ret_ct Tryz.results8 Tryz.underlying29 (by kernel_rfl) rfl k1 rfl ?_
        exact ⟨_, by rw [HE2.out]; rfl, by rw [HE1.out]; exact ⟨_, _, _, _, _, _, _, _, _, rfl, hZ1.but k2 (by decide) (by decide), frs_nil _, by show FrsM _ _ (rayL p t); rw [HRL2.out]; exact (hO.frs).but k2 (by decide) (by decide), by simp, by simp⟩, k3⟩

set_option maxRecDepth 100000 in
set_option maxHeartbeats 4000000 in
theorem rextract_err (v1 v2 : Value) (p : LPd) (s : LSt) (K : Nat) (w : World) (h : LpM w v1 p) (h2 : StM w v2 s) (F : p.Fit K) (hz : lpErr p = 0) (hve : vsErr p s ≠ 0) :
    Calls Tryz.prog 8 #[v1, v2] w fun e w' => e = .returned (.tuple #[.agg #[.int .i64 0, .slice none 0 0, .slice none 0 0, .slice none 0 0], .int .i64 (vsErr p s)]) ∧ Below w.heap.size w w' := by
  obtain ⟨A, n, c, A', n', c', A'', n'', c'', rfl, hc, hv, hr⟩ := id h
  obtain ⟨Ab, nb, cb, rfl, hI⟩ := id h2
  obtain ⟨W, hW, hX0, hbe0⟩ := box_lp w (.slice A n c) (.slice A' n' c') (.slice A'' n'' c'')
  obtain ⟨W1, hW1, hS0, hbe1⟩ := box_st W (.int .i64 s.phase) (.slice Ab nb cb) (.int .i64 s.pivots)
  have hX := hX0.later hbe1
  have hbe := below_then hbe0 hbe1 hbe0.size
  have hsz : W.heap.size = w.heap.size + 1 := by rw [← hW]; simp
  rw [hsz] at hS0
  obtain ⟨W2, hW2, hR, hbe2⟩ := box_prf W1 (.int .i64 0) (.slice none 0 0) (.slice none 0 0) (.slice none 0 0)
  have hX2 := hX.later hbe2
  have hS2 := hS0.later hbe2
  have hb2 := below_then hbe hbe2 hbe.size
  have hsz1 : W1.heap.size = w.heap.size + 1 + 1 := by rw [← hW1]; simp [hsz]
  rw [hsz1] at hR
  have HLP := Lib.hid h
  have HST := Lib.hid h2
  have HFP := Lib.hid F
  have HLE := Lib.hid hz
  clear hX hS0 hbe hbe2 h h2 hc hv hr hI hX0 hbe0 hbe1 F hz
  obtain ⟨x0, x1, x2⟩ := hX2.three
  obtain ⟨y0, y1, y2⟩ := hS2.three
  obtain ⟨q, hq⟩ : ∃ q, vsErr p s = q := ⟨_, rfl⟩
  rw [hq] at hve ⊢
  have HVQ := Lib.hid hq
  clear hq
  go_enter Tryz.func8, Tryz.ntmps8
  go_wp2_with fail
  clear hW hW1 hW2
  refine (rvalidateState_any _ _ p s K _ (HLP.out.below hb2) (HST.out.below hb2) HFP.out HLE.out).mono ?_
  rw [HVQ.out]
  have hq' : (q != 0) = true := by simpa using hve
  clear hve
  rintro _ w3 ⟨rfl, hb3⟩
  have hR3 := hR.later hb3
  have hbe3 := below_then hb2 hb3 hb2.size
  clear x0 x1 x2 y0 y1 y2 hX2 hS2 hR hb2 hb3
  obtain ⟨r0, r1, r2, r3⟩ := hR3.four
  obtain ⟨f0, f1, f2, f3⟩ := hR3.fourF
  go_wp2
  obtain ⟨k1, k2, k3, k4⟩ := prf_store (B := w.heap.size) (w0 := w) hR3 hbe3 (by omega) (.int .i64 0) (.slice none 0 0) (.slice none 0 0) (.slice none 0 0)
  refine ret_ct Tryz.results8 Tryz.underlying29 (by kernel_rfl) rfl k1 rfl ?_
  exact ⟨rfl, k3⟩
end Go.Proofs.YtpanffbgihhjnaaGreat

/- The law ProofFeasible, walked: the exact result of IsFeasible. -/
namespace Go.Proofs.YtpanffbgihhjnaaGreat
open Go.RowKit Pl
attribute [local go_sem ↓] Go.wp_at_zero Go.wp_at_succ

namespace Pl
theorem RsL.set {k i : Nat} {fs : List RF} (h : RsL k fs) {f : RF} (hf : f.Rs k) : RsL k (fs.set i f) := fun j g hg => by
  rcases Nat.lt_or_ge i fs.length with hi | hi
  · by_cases hji : i = j
    · subst hji; rw [List.getElem?_set_self hi] at hg; injection hg with hg; subst hg; exact hf
    · rw [List.getElem?_set_ne hji] at hg; exact h j g hg
  · rw [List.set_eq_of_length_le hi] at hg; exact h j g hg
end Pl

end Go.Proofs.YtpanffbgihhjnaaGreat

/- Walks: package pairinglaw26: made. -/
namespace Go.Proofs.YtpanffbgihhjnaaGreat
open Go.RowKit Pl
attribute [local go_sem ↓] Go.wp_at_zero Go.wp_at_succ

def Apart (a b : Value) : Prop := ∀ g, a.ownBlock = some g → b.ownBlock ≠ some g
theorem Apart.symm {a b : Value} (h : Apart a b) : Apart b a := fun g hb ha => h g ha hb
theorem FrsO.apart {b : Nat} {w w' : World} {v1 v2 : Value} {fs1 fs2 : List RF} (h1 : FrsO b w v1 fs1) (h2 : FrsO w.heap.size w' v2 fs2) : Apart v1 v2 := fun g hg hg2 => by
  obtain ⟨cs, o1, _⟩ := h1
  obtain ⟨cs', o2, _⟩ := h2
  have a1 := own_lt' o1 g hg
  have a2 := (o2.lt g hg2).1
  omega
theorem FrsO.far4k {base : Nat} {w : World} {g i j k l : Nat} {x y z u v : Value} {fs : List RF} (h : FrsO base w v fs) (hk : Keep w ((((w.setCell ⟨g, i, none⟩ x).setCell ⟨g, j, none⟩ y).setCell ⟨g, k, none⟩ z).setCell ⟨g, l, none⟩ u)) (hne : v.ownBlock ≠ some g) :
    FrsO base ((((w.setCell ⟨g, i, none⟩ x).setCell ⟨g, j, none⟩ y).setCell ⟨g, k, none⟩ z).setCell ⟨g, l, none⟩ u) v fs :=
  h.others (((Others.of_set.trans Others.of_set).trans Others.of_set).trans Others.of_set) hk (fun b hb e => hne (hb.trans e))
def MadeAt (U : World) (x : Prf) (s7 : Value) (wx : World) : Prop :=
  ∃ g A1 n1 c1 A2 n2 c2 A3 n3 c3, s7 = .pointer (some ⟨g, 0, none⟩) ∧ U.heap.size ≤ g ∧ Bk wx g 29 [.int .i64 x.st, .slice A1 n1 c1, .slice A2 n2 c2, .slice A3 n3 c3] ∧ FrsO U.heap.size wx (.slice A1 n1 c1) x.x ∧ FrsO U.heap.size wx (.slice A2 n2 c2) x.y ∧ FrsO U.heap.size wx (.slice A3 n3 c3) x.ray ∧ (Apart (.slice A1 n1 c1) (.slice A2 n2 c2) ∧ Apart (.slice A1 n1 c1) (.slice A3 n3 c3) ∧ Apart (.slice A2 n2 c2) (.slice A3 n3 c3)) ∧ Below U.heap.size U wx
theorem MadeAt.mk {U w : World} {g : Nat} {x : Prf} {a b c d : Value} {A1 A2 A3 : Option Addr} {n1 c1 n2 c2 n3 c3 : Nat} (hB : Bk w g 29 [a, b, c, d]) (h1 : FrsO U.heap.size w (.slice A1 n1 c1) x.x) (h2 : FrsO U.heap.size w (.slice A2 n2 c2) x.y) (h3 : FrsO U.heap.size w (.slice A3 n3 c3) x.ray)
    (hap : Apart (.slice A1 n1 c1) (.slice A2 n2 c2) ∧ Apart (.slice A1 n1 c1) (.slice A3 n3 c3) ∧ Apart (.slice A2 n2 c2) (.slice A3 n3 c3)) (hb : Below U.heap.size U w) (hg : U.heap.size ≤ g) :
    MadeAt U x (.pointer (some ⟨g, 0, none⟩)) ((((w.setCell ⟨g, 0, none⟩ (.int .i64 x.st)).setCell ⟨g, 1, none⟩ (.slice A1 n1 c1)).setCell ⟨g, 2, none⟩ (.slice A2 n2 c2)).setCell ⟨g, 3, none⟩ (.slice A3 n3 c3)) := by
  obtain ⟨k1, k2, k3, k4⟩ := prf_store (B := U.heap.size) (w0 := U) hB hb hg (.int .i64 x.st) (.slice A1 n1 c1) (.slice A2 n2 c2) (.slice A3 n3 c3)
  exact ⟨g, A1, n1, c1, A2, n2, c2, A3, n3, c3, rfl, hg, k1, h1.but k2 (by decide) (by decide), h2.but k2 (by decide) (by decide), h3.but k2 (by decide) (by decide), hap, k3⟩
def MadePost (w : World) (K : Nat) (e : Ending) (w' : World) : Prop := ∃ v' y, e = .returned v' ∧ PrfM w' v' y ∧ RsL K y.x ∧ RsL K y.y ∧ RsL K y.ray ∧ Below w.heap.size w w'

set_option maxRecDepth 100000 in
set_option maxHeartbeats 32000000 in
theorem made_any (v1 v2 v3 : Value) (p : LPd) (x : Prf) (zl : List Int) (K : Nat) (w : World) (h : LpM w v1 p) (h2 : PrfM w v2 x) (hl : IntsM w v3 zl) (hK8 : 8 ≤ K) (hkx : RsL K x.x) (hky : RsL K x.y) (hkr : RsL K x.ray) (hlx : x.x.length ≤ 1000) (hly : x.y.length ≤ 1000) (hlr : x.ray.length ≤ 1000) (hp1 : p.right.length ≤ 64) (hp2 : p.cols.length ≤ 1000) :
    Calls Tryz.prog 10 #[v1, v2, v3] w (MadePost w K) := by
  obtain ⟨A, n, c, A', N, c', A'', m, c'', rfl, hc, hv, hr⟩ := id h
  obtain ⟨B, lx, d, B', ly, d', B'', lr, d'', rfl, hxx, hxy, hxr, s1, s2⟩ := id h2
  obtain ⟨al, cl, rfl, _, _⟩ := hl.shape
  generalize hnl : zl.length = nl at *
  clear hnl
  obtain ⟨W, hW, hX0, hbe0⟩ := box_lp w (.slice A n c) (.slice A' N c') (.slice A'' m c'')
  obtain ⟨W1, hW1, hY0, hbe1⟩ := box_prf W (.int .i64 x.st) (.slice B lx d) (.slice B' ly d') (.slice B'' lr d'')
  have hsz : W.heap.size = w.heap.size + 1 := by rw [← hW]; simp
  rw [hsz] at hY0
  obtain ⟨W2, hW2, hR0, hbe2⟩ := box_prf W1 (.int .i64 0) (.slice none 0 0) (.slice none 0 0) (.slice none 0 0)
  have hsz1 : W1.heap.size = w.heap.size + 1 + 1 := by rw [← hW1]; simp [hsz]
  rw [hsz1] at hR0
  have hb01 := below_then hbe0 hbe1 hbe0.size
  have hbe := below_then hb01 hbe2 hb01.size
  have hX2 := (hX0.later hbe1).later hbe2
  have hY2 := hY0.later hbe2
  obtain ⟨m1, m2, m3⟩ := hv.len
  obtain ⟨r1, r2, r3⟩ := hr.len
  have hN : N ≤ 1000 := by omega
  have hm : m ≤ 64 := by omega
  have HL1 : Hid (x.x.length ≤ 1099511627776 - 1) := Lib.hid (by omega)
  have HL2 : Hid (x.y.length ≤ 1099511627776 - 1) := Lib.hid (by omega)
  have HL3 : Hid (x.ray.length ≤ 1099511627776 - 1) := Lib.hid (by omega)
  have HST : Hid (-9223372036854775808 ≤ x.st ∧ x.st ≤ 9223372036854775807) := Lib.hid ⟨s1, s2⟩
  have HKX := Lib.hid hkx
  have HKY := Lib.hid hky
  have HKR := Lib.hid hkr
  have hw2 : w.heap.size + 1 + 1 < W2.heap.size := hR0.lt_
  clear hX0 hY0 hbe0 hbe1 hbe2 hb01 hkx hky hkr m1 r1 hc hv hr h h2 s1 s2 hlx hly hlr hp1 hp2
  go_enter Tryz.func10, Tryz.ntmps10
  go_upto_region 1 with (fail)
  clear hW hW1 hW2
  go_cut [7] (fun s7 wx => MadeAt W2 x s7 wx)
  case first =>
    obtain ⟨y0, y1, y2, y3⟩ := hY2.four
    have C0 := stab y0
    have C1 := stab y1
    have C2 := stab y2
    have C3 := stab y3
    have hS0 := below_drew' W2
    clear y0 y1 y2 y3
    refine region_plan 13 (.go 0 (.go 1 (.go 2 (.go 3 (.go 5 (.go 6 (.go 8 (.go 9 (.fork 4 (.fork 7 (.fork 10 (.go 11 (.go 12 (.go 13 .done))) 12 (.go 10 (.go 11 (.go 13 .done)))) 12 (.go 7 (.go 10 (.go 11 (.go 13 .done))))) 12 (.go 4 (.go 7 (.go 10 (.go 11 (.go 13 .done)))))))))))))) (by kernel_rfl) (by kernel_rfl) ?_
    repeat ((first | (refine plan_takeP (v := ?_) rfl rfl rfl ?_ ?_; rotate_left; (· (intro _ hSw; go_simp; (try go_bits); (try with_reducible rfl)))) | (refine plan_take (v := ?_) rfl rfl rfl ?_ ?_; rotate_left; (· (intro _ hSw; go_simp; (try go_bits); (try with_reducible rfl)))) | refine plan_skip rfl rfl rfl ?_ | refine plan_skipc rfl rfl rfl (by assumption) ?_); (try simp only [Act.put, pu1, pu2, pu3, pu4, pu5, pu6]))
    refine plan_fork rfl rfl (fun KR hKR => ?_) (fun KR hKR => ?_)
    · obtain ⟨u1, w1, hrun1, hO1, hb1⟩ := run_append_copy 23 W2.drew (.slice B lx d) x.x ((hxx.below hbe).below hS0) (Nat.le_trans HL1.out (by decide))
      obtain ⟨A1, n1, c1, rfl⟩ := hO1.sliceN
      have hS1 := below_then hS0 hb1 hS0.size
      replace hO1 := hO1.monoB hS0.size
      refine op_append_run _ _ rfl rfl rfl rfl hrun1 ?_
      refine hKR.out _ _ (Or.inr hS1) ?_
      clear hKR KR hrun1
      (try simp only [Act.put, pu1, pu2, pu3, pu4, pu5, pu6])
      refine plan_fork rfl rfl (fun KR hKR => ?_) (fun KR hKR => ?_)
      · obtain ⟨u2, w2, hrun2, hO2, hb2⟩ := run_append_copy 23 w1 (.slice B' ly d') x.y ((hxy.below hbe).below hS1) (Nat.le_trans HL2.out (by decide))
        obtain ⟨A2, n2, c2, rfl⟩ := hO2.sliceN
        have hS2 := below_then hS1 hb2 hS1.size
        have ap12 := FrsO.apart hO1 hO2
        replace hO1 := hO1.below hb2
        replace hO2 := hO2.monoB hS1.size
        refine op_append_run _ _ rfl rfl rfl rfl hrun2 ?_
        refine hKR.out _ _ (Or.inr hS2) ?_
        clear hKR KR hrun2
        (try simp only [Act.put, pu1, pu2, pu3, pu4, pu5, pu6])
        refine plan_fork rfl rfl (fun KR hKR => ?_) (fun KR hKR => ?_)
        · obtain ⟨u3, w3, hrun3, hO3, hb3⟩ := run_append_copy 23 w2 (.slice B'' lr d'') x.ray ((hxr.below hbe).below hS2) (Nat.le_trans HL3.out (by decide))
          obtain ⟨A3, n3, c3, rfl⟩ := hO3.sliceN
          have hS3 := below_then hS2 hb3 hS2.size
          have ap13 := FrsO.apart hO1 hO3
          replace hO1 := hO1.below hb3
          have ap23 := FrsO.apart hO2 hO3
          replace hO2 := hO2.below hb3
          replace hO3 := hO3.monoB hS2.size
          refine op_append_run _ _ rfl rfl rfl rfl hrun3 ?_
          refine hKR.out _ _ (Or.inr hS3) ?_
          clear hKR KR hrun3
          (try simp only [Act.put, pu1, pu2, pu3, pu4, pu5, pu6])
          repeat ((first | (refine plan_takeP (v := ?_) rfl rfl rfl ?_ ?_; rotate_left; (· (intro _ hSw; go_simp; (try go_bits); (try with_reducible rfl)))) | (refine plan_take (v := ?_) rfl rfl rfl ?_ ?_; rotate_left; (· (intro _ hSw; go_simp; (try go_bits); (try with_reducible rfl)))) | refine plan_skip rfl rfl rfl ?_ | refine plan_skipc rfl rfl rfl (by assumption) ?_); (try simp only [Act.put, pu1, pu2, pu3, pu4, pu5, pu6]))
          obtain ⟨WG, hWG, hGG, hbG⟩ := box_prf w3 (.int .i64 0) (.slice none 0 0) (.slice none 0 0) (.slice none 0 0)
          have hge := hS3.size
          have hSG := below_then hS3 hbG hS3.size
          replace hO1 := hO1.below hbG
          replace hO2 := hO2.below hbG
          replace hO3 := hO3.below hbG
          refine plan_step rfl rfl (fun KR hKR => ?_)
          go_simp
          refine hKR.out _ _ (Or.inr hSG) ?_
          clear hKR KR hWG
          (try simp only [Act.put, pu1, pu2, pu3, pu4, pu5, pu6])
          obtain ⟨t0, t1, t2, t3⟩ := hGG.four
          obtain ⟨f0, f1, f2, f3⟩ := hGG.fourF
          refine plan_step rfl rfl (fun KR hKR => ?_)
          go_simp
          refine hKR.out _ _ (Or.inl (by decide)) ?_
          clear hKR KR
          (try simp only [Act.put, pu1, pu2, pu3, pu4, pu5, pu6])
          refine plan_done ?_
          go_wp2_with fail
          go_meet
          exact MadeAt.mk hGG hO1 hO2 hO3 ⟨ap12, ap13, ap23⟩ hSG hge
        · obtain ⟨WG, hWG, hGG, hbG⟩ := box_prf w2 (.int .i64 0) (.slice none 0 0) (.slice none 0 0) (.slice none 0 0)
          have hge := hS2.size
          have hSG := below_then hS2 hbG hS2.size
          replace hO1 := hO1.below hbG
          replace hO2 := hO2.below hbG
          go_simp
          refine hKR.out _ _ (Or.inr hSG) ?_
          clear hKR KR hWG
          (try simp only [Act.put, pu1, pu2, pu3, pu4, pu5, pu6])
          obtain ⟨u3, w3, hrun3, hO3, hb3⟩ := run_append_copy 23 WG (.slice B'' lr d'') x.ray ((hxr.below hbe).below hSG) (Nat.le_trans HL3.out (by decide))
          obtain ⟨A3, n3, c3, rfl⟩ := hO3.sliceN
          have hS3 := below_then hSG hb3 hSG.size
          have ap13 := FrsO.apart hO1 hO3
          replace hO1 := hO1.below hb3
          have ap23 := FrsO.apart hO2 hO3
          replace hO2 := hO2.below hb3
          replace hGG := hGG.later hb3
          replace hO3 := hO3.monoB hSG.size
          refine plan_step rfl rfl (fun KR hKR => ?_)
          refine op_append_run _ _ rfl rfl rfl rfl hrun3 ?_
          refine hKR.out _ _ (Or.inr hS3) ?_
          clear hKR KR hrun3
          (try simp only [Act.put, pu1, pu2, pu3, pu4, pu5, pu6])
          repeat ((first | (refine plan_takeP (v := ?_) rfl rfl rfl ?_ ?_; rotate_left; (· (intro _ hSw; go_simp; (try go_bits); (try with_reducible rfl)))) | (refine plan_take (v := ?_) rfl rfl rfl ?_ ?_; rotate_left; (· (intro _ hSw; go_simp; (try go_bits); (try with_reducible rfl)))) | refine plan_skip rfl rfl rfl ?_ | refine plan_skipc rfl rfl rfl (by assumption) ?_); (try simp only [Act.put, pu1, pu2, pu3, pu4, pu5, pu6]))
          obtain ⟨t0, t1, t2, t3⟩ := hGG.four
          obtain ⟨f0, f1, f2, f3⟩ := hGG.fourF
          refine plan_step rfl rfl (fun KR hKR => ?_)
          go_simp
          refine hKR.out _ _ (Or.inl (by decide)) ?_
          clear hKR KR
          (try simp only [Act.put, pu1, pu2, pu3, pu4, pu5, pu6])
          refine plan_done ?_
          go_wp2_with fail
          go_meet
          exact MadeAt.mk hGG hO1 hO2 hO3 ⟨ap12, ap13, ap23⟩ hS3 hge
      · obtain ⟨WG, hWG, hGG, hbG⟩ := box_prf w1 (.int .i64 0) (.slice none 0 0) (.slice none 0 0) (.slice none 0 0)
        have hge := hS1.size
        have hSG := below_then hS1 hbG hS1.size
        replace hO1 := hO1.below hbG
        go_simp
        refine hKR.out _ _ (Or.inr hSG) ?_
        clear hKR KR hWG
        (try simp only [Act.put, pu1, pu2, pu3, pu4, pu5, pu6])
        obtain ⟨u2, w2, hrun2, hO2, hb2⟩ := run_append_copy 23 WG (.slice B' ly d') x.y ((hxy.below hbe).below hSG) (Nat.le_trans HL2.out (by decide))
        obtain ⟨A2, n2, c2, rfl⟩ := hO2.sliceN
        have hS2 := below_then hSG hb2 hSG.size
        have ap12 := FrsO.apart hO1 hO2
        replace hO1 := hO1.below hb2
        replace hGG := hGG.later hb2
        replace hO2 := hO2.monoB hSG.size
        refine plan_step rfl rfl (fun KR hKR => ?_)
        refine op_append_run _ _ rfl rfl rfl rfl hrun2 ?_
        refine hKR.out _ _ (Or.inr hS2) ?_
        clear hKR KR hrun2
        (try simp only [Act.put, pu1, pu2, pu3, pu4, pu5, pu6])
        obtain ⟨u3, w3, hrun3, hO3, hb3⟩ := run_append_copy 23 w2 (.slice B'' lr d'') x.ray ((hxr.below hbe).below hS2) (Nat.le_trans HL3.out (by decide))
        obtain ⟨A3, n3, c3, rfl⟩ := hO3.sliceN
        have hS3 := below_then hS2 hb3 hS2.size
        have ap13 := FrsO.apart hO1 hO3
        replace hO1 := hO1.below hb3
        replace hGG := hGG.later hb3
        have ap23 := FrsO.apart hO2 hO3
        replace hO2 := hO2.below hb3
        replace hO3 := hO3.monoB hS2.size
        refine plan_step rfl rfl (fun KR hKR => ?_)
        refine op_append_run _ _ rfl rfl rfl rfl hrun3 ?_
        refine hKR.out _ _ (Or.inr hS3) ?_
        clear hKR KR hrun3
        (try simp only [Act.put, pu1, pu2, pu3, pu4, pu5, pu6])
        repeat ((first | (refine plan_takeP (v := ?_) rfl rfl rfl ?_ ?_; rotate_left; (· (intro _ hSw; go_simp; (try go_bits); (try with_reducible rfl)))) | (refine plan_take (v := ?_) rfl rfl rfl ?_ ?_; rotate_left; (· (intro _ hSw; go_simp; (try go_bits); (try with_reducible rfl)))) | refine plan_skip rfl rfl rfl ?_ | refine plan_skipc rfl rfl rfl (by assumption) ?_); (try simp only [Act.put, pu1, pu2, pu3, pu4, pu5, pu6]))
        obtain ⟨t0, t1, t2, t3⟩ := hGG.four
        obtain ⟨f0, f1, f2, f3⟩ := hGG.fourF
        refine plan_step rfl rfl (fun KR hKR => ?_)
        go_simp
        refine hKR.out _ _ (Or.inl (by decide)) ?_
        clear hKR KR
        (try simp only [Act.put, pu1, pu2, pu3, pu4, pu5, pu6])
        refine plan_done ?_
        go_wp2_with fail
        go_meet
        exact MadeAt.mk hGG hO1 hO2 hO3 ⟨ap12, ap13, ap23⟩ hS3 hge
    · obtain ⟨WG, hWG, hGG, hbG⟩ := box_prf W2.drew (.int .i64 0) (.slice none 0 0) (.slice none 0 0) (.slice none 0 0)
      have hge := hS0.size
      have hSG := below_then hS0 hbG hS0.size
      go_simp
      refine hKR.out _ _ (Or.inr hSG) ?_
      clear hKR KR hWG
      (try simp only [Act.put, pu1, pu2, pu3, pu4, pu5, pu6])
      change Bk WG W2.heap.size 29 _ at hGG
      obtain ⟨u1, w1, hrun1, hO1, hb1⟩ := run_append_copy 23 WG (.slice B lx d) x.x ((hxx.below hbe).below hSG) (Nat.le_trans HL1.out (by decide))
      obtain ⟨A1, n1, c1, rfl⟩ := hO1.sliceN
      have hS1 := below_then hSG hb1 hSG.size
      replace hGG := hGG.later hb1
      replace hO1 := hO1.monoB hSG.size
      refine plan_step rfl rfl (fun KR hKR => ?_)
      refine op_append_run _ _ rfl rfl rfl rfl hrun1 ?_
      refine hKR.out _ _ (Or.inr hS1) ?_
      clear hKR KR hrun1
      (try simp only [Act.put, pu1, pu2, pu3, pu4, pu5, pu6])
      obtain ⟨u2, w2, hrun2, hO2, hb2⟩ := run_append_copy 23 w1 (.slice B' ly d') x.y ((hxy.below hbe).below hS1) (Nat.le_trans HL2.out (by decide))
      obtain ⟨A2, n2, c2, rfl⟩ := hO2.sliceN
      have hS2 := below_then hS1 hb2 hS1.size
      replace hGG := hGG.later hb2
      have ap12 := FrsO.apart hO1 hO2
      replace hO1 := hO1.below hb2
      replace hO2 := hO2.monoB hS1.size
      refine plan_step rfl rfl (fun KR hKR => ?_)
      refine op_append_run _ _ rfl rfl rfl rfl hrun2 ?_
      refine hKR.out _ _ (Or.inr hS2) ?_
      clear hKR KR hrun2
      (try simp only [Act.put, pu1, pu2, pu3, pu4, pu5, pu6])
      obtain ⟨u3, w3, hrun3, hO3, hb3⟩ := run_append_copy 23 w2 (.slice B'' lr d'') x.ray ((hxr.below hbe).below hS2) (Nat.le_trans HL3.out (by decide))
      obtain ⟨A3, n3, c3, rfl⟩ := hO3.sliceN
      have hS3 := below_then hS2 hb3 hS2.size
      replace hGG := hGG.later hb3
      have ap13 := FrsO.apart hO1 hO3
      replace hO1 := hO1.below hb3
      have ap23 := FrsO.apart hO2 hO3
      replace hO2 := hO2.below hb3
      replace hO3 := hO3.monoB hS2.size
      refine plan_step rfl rfl (fun KR hKR => ?_)
      refine op_append_run _ _ rfl rfl rfl rfl hrun3 ?_
      refine hKR.out _ _ (Or.inr hS3) ?_
      clear hKR KR hrun3
      (try simp only [Act.put, pu1, pu2, pu3, pu4, pu5, pu6])
      repeat ((first | (refine plan_takeP (v := ?_) rfl rfl rfl ?_ ?_; rotate_left; (· (intro _ hSw; go_simp; (try go_bits); (try with_reducible rfl)))) | (refine plan_take (v := ?_) rfl rfl rfl ?_ ?_; rotate_left; (· (intro _ hSw; go_simp; (try go_bits); (try with_reducible rfl)))) | refine plan_skip rfl rfl rfl ?_ | refine plan_skipc rfl rfl rfl (by assumption) ?_); (try simp only [Act.put, pu1, pu2, pu3, pu4, pu5, pu6]))
      obtain ⟨t0, t1, t2, t3⟩ := hGG.four
      obtain ⟨f0, f1, f2, f3⟩ := hGG.fourF
      refine plan_step rfl rfl (fun KR hKR => ?_)
      go_simp
      refine hKR.out _ _ (Or.inl (by decide)) ?_
      clear hKR KR
      (try simp only [Act.put, pu1, pu2, pu3, pu4, pu5, pu6])
      refine plan_done ?_
      go_wp2_with fail
      go_meet
      exact MadeAt.mk hGG hO1 hO2 hO3 ⟨ap12, ap13, ap23⟩ hS3 hge
  case rest =>

    obtain ⟨gy, A1, n1, c1, A2, n2, c2, A3, n3, c3, rfl, hgy, hP3, hO13, hO23, hO33, ⟨hap12, hap13, hap23⟩, hb3⟩ := hcut
    have hX3 := hX2.later hb3
    have hR3 := hR0.later hb3
    have hbe3 := below_then hbe hb3 hbe.size
    have hwb := hbe.size
    clear hX2 hY2 hR0 hb3 hbe
    go_wp2_with fail
    refine (at_any _ zl 1 _ (hl.below hbe3) (by omega)).mono ?_
    rintro _ w4 ⟨z1, rfl, hz10, hz11, hb4⟩
    go_wp2_with fail
    refine (at_any _ zl 2 _ (hl.below (below_then hbe3 hb4 hbe3.size)) (by omega)).mono ?_
    rintro _ w5 ⟨z2, rfl, hz20, hz21, hb5⟩
    go_wp2_with fail
    refine (wild_any z2 _).mono ?_
    rintro _ w6 ⟨v6, f, rfl, e6, hf8, hb6⟩
    have hb45 := below_then hb4 hb5 hb4.size
    have hb46 := below_then hb45 hb6 hb45.size
    obtain ⟨E1, l9, k9, E2, l9', k9', rfl, _, _⟩ := id e6
    obtain ⟨W7, hW7, hF7, hb7⟩ := boxF1 w6 (.bool f.num.neg) (.slice E1 l9 k9) (.bool f.den.neg) (.slice E2 l9' k9')
    have hb47 := below_then hb46 hb7 hb46.size
    have hbe7 := below_then hbe3 hb47 hbe3.size
    go_wp2_with fail
    clear hW7
    refine (at_any _ zl 0 _ (hl.below hbe7) (by omega)).mono ?_
    rintro _ wS ⟨z0, rfl, hz00, hz01, hb8⟩
    have hb38 := below_then hb47 hb8 hb47.size
    have hP := hP3.later hb38
    have hX := hX3.later hb38
    have hR := hR3.later hb38
    have hO1 := (hO13.below hb38).monoB hwb
    have hO2 := (hO23.below hb38).monoB hwb
    have hO3 := (hO33.below hb38).monoB hwb
    have hbe := below_then hbe3 hb38 hbe3.size
    have hF := hF7.later hb8
    have eF := (e6.below hb7).below hb8
    clear hP3 hX3 hR3 hO13 hO23 hO33 hbe3 hb4 hb5 hb6 hb45 hb46 hb7 hb47 hbe7 hb8 hb38 hF7 e6
    have hr8 : 0 ≤ z0 % 8 ∧ z0 % 8 < 8 := by omega
    generalize hz8 : z0 % 8 = z8 at *
    have hcs : z8 = 0 ∨ z8 = 1 ∨ z8 = 2 ∨ z8 = 3 ∨ z8 = 4 ∨ z8 = 5 ∨ z8 = 6 ∨ z8 = 7 := by omega
    clear hr8
    rcases hcs with rfl | rfl | rfl | rfl | rfl | rfl | rfl | rfl
    · obtain ⟨p0, p1, p2, p3⟩ := hP.four
      obtain ⟨g0, g1, g2, g3⟩ := hP.fourF
      have h61 : 0 ≤ z1 % 6 := by omega
      have h62 : z1 % 6 < 6 := by omega
      generalize hz6 : z1 % 6 = z6 at *
      have hkP := KeepBut.setCell hP 0 (.int .i64 (z6 - 1))
      have hP8 := hP.set_ 0 (.int .i64 (z6 - 1))
      have hR8 := hR.set_other (g := gy) (by omega) 0 (.int .i64 (z6 - 1))
      have hbe8 := hbe.setCell (p := ⟨gy, 0, none⟩) (by simp; omega) (.int .i64 (z6 - 1))
      have hZ1 := (hO1.but hkP (by decide) (by decide)).frs
      have hZ2 := (hO2.but hkP (by decide) (by decide)).frs
      have hZ3 := (hO3.but hkP (by decide) (by decide)).frs
      go_upto_region 22 with (fail)
      clear p0 p1 p2 p3 g0 g1 g2 g3 hkP
      generalize wS.setCell ⟨gy, 0, none⟩ (.int .i64 (z6 - 1)) = wE at *
      obtain ⟨p0, p1, p2, p3⟩ := hP8.four
      obtain ⟨r0, r1, r2, r3⟩ := hR8.four
      obtain ⟨g0, g1, g2, g3⟩ := hR8.fourF
      go_wp2
      obtain ⟨k1, k2, k3, k4⟩ := prf_store (B := w.heap.size) (w0 := w) hR8 hbe8 (by omega) (.int .i64 (z6 - 1)) (.slice A1 n1 c1) (.slice A2 n2 c2) (.slice A3 n3 c3)
      refine ret_cell Tryz.results10 Tryz.underlying29 (by kernel_rfl) rfl k1 rfl ?_
      exact ⟨_, ⟨z6 - 1, x.x, x.y, x.ray⟩, rfl, ⟨_, _, _, _, _, _, _, _, _, rfl, FrsM.but hZ1 k2 (by decide) (by decide), FrsM.but hZ2 k2 (by decide) (by decide), FrsM.but hZ3 k2 (by decide) (by decide), (show (-9223372036854775808 : Int) ≤ z6 - 1 by omega), (show z6 - 1 ≤ (9223372036854775807 : Int) by omega)⟩, HKX.out, HKY.out, HKR.out, k3⟩
    · by_cases hz0 : n1 = 0
      · have hz1 : (n1 : Int) ≤ 0 := by omega
        clear hz0
        obtain ⟨p0, p1, p2, p3⟩ := hP.four
        obtain ⟨r0, r1, r2, r3⟩ := hR.four
        obtain ⟨g0, g1, g2, g3⟩ := hR.fourF
        go_wp2
        obtain ⟨k1, k2, k3, k4⟩ := prf_store (B := w.heap.size) (w0 := w) hR hbe (by omega) (.int .i64 x.st) (.slice A1 n1 c1) (.slice A2 n2 c2) (.slice A3 n3 c3)
        refine ret_cell Tryz.results10 Tryz.underlying29 (by kernel_rfl) rfl k1 rfl ?_
        exact ⟨_, x, rfl, ⟨_, _, _, _, _, _, _, _, _, rfl, FrsM.but hO1.frs k2 (by decide) (by decide), FrsM.but hO2.frs k2 (by decide) (by decide), FrsM.but hO3.frs k2 (by decide) (by decide), HST.out.1, HST.out.2⟩, HKX.out, HKY.out, HKR.out, k3⟩
      have hzp : 0 < n1 := by omega
      have hzI : 0 < (n1 : Int) := by omega
      obtain ⟨r, hr, hrl⟩ : ∃ r : Nat, z1 % (n1 : Int) = (r : Int) ∧ r < n1 := ⟨(z1 % (n1 : Int)).toNat, by rw [Int.toNat_of_nonneg (Int.emod_nonneg _ (by omega))], by have := Int.emod_lt_of_pos z1 (show (0 : Int) < n1 by omega); have := Int.emod_nonneg z1 (show (n1 : Int) ≠ 0 by omega); omega⟩
      obtain ⟨l1, l2, l3⟩ := hO1.frs.len
      have HLN := Lib.hid l1
      obtain ⟨gz, czz, hzsh, hgz1, hgz2, _, _⟩ := hO1.shape (by omega)
      injection hzsh with e1 e2 e3
      subst e1
      have hrI : (r : Int) < n1 := by omega
      obtain ⟨f0', hf0'⟩ := get_some (fs := x.x) (i := r) (by omega)
      have hnz : ¬ n1 = 0 := hz0
      clear hz0 e2 e3 l1
      obtain ⟨p0, p1, p2, p3⟩ := hP.four
      obtain ⟨q0, q1, q2, q3⟩ := hF.four
      go_upto_region 9 with (fail)
      have hQD := hO1.below (below_drew' wS)
      obtain ⟨_, _, _, _, ⟨t0, t1, t2, t3⟩, ⟨g0, g1, g2, g3⟩, _⟩ := hQD.at_ hf0'
      have hfD := eF.below (below_drew' wS)
      have hRD := hR.drew
      have hPD := hP.drew
      have hbeD := hbe.drew
      have hV2 := hO2.below (below_drew' wS)
      have HA2 := Lib.hid (hap12 gz rfl)
      have hV3 := hO3.below (below_drew' wS)
      have HA3 := Lib.hid (hap13 gz rfl)
      have C0 := stab p0
      have C1 := stab p1
      have C2 := stab p2
      have C3 := stab p3
      have D0 := stab q0
      have D1 := stab q1
      have D2 := stab q2
      have D3 := stab q3
      clear p0 p1 p2 p3 q0 q1 q2 q3
      refine region_seq 9 [0, 1, 2, 3, 4, 5, 6, 7, 8, 9] (by kernel_rfl) (by kernel_rfl) ?_
      generalize wS.drew = wD at *
      repeat ((first | (refine seq_takeP (v := ?_) rfl rfl rfl ?_ ?_; rotate_left; (· (intro _ hSw; go_simp; (try go_bits); (try with_reducible rfl)))) | (refine seq_take (v := ?_) rfl rfl rfl ?_ ?_; rotate_left; (· (intro _ hSw; go_simp; (try go_bits); (try with_reducible rfl)))) | refine seq_skip rfl rfl rfl ?_); (try simp only [Act.put, pu1, pu2, pu3, pu4, pu5, pu6]))
      refine seq_step rfl rfl (fun KR hKR => ?_)
      go_simp
      refine hKR.out _ _ (Or.inl (by decide)) ?_
      clear hKR KR
      (try simp only [Act.put, pu1, pu2, pu3, pu4, pu5, pu6])
      refine seq_done ?_
      obtain ⟨hQ2, hk2⟩ := hQD.set_ (k := r) (by have := HLN.out; omega) hfD
      have hU2 := FrsO.far4k hV2 (hk2.keep (by decide)) HA2.out
      have hU3 := FrsO.far4k hV3 (hk2.keep (by decide)) HA3.out
      have hP2 := hk2.bk hPD (by decide)
      have hR2 := hk2.bk hRD (by decide)
      have hbe2 := below_set4' hbeD hgz1 (r * 4) (r * 4 + 1) (r * 4 + 2) (r * 4 + 3) (.bool f.num.neg) (.slice E1 l9 k9) (.bool f.den.neg) (.slice E2 l9' k9')
      clear C0 C1 C2 C3 D0 D1 D2 D3 t0 t1 t2 t3 g0 g1 g2 g3
      go_upto_region 22 with (fail)
      generalize (((wD.setCell ⟨gz, r * 4, none⟩ (.bool f.num.neg)).setCell ⟨gz, r * 4 + 1, none⟩ (.slice E1 l9 k9)).setCell ⟨gz, r * 4 + 2, none⟩ (.bool f.den.neg)).setCell ⟨gz, r * 4 + 3, none⟩ (.slice E2 l9' k9') = wE at *
      obtain ⟨p0, p1, p2, p3⟩ := hP2.four
      obtain ⟨r0, r1, r2, r3⟩ := hR2.four
      obtain ⟨g0, g1, g2, g3⟩ := hR2.fourF
      go_wp2
      obtain ⟨k1, k2, k3, k4⟩ := prf_store (B := w.heap.size) (w0 := w) hR2 hbe2 (by omega) (.int .i64 x.st) (.slice (some ⟨gz, 0, none⟩) n1 c1) (.slice A2 n2 c2) (.slice A3 n3 c3)
      refine ret_cell Tryz.results10 Tryz.underlying29 (by kernel_rfl) rfl k1 rfl ?_
      exact ⟨_, ⟨x.st, x.x.set r f, x.y, x.ray⟩, rfl, ⟨_, _, _, _, _, _, _, _, _, rfl, FrsM.but hQ2.frs k2 (by decide) (by decide), FrsM.but hU2.frs k2 (by decide) (by decide), FrsM.but hU3.frs k2 (by decide) (by decide), HST.out.1, HST.out.2⟩, (HKX.out.set (i := r) (hf8.mono hK8)), HKY.out, HKR.out, k3⟩
    · by_cases hz0 : n2 = 0
      · have hz1 : (n2 : Int) ≤ 0 := by omega
        clear hz0
        obtain ⟨p0, p1, p2, p3⟩ := hP.four
        obtain ⟨r0, r1, r2, r3⟩ := hR.four
        obtain ⟨g0, g1, g2, g3⟩ := hR.fourF
        go_wp2
        obtain ⟨k1, k2, k3, k4⟩ := prf_store (B := w.heap.size) (w0 := w) hR hbe (by omega) (.int .i64 x.st) (.slice A1 n1 c1) (.slice A2 n2 c2) (.slice A3 n3 c3)
        refine ret_cell Tryz.results10 Tryz.underlying29 (by kernel_rfl) rfl k1 rfl ?_
        exact ⟨_, x, rfl, ⟨_, _, _, _, _, _, _, _, _, rfl, FrsM.but hO1.frs k2 (by decide) (by decide), FrsM.but hO2.frs k2 (by decide) (by decide), FrsM.but hO3.frs k2 (by decide) (by decide), HST.out.1, HST.out.2⟩, HKX.out, HKY.out, HKR.out, k3⟩
      have hzp : 0 < n2 := by omega
      have hzI : 0 < (n2 : Int) := by omega
      obtain ⟨r, hr, hrl⟩ : ∃ r : Nat, z1 % (n2 : Int) = (r : Int) ∧ r < n2 := ⟨(z1 % (n2 : Int)).toNat, by rw [Int.toNat_of_nonneg (Int.emod_nonneg _ (by omega))], by have := Int.emod_lt_of_pos z1 (show (0 : Int) < n2 by omega); have := Int.emod_nonneg z1 (show (n2 : Int) ≠ 0 by omega); omega⟩
      obtain ⟨l1, l2, l3⟩ := hO2.frs.len
      have HLN := Lib.hid l1
      obtain ⟨gz, czz, hzsh, hgz1, hgz2, _, _⟩ := hO2.shape (by omega)
      injection hzsh with e1 e2 e3
      subst e1
      have hrI : (r : Int) < n2 := by omega
      obtain ⟨f0', hf0'⟩ := get_some (fs := x.y) (i := r) (by omega)
      have hnz : ¬ n2 = 0 := hz0
      clear hz0 e2 e3 l1
      obtain ⟨p0, p1, p2, p3⟩ := hP.four
      obtain ⟨q0, q1, q2, q3⟩ := hF.four
      go_upto_region 12 with (fail)
      have hQD := hO2.below (below_drew' wS)
      obtain ⟨_, _, _, _, ⟨t0, t1, t2, t3⟩, ⟨g0, g1, g2, g3⟩, _⟩ := hQD.at_ hf0'
      have hfD := eF.below (below_drew' wS)
      have hRD := hR.drew
      have hPD := hP.drew
      have hbeD := hbe.drew
      have hV1 := hO1.below (below_drew' wS)
      have HA1 := Lib.hid (hap12.symm gz rfl)
      have hV3 := hO3.below (below_drew' wS)
      have HA3 := Lib.hid (hap23 gz rfl)
      have C0 := stab p0
      have C1 := stab p1
      have C2 := stab p2
      have C3 := stab p3
      have D0 := stab q0
      have D1 := stab q1
      have D2 := stab q2
      have D3 := stab q3
      clear p0 p1 p2 p3 q0 q1 q2 q3
      refine region_seq 9 [0, 1, 2, 3, 4, 5, 6, 7, 8, 9] (by kernel_rfl) (by kernel_rfl) ?_
      generalize wS.drew = wD at *
      repeat ((first | (refine seq_takeP (v := ?_) rfl rfl rfl ?_ ?_; rotate_left; (· (intro _ hSw; go_simp; (try go_bits); (try with_reducible rfl)))) | (refine seq_take (v := ?_) rfl rfl rfl ?_ ?_; rotate_left; (· (intro _ hSw; go_simp; (try go_bits); (try with_reducible rfl)))) | refine seq_skip rfl rfl rfl ?_); (try simp only [Act.put, pu1, pu2, pu3, pu4, pu5, pu6]))
      refine seq_step rfl rfl (fun KR hKR => ?_)
      go_simp
      refine hKR.out _ _ (Or.inl (by decide)) ?_
      clear hKR KR
      (try simp only [Act.put, pu1, pu2, pu3, pu4, pu5, pu6])
      refine seq_done ?_
      obtain ⟨hQ2, hk2⟩ := hQD.set_ (k := r) (by have := HLN.out; omega) hfD
      have hU1 := FrsO.far4k hV1 (hk2.keep (by decide)) HA1.out
      have hU3 := FrsO.far4k hV3 (hk2.keep (by decide)) HA3.out
      have hP2 := hk2.bk hPD (by decide)
      have hR2 := hk2.bk hRD (by decide)
      have hbe2 := below_set4' hbeD hgz1 (r * 4) (r * 4 + 1) (r * 4 + 2) (r * 4 + 3) (.bool f.num.neg) (.slice E1 l9 k9) (.bool f.den.neg) (.slice E2 l9' k9')
      clear C0 C1 C2 C3 D0 D1 D2 D3 t0 t1 t2 t3 g0 g1 g2 g3
      go_upto_region 22 with (fail)
      generalize (((wD.setCell ⟨gz, r * 4, none⟩ (.bool f.num.neg)).setCell ⟨gz, r * 4 + 1, none⟩ (.slice E1 l9 k9)).setCell ⟨gz, r * 4 + 2, none⟩ (.bool f.den.neg)).setCell ⟨gz, r * 4 + 3, none⟩ (.slice E2 l9' k9') = wE at *
      obtain ⟨p0, p1, p2, p3⟩ := hP2.four
      obtain ⟨r0, r1, r2, r3⟩ := hR2.four
      obtain ⟨g0, g1, g2, g3⟩ := hR2.fourF
      go_wp2
      obtain ⟨k1, k2, k3, k4⟩ := prf_store (B := w.heap.size) (w0 := w) hR2 hbe2 (by omega) (.int .i64 x.st) (.slice A1 n1 c1) (.slice (some ⟨gz, 0, none⟩) n2 c2) (.slice A3 n3 c3)
      refine ret_cell Tryz.results10 Tryz.underlying29 (by kernel_rfl) rfl k1 rfl ?_
      exact ⟨_, ⟨x.st, x.x, x.y.set r f, x.ray⟩, rfl, ⟨_, _, _, _, _, _, _, _, _, rfl, FrsM.but hU1.frs k2 (by decide) (by decide), FrsM.but hQ2.frs k2 (by decide) (by decide), FrsM.but hU3.frs k2 (by decide) (by decide), HST.out.1, HST.out.2⟩, HKX.out, (HKY.out.set (i := r) (hf8.mono hK8)), HKR.out, k3⟩
    · by_cases hz0 : n3 = 0
      · have hz1 : (n3 : Int) ≤ 0 := by omega
        clear hz0
        obtain ⟨p0, p1, p2, p3⟩ := hP.four
        obtain ⟨r0, r1, r2, r3⟩ := hR.four
        obtain ⟨g0, g1, g2, g3⟩ := hR.fourF
        go_wp2
        obtain ⟨k1, k2, k3, k4⟩ := prf_store (B := w.heap.size) (w0 := w) hR hbe (by omega) (.int .i64 x.st) (.slice A1 n1 c1) (.slice A2 n2 c2) (.slice A3 n3 c3)
        refine ret_cell Tryz.results10 Tryz.underlying29 (by kernel_rfl) rfl k1 rfl ?_
        exact ⟨_, x, rfl, ⟨_, _, _, _, _, _, _, _, _, rfl, FrsM.but hO1.frs k2 (by decide) (by decide), FrsM.but hO2.frs k2 (by decide) (by decide), FrsM.but hO3.frs k2 (by decide) (by decide), HST.out.1, HST.out.2⟩, HKX.out, HKY.out, HKR.out, k3⟩
      have hzp : 0 < n3 := by omega
      have hzI : 0 < (n3 : Int) := by omega
      obtain ⟨r, hr, hrl⟩ : ∃ r : Nat, z1 % (n3 : Int) = (r : Int) ∧ r < n3 := ⟨(z1 % (n3 : Int)).toNat, by rw [Int.toNat_of_nonneg (Int.emod_nonneg _ (by omega))], by have := Int.emod_lt_of_pos z1 (show (0 : Int) < n3 by omega); have := Int.emod_nonneg z1 (show (n3 : Int) ≠ 0 by omega); omega⟩
      obtain ⟨l1, l2, l3⟩ := hO3.frs.len
      have HLN := Lib.hid l1
      obtain ⟨gz, czz, hzsh, hgz1, hgz2, _, _⟩ := hO3.shape (by omega)
      injection hzsh with e1 e2 e3
      subst e1
      have hrI : (r : Int) < n3 := by omega
      obtain ⟨f0', hf0'⟩ := get_some (fs := x.ray) (i := r) (by omega)
      have hnz : ¬ n3 = 0 := hz0
      clear hz0 e2 e3 l1
      obtain ⟨p0, p1, p2, p3⟩ := hP.four
      obtain ⟨q0, q1, q2, q3⟩ := hF.four
      go_upto_region 15 with (fail)
      have hQD := hO3.below (below_drew' wS)
      obtain ⟨_, _, _, _, ⟨t0, t1, t2, t3⟩, ⟨g0, g1, g2, g3⟩, _⟩ := hQD.at_ hf0'
      have hfD := eF.below (below_drew' wS)
      have hRD := hR.drew
      have hPD := hP.drew
      have hbeD := hbe.drew
      have hV1 := hO1.below (below_drew' wS)
      have HA1 := Lib.hid (hap13.symm gz rfl)
      have hV2 := hO2.below (below_drew' wS)
      have HA2 := Lib.hid (hap23.symm gz rfl)
      have C0 := stab p0
      have C1 := stab p1
      have C2 := stab p2
      have C3 := stab p3
      have D0 := stab q0
      have D1 := stab q1
      have D2 := stab q2
      have D3 := stab q3
      clear p0 p1 p2 p3 q0 q1 q2 q3
      refine region_seq 9 [0, 1, 2, 3, 4, 5, 6, 7, 8, 9] (by kernel_rfl) (by kernel_rfl) ?_
      generalize wS.drew = wD at *
      repeat ((first | (refine seq_takeP (v := ?_) rfl rfl rfl ?_ ?_; rotate_left; (· (intro _ hSw; go_simp; (try go_bits); (try with_reducible rfl)))) | (refine seq_take (v := ?_) rfl rfl rfl ?_ ?_; rotate_left; (· (intro _ hSw; go_simp; (try go_bits); (try with_reducible rfl)))) | refine seq_skip rfl rfl rfl ?_); (try simp only [Act.put, pu1, pu2, pu3, pu4, pu5, pu6]))
      refine seq_step rfl rfl (fun KR hKR => ?_)
      go_simp
      refine hKR.out _ _ (Or.inl (by decide)) ?_
      clear hKR KR
      (try simp only [Act.put, pu1, pu2, pu3, pu4, pu5, pu6])
      refine seq_done ?_
      obtain ⟨hQ2, hk2⟩ := hQD.set_ (k := r) (by have := HLN.out; omega) hfD
      have hU1 := FrsO.far4k hV1 (hk2.keep (by decide)) HA1.out
      have hU2 := FrsO.far4k hV2 (hk2.keep (by decide)) HA2.out
      have hP2 := hk2.bk hPD (by decide)
      have hR2 := hk2.bk hRD (by decide)
      have hbe2 := below_set4' hbeD hgz1 (r * 4) (r * 4 + 1) (r * 4 + 2) (r * 4 + 3) (.bool f.num.neg) (.slice E1 l9 k9) (.bool f.den.neg) (.slice E2 l9' k9')
      clear C0 C1 C2 C3 D0 D1 D2 D3 t0 t1 t2 t3 g0 g1 g2 g3
      go_upto_region 22 with (fail)
      generalize (((wD.setCell ⟨gz, r * 4, none⟩ (.bool f.num.neg)).setCell ⟨gz, r * 4 + 1, none⟩ (.slice E1 l9 k9)).setCell ⟨gz, r * 4 + 2, none⟩ (.bool f.den.neg)).setCell ⟨gz, r * 4 + 3, none⟩ (.slice E2 l9' k9') = wE at *
      obtain ⟨p0, p1, p2, p3⟩ := hP2.four
      obtain ⟨r0, r1, r2, r3⟩ := hR2.four
      obtain ⟨g0, g1, g2, g3⟩ := hR2.fourF
      go_wp2
      obtain ⟨k1, k2, k3, k4⟩ := prf_store (B := w.heap.size) (w0 := w) hR2 hbe2 (by omega) (.int .i64 x.st) (.slice A1 n1 c1) (.slice A2 n2 c2) (.slice (some ⟨gz, 0, none⟩) n3 c3)
      refine ret_cell Tryz.results10 Tryz.underlying29 (by kernel_rfl) rfl k1 rfl ?_
      exact ⟨_, ⟨x.st, x.x, x.y, x.ray.set r f⟩, rfl, ⟨_, _, _, _, _, _, _, _, _, rfl, FrsM.but hU1.frs k2 (by decide) (by decide), FrsM.but hU2.frs k2 (by decide) (by decide), FrsM.but hQ2.frs k2 (by decide) (by decide), HST.out.1, HST.out.2⟩, HKX.out, HKY.out, (HKR.out.set (i := r) (hf8.mono hK8)), k3⟩
    · obtain ⟨p0, p1, p2, p3⟩ := hP.four
      obtain ⟨q0, q1, q2, q3⟩ := hF.four
      obtain ⟨g0, g1, g2, g3⟩ := hP.fourF
      have hlen : x.x.length + 1 ≤ 1099511627776 := by have := HL1.out; omega
      have hbs := hbe.size
      go_wp2_with (at_builtin; refine wpList_append_fracG rfl (.tmp 84) (.tmp 86) rfl wS w.heap.size (.slice A1 n1 c1) x.x rfl hO1 _ _ E1 E2 l9 k9 l9' k9' f eF rfl hlen hbs ?_)
      intro v' w7 hO7 hk7 hb7 hoth7 hblk7
      obtain ⟨Av, nv, cv, rfl⟩ := hO7.sliceN
      have hP7 := hk7.bk hP (by decide)
      have hR7 := hk7.bk hR (by decide)
      have hbe7 := hbe.trans hb7
      have hU2 := hO2.others hoth7 (hk7.keep (by decide)) (fun b hb e => hap12.symm b hb e.symm)
      have hU3 := hO3.others hoth7 (hk7.keep (by decide)) (fun b hb e => hap13.symm b hb e.symm)
      clear p0 p1 p2 p3 q0 q1 q2 q3 g0 g1 g2 g3
      obtain ⟨p0, p1, p2, p3⟩ := hP7.four
      obtain ⟨g0, g1, g2, g3⟩ := hP7.fourF
      have hkP := KeepBut.setCell hP7 1 (.slice Av nv cv)
      have hP8 := hP7.set_ 1 (.slice Av nv cv)
      have hR8 := hR7.set_other (g := gy) (by omega) 1 (.slice Av nv cv)
      have hbe8 := hbe7.setCell (p := ⟨gy, 1, none⟩) (by simp; omega) (.slice Av nv cv)
      go_upto_region 22 with (fail)
      clear p0 p1 p2 p3 g0 g1 g2 g3
      have hZ1 := (hO7.but hkP (by decide) (by decide)).frs
      have hZ2 := (hU2.but hkP (by decide) (by decide)).frs
      have hZ3 := (hU3.but hkP (by decide) (by decide)).frs
      clear hkP
      generalize w7.setCell ⟨gy, 1, none⟩ (.slice Av nv cv) = wE at *
      obtain ⟨p0, p1, p2, p3⟩ := hP8.four
      obtain ⟨r0, r1, r2, r3⟩ := hR8.four
      obtain ⟨g0, g1, g2, g3⟩ := hR8.fourF
      go_wp2
      obtain ⟨k1, k2, k3, k4⟩ := prf_store (B := w.heap.size) (w0 := w) hR8 hbe8 (by omega) (.int .i64 x.st) (.slice Av nv cv) (.slice A2 n2 c2) (.slice A3 n3 c3)
      refine ret_cell Tryz.results10 Tryz.underlying29 (by kernel_rfl) rfl k1 rfl ?_
      exact ⟨_, ⟨x.st, x.x ++ [f], x.y, x.ray⟩, rfl, ⟨_, _, _, _, _, _, _, _, _, rfl, FrsM.but hZ1 k2 (by decide) (by decide), FrsM.but hZ2 k2 (by decide) (by decide), FrsM.but hZ3 k2 (by decide) (by decide), HST.out.1, HST.out.2⟩, (HKX.out.snoc (hf8.mono hK8)), HKY.out, HKR.out, k3⟩
    · obtain ⟨p0, p1, p2, p3⟩ := hP.four
      obtain ⟨q0, q1, q2, q3⟩ := hF.four
      obtain ⟨g0, g1, g2, g3⟩ := hP.fourF
      have hlen : x.y.length + 1 ≤ 1099511627776 := by have := HL2.out; omega
      have hbs := hbe.size
      go_wp2_with (at_builtin; refine wpList_append_fracG rfl (.tmp 92) (.tmp 94) rfl wS w.heap.size (.slice A2 n2 c2) x.y rfl hO2 _ _ E1 E2 l9 k9 l9' k9' f eF rfl hlen hbs ?_)
      intro v' w7 hO7 hk7 hb7 hoth7 hblk7
      obtain ⟨Av, nv, cv, rfl⟩ := hO7.sliceN
      have hP7 := hk7.bk hP (by decide)
      have hR7 := hk7.bk hR (by decide)
      have hbe7 := hbe.trans hb7
      have hU1 := hO1.others hoth7 (hk7.keep (by decide)) (fun b hb e => hap12 b hb e.symm)
      have hU3 := hO3.others hoth7 (hk7.keep (by decide)) (fun b hb e => hap23.symm b hb e.symm)
      clear p0 p1 p2 p3 q0 q1 q2 q3 g0 g1 g2 g3
      obtain ⟨p0, p1, p2, p3⟩ := hP7.four
      obtain ⟨g0, g1, g2, g3⟩ := hP7.fourF
      have hkP := KeepBut.setCell hP7 2 (.slice Av nv cv)
      have hP8 := hP7.set_ 2 (.slice Av nv cv)
      have hR8 := hR7.set_other (g := gy) (by omega) 2 (.slice Av nv cv)
      have hbe8 := hbe7.setCell (p := ⟨gy, 2, none⟩) (by simp; omega) (.slice Av nv cv)
      go_upto_region 22 with (fail)
      clear p0 p1 p2 p3 g0 g1 g2 g3
      have hZ1 := (hU1.but hkP (by decide) (by decide)).frs
      have hZ2 := (hO7.but hkP (by decide) (by decide)).frs
      have hZ3 := (hU3.but hkP (by decide) (by decide)).frs
      clear hkP
      generalize w7.setCell ⟨gy, 2, none⟩ (.slice Av nv cv) = wE at *
      obtain ⟨p0, p1, p2, p3⟩ := hP8.four
      obtain ⟨r0, r1, r2, r3⟩ := hR8.four
      obtain ⟨g0, g1, g2, g3⟩ := hR8.fourF
      go_wp2
      obtain ⟨k1, k2, k3, k4⟩ := prf_store (B := w.heap.size) (w0 := w) hR8 hbe8 (by omega) (.int .i64 x.st) (.slice A1 n1 c1) (.slice Av nv cv) (.slice A3 n3 c3)
      refine ret_cell Tryz.results10 Tryz.underlying29 (by kernel_rfl) rfl k1 rfl ?_
      exact ⟨_, ⟨x.st, x.x, x.y ++ [f], x.ray⟩, rfl, ⟨_, _, _, _, _, _, _, _, _, rfl, FrsM.but hZ1 k2 (by decide) (by decide), FrsM.but hZ2 k2 (by decide) (by decide), FrsM.but hZ3 k2 (by decide) (by decide), HST.out.1, HST.out.2⟩, HKX.out, (HKY.out.snoc (hf8.mono hK8)), HKR.out, k3⟩
    · have h61 : 0 ≤ z1 % 3 := by omega
      have h62 : z1 % 3 < 3 := by omega
      generalize hz6 : z1 % 3 = z6 at *
      obtain ⟨x0, x1, x2⟩ := hX.three
      go_upto_region 21 with (fail)
      have C0 := stab x0
      have C1 := stab x1
      have C2 := stab x2
      have hS0 := below_drew' wS
      clear x0 x1 x2
      refine region_seq 14 [0, 1, 2, 3, 4, 5, 6, 8, 9, 10, 11, 7, 12, 13, 14] (by kernel_rfl) (by kernel_rfl) ?_
      repeat ((first | (refine seq_takeP (v := ?_) rfl rfl rfl ?_ ?_; rotate_left; (· (intro _ hSw; go_simp; (try go_bits); (try with_reducible rfl)))) | (refine seq_take (v := ?_) rfl rfl rfl ?_ ?_; rotate_left; (· (intro _ hSw; go_simp; (try go_bits); (try with_reducible rfl)))) | refine seq_skip rfl rfl rfl ?_); (try simp only [Act.put, pu1, pu2, pu3, pu4, pu5, pu6]))
      refine seq_step rfl rfl (fun KR hKR => ?_)
      go_simp
      with_reducible refine (fracs_own _ zl N _ ((hl.below hbe).below hS0) (by omega)).mono ?_
      rintro _ w7 ⟨v7, fs, rfl, e7, hfl, hfr, hb7⟩
      have hS7 := below_then hS0 hb7 hS0.size
      obtain ⟨B1, m1, d1, rfl⟩ := e7.sliceN
      have hF7 := e7.frs
      refine hKR.out _ _ (Or.inr hS7) ?_
      clear hKR KR
      (try simp only [Act.put, pu1, pu2, pu3, pu4, pu5, pu6])
      repeat ((first | (refine seq_takeP (v := ?_) rfl rfl rfl ?_ ?_; rotate_left; (· (intro _ hSw; go_simp; (try go_bits); (try with_reducible rfl)))) | (refine seq_take (v := ?_) rfl rfl rfl ?_ ?_; rotate_left; (· (intro _ hSw; go_simp; (try go_bits); (try with_reducible rfl)))) | refine seq_skip rfl rfl rfl ?_); (try simp only [Act.put, pu1, pu2, pu3, pu4, pu5, pu6]))
      refine seq_step rfl rfl (fun KR hKR => ?_)
      go_simp
      with_reducible refine (fracs_own _ zl m _ ((hl.below hbe).below hS7) (by omega)).mono ?_
      rintro _ w8 ⟨v8, gs, rfl, e8, hgl, hgr, hb8⟩
      have hS8 := below_then hS7 hb8 hS7.size
      obtain ⟨B2, m2, d2, rfl⟩ := e8.sliceN
      have hF8 := hF7.below hb8
      have hP8 := hP.later hS8
      obtain ⟨p0, p1, p2, p3⟩ := hP8.four
      obtain ⟨g0, g1, g2, g3⟩ := hP8.fourF
      refine hKR.out _ _ (Or.inr hS8) ?_
      clear hKR KR
      (try simp only [Act.put, pu1, pu2, pu3, pu4, pu5, pu6])
      repeat ((first | (refine seq_takeP (v := ?_) rfl rfl rfl ?_ ?_; rotate_left; (· (intro _ hSw; go_simp; (try go_bits); (try with_reducible rfl)))) | (refine seq_take (v := ?_) rfl rfl rfl ?_ ?_; rotate_left; (· (intro _ hSw; go_simp; (try go_bits); (try with_reducible rfl)))) | refine seq_skip rfl rfl rfl ?_); (try simp only [Act.put, pu1, pu2, pu3, pu4, pu5, pu6]))
      refine seq_step rfl rfl (fun KR hKR => ?_)
      go_simp
      refine hKR.out _ _ (Or.inl (by decide)) ?_
      clear hKR KR
      (try simp only [Act.put, pu1, pu2, pu3, pu4, pu5, pu6])
      refine seq_done ?_
      have hR8 := hR.later hS8
      have hbe8 := below_then hbe hS8 hbe.size
      obtain ⟨k1, k2, k3, k4⟩ := prf_store (B := w.heap.size) (w0 := w) hP8 hbe8 (by omega) (.int .i64 (1 + z6)) (.slice B1 m1 d1) (.slice B2 m2 d2) (.slice none 0 0)
      have hR9 := k4 _ _ _ (by omega) hR8
      have hZ1 := hF8.but k2 (by decide) (by decide)
      have hZ2 := e8.frs.but k2 (by decide) (by decide)
      clear C0 C1 C2 p0 p1 p2 p3 g0 g1 g2 g3 k2 k4
      go_upto_region 22 with (fail)
      generalize (((w8.setCell ⟨gy, 0, none⟩ (.int .i64 (1 + z6))).setCell ⟨gy, 1, none⟩ (.slice B1 m1 d1)).setCell ⟨gy, 2, none⟩ (.slice B2 m2 d2)).setCell ⟨gy, 3, none⟩ (.slice none 0 0) = wE at *
      have hP9 := k1
      have hbe9 := k3
      clear k1 k3
      obtain ⟨p0, p1, p2, p3⟩ := hP9.four
      obtain ⟨r0, r1, r2, r3⟩ := hR9.four
      obtain ⟨g0, g1, g2, g3⟩ := hR9.fourF
      go_wp2
      obtain ⟨k1, k2, k3, k4⟩ := prf_store (B := w.heap.size) (w0 := w) hR9 hbe9 (by omega) (.int .i64 (1 + z6)) (.slice B1 m1 d1) (.slice B2 m2 d2) (.slice none 0 0)
      refine ret_cell Tryz.results10 Tryz.underlying29 (by kernel_rfl) rfl k1 rfl ?_
      exact ⟨_, ⟨1 + z6, fs, gs, []⟩, rfl, ⟨_, _, _, _, _, _, _, _, _, rfl, FrsM.but hZ1 k2 (by decide) (by decide), FrsM.but hZ2 k2 (by decide) (by decide), FrsM.but (frs_nil _) k2 (by decide) (by decide), (show (-9223372036854775808 : Int) ≤ 1 + z6 by omega), (show 1 + z6 ≤ (9223372036854775807 : Int) by omega)⟩, (hfr.mono (by omega)), (hgr.mono (by omega)), (RsL.nil _), k3⟩
    · obtain ⟨p0, p1, p2, p3⟩ := hP.four
      obtain ⟨r0, r1, r2, r3⟩ := hR.four
      obtain ⟨g0, g1, g2, g3⟩ := hR.fourF
      go_wp2
      obtain ⟨k1, k2, k3, k4⟩ := prf_store (B := w.heap.size) (w0 := w) hR hbe (by omega) (.int .i64 x.st) (.slice A1 n1 c1) (.slice A2 n2 c2) (.slice A3 n3 c3)
      refine ret_cell Tryz.results10 Tryz.underlying29 (by kernel_rfl) rfl k1 rfl ?_
      exact ⟨_, x, rfl, ⟨_, _, _, _, _, _, _, _, _, rfl, FrsM.but hO1.frs k2 (by decide) (by decide), FrsM.but hO2.frs k2 (by decide) (by decide), FrsM.but hO3.frs k2 (by decide) (by decide), HST.out.1, HST.out.2⟩, HKX.out, HKY.out, HKR.out, k3⟩
end Go.Proofs.YtpanffbgihhjnaaGreat

/- Walks: package pairingref25: length, Verify (the checks ahead of the switch). -/
namespace Go.Proofs.YtpanffbgihhjnaaGreat
open Go.RowKit Pl
attribute [local go_sem ↓] Go.wp_at_zero Go.wp_at_succ

theorem rlength_t (n : Int) (w : World) : Calls Tryz.prog 41 #[.bool true, .int .i64 n] w fun e w' => e = .returned (.int .i64 n) ∧ Below w.heap.size w w' := by
  go_enter Tryz.func41, Tryz.ntmps41
  go_wp2
  go_ret
  exact ⟨rfl, Below.refl _ _⟩
theorem rlength_f (n : Int) (w : World) : Calls Tryz.prog 41 #[.bool false, .int .i64 n] w fun e w' => e = .returned (.int .i64 0) ∧ Below w.heap.size w w' := by
  go_enter Tryz.func41, Tryz.ntmps41
  go_wp2
  go_ret
  exact ⟨rfl, Below.refl _ _⟩
end Go.Proofs.YtpanffbgihhjnaaGreat

/- Walks: package pairingref25: Verify, proofs of status 1. -/
namespace Go.Proofs.YtpanffbgihhjnaaGreat
open Go.RowKit Pl
attribute [local go_sem ↓] Go.wp_at_zero Go.wp_at_succ

set_option maxRecDepth 100000 in
set_option maxHeartbeats 8000000 in
theorem rverify_1 (v1 v2 : Value) (p : LPd) (x : Prf) (K : Nat) (w : World) (h : LpM w v1 p) (h2 : PrfM w v2 x) (ok : p.Ok K) (hkx : RsL K x.x) (hky : RsL K x.y) (hkr : RsL K x.ray) (hK : 1 ≤ K) (hs : 1 + 1201 * (2 * K + 1) ≤ 8589934592) (hst : x.st = 1) (hz : lpErr p = 0) :
    Calls Tryz.prog 12 #[v1, v2] w fun e w' => e = .returned (.int .i64 (verQ p x)) ∧ Below w.heap.size w w' := by
  obtain ⟨A, n, c, A', N, c', A'', m, c'', rfl, hc, hv, hr⟩ := id h
  obtain ⟨B, lx, d, B', ly, d', B'', lr, d'', rfl, hxx, hxy, hxr, s1, s2⟩ := id h2
  rw [hst]
  obtain ⟨W, hW, hX, hbe0⟩ := box_lp w (.slice A n c) (.slice A' N c') (.slice A'' m c'')
  obtain ⟨W1, hW1, hY, hbe1⟩ := box_prf W (.int .i64 1) (.slice B lx d) (.slice B' ly d') (.slice B'' lr d'')
  have hX := hX.later hbe1
  have hbe := below_then hbe0 hbe1 hbe0.size
  have hsz : W.heap.size = w.heap.size + 1 := by rw [← hW]; simp
  rw [hsz] at hY
  obtain ⟨x0, x1, x2⟩ := hX.three
  obtain ⟨y0, y1, y2, y3⟩ := hY.four
  obtain ⟨m1, m2, m3⟩ := hv.len
  obtain ⟨r1, r2, r3⟩ := hr.len
  obtain ⟨k1, k2, k3⟩ := hc.len
  obtain ⟨lx1, lx2, lx3⟩ := hxx.len
  obtain ⟨ly1, ly2, ly3⟩ := hxy.len
  obtain ⟨lr1, lr2, lr3⟩ := hxr.len
  have HM1 := Lib.hid m1
  have HR1 := Lib.hid r1
  have HK1 := Lib.hid k1
  have HLX := Lib.hid lx1
  have HLY := Lib.hid ly1
  have HLR := Lib.hid lr1
  clear m1 r1 k1 lx1 ly1 lr1 hbe0 hbe1
  have HST := Lib.hid hst
  have HZ := Lib.hid hz
  have HOK := Lib.hid ok
  have HKX := Lib.hid hkx
  have HKY := Lib.hid hky
  have HKR := Lib.hid hkr
  have HS := Lib.hid hs
  have hK8 : K ≤ 34359738368 := by omega
  have hK9 : 1000 * K ≤ 8589934592 := by omega
  clear hst hz ok hkx hky hkr hs
  go_enter Tryz.func12, Tryz.ntmps12
  go_wp2_with fail
  clear hW hW1 hsz x0 x1 x2 y0 y1 y2 y3
  refine (rvalidate_any _ p K _ (h.below hbe) HOK.out hK8).mono ?_
  rw [HZ.out]
  rintro _ w1 ⟨rfl, hb1⟩
  have hX1 := hX.later hb1
  have hY1 := hY.later hb1
  have hbe1 := below_then hbe hb1 hbe.size
  obtain ⟨x0, x1, x2⟩ := hX1.three
  obtain ⟨y0, y1, y2, y3⟩ := hY1.four
  clear hX hY hbe hb1
  go_wp2_with fail
  have C0 := stab x0
  have C1 := stab x1
  have C2 := stab x2
  refine region_seq 8 [0, 1, 2, 3, 4, 5, 6, 7] (by kernel_rfl) (by kernel_rfl) ?_
  repeat ((first | (refine seq_takeP (v := ?_) rfl rfl rfl ?_ ?_; rotate_left; (· (intro _ hSw; go_simp; (try go_bits); (try with_reducible rfl)))) | (refine seq_take (v := ?_) rfl rfl rfl ?_ ?_; rotate_left; (· (intro _ hSw; go_simp; (try go_bits); (try with_reducible rfl)))) | refine seq_skip rfl rfl rfl ?_); (try simp only [Act.put, pu1, pu2, pu3, pu4, pu5, pu6]))
  refine seq_done ?_
  clear C0 C1 C2 x0 x1 x2 y0 y1 y2 y3
  replace hX1 := hX1.drew
  replace hY1 := hY1.drew
  replace hbe1 := hbe1.drew
  generalize w1.drew = wd at *
  obtain ⟨x0, x1, x2⟩ := hX1.three
  obtain ⟨y0, y1, y2, y3⟩ := hY1.four
  go_wp2_with fail
  have C0 := stab x0
  have C1 := stab x1
  have C2 := stab x2
  have D0 := stab y0
  have D1 := stab y1
  have D2 := stab y2
  have D3 := stab y3
  have hS0 := below_drew' wd
  clear x0 x1 x2 y0 y1 y2 y3
  refine region_seq 31 [0, 1, 2, 3, 4, 5, 6, 7, 8, 9, 10, 11, 12, 13, 14, 15, 16, 17, 18, 19, 20, 21, 22, 23, 24, 25, 26, 27, 28, 29, 30] (by kernel_rfl) (by kernel_rfl) ?_
  repeat ((first | (refine seq_takeP (v := ?_) rfl rfl rfl ?_ ?_; rotate_left; (· (intro _ hSw; go_simp; (try go_bits); (try with_reducible rfl)))) | (refine seq_take (v := ?_) rfl rfl rfl ?_ ?_; rotate_left; (· (intro _ hSw; go_simp; (try go_bits); (try with_reducible rfl)))) | refine seq_skip rfl rfl rfl ?_ | refine seq_skipc rfl rfl rfl (by assumption) ?_); (try simp only [Act.put, pu1, pu2, pu3, pu4, pu5, pu6]))
  refine seq_step rfl rfl (fun KR hKR => ?_)
  go_simp
  with_reducible refine (rlength_t (N : Int) _).mono ?_
  rintro _ y0 ⟨rfl, hb0⟩
  have hS1 := below_then hS0 hb0 hS0.size
  refine hKR.out _ _ (Or.inr hS1) ?_
  clear hKR KR
  (try simp only [Act.put, pu1, pu2, pu3, pu4, pu5, pu6])
  by_cases h0 : lx = N
  rotate_left
  · have e0 : ((lx : Int) != (N : Int)) = true := by simp; omega
    have HR : Hid (verQ p x = 12) := Lib.hid (verQ_3 HZ.out (by rw [HST.out]; decide) (shB_no1 (p := p) (x := x) (by unfold shX; rw [HST.out, ← HLX.out, ← HM1.out]; simpa using h0)))
    clear h0
    repeat ((first | (refine seq_takeP (v := ?_) rfl rfl rfl ?_ ?_; rotate_left; (· (intro _ hSw; go_simp; (try go_bits); (try with_reducible rfl)))) | (refine seq_take (v := ?_) rfl rfl rfl ?_ ?_; rotate_left; (· (intro _ hSw; go_simp; (try go_bits); (try with_reducible rfl)))) | refine seq_skip rfl rfl rfl ?_ | refine seq_skipc rfl rfl rfl (by assumption) ?_); (try simp only [Act.put, pu1, pu2, pu3, pu4, pu5, pu6]))
    refine seq_done ?_
    have bfin := below_then hbe1 hS1 hbe1.size
    clear C0 C1 C2 D0 D1 D2 D3
    go_wp2
    go_ret
    exact ⟨ret_int' HR.out, bfin⟩
  have e0 : ((lx : Int) != (N : Int)) = false := by simp; omega
  have H0 := Lib.hid h0
  clear h0
  repeat ((first | (refine seq_takeP (v := ?_) rfl rfl rfl ?_ ?_; rotate_left; (· (intro _ hSw; go_simp; (try go_bits); (try with_reducible rfl)))) | (refine seq_take (v := ?_) rfl rfl rfl ?_ ?_; rotate_left; (· (intro _ hSw; go_simp; (try go_bits); (try with_reducible rfl)))) | refine seq_skip rfl rfl rfl ?_ | refine seq_skipc rfl rfl rfl (by assumption) ?_); (try simp only [Act.put, pu1, pu2, pu3, pu4, pu5, pu6]))
  refine seq_step rfl rfl (fun KR hKR => ?_)
  go_simp
  with_reducible refine (rlength_t (m : Int) _).mono ?_
  rintro _ y1 ⟨rfl, hb1⟩
  have hS2 := below_then hS1 hb1 hS1.size
  refine hKR.out _ _ (Or.inr hS2) ?_
  clear hKR KR
  (try simp only [Act.put, pu1, pu2, pu3, pu4, pu5, pu6])
  by_cases h1 : ly = m
  rotate_left
  · have e1 : ((ly : Int) != (m : Int)) = true := by simp; omega
    have HR : Hid (verQ p x = 12) := Lib.hid (verQ_3 HZ.out (by rw [HST.out]; decide) (shB_no2 (p := p) (x := x) (by unfold shY; rw [HST.out, ← HLY.out, ← HR1.out]; simpa using h1)))
    clear h1
    repeat ((first | (refine seq_takeP (v := ?_) rfl rfl rfl ?_ ?_; rotate_left; (· (intro _ hSw; go_simp; (try go_bits); (try with_reducible rfl)))) | (refine seq_take (v := ?_) rfl rfl rfl ?_ ?_; rotate_left; (· (intro _ hSw; go_simp; (try go_bits); (try with_reducible rfl)))) | refine seq_skip rfl rfl rfl ?_ | refine seq_skipc rfl rfl rfl (by assumption) ?_); (try simp only [Act.put, pu1, pu2, pu3, pu4, pu5, pu6]))
    refine seq_done ?_
    have bfin := below_then hbe1 hS2 hbe1.size
    clear C0 C1 C2 D0 D1 D2 D3
    go_wp2
    go_ret
    exact ⟨ret_int' HR.out, bfin⟩
  have e1 : ((ly : Int) != (m : Int)) = false := by simp; omega
  have H1 := Lib.hid h1
  clear h1
  repeat ((first | (refine seq_takeP (v := ?_) rfl rfl rfl ?_ ?_; rotate_left; (· (intro _ hSw; go_simp; (try go_bits); (try with_reducible rfl)))) | (refine seq_take (v := ?_) rfl rfl rfl ?_ ?_; rotate_left; (· (intro _ hSw; go_simp; (try go_bits); (try with_reducible rfl)))) | refine seq_skip rfl rfl rfl ?_ | refine seq_skipc rfl rfl rfl (by assumption) ?_); (try simp only [Act.put, pu1, pu2, pu3, pu4, pu5, pu6]))
  refine seq_step rfl rfl (fun KR hKR => ?_)
  go_simp
  with_reducible refine (rlength_f (N : Int) _).mono ?_
  rintro _ y2 ⟨rfl, hb2⟩
  have hS3 := below_then hS2 hb2 hS2.size
  refine hKR.out _ _ (Or.inr hS3) ?_
  clear hKR KR
  (try simp only [Act.put, pu1, pu2, pu3, pu4, pu5, pu6])
  by_cases h2 : lr = 0
  rotate_left
  · have e2 : ((lr : Int) != (0 : Int)) = true := by simp; omega
    have HR : Hid (verQ p x = 12) := Lib.hid (verQ_3 HZ.out (by rw [HST.out]; decide) (shB_no3 (p := p) (x := x) (by unfold shR; rw [HST.out, ← HLR.out, ← HM1.out]; simpa using h2)))
    clear h2
    repeat ((first | (refine seq_takeP (v := ?_) rfl rfl rfl ?_ ?_; rotate_left; (· (intro _ hSw; go_simp; (try go_bits); (try with_reducible rfl)))) | (refine seq_take (v := ?_) rfl rfl rfl ?_ ?_; rotate_left; (· (intro _ hSw; go_simp; (try go_bits); (try with_reducible rfl)))) | refine seq_skip rfl rfl rfl ?_ | refine seq_skipc rfl rfl rfl (by assumption) ?_); (try simp only [Act.put, pu1, pu2, pu3, pu4, pu5, pu6]))
    refine seq_done ?_
    have bfin := below_then hbe1 hS3 hbe1.size
    clear C0 C1 C2 D0 D1 D2 D3
    go_wp2
    go_ret
    exact ⟨ret_int' HR.out, bfin⟩
  have e2 : ((lr : Int) != (0 : Int)) = false := by simp; omega
  have H2 := Lib.hid h2
  clear h2
  repeat ((first | (refine seq_takeP (v := ?_) rfl rfl rfl ?_ ?_; rotate_left; (· (intro _ hSw; go_simp; (try go_bits); (try with_reducible rfl)))) | (refine seq_take (v := ?_) rfl rfl rfl ?_ ?_; rotate_left; (· (intro _ hSw; go_simp; (try go_bits); (try with_reducible rfl)))) | refine seq_skip rfl rfl rfl ?_ | refine seq_skipc rfl rfl rfl (by assumption) ?_); (try simp only [Act.put, pu1, pu2, pu3, pu4, pu5, pu6]))
  refine seq_done ?_
  clear C0 C1 C2 D0 D1 D2 D3
  have hX2' := hX1.later hS3
  have hY2' := hY1.later hS3
  have hbe2' := below_then hbe1 hS3 hbe1.size
  have HSH : Hid (shB p x = true) := Lib.hid (shB_yes (by unfold shX; rw [HST.out, ← HLX.out, ← HM1.out]; simpa using H0.out) (by unfold shY; rw [HST.out, ← HLY.out, ← HR1.out]; simpa using H1.out) (by unfold shR; rw [HST.out, ← HLR.out, ← HM1.out]; simpa using H2.out))
  clear hX1 hY1 hbe1 hS0 hS1 hS2 hS3 hb0 hb1 hb2 e0 e1 e2
  obtain ⟨x0, x1, x2⟩ := hX2'.three
  obtain ⟨y0', y1', y2', y3'⟩ := hY2'.four
  have HS64 : Hid (1 + 64 * (2 * K + 1) ≤ 8589934592) := Lib.hid (by have := HS.out; omega)
  obtain ⟨q1, q2, q3, _, _⟩ := lpErr_zero HZ.out
  have HQ3 := Lib.hid q3
  clear q3
  go_wp2_with fail
  refine (rlowerBound_any _ _ p x.y K _ (h.below hbe2') (hxy.below hbe2') HOK.out HKY.out hK HS64.out).mono ?_
  rintro _ w2 ⟨vl, rfl, el, hbl⟩
  obtain ⟨Bl, ll, dl, Bl', ll', dl', rfl, _, _⟩ := id el
  generalize hLF : lowF p x.y = LF at *
  have HLF := Lib.hid hLF
  clear hLF
  obtain ⟨W3, hW3, hL, hbn⟩ := boxF1 w2 (.bool LF.num.neg) (.slice Bl ll dl) (.bool LF.den.neg) (.slice Bl' ll' dl')
  have hbl3 := below_then hbl hbn hbl.size
  have hX3 := hX2'.later hbl3
  have hY3 := hY2'.later hbl3
  have hbe2 := below_then hbe2' hbl3 hbe2'.size
  have hFl := el.below hbn
  clear x0 x1 x2 y0' y1' y2' y3' hX2' hY2' hbe2' hbl hbn hbl3 el
  obtain ⟨x0, x1, x2⟩ := hX3.three
  obtain ⟨y0, y1, y2, y3⟩ := hY3.four
  obtain ⟨l0, l1, l2, l3⟩ := hL.four
  go_wp2_with fail
  clear hW3
  have C0 := stab x0
  have C1 := stab x1
  have C2 := stab x2
  have D0 := stab y0
  have D1 := stab y1
  have D2 := stab y2
  have D3 := stab y3
  have E0 := stab l0
  have E1 := stab l1
  have E2 := stab l2
  have E3 := stab l3
  have hS0 := below_drew' W3
  clear x0 x1 x2 y0 y1 y2 y3 l0 l1 l2 l3
  have HSC : Hid (1 + p.cols.length * (2 * K + 1) ≤ 8589934592) := Lib.hid (by have := HS.out; have := Nat.mul_le_mul_right (2 * K + 1) q2; omega)
  refine region_seq 18 [0, 1, 2, 3, 4, 5, 6, 7, 8, 9, 10, 11, 12, 13, 14, 15, 16, 17] (by kernel_rfl) (by kernel_rfl) ?_
  repeat ((first | (refine seq_takeP (v := ?_) rfl rfl rfl ?_ ?_; rotate_left; (· (intro _ hSw; go_simp; (try go_bits); (try with_reducible rfl)))) | (refine seq_take (v := ?_) rfl rfl rfl ?_ ?_; rotate_left; (· (intro _ hSw; go_simp; (try go_bits); (try with_reducible rfl)))) | refine seq_skip rfl rfl rfl ?_ | refine seq_skipc rfl rfl rfl (by assumption) ?_); (try simp only [Act.put, pu1, pu2, pu3, pu4, pu5, pu6]))
  refine seq_step rfl rfl (fun KR hKR => ?_)
  go_simp
  with_reducible refine (risFeasible_any _ _ p x.x K _ ((h.below hbe2).below hS0) ((hxx.below hbe2).below hS0) HOK.out HKX.out hK HSC.out (by omega)).mono ?_
  rintro _ w4 ⟨rfl, hb4⟩
  have hS4 := below_then hS0 hb4 hS0.size
  refine hKR.out _ _ (Or.inr hS4) ?_
  clear hKR KR
  (try simp only [Act.put, pu1, pu2, pu3, pu4, pu5, pu6])
  cases hfb : feasB p x.x
  · have HR := Lib.hid (verQ_4 HZ.out (by rw [HST.out]; decide) HSH.out (by unfold holdB; rw [if_pos HST.out]; simp [hold1, hfb]))
    clear hfb
    repeat ((first | (refine seq_takeP (v := ?_) rfl rfl rfl ?_ ?_; rotate_left; (· (intro _ hSw; go_simp; (try go_bits); (try with_reducible rfl)))) | (refine seq_take (v := ?_) rfl rfl rfl ?_ ?_; rotate_left; (· (intro _ hSw; go_simp; (try go_bits); (try with_reducible rfl)))) | refine seq_skip rfl rfl rfl ?_ | refine seq_skipc rfl rfl rfl (by assumption) ?_); (try simp only [Act.put, pu1, pu2, pu3, pu4, pu5, pu6]))
    refine seq_done ?_
    have bfin := below_then hbe2 hS4 hbe2.size
    clear C0 C1 C2 D0 D1 D2 D3 E0 E1 E2 E3
    go_wp2
    go_ret
    exact ⟨ret_int' HR.out, bfin⟩
  have HFB := Lib.hid hfb
  clear hfb
  cases hlb : lowB p x.y
  · have HR := Lib.hid (verQ_4 HZ.out (by rw [HST.out]; decide) HSH.out (by unfold holdB; rw [if_pos HST.out]; simp [hold1, hlb]))
    clear hlb
    repeat ((first | (refine seq_takeP (v := ?_) rfl rfl rfl ?_ ?_; rotate_left; (· (intro _ hSw; go_simp; (try go_bits); (try with_reducible rfl)))) | (refine seq_take (v := ?_) rfl rfl rfl ?_ ?_; rotate_left; (· (intro _ hSw; go_simp; (try go_bits); (try with_reducible rfl)))) | refine seq_skip rfl rfl rfl ?_ | refine seq_skipc rfl rfl rfl (by assumption) ?_); (try simp only [Act.put, pu1, pu2, pu3, pu4, pu5, pu6]))
    refine seq_done ?_
    have bfin := below_then hbe2 hS4 hbe2.size
    clear C0 C1 C2 D0 D1 D2 D3 E0 E1 E2 E3
    go_wp2
    go_ret
    exact ⟨ret_int' HR.out, bfin⟩
  have HLB := Lib.hid hlb
  have HLQ : Hid (LF.q = dotQ x.y p.right p.right.length) := Lib.hid (by rw [← HLF.out, lowF_yes hlb, canF_q])
  have hkR : RsL K p.right := HOK.out.2.1
  have hkC : RsL K p.cost := HOK.out.1
  have HSL : Hid (ShH LF) := Lib.hid (by rw [← HLF.out, lowF_yes hlb]; exact Sz.shH (Sz_dot HKY.out hkR hK) (by have := HS64.out; have := Nat.mul_le_mul_right (2 * K + 1) q1; omega))
  have HMN : Hid (min p.cost.length x.x.length = p.cols.length) := Lib.hid (by have h9 := (shB_true HSH.out).1; unfold shX at h9; rw [HST.out, if_neg (by decide)] at h9; rw [HQ3.out, h9, Nat.min_self])
  have HSP : Hid (ShH (canF (dotQ p.cost x.x p.cols.length))) := Lib.hid (Sz.shH (Sz_dot hkC HKX.out hK) HSC.out)
  clear hlb
  repeat ((first | (refine seq_takeP (v := ?_) rfl rfl rfl ?_ ?_; rotate_left; (· (intro _ hSw; go_simp; (try go_bits); (try with_reducible rfl)))) | (refine seq_take (v := ?_) rfl rfl rfl ?_ ?_; rotate_left; (· (intro _ hSw; go_simp; (try go_bits); (try with_reducible rfl)))) | refine seq_skip rfl rfl rfl ?_ | refine seq_skipc rfl rfl rfl (by assumption) ?_); (try simp only [Act.put, pu1, pu2, pu3, pu4, pu5, pu6]))
  refine seq_step rfl rfl (fun KR hKR => ?_)
  go_simp
  with_reducible refine (rdot_own _ _ p.cost x.x K _ ((hc.below hbe2).below hS4) ((hxx.below hbe2).below hS4) hK hkC HKX.out (by rw [HMN.out]; have := HSC.out; omega) (by omega)).mono ?_
  rw [HMN.out]
  rintro _ w5 ⟨v5, rfl, e5, hb5⟩
  have hS5 := below_then hS4 hb5 hS4.size
  refine hKR.out _ _ (Or.inr hS5) ?_
  clear hKR KR
  (try simp only [Act.put, pu1, pu2, pu3, pu4, pu5, pu6])
  repeat ((first | (refine seq_takeP (v := ?_) rfl rfl rfl ?_ ?_; rotate_left; (· (intro _ hSw; go_simp; (try go_bits); (try with_reducible rfl)))) | (refine seq_take (v := ?_) rfl rfl rfl ?_ ?_; rotate_left; (· (intro _ hSw; go_simp; (try go_bits); (try with_reducible rfl)))) | refine seq_skip rfl rfl rfl ?_ | refine seq_skipc rfl rfl rfl (by assumption) ?_); (try simp only [Act.put, pu1, pu2, pu3, pu4, pu5, pu6]))
  refine seq_step rfl rfl (fun KR hKR => ?_)
  go_simp
  with_reducible refine (rcompareF_any _ _ LF _ _ (hFl.below hS5) e5 HSL.out HSP.out).mono ?_
  rw [canF_q, HLQ.out]
  generalize hsD : qs (dotQ x.y p.right p.right.length - dotQ p.cost x.x p.cols.length) = sD
  have HSG := Lib.hid hsD
  clear hsD
  rintro _ w6 ⟨rfl, hb6⟩
  have hS6 := below_then hS5 hb6 hS5.size
  refine hKR.out _ _ (Or.inr hS6) ?_
  clear hKR KR
  (try simp only [Act.put, pu1, pu2, pu3, pu4, pu5, pu6])
  repeat ((first | (refine seq_takeP (v := ?_) rfl rfl rfl ?_ ?_; rotate_left; (· (intro _ hSw; go_simp; (try go_bits); (try with_reducible rfl)))) | (refine seq_take (v := ?_) rfl rfl rfl ?_ ?_; rotate_left; (· (intro _ hSw; go_simp; (try go_bits); (try with_reducible rfl)))) | refine seq_skip rfl rfl rfl ?_ | refine seq_skipc rfl rfl rfl (by assumption) ?_); (try simp only [Act.put, pu1, pu2, pu3, pu4, pu5, pu6]))
  refine seq_done ?_
  by_cases hz9 : sD = 0
  · have hz9' : (sD == 0) = true := by simpa using hz9
    have HR := Lib.hid (verQ_5 HZ.out (by rw [HST.out]; decide) HSH.out (by unfold holdB; rw [if_pos HST.out]; simp [hold1, HLB.out, HFB.out, HSG.out, hz9]))
    clear hz9
    have bfin := below_then hbe2 hS6 hbe2.size
    clear C0 C1 C2 D0 D1 D2 D3 E0 E1 E2 E3
    go_wp2
    go_ret
    exact ⟨ret_int' HR.out, bfin⟩
  have hz9' : (sD == 0) = false := by simpa using hz9
  have HR := Lib.hid (verQ_4 HZ.out (by rw [HST.out]; decide) HSH.out (by unfold holdB; rw [if_pos HST.out]; simp [hold1, HSG.out, hz9]))
  clear hz9
  have bfin := below_then hbe2 hS6 hbe2.size
  clear C0 C1 C2 D0 D1 D2 D3 E0 E1 E2 E3
  go_wp2
  go_ret
  exact ⟨ret_int' HR.out, bfin⟩
end Go.Proofs.YtpanffbgihhjnaaGreat

/- Walks: package pairingref25: Verify, proofs of status 2. -/
namespace Go.Proofs.YtpanffbgihhjnaaGreat
open Go.RowKit Pl
attribute [local go_sem ↓] Go.wp_at_zero Go.wp_at_succ

set_option maxRecDepth 100000 in
set_option maxHeartbeats 8000000 in
theorem rverify_2 (v1 v2 : Value) (p : LPd) (x : Prf) (K : Nat) (w : World) (h : LpM w v1 p) (h2 : PrfM w v2 x) (ok : p.Ok K) (hkx : RsL K x.x) (hky : RsL K x.y) (hkr : RsL K x.ray) (hK : 1 ≤ K) (hs : 1 + 1201 * (2 * K + 1) ≤ 8589934592) (hst : x.st = 2) (hz : lpErr p = 0) :
    Calls Tryz.prog 12 #[v1, v2] w fun e w' => e = .returned (.int .i64 (verQ p x)) ∧ Below w.heap.size w w' := by
  obtain ⟨A, n, c, A', N, c', A'', m, c'', rfl, hc, hv, hr⟩ := id h
  obtain ⟨B, lx, d, B', ly, d', B'', lr, d'', rfl, hxx, hxy, hxr, s1, s2⟩ := id h2
  rw [hst]
  obtain ⟨W, hW, hX, hbe0⟩ := box_lp w (.slice A n c) (.slice A' N c') (.slice A'' m c'')
  obtain ⟨W1, hW1, hY, hbe1⟩ := box_prf W (.int .i64 2) (.slice B lx d) (.slice B' ly d') (.slice B'' lr d'')
  have hX := hX.later hbe1
  have hbe := below_then hbe0 hbe1 hbe0.size
  have hsz : W.heap.size = w.heap.size + 1 := by rw [← hW]; simp
  rw [hsz] at hY
  obtain ⟨x0, x1, x2⟩ := hX.three
  obtain ⟨y0, y1, y2, y3⟩ := hY.four
  obtain ⟨m1, m2, m3⟩ := hv.len
  obtain ⟨r1, r2, r3⟩ := hr.len
  obtain ⟨k1, k2, k3⟩ := hc.len
  obtain ⟨lx1, lx2, lx3⟩ := hxx.len
  obtain ⟨ly1, ly2, ly3⟩ := hxy.len
  obtain ⟨lr1, lr2, lr3⟩ := hxr.len
  have HM1 := Lib.hid m1
  have HR1 := Lib.hid r1
  have HK1 := Lib.hid k1
  have HLX := Lib.hid lx1
  have HLY := Lib.hid ly1
  have HLR := Lib.hid lr1
  clear m1 r1 k1 lx1 ly1 lr1 hbe0 hbe1
  have HST := Lib.hid hst
  have HZ := Lib.hid hz
  have HOK := Lib.hid ok
  have HKX := Lib.hid hkx
  have HKY := Lib.hid hky
  have HKR := Lib.hid hkr
  have HS := Lib.hid hs
  have hK8 : K ≤ 34359738368 := by omega
  have hK9 : 1000 * K ≤ 8589934592 := by omega
  clear hst hz ok hkx hky hkr hs
  go_enter Tryz.func12, Tryz.ntmps12
  go_wp2_with fail
  clear hW hW1 hsz x0 x1 x2 y0 y1 y2 y3
  refine (rvalidate_any _ p K _ (h.below hbe) HOK.out hK8).mono ?_
  rw [HZ.out]
  rintro _ w1 ⟨rfl, hb1⟩
  have hX1 := hX.later hb1
  have hY1 := hY.later hb1
  have hbe1 := below_then hbe hb1 hbe.size
  obtain ⟨x0, x1, x2⟩ := hX1.three
  obtain ⟨y0, y1, y2, y3⟩ := hY1.four
  clear hX hY hbe hb1
  go_wp2_with fail
  have C0 := stab x0
  have C1 := stab x1
  have C2 := stab x2
  refine region_seq 8 [0, 1, 2, 3, 4, 5, 6, 7] (by kernel_rfl) (by kernel_rfl) ?_
  repeat ((first | (refine seq_takeP (v := ?_) rfl rfl rfl ?_ ?_; rotate_left; (· (intro _ hSw; go_simp; (try go_bits); (try with_reducible rfl)))) | (refine seq_take (v := ?_) rfl rfl rfl ?_ ?_; rotate_left; (· (intro _ hSw; go_simp; (try go_bits); (try with_reducible rfl)))) | refine seq_skip rfl rfl rfl ?_); (try simp only [Act.put, pu1, pu2, pu3, pu4, pu5, pu6]))
  refine seq_done ?_
  clear C0 C1 C2 x0 x1 x2 y0 y1 y2 y3
  replace hX1 := hX1.drew
  replace hY1 := hY1.drew
  replace hbe1 := hbe1.drew
  generalize w1.drew = wd at *
  obtain ⟨x0, x1, x2⟩ := hX1.three
  obtain ⟨y0, y1, y2, y3⟩ := hY1.four
  go_wp2_with fail
  have C0 := stab x0
  have C1 := stab x1
  have C2 := stab x2
  have D0 := stab y0
  have D1 := stab y1
  have D2 := stab y2
  have D3 := stab y3
  have hS0 := below_drew' wd
  clear x0 x1 x2 y0 y1 y2 y3
  refine region_seq 31 [0, 1, 2, 3, 4, 5, 6, 7, 8, 9, 10, 11, 12, 13, 14, 15, 16, 17, 18, 19, 20, 21, 22, 23, 24, 25, 26, 27, 28, 29, 30] (by kernel_rfl) (by kernel_rfl) ?_
  repeat ((first | (refine seq_takeP (v := ?_) rfl rfl rfl ?_ ?_; rotate_left; (· (intro _ hSw; go_simp; (try go_bits); (try with_reducible rfl)))) | (refine seq_take (v := ?_) rfl rfl rfl ?_ ?_; rotate_left; (· (intro _ hSw; go_simp; (try go_bits); (try with_reducible rfl)))) | refine seq_skip rfl rfl rfl ?_ | refine seq_skipc rfl rfl rfl (by assumption) ?_); (try simp only [Act.put, pu1, pu2, pu3, pu4, pu5, pu6]))
  refine seq_step rfl rfl (fun KR hKR => ?_)
  go_simp
  with_reducible refine (rlength_f (N : Int) _).mono ?_
  rintro _ y0 ⟨rfl, hb0⟩
  have hS1 := below_then hS0 hb0 hS0.size
  refine hKR.out _ _ (Or.inr hS1) ?_
  clear hKR KR
  (try simp only [Act.put, pu1, pu2, pu3, pu4, pu5, pu6])
  by_cases h0 : lx = 0
  rotate_left
  · have e0 : ((lx : Int) != (0 : Int)) = true := by simp; omega
    have HR : Hid (verQ p x = 12) := Lib.hid (verQ_3 HZ.out (by rw [HST.out]; decide) (shB_no1 (p := p) (x := x) (by unfold shX; rw [HST.out, ← HLX.out, ← HM1.out]; simpa using h0)))
    clear h0
    repeat ((first | (refine seq_takeP (v := ?_) rfl rfl rfl ?_ ?_; rotate_left; (· (intro _ hSw; go_simp; (try go_bits); (try with_reducible rfl)))) | (refine seq_take (v := ?_) rfl rfl rfl ?_ ?_; rotate_left; (· (intro _ hSw; go_simp; (try go_bits); (try with_reducible rfl)))) | refine seq_skip rfl rfl rfl ?_ | refine seq_skipc rfl rfl rfl (by assumption) ?_); (try simp only [Act.put, pu1, pu2, pu3, pu4, pu5, pu6]))
    refine seq_done ?_
    have bfin := below_then hbe1 hS1 hbe1.size
    clear C0 C1 C2 D0 D1 D2 D3
    go_wp2
    go_ret
    exact ⟨ret_int' HR.out, bfin⟩
  have e0 : ((lx : Int) != (0 : Int)) = false := by simp; omega
  have H0 := Lib.hid h0
  clear h0
  repeat ((first | (refine seq_takeP (v := ?_) rfl rfl rfl ?_ ?_; rotate_left; (· (intro _ hSw; go_simp; (try go_bits); (try with_reducible rfl)))) | (refine seq_take (v := ?_) rfl rfl rfl ?_ ?_; rotate_left; (· (intro _ hSw; go_simp; (try go_bits); (try with_reducible rfl)))) | refine seq_skip rfl rfl rfl ?_ | refine seq_skipc rfl rfl rfl (by assumption) ?_); (try simp only [Act.put, pu1, pu2, pu3, pu4, pu5, pu6]))
  refine seq_step rfl rfl (fun KR hKR => ?_)
  go_simp
  with_reducible refine (rlength_t (m : Int) _).mono ?_
  rintro _ y1 ⟨rfl, hb1⟩
  have hS2 := below_then hS1 hb1 hS1.size
  refine hKR.out _ _ (Or.inr hS2) ?_
  clear hKR KR
  (try simp only [Act.put, pu1, pu2, pu3, pu4, pu5, pu6])
  by_cases h1 : ly = m
  rotate_left
  · have e1 : ((ly : Int) != (m : Int)) = true := by simp; omega
    have HR : Hid (verQ p x = 12) := Lib.hid (verQ_3 HZ.out (by rw [HST.out]; decide) (shB_no2 (p := p) (x := x) (by unfold shY; rw [HST.out, ← HLY.out, ← HR1.out]; simpa using h1)))
    clear h1
    repeat ((first | (refine seq_takeP (v := ?_) rfl rfl rfl ?_ ?_; rotate_left; (· (intro _ hSw; go_simp; (try go_bits); (try with_reducible rfl)))) | (refine seq_take (v := ?_) rfl rfl rfl ?_ ?_; rotate_left; (· (intro _ hSw; go_simp; (try go_bits); (try with_reducible rfl)))) | refine seq_skip rfl rfl rfl ?_ | refine seq_skipc rfl rfl rfl (by assumption) ?_); (try simp only [Act.put, pu1, pu2, pu3, pu4, pu5, pu6]))
    refine seq_done ?_
    have bfin := below_then hbe1 hS2 hbe1.size
    clear C0 C1 C2 D0 D1 D2 D3
    go_wp2
    go_ret
    exact ⟨ret_int' HR.out, bfin⟩
  have e1 : ((ly : Int) != (m : Int)) = false := by simp; omega
  have H1 := Lib.hid h1
  clear h1
  repeat ((first | (refine seq_takeP (v := ?_) rfl rfl rfl ?_ ?_; rotate_left; (· (intro _ hSw; go_simp; (try go_bits); (try with_reducible rfl)))) | (refine seq_take (v := ?_) rfl rfl rfl ?_ ?_; rotate_left; (· (intro _ hSw; go_simp; (try go_bits); (try with_reducible rfl)))) | refine seq_skip rfl rfl rfl ?_ | refine seq_skipc rfl rfl rfl (by assumption) ?_); (try simp only [Act.put, pu1, pu2, pu3, pu4, pu5, pu6]))
  refine seq_step rfl rfl (fun KR hKR => ?_)
  go_simp
  with_reducible refine (rlength_f (N : Int) _).mono ?_
  rintro _ y2 ⟨rfl, hb2⟩
  have hS3 := below_then hS2 hb2 hS2.size
  refine hKR.out _ _ (Or.inr hS3) ?_
  clear hKR KR
  (try simp only [Act.put, pu1, pu2, pu3, pu4, pu5, pu6])
  by_cases h2 : lr = 0
  rotate_left
  · have e2 : ((lr : Int) != (0 : Int)) = true := by simp; omega
    have HR : Hid (verQ p x = 12) := Lib.hid (verQ_3 HZ.out (by rw [HST.out]; decide) (shB_no3 (p := p) (x := x) (by unfold shR; rw [HST.out, ← HLR.out, ← HM1.out]; simpa using h2)))
    clear h2
    repeat ((first | (refine seq_takeP (v := ?_) rfl rfl rfl ?_ ?_; rotate_left; (· (intro _ hSw; go_simp; (try go_bits); (try with_reducible rfl)))) | (refine seq_take (v := ?_) rfl rfl rfl ?_ ?_; rotate_left; (· (intro _ hSw; go_simp; (try go_bits); (try with_reducible rfl)))) | refine seq_skip rfl rfl rfl ?_ | refine seq_skipc rfl rfl rfl (by assumption) ?_); (try simp only [Act.put, pu1, pu2, pu3, pu4, pu5, pu6]))
    refine seq_done ?_
    have bfin := below_then hbe1 hS3 hbe1.size
    clear C0 C1 C2 D0 D1 D2 D3
    go_wp2
    go_ret
    exact ⟨ret_int' HR.out, bfin⟩
  have e2 : ((lr : Int) != (0 : Int)) = false := by simp; omega
  have H2 := Lib.hid h2
  clear h2
  repeat ((first | (refine seq_takeP (v := ?_) rfl rfl rfl ?_ ?_; rotate_left; (· (intro _ hSw; go_simp; (try go_bits); (try with_reducible rfl)))) | (refine seq_take (v := ?_) rfl rfl rfl ?_ ?_; rotate_left; (· (intro _ hSw; go_simp; (try go_bits); (try with_reducible rfl)))) | refine seq_skip rfl rfl rfl ?_ | refine seq_skipc rfl rfl rfl (by assumption) ?_); (try simp only [Act.put, pu1, pu2, pu3, pu4, pu5, pu6]))
  refine seq_done ?_
  clear C0 C1 C2 D0 D1 D2 D3
  have hX2' := hX1.later hS3
  have hY2' := hY1.later hS3
  have hbe2' := below_then hbe1 hS3 hbe1.size
  have HSH : Hid (shB p x = true) := Lib.hid (shB_yes (by unfold shX; rw [HST.out, ← HLX.out, ← HM1.out]; simpa using H0.out) (by unfold shY; rw [HST.out, ← HLY.out, ← HR1.out]; simpa using H1.out) (by unfold shR; rw [HST.out, ← HLR.out, ← HM1.out]; simpa using H2.out))
  clear hX1 hY1 hbe1 hS0 hS1 hS2 hS3 hb0 hb1 hb2 e0 e1 e2
  obtain ⟨x0, x1, x2⟩ := hX2'.three
  obtain ⟨y0', y1', y2', y3'⟩ := hY2'.four
  have HS64 : Hid (1 + 64 * (2 * K + 1) ≤ 8589934592) := Lib.hid (by have := HS.out; omega)
  obtain ⟨q1, q2, q3, q4, _⟩ := lpErr_zero HZ.out
  have HIN := Lib.hid q4
  have HQ1 := Lib.hid q1
  have HYM : Hid (x.y.length = p.right.length) := Lib.hid (by have h9 := (shB_true HSH.out).2.1; unfold shY at h9; rw [HST.out, if_neg (by decide)] at h9; exact h9)
  have hkR : RsL K p.right := HOK.out.2.1
  have HKRR := Lib.hid hkR
  clear hkR
  clear q3 q4
  go_wp2
  clear x0 x1 x2 y0' y1' y2' y3'
  go_loopw [8, 11] (fun b i wr => ∃ (j : Nat) (bb : Bool), j ≤ N ∧ b = .bool bb ∧ i = .int .i64 j ∧ Below w.heap.size w wr ∧ Bk wr w.heap.size 26 [.slice A n c, .slice A' N c', .slice A'' m c''] ∧ Bk wr (w.heap.size + 1) 29 [.int .i64 2, .slice B lx d, .slice B' ly d', .slice B'' lr d''] ∧ (bb = true ↔ nonTo p x.y j)) (fun _ i _ => N - (intOf i).toNat)
  case atStart => exact ⟨0, true, by omega, rfl, rfl, hbe2', hX2', hY2', ⟨fun _ => nonTo_zero _ _, fun _ => rfl⟩⟩
  case round =>
    clear hbe2' hX2' hY2'
    obtain ⟨j, bb, hj, rfl, rfl, hbe2, hX, hY, hbb⟩ := hrel
    have HBB := Lib.hid hbb
    clear hbb
    obtain ⟨x0, x1, x2⟩ := hX.three
    obtain ⟨y0, y1, y2, y3⟩ := hY.four
    rcases Nat.lt_or_ge j N with hjl | hjl
    · have hjI : (j : Int) < N := by omega
      have HJN : Hid ((j : Int) < p.cols.length) := Lib.hid (by rw [← HM1.out]; omega)
      go_wp2_with fail
      have C0 := stab x0
      have C1 := stab x1
      have C2 := stab x2
      have D0 := stab y0
      have D1 := stab y1
      have D2 := stab y2
      have D3 := stab y3
      have hS0 := below_drew' wr
      clear x0 x1 x2 y0 y1 y2 y3
      cases bb
      · have HN : Hid (false = true ↔ nonTo p x.y (j + 1)) := Lib.hid ⟨fun e => (nomatch e), fun e => HBB.out.2 fun i hi => e i (by omega)⟩
        refine region_seq 12 [0, 1, 2, 3, 4, 5, 6, 7, 8, 9, 10, 11] (by kernel_rfl) (by kernel_rfl) ?_
        repeat ((first | (refine seq_takeP (v := ?_) rfl rfl rfl ?_ ?_; rotate_left; (· (intro _ hSw; go_simp; (try go_bits); (try with_reducible rfl)))) | (refine seq_take (v := ?_) rfl rfl rfl ?_ ?_; rotate_left; (· (intro _ hSw; go_simp; (try go_bits); (try with_reducible rfl)))) | refine seq_skip rfl rfl rfl ?_ | refine seq_skipc rfl rfl rfl (by assumption) ?_); (try simp only [Act.put, pu1, pu2, pu3, pu4, pu5, pu6]))
        refine seq_done ?_
        clear C0 C1 C2 D0 D1 D2 D3
        go_wp2
        go_roundw
        case rel => exact ⟨j + 1, false, by omega, rfl, by go_num, hbe2.drew, hX.drew, hY.drew, HN.out⟩
        case measure => simp [intOf]; omega
      have HNT := Lib.hid (HBB.out.1 rfl)
      have HCB : Hid (RsL K (canL p.right.length (p.col (j : Int)))) := Lib.hid (canL_rs fun i _ => LPd.Sz_col HOK.out hK (j : Int) i)
      have HMN : Hid (min x.y.length (canL p.right.length (p.col (j : Int))).length = p.right.length) := Lib.hid (by rw [canL_length, HYM.out, Nat.min_self])
      have HSD : Hid (1 + p.right.length * (2 * K + 1) ≤ 8589934592) := Lib.hid (by have := HS64.out; have := Nat.mul_le_mul_right (2 * K + 1) HQ1.out; omega)
      have HSH2 : Hid ((canF (dotC x.y (p.col (j : Int)) p.right.length)).Sh) := Lib.hid (by rw [← dotC_canL]; exact (Sz_dot HKY.out HCB.out hK).sh (by have := HSD.out; omega))
      refine region_seq 12 [0, 1, 2, 3, 4, 5, 6, 7, 8, 9, 10, 11] (by kernel_rfl) (by kernel_rfl) ?_
      repeat ((first | (refine seq_takeP (v := ?_) rfl rfl rfl ?_ ?_; rotate_left; (· (intro _ hSw; go_simp; (try go_bits); (try with_reducible rfl)))) | (refine seq_take (v := ?_) rfl rfl rfl ?_ ?_; rotate_left; (· (intro _ hSw; go_simp; (try go_bits); (try with_reducible rfl)))) | refine seq_skip rfl rfl rfl ?_ | refine seq_skipc rfl rfl rfl (by assumption) ?_); (try simp only [Act.put, pu1, pu2, pu3, pu4, pu5, pu6]))
      refine seq_step rfl rfl (fun KR hKR => ?_)
      go_simp
      with_reducible refine (rcolumn_any _ p K (j : Int) _ ((h.below hbe2).below hS0) HOK.out hK8 HIN.out (by omega) HJN.out HQ1.out).mono ?_
      rintro _ w4 ⟨v4, rfl, e4, hb4⟩
      have hS4 := below_then hS0 hb4 hS0.size
      refine hKR.out _ _ (Or.inr hS4) ?_
      clear hKR KR
      (try simp only [Act.put, pu1, pu2, pu3, pu4, pu5, pu6])
      repeat ((first | (refine seq_takeP (v := ?_) rfl rfl rfl ?_ ?_; rotate_left; (· (intro _ hSw; go_simp; (try go_bits); (try with_reducible rfl)))) | (refine seq_take (v := ?_) rfl rfl rfl ?_ ?_; rotate_left; (· (intro _ hSw; go_simp; (try go_bits); (try with_reducible rfl)))) | refine seq_skip rfl rfl rfl ?_ | refine seq_skipc rfl rfl rfl (by assumption) ?_); (try simp only [Act.put, pu1, pu2, pu3, pu4, pu5, pu6]))
      refine seq_step rfl rfl (fun KR hKR => ?_)
      go_simp
      with_reducible refine (rdot_own _ _ x.y (canL p.right.length (p.col (j : Int))) K _ ((hxy.below hbe2).below hS4) e4.frs hK HKY.out HCB.out (by rw [HMN.out]; have := HSD.out; omega) (by omega)).mono ?_
      rw [HMN.out, dotC_canL]
      rintro _ w5 ⟨v5, rfl, e5, hb5⟩
      have hS5 := below_then hS4 hb5 hS4.size
      refine hKR.out _ _ (Or.inr hS5) ?_
      clear hKR KR
      (try simp only [Act.put, pu1, pu2, pu3, pu4, pu5, pu6])
      repeat ((first | (refine seq_takeP (v := ?_) rfl rfl rfl ?_ ?_; rotate_left; (· (intro _ hSw; go_simp; (try go_bits); (try with_reducible rfl)))) | (refine seq_take (v := ?_) rfl rfl rfl ?_ ?_; rotate_left; (· (intro _ hSw; go_simp; (try go_bits); (try with_reducible rfl)))) | refine seq_skip rfl rfl rfl ?_ | refine seq_skipc rfl rfl rfl (by assumption) ?_); (try simp only [Act.put, pu1, pu2, pu3, pu4, pu5, pu6]))
      refine seq_step rfl rfl (fun KR hKR => ?_)
      go_simp
      with_reducible refine (rsignF_any _ _ _ e5 HSH2.out).mono ?_
      rw [canF_q]
      generalize hD : dotC x.y (p.col (j : Int)) p.right.length = D
      have HD := Lib.hid hD
      clear hD
      rintro _ w6 ⟨rfl, hb6⟩
      have hS6 := below_then hS5 hb6 hS5.size
      refine hKR.out _ _ (Or.inr hS6) ?_
      clear hKR KR
      (try simp only [Act.put, pu1, pu2, pu3, pu4, pu5, pu6])
      repeat ((first | (refine seq_takeP (v := ?_) rfl rfl rfl ?_ ?_; rotate_left; (· (intro _ hSw; go_simp; (try go_bits); (try with_reducible rfl)))) | (refine seq_take (v := ?_) rfl rfl rfl ?_ ?_; rotate_left; (· (intro _ hSw; go_simp; (try go_bits); (try with_reducible rfl)))) | refine seq_skip rfl rfl rfl ?_ | refine seq_skipc rfl rfl rfl (by assumption) ?_); (try simp only [Act.put, pu1, pu2, pu3, pu4, pu5, pu6]))
      refine seq_done ?_
      have hX6 := hX.later hS6
      have hY6 := hY.later hS6
      have hbe6 := below_then hbe2 hS6 hbe2.size
      clear C0 C1 C2 D0 D1 D2 D3 hX hY hbe2 hS0 hS4 hS5 hS6 hb4 hb5 hb6 e4 e5 HSH2
      by_cases hgt : D ≤ 0
      · have hsg : qs D ≤ 0 := qs_le.2 hgt
        have HN : Hid (true = true ↔ nonTo p x.y (j + 1)) := Lib.hid ⟨fun _ => nonTo_next HNT.out (by rw [HD.out]; exact hgt), fun _ => rfl⟩
        clear hgt
        generalize qs D = sD at *
        go_wp2
        go_roundw
        case rel => exact ⟨j + 1, true, by omega, by simp; omega, by go_num, hbe6, hX6, hY6, HN.out⟩
        case measure => simp [intOf]; omega
      · have hsg : 0 < qs D := Int.not_le.1 fun g => hgt (qs_le.1 g)
        have HN : Hid (false = true ↔ nonTo p x.y (j + 1)) := Lib.hid ⟨fun e => (nomatch e), fun e => absurd (HD.out ▸ e j (by omega)) hgt⟩
        clear hgt
        generalize qs D = sD at *
        go_wp2
        go_roundw
        case rel => exact ⟨j + 1, false, by omega, by simp; omega, by go_num, hbe6, hX6, hY6, HN.out⟩
        case measure => simp [intOf]; omega
    · obtain rfl : j = N := by omega
      have HNB : Hid (bb = true ↔ nonTo p x.y p.cols.length) := Lib.hid (by rw [← HM1.out]; exact HBB.out)
      cases bb
      · have HNN : Hid (¬ nonTo p x.y p.cols.length) := Lib.hid fun e => by have := HNB.out.2 e; cases this
        have HR := Lib.hid (verQ_4 HZ.out (by rw [HST.out]; decide) HSH.out (by unfold holdB; rw [if_neg (by rw [HST.out]; decide), if_pos HST.out]; simp [hold2, HNN.out]))
        go_wp2
        go_ret
        exact ⟨ret_int' HR.out, hbe2⟩
      have HNN := Lib.hid (HNB.out.1 rfl)
      have HMN : Hid (min x.y.length p.right.length = p.right.length) := Lib.hid (by rw [HYM.out, Nat.min_self])
      have HSD : Hid (1 + p.right.length * (2 * K + 1) ≤ 8589934592) := Lib.hid (by have := HS64.out; have := Nat.mul_le_mul_right (2 * K + 1) HQ1.out; omega)
      have HSH2 : Hid ((canF (dotQ x.y p.right p.right.length)).Sh) := Lib.hid ((Sz_dot HKY.out HKRR.out hK).sh (by have := HSD.out; omega))
      go_wp2_with fail
      refine (rdot_own _ _ x.y p.right K _ (hxy.below hbe2) (hr.below hbe2) hK HKY.out HKRR.out (by rw [HMN.out]; have := HSD.out; omega) (by omega)).mono ?_
      rw [HMN.out]
      rintro _ w5 ⟨v5, rfl, e5, hb5⟩
      go_wp2_with fail
      refine (rsignF_any _ _ _ e5 HSH2.out).mono ?_
      rw [canF_q]
      generalize hsD : qs (dotQ x.y p.right p.right.length) = sD
      have HSG := Lib.hid hsD
      clear hsD
      rintro _ w6 ⟨rfl, hb6⟩
      have bfin := below_then hbe2 (below_then hb5 hb6 hb5.size) hbe2.size
      rcases Int.lt_or_le 0 sD with hz9 | hz9
      · have HR := Lib.hid (verQ_5 HZ.out (by rw [HST.out]; decide) HSH.out (by unfold holdB; rw [if_neg (by rw [HST.out]; decide), if_pos HST.out]; simp [hold2, HNN.out, HSG.out, hz9]))
        obtain rfl : sD = 1 := by have h9 := qs_bd (dotQ x.y p.right p.right.length); rw [HSG.out] at h9; omega
        go_wp2
        go_ret
        exact ⟨ret_int' HR.out, bfin⟩
      · have HR := Lib.hid (verQ_4 HZ.out (by rw [HST.out]; decide) HSH.out (by unfold holdB; rw [if_neg (by rw [HST.out]; decide), if_pos HST.out]; simp [hold2, HSG.out, Int.not_lt.2 hz9]))
        have h10 : sD = 0 ∨ sD = -1 := by have h9 := qs_bd (dotQ x.y p.right p.right.length); rw [HSG.out] at h9; omega
        rcases h10 with rfl | rfl
        all_goals
          go_wp2
          go_ret
          exact ⟨ret_int' HR.out, bfin⟩
end Go.Proofs.YtpanffbgihhjnaaGreat

/- Walks: package pairingref25: Verify, proofs of status 3. -/
namespace Go.Proofs.YtpanffbgihhjnaaGreat
open Go.RowKit Pl
attribute [local go_sem ↓] Go.wp_at_zero Go.wp_at_succ

theorem Pl.eqB_zero (m : Nat) (f : Nat → Rat) : eqB (canL m f) (canL m fun _ => 0) = combB m f [] := by
  by_cases h : ∀ i, i < m → f i = 0
  · rw [combB_true fun i hi => by rw [h i hi]; rfl, eqB_true (by rw [canL_length, canL_length]) fun i hi => by rw [canL_length] at hi; rw [canL_qAt hi, canL_qAt hi, h i hi]]
  · have : ∃ i, i < m ∧ f i ≠ 0 := by simpa using h
    obtain ⟨i, hi, hf⟩ := this
    rw [combB_false hi (by simpa [qAt] using hf), eqB_false (i := i) (by rw [canL_length]; exact hi) (by rw [canL_qAt hi, canL_qAt hi]; exact hf)]

set_option maxRecDepth 100000 in
set_option maxHeartbeats 8000000 in
theorem rverify_3 (v1 v2 : Value) (p : LPd) (x : Prf) (K : Nat) (w : World) (h : LpM w v1 p) (h2 : PrfM w v2 x) (ok : p.Ok K) (hkx : RsL K x.x) (hky : RsL K x.y) (hkr : RsL K x.ray) (hK : 1 ≤ K) (hs : 1 + 1201 * (2 * K + 1) ≤ 8589934592) (hst : x.st = 3) (hz : lpErr p = 0) :
    Calls Tryz.prog 12 #[v1, v2] w fun e w' => e = .returned (.int .i64 (verQ p x)) ∧ Below w.heap.size w w' := by
  obtain ⟨A, n, c, A', N, c', A'', m, c'', rfl, hc, hv, hr⟩ := id h
  obtain ⟨B, lx, d, B', ly, d', B'', lr, d'', rfl, hxx, hxy, hxr, s1, s2⟩ := id h2
  rw [hst]
  obtain ⟨W, hW, hX, hbe0⟩ := box_lp w (.slice A n c) (.slice A' N c') (.slice A'' m c'')
  obtain ⟨W1, hW1, hY, hbe1⟩ := box_prf W (.int .i64 3) (.slice B lx d) (.slice B' ly d') (.slice B'' lr d'')
  have hX := hX.later hbe1
  have hbe := below_then hbe0 hbe1 hbe0.size
  have hsz : W.heap.size = w.heap.size + 1 := by rw [← hW]; simp
  rw [hsz] at hY
  obtain ⟨x0, x1, x2⟩ := hX.three
  obtain ⟨y0, y1, y2, y3⟩ := hY.four
  obtain ⟨m1, m2, m3⟩ := hv.len
  obtain ⟨r1, r2, r3⟩ := hr.len
  obtain ⟨k1, k2, k3⟩ := hc.len
  obtain ⟨lx1, lx2, lx3⟩ := hxx.len
  obtain ⟨ly1, ly2, ly3⟩ := hxy.len
  obtain ⟨lr1, lr2, lr3⟩ := hxr.len
  have HM1 := Lib.hid m1
  have HR1 := Lib.hid r1
  have HK1 := Lib.hid k1
  have HLX := Lib.hid lx1
  have HLY := Lib.hid ly1
  have HLR := Lib.hid lr1
  clear m1 r1 k1 lx1 ly1 lr1 hbe0 hbe1
  have HST := Lib.hid hst
  have HZ := Lib.hid hz
  have HOK := Lib.hid ok
  have HKX := Lib.hid hkx
  have HKY := Lib.hid hky
  have HKR := Lib.hid hkr
  have HS := Lib.hid hs
  have hK8 : K ≤ 34359738368 := by omega
  have hK9 : 1000 * K ≤ 8589934592 := by omega
  clear hst hz ok hkx hky hkr hs
  go_enter Tryz.func12, Tryz.ntmps12
  go_wp2_with fail
  clear hW hW1 hsz x0 x1 x2 y0 y1 y2 y3
  refine (rvalidate_any _ p K _ (h.below hbe) HOK.out hK8).mono ?_
  rw [HZ.out]
  rintro _ w1 ⟨rfl, hb1⟩
  have hX1 := hX.later hb1
  have hY1 := hY.later hb1
  have hbe1 := below_then hbe hb1 hbe.size
  obtain ⟨x0, x1, x2⟩ := hX1.three
  obtain ⟨y0, y1, y2, y3⟩ := hY1.four
  clear hX hY hbe hb1
  go_wp2_with fail
  have C0 := stab x0
  have C1 := stab x1
  have C2 := stab x2
  refine region_seq 8 [0, 1, 2, 3, 4, 5, 6, 7] (by kernel_rfl) (by kernel_rfl) ?_
  repeat ((first | (refine seq_takeP (v := ?_) rfl rfl rfl ?_ ?_; rotate_left; (· (intro _ hSw; go_simp; (try go_bits); (try with_reducible rfl)))) | (refine seq_take (v := ?_) rfl rfl rfl ?_ ?_; rotate_left; (· (intro _ hSw; go_simp; (try go_bits); (try with_reducible rfl)))) | refine seq_skip rfl rfl rfl ?_); (try simp only [Act.put, pu1, pu2, pu3, pu4, pu5, pu6]))
  refine seq_done ?_
  clear C0 C1 C2 x0 x1 x2 y0 y1 y2 y3
  replace hX1 := hX1.drew
  replace hY1 := hY1.drew
  replace hbe1 := hbe1.drew
  generalize w1.drew = wd at *
  obtain ⟨x0, x1, x2⟩ := hX1.three
  obtain ⟨y0, y1, y2, y3⟩ := hY1.four
  go_wp2_with fail
  have C0 := stab x0
  have C1 := stab x1
  have C2 := stab x2
  have D0 := stab y0
  have D1 := stab y1
  have D2 := stab y2
  have D3 := stab y3
  have hS0 := below_drew' wd
  clear x0 x1 x2 y0 y1 y2 y3
  refine region_seq 31 [0, 1, 2, 3, 4, 5, 6, 7, 8, 9, 10, 11, 12, 13, 14, 15, 16, 17, 18, 19, 20, 21, 22, 23, 24, 25, 26, 27, 28, 29, 30] (by kernel_rfl) (by kernel_rfl) ?_
  repeat ((first | (refine seq_takeP (v := ?_) rfl rfl rfl ?_ ?_; rotate_left; (· (intro _ hSw; go_simp; (try go_bits); (try with_reducible rfl)))) | (refine seq_take (v := ?_) rfl rfl rfl ?_ ?_; rotate_left; (· (intro _ hSw; go_simp; (try go_bits); (try with_reducible rfl)))) | refine seq_skip rfl rfl rfl ?_ | refine seq_skipc rfl rfl rfl (by assumption) ?_); (try simp only [Act.put, pu1, pu2, pu3, pu4, pu5, pu6]))
  refine seq_step rfl rfl (fun KR hKR => ?_)
  go_simp
  with_reducible refine (rlength_t (N : Int) _).mono ?_
  rintro _ y0 ⟨rfl, hb0⟩
  have hS1 := below_then hS0 hb0 hS0.size
  refine hKR.out _ _ (Or.inr hS1) ?_
  clear hKR KR
  (try simp only [Act.put, pu1, pu2, pu3, pu4, pu5, pu6])
  by_cases h0 : lx = N
  rotate_left
  · have e0 : ((lx : Int) != (N : Int)) = true := by simp; omega
    have HR : Hid (verQ p x = 12) := Lib.hid (verQ_3 HZ.out (by rw [HST.out]; decide) (shB_no1 (p := p) (x := x) (by unfold shX; rw [HST.out, ← HLX.out, ← HM1.out]; simpa using h0)))
    clear h0
    repeat ((first | (refine seq_takeP (v := ?_) rfl rfl rfl ?_ ?_; rotate_left; (· (intro _ hSw; go_simp; (try go_bits); (try with_reducible rfl)))) | (refine seq_take (v := ?_) rfl rfl rfl ?_ ?_; rotate_left; (· (intro _ hSw; go_simp; (try go_bits); (try with_reducible rfl)))) | refine seq_skip rfl rfl rfl ?_ | refine seq_skipc rfl rfl rfl (by assumption) ?_); (try simp only [Act.put, pu1, pu2, pu3, pu4, pu5, pu6]))
    refine seq_done ?_
    have bfin := below_then hbe1 hS1 hbe1.size
    clear C0 C1 C2 D0 D1 D2 D3
    go_wp2
    go_ret
    exact ⟨ret_int' HR.out, bfin⟩
  have e0 : ((lx : Int) != (N : Int)) = false := by simp; omega
  have H0 := Lib.hid h0
  clear h0
  repeat ((first | (refine seq_takeP (v := ?_) rfl rfl rfl ?_ ?_; rotate_left; (· (intro _ hSw; go_simp; (try go_bits); (try with_reducible rfl)))) | (refine seq_take (v := ?_) rfl rfl rfl ?_ ?_; rotate_left; (· (intro _ hSw; go_simp; (try go_bits); (try with_reducible rfl)))) | refine seq_skip rfl rfl rfl ?_ | refine seq_skipc rfl rfl rfl (by assumption) ?_); (try simp only [Act.put, pu1, pu2, pu3, pu4, pu5, pu6]))
  refine seq_step rfl rfl (fun KR hKR => ?_)
  go_simp
  with_reducible refine (rlength_f (m : Int) _).mono ?_
  rintro _ y1 ⟨rfl, hb1⟩
  have hS2 := below_then hS1 hb1 hS1.size
  refine hKR.out _ _ (Or.inr hS2) ?_
  clear hKR KR
  (try simp only [Act.put, pu1, pu2, pu3, pu4, pu5, pu6])
  by_cases h1 : ly = 0
  rotate_left
  · have e1 : ((ly : Int) != (0 : Int)) = true := by simp; omega
    have HR : Hid (verQ p x = 12) := Lib.hid (verQ_3 HZ.out (by rw [HST.out]; decide) (shB_no2 (p := p) (x := x) (by unfold shY; rw [HST.out, ← HLY.out, ← HR1.out]; simpa using h1)))
    clear h1
    repeat ((first | (refine seq_takeP (v := ?_) rfl rfl rfl ?_ ?_; rotate_left; (· (intro _ hSw; go_simp; (try go_bits); (try with_reducible rfl)))) | (refine seq_take (v := ?_) rfl rfl rfl ?_ ?_; rotate_left; (· (intro _ hSw; go_simp; (try go_bits); (try with_reducible rfl)))) | refine seq_skip rfl rfl rfl ?_ | refine seq_skipc rfl rfl rfl (by assumption) ?_); (try simp only [Act.put, pu1, pu2, pu3, pu4, pu5, pu6]))
    refine seq_done ?_
    have bfin := below_then hbe1 hS2 hbe1.size
    clear C0 C1 C2 D0 D1 D2 D3
    go_wp2
    go_ret
    exact ⟨ret_int' HR.out, bfin⟩
  have e1 : ((ly : Int) != (0 : Int)) = false := by simp; omega
  have H1 := Lib.hid h1
  clear h1
  repeat ((first | (refine seq_takeP (v := ?_) rfl rfl rfl ?_ ?_; rotate_left; (· (intro _ hSw; go_simp; (try go_bits); (try with_reducible rfl)))) | (refine seq_take (v := ?_) rfl rfl rfl ?_ ?_; rotate_left; (· (intro _ hSw; go_simp; (try go_bits); (try with_reducible rfl)))) | refine seq_skip rfl rfl rfl ?_ | refine seq_skipc rfl rfl rfl (by assumption) ?_); (try simp only [Act.put, pu1, pu2, pu3, pu4, pu5, pu6]))
  refine seq_step rfl rfl (fun KR hKR => ?_)
  go_simp
  with_reducible refine (rlength_t (N : Int) _).mono ?_
  rintro _ y2 ⟨rfl, hb2⟩
  have hS3 := below_then hS2 hb2 hS2.size
  refine hKR.out _ _ (Or.inr hS3) ?_
  clear hKR KR
  (try simp only [Act.put, pu1, pu2, pu3, pu4, pu5, pu6])
  by_cases h2 : lr = N
  rotate_left
  · have e2 : ((lr : Int) != (N : Int)) = true := by simp; omega
    have HR : Hid (verQ p x = 12) := Lib.hid (verQ_3 HZ.out (by rw [HST.out]; decide) (shB_no3 (p := p) (x := x) (by unfold shR; rw [HST.out, ← HLR.out, ← HM1.out]; simpa using h2)))
    clear h2
    repeat ((first | (refine seq_takeP (v := ?_) rfl rfl rfl ?_ ?_; rotate_left; (· (intro _ hSw; go_simp; (try go_bits); (try with_reducible rfl)))) | (refine seq_take (v := ?_) rfl rfl rfl ?_ ?_; rotate_left; (· (intro _ hSw; go_simp; (try go_bits); (try with_reducible rfl)))) | refine seq_skip rfl rfl rfl ?_ | refine seq_skipc rfl rfl rfl (by assumption) ?_); (try simp only [Act.put, pu1, pu2, pu3, pu4, pu5, pu6]))
    refine seq_done ?_
    have bfin := below_then hbe1 hS3 hbe1.size
    clear C0 C1 C2 D0 D1 D2 D3
    go_wp2
    go_ret
    exact ⟨ret_int' HR.out, bfin⟩
  have e2 : ((lr : Int) != (N : Int)) = false := by simp; omega
  have H2 := Lib.hid h2
  clear h2
  repeat ((first | (refine seq_takeP (v := ?_) rfl rfl rfl ?_ ?_; rotate_left; (· (intro _ hSw; go_simp; (try go_bits); (try with_reducible rfl)))) | (refine seq_take (v := ?_) rfl rfl rfl ?_ ?_; rotate_left; (· (intro _ hSw; go_simp; (try go_bits); (try with_reducible rfl)))) | refine seq_skip rfl rfl rfl ?_ | refine seq_skipc rfl rfl rfl (by assumption) ?_); (try simp only [Act.put, pu1, pu2, pu3, pu4, pu5, pu6]))
  refine seq_done ?_
  clear C0 C1 C2 D0 D1 D2 D3
  have hX2' := hX1.later hS3
  have hY2' := hY1.later hS3
  have hbe2' := below_then hbe1 hS3 hbe1.size
  have HSH : Hid (shB p x = true) := Lib.hid (shB_yes (by unfold shX; rw [HST.out, ← HLX.out, ← HM1.out]; simpa using H0.out) (by unfold shY; rw [HST.out, ← HLY.out, ← HR1.out]; simpa using H1.out) (by unfold shR; rw [HST.out, ← HLR.out, ← HM1.out]; simpa using H2.out))
  clear hX1 hY1 hbe1 hS0 hS1 hS2 hS3 hb0 hb1 hb2 e0 e1 e2
  obtain ⟨x0, x1, x2⟩ := hX2'.three
  obtain ⟨y0', y1', y2', y3'⟩ := hY2'.four
  obtain ⟨q1, q2, q3, q4, _⟩ := lpErr_zero HZ.out
  have HIN := Lib.hid q4
  have HQ1 := Lib.hid q1
  have HQ3 := Lib.hid q3
  have HSC : Hid (1 + p.cols.length * (2 * K + 1) ≤ 8589934592) := Lib.hid (by have := HS.out; have := Nat.mul_le_mul_right (2 * K + 1) q2; omega)
  have HRL : Hid (x.ray.length = p.cols.length) := Lib.hid (by have h9 := (shB_true HSH.out).2.2; unfold shR at h9; rw [HST.out, if_pos rfl] at h9; exact h9)
  have hkC : RsL K p.cost := HOK.out.1
  have HKC := Lib.hid hkC
  have hm64 : m ≤ 64 := by rw [HR1.out]; exact q1
  clear q3 q4 hkC
  have hbe2 := hbe2'
  clear hbe2'
  go_wp2_with fail
  refine (risFeasible_any _ _ p x.x K _ (h.below hbe2) (hxx.below hbe2) HOK.out HKX.out hK HSC.out (by omega)).mono ?_
  cases hfb : feasB p x.x
  · have HR := Lib.hid (verQ_4 HZ.out (by rw [HST.out]; decide) HSH.out (by unfold holdB; rw [if_neg (by rw [HST.out]; decide), if_neg (by rw [HST.out]; decide)]; simp [hold3, hfb]))
    clear hfb
    rintro _ w4 ⟨rfl, hb4⟩
    have bfin := below_then hbe2 hb4 hbe2.size
    go_wp2
    go_ret
    exact ⟨ret_int' HR.out, bfin⟩
  have HFB := Lib.hid hfb
  clear hfb
  rintro _ w4 ⟨rfl, hb4⟩
  have hX4 := hX2'.later hb4
  have hY4 := hY2'.later hb4
  have hbe4 := below_then hbe2 hb4 hbe2.size
  clear x0 x1 x2 y0' y1' y2' y3' hX2' hY2' hbe2 hb4
  obtain ⟨x0, x1, x2⟩ := hX4.three
  obtain ⟨y0, y1, y2, y3⟩ := hY4.four
  go_wp2_with fail
  refine (rnonneg_any _ x.ray _ (hxr.below hbe4) (HKR.out.mono hK8)).mono ?_
  cases hnb : nnB x.ray
  · have HR := Lib.hid (verQ_4 HZ.out (by rw [HST.out]; decide) HSH.out (by unfold holdB; rw [if_neg (by rw [HST.out]; decide), if_neg (by rw [HST.out]; decide)]; simp [hold3, hnb]))
    clear hnb
    rintro _ w5 ⟨rfl, hb5⟩
    have bfin := below_then hbe4 hb5 hbe4.size
    go_wp2
    go_ret
    exact ⟨ret_int' HR.out, bfin⟩
  have HNB := Lib.hid hnb
  clear hnb
  rintro _ w5 ⟨rfl, hb5⟩
  have hX5 := hX4.later hb5
  have hY5 := hY4.later hb5
  have hbe5 := below_then hbe4 hb5 hbe4.size
  clear x0 x1 x2 y0 y1 y2 y3 hX4 hY4 hbe4 hb5
  obtain ⟨x0, x1, x2⟩ := hX5.three
  obtain ⟨y0, y1, y2, y3⟩ := hY5.four
  go_wp2_with fail
  refine (rtimes_own _ _ p x.ray K _ (h.below hbe5) (hxr.below hbe5) HOK.out HKR.out hK HIN.out HRL.out HQ1.out (by have := HSC.out; omega) (by omega)).mono ?_
  rintro _ w6 ⟨v6, rfl, e6, hb6⟩
  have hX6 := hX5.later hb6
  have hY6 := hY5.later hb6
  have hbe6 := below_then hbe5 hb6 hbe5.size
  have hT6 := e6.frs
  clear x0 x1 x2 y0 y1 y2 y3 hX5 hY5 hbe5 hb6 e6
  go_wp2_with fail
  refine (zeros_own m _ (by omega)).mono ?_
  rw [canL_zero]
  rintro _ w7 ⟨v7, rfl, e7, hb7⟩
  have hX7 := hX6.later hb7
  have hY7 := hY6.later hb7
  have hbe7 := below_then hbe6 hb7 hbe6.size
  have hT7 := hT6.below hb7
  clear hX6 hY6 hbe6 hb7 hT6
  have HE1 : Hid (RsL 8589934592 (canL p.right.length (timesQ p x.ray p.cols.length))) := Lib.hid (canL_rs fun i _ => (Sz_times HOK.out HKR.out hK _ i).mono HSC.out)
  have HE2 : Hid (RsL 8589934592 (canL m fun _ => 0)) := Lib.hid (canL_rs fun i _ => Sz_zero.mono (by decide))
  have HEQ : Hid (eqB (canL p.right.length (timesQ p x.ray p.cols.length)) (canL m fun _ => 0) = combB p.right.length (timesQ p x.ray p.cols.length) []) := Lib.hid (by rw [HR1.out]; exact eqB_zero _ _)
  go_wp2_with fail
  refine (requal_any _ _ _ _ _ hT7 e7.frs HE1.out HE2.out).mono ?_
  rw [HEQ.out]
  cases hcb : combB p.right.length (timesQ p x.ray p.cols.length) []
  · have HR := Lib.hid (verQ_4 HZ.out (by rw [HST.out]; decide) HSH.out (by unfold holdB; rw [if_neg (by rw [HST.out]; decide), if_neg (by rw [HST.out]; decide)]; simp [hold3, hcb]))
    clear hcb
    rintro _ w8 ⟨rfl, hb8⟩
    have bfin := below_then hbe7 hb8 hbe7.size
    go_wp2
    go_ret
    exact ⟨ret_int' HR.out, bfin⟩
  have HCB := Lib.hid hcb
  clear hcb
  rintro _ w8 ⟨rfl, hb8⟩
  have hX8 := hX7.later hb8
  have hY8 := hY7.later hb8
  have hbe8 := below_then hbe7 hb8 hbe7.size
  clear hX7 hY7 hbe7 hb8 hT7 e7
  obtain ⟨x0, x1, x2⟩ := hX8.three
  obtain ⟨y0, y1, y2, y3⟩ := hY8.four
  have HMN : Hid (min p.cost.length x.ray.length = p.cols.length) := Lib.hid (by rw [HQ3.out, HRL.out, Nat.min_self])
  have HSH2 : Hid ((canF (dotQ p.cost x.ray p.cols.length)).Sh) := Lib.hid ((Sz_dot HKC.out HKR.out hK).sh (by have := HSC.out; omega))
  go_wp2_with fail
  refine (rdot_own _ _ p.cost x.ray K _ (hc.below hbe8) (hxr.below hbe8) hK HKC.out HKR.out (by rw [HMN.out]; have := HSC.out; omega) (by omega)).mono ?_
  rw [HMN.out]
  rintro _ w9 ⟨v9, rfl, e9, hb9⟩
  clear x0 x1 x2 y0 y1 y2 y3
  go_wp2_with fail
  refine (rsignF_any _ _ _ e9 HSH2.out).mono ?_
  rw [canF_q]
  generalize hsD : qs (dotQ p.cost x.ray p.cols.length) = sD
  have HSG := Lib.hid hsD
  clear hsD
  rintro _ w10 ⟨rfl, hb10⟩
  have bfin := below_then hbe8 (below_then hb9 hb10 hb9.size) hbe8.size
  rcases Int.lt_or_le sD 0 with hz9 | hz9
  · have HR := Lib.hid (verQ_5 HZ.out (by rw [HST.out]; decide) HSH.out (by unfold holdB; rw [if_neg (by rw [HST.out]; decide), if_neg (by rw [HST.out]; decide)]; simp [hold3, HFB.out, HNB.out, HCB.out, HSG.out, hz9]))
    obtain rfl : sD = -1 := by have h9 := qs_bd (dotQ p.cost x.ray p.cols.length); rw [HSG.out] at h9; omega
    go_wp2
    go_ret
    exact ⟨ret_int' HR.out, bfin⟩
  · have HR := Lib.hid (verQ_4 HZ.out (by rw [HST.out]; decide) HSH.out (by unfold holdB; rw [if_neg (by rw [HST.out]; decide), if_neg (by rw [HST.out]; decide)]; simp [hold3, HSG.out, Int.not_lt.2 hz9]))
    have h10 : sD = 0 ∨ sD = 1 := by have h9 := qs_bd (dotQ p.cost x.ray p.cols.length); rw [HSG.out] at h9; omega
    rcases h10 with rfl | rfl
    all_goals
      go_wp2
      go_ret
      exact ⟨ret_int' HR.out, bfin⟩
end Go.Proofs.YtpanffbgihhjnaaGreat

/- Walks: package pairingref25: Verify, Run and Extract at any input; package pairinglaw26: state. -/
namespace Go.Proofs.YtpanffbgihhjnaaGreat
open Go.RowKit Pl
attribute [local go_sem ↓] Go.wp_at_zero Go.wp_at_succ

set_option maxRecDepth 100000 in
set_option maxHeartbeats 8000000 in
theorem rverify_0 (v1 v2 : Value) (p : LPd) (x : Prf) (K : Nat) (w : World) (h : LpM w v1 p) (h2 : PrfM w v2 x) (ok : p.Ok K) (hkx : RsL K x.x) (hky : RsL K x.y) (hkr : RsL K x.ray) (hK : 1 ≤ K) (hs : 1 + 1201 * (2 * K + 1) ≤ 8589934592) (hst : x.st < 1 ∨ 3 < x.st) (hz : lpErr p = 0) :
    Calls Tryz.prog 12 #[v1, v2] w fun e w' => e = .returned (.int .i64 (verQ p x)) ∧ Below w.heap.size w w' := by
  obtain ⟨A, n, c, A', N, c', A'', m, c'', rfl, hc, hv, hr⟩ := id h
  obtain ⟨B, lx, d, B', ly, d', B'', lr, d'', rfl, hxx, hxy, hxr, s1, s2⟩ := id h2
  obtain ⟨W, hW, hX, hbe0⟩ := box_lp w (.slice A n c) (.slice A' N c') (.slice A'' m c'')
  obtain ⟨W1, hW1, hY, hbe1⟩ := box_prf W (.int .i64 x.st) (.slice B lx d) (.slice B' ly d') (.slice B'' lr d'')
  have hX := hX.later hbe1
  have hbe := below_then hbe0 hbe1 hbe0.size
  have hsz : W.heap.size = w.heap.size + 1 := by rw [← hW]; simp
  rw [hsz] at hY
  obtain ⟨x0, x1, x2⟩ := hX.three
  obtain ⟨y0, y1, y2, y3⟩ := hY.four
  obtain ⟨m1, m2, m3⟩ := hv.len
  obtain ⟨r1, r2, r3⟩ := hr.len
  obtain ⟨k1, k2, k3⟩ := hc.len
  obtain ⟨lx1, lx2, lx3⟩ := hxx.len
  obtain ⟨ly1, ly2, ly3⟩ := hxy.len
  obtain ⟨lr1, lr2, lr3⟩ := hxr.len
  have HM1 := Lib.hid m1
  have HR1 := Lib.hid r1
  have HK1 := Lib.hid k1
  have HLX := Lib.hid lx1
  have HLY := Lib.hid ly1
  have HLR := Lib.hid lr1
  clear m1 r1 k1 lx1 ly1 lr1 hbe0 hbe1
  have HZ := Lib.hid hz
  have HOK := Lib.hid ok
  have hK8 : K ≤ 34359738368 := by omega
  obtain ⟨q, hq⟩ : ∃ q, verQ p x = q := ⟨_, rfl⟩
  have HR : Hid (q = 5) := Lib.hid (by rw [← hq]; exact verQ_2 hz hst)
  rw [hq]
  clear hz ok hkx hky hkr hs hq
  go_enter Tryz.func12, Tryz.ntmps12
  go_wp2_with fail
  clear hW hW1 hsz x0 x1 x2 y0 y1 y2 y3
  refine (rvalidate_any _ p K _ (h.below hbe) HOK.out hK8).mono ?_
  rw [HZ.out]
  rintro _ w1 ⟨rfl, hb1⟩
  have hY1 := hY.later hb1
  have hbe1 := below_then hbe hb1 hbe.size
  obtain ⟨y0, y1, y2, y3⟩ := hY1.four
  clear hX hY hbe hb1
  rcases hst with hst | hst
  · go_wp2
    go_ret
    exact ⟨by rw [HR.out]; rfl, hbe1⟩
  · have hst1 : 1 ≤ x.st := by omega
    go_wp2
    go_ret
    exact ⟨by rw [HR.out]; rfl, hbe1⟩
theorem rverify_any (v1 v2 : Value) (p : LPd) (x : Prf) (K : Nat) (w : World) (h : LpM w v1 p) (h2 : PrfM w v2 x) (ok : p.Ok K) (hkx : RsL K x.x) (hky : RsL K x.y) (hkr : RsL K x.ray) (hK : 1 ≤ K) (hs : 1 + 1201 * (2 * K + 1) ≤ 8589934592) (hz : lpErr p = 0) :
    Calls Tryz.prog 12 #[v1, v2] w fun e w' => e = .returned (.int .i64 (verQ p x)) ∧ Below w.heap.size w w' := by
  by_cases h0 : x.st < 1 ∨ 3 < x.st
  · exact rverify_0 v1 v2 p x K w h h2 ok hkx hky hkr hK hs h0 hz
  · have : x.st = 1 ∨ x.st = 2 ∨ x.st = 3 := by omega
    rcases this with e | e | e
    · exact rverify_1 v1 v2 p x K w h h2 ok hkx hky hkr hK hs e hz
    · exact rverify_2 v1 v2 p x K w h h2 ok hkx hky hkr hK hs e hz
    · exact rverify_3 v1 v2 p x K w h h2 ok hkx hky hkr hK hs e hz
namespace Pl
def runE (p : LPd) (s : LSt) (N : Nat) : LSt := if vsErr p s = 0 then runL p N (settleQ p s) else ⟨0, [], 0⟩
def extF (p : LPd) (s : LSt) : Prf := if vsErr p s = 0 then extP p (settleQ p s) else ⟨0, [], [], []⟩
def stateQ (p : LPd) (N : Nat) : LSt := runE p (settleQ p (startS p)) N
theorem extF_B {p : LPd} {s : LSt} {K : Nat} (F : p.Fit K) : RsL (5 ^ p.right.length * K) (extF p s).x ∧ RsL (5 ^ p.right.length * K) (extF p s).y ∧ RsL (5 ^ p.right.length * K) (extF p s).ray ∧ (extF p s).x.length ≤ p.cols.length ∧ (extF p s).y.length ≤ p.right.length ∧ (extF p s).ray.length ≤ p.cols.length := by
  unfold extF
  split
  · exact extP_B F
  · exact ⟨RsL.nil _, RsL.nil _, RsL.nil _, by simp, by simp, by simp⟩
end Pl
theorem rrun_any (v1 v2 : Value) (p : LPd) (s : LSt) (K N : Nat) (w : World) (h : LpM w v1 p) (h2 : StM w v2 s) (F : p.Fit K) (hz : lpErr p = 0) (hN : N ≤ 9223372036854775807) (hpv : s.pivots + N ≤ 9223372036854775807) :
    Calls Tryz.prog 36 #[v1, v2, .int .i64 (N : Int)] w fun e w' => ∃ v' er, e = .returned (.tuple #[v', .int .i64 er]) ∧ StO 0 w' v' (runE p s N) ∧ Below w.heap.size w w' := by
  unfold runE
  by_cases hv : vsErr p s = 0
  · rw [if_pos hv]
    refine (rrun_own v1 v2 p s K N w h h2 F hz hv hN hpv).mono ?_
    rintro e w' ⟨v', rfl, hs, hb⟩
    obtain ⟨A, l, c, hv', hi⟩ := hs
    exact ⟨v', 0, rfl, ⟨A, l, c, hv', hi.monoB (Nat.zero_le _)⟩, hb⟩
  · rw [if_neg hv]
    refine (rrun_err v1 v2 p s K N w h h2 F hz hv).mono ?_
    rintro e w' ⟨rfl, hb⟩
    exact ⟨_, _, rfl, ⟨none, 0, 0, rfl, IntsO.nil 0 w'⟩, hb⟩
theorem rextract_any (v1 v2 : Value) (p : LPd) (s : LSt) (K : Nat) (w : World) (h : LpM w v1 p) (h2 : StM w v2 s) (F : p.Fit K) (hz : lpErr p = 0) :
    Calls Tryz.prog 8 #[v1, v2] w fun e w' => ∃ v' er, e = .returned (.tuple #[v', .int .i64 er]) ∧ PrfM w' v' (extF p s) ∧ Below w.heap.size w w' := by
  unfold extF
  by_cases hv : vsErr p s = 0
  · rw [if_pos hv]
    refine (rextract_own v1 v2 p s K w h h2 F hz hv).mono ?_
    rintro e w' ⟨v', rfl, hs, hb⟩
    exact ⟨v', _, rfl, hs, hb⟩
  · rw [if_neg hv]
    refine (rextract_err v1 v2 p s K w h h2 F hz hv).mono ?_
    rintro e w' ⟨rfl, hb⟩
    exact ⟨_, _, rfl, ⟨none, 0, 0, none, 0, 0, none, 0, 0, rfl, frs_nil _, frs_nil _, frs_nil _, by simp, by simp⟩, hb⟩

set_option maxRecDepth 100000 in
set_option maxHeartbeats 8000000 in
theorem state_own (v1 : Value) (p : LPd) (K N : Nat) (w : World) (h : LpM w v1 p) (F : p.Fit K) (hz : lpErr p = 0) (hN : N ≤ 1000000) :
    Calls Tryz.prog 9 #[v1, .int .i64 (N : Int)] w fun e w' => ∃ v', e = .returned v' ∧ StM w' v' (stateQ p N) ∧ Below w.heap.size w w' := by
  obtain ⟨A, n, c, A', n', c', A'', m, c'', rfl, hc, hv, hr⟩ := id h
  obtain ⟨W, hW, hX0, hbe0⟩ := box_lp w (.slice A n c) (.slice A' n' c') (.slice A'' m c'')
  obtain ⟨W1, hW1, hR0, hbe1⟩ := box_st W (.int .i64 0) (.slice none 0 0) (.int .i64 0)
  have hX := hX0.later hbe1
  have hbe := below_then hbe0 hbe1 hbe0.size
  have hsz : W.heap.size = w.heap.size + 1 := by rw [← hW]; simp
  rw [hsz] at hR0
  have HLP := Lib.hid h
  have HFP := Lib.hid F
  have HZ := Lib.hid hz
  obtain ⟨x0, x1, x2⟩ := hX.three
  obtain ⟨S2, hS2⟩ : ∃ s, stateQ p N = s := ⟨_, rfl⟩
  rw [hS2]
  have HS2 := Lib.hid hS2
  clear h hc hv hr hX0 hbe0 hbe1 F hz hS2
  go_enter Tryz.func9, Tryz.ntmps9
  go_wp2_with fail
  clear hW hW1
  refine (rstart_own _ p K _ (HLP.out.below hbe) HFP.out HZ.out).mono ?_
  obtain ⟨s1, hs1⟩ : ∃ s, settleQ p (startS p) = s := ⟨_, rfl⟩
  rw [hs1]
  have HS1 : Hid (runE p s1 N = S2) := Lib.hid (by rw [← hs1]; exact HS2.out)
  have hpv : s1.pivots = 0 := by rw [← hs1]; rfl
  have HPV := Lib.hid hpv
  clear hs1 hpv
  rintro _ w3 ⟨v3, rfl, ⟨A3, l3, c3, rfl, hI3⟩, hb3⟩
  obtain ⟨W4, hW4, hT4, hb4⟩ := box_st w3 (.int .i64 0) (.slice none 0 0) (.int .i64 0)
  have hb34 := below_then hb3 hb4 hb3.size
  have hX4 := hX.later hb34
  have hR4 := hR0.later hb34
  have hbe4 := below_then hbe hb34 hbe.size
  have hI4 := hI3.below hb4
  have hg1 : w.heap.size + 1 < w3.heap.size := (hR0.later hb3).lt_
  obtain ⟨y0, y1, y2⟩ := hT4.three
  obtain ⟨f0, f1, f2⟩ := hT4.threeF
  obtain ⟨k1, k2, k3, k4⟩ := st_store (B := w.heap.size) (w0 := w) hT4 hbe4 (by omega) (.int .i64 s1.phase) (.slice A3 l3 c3) (.int .i64 s1.pivots)
  clear x0 x1 x2
  go_upto_region 2 with (fail)
  have hX5 := k4 _ _ _ (by omega) hX4
  have hR5 := k4 _ _ _ (by omega) hR4
  have hM5 : StM _ (.agg #[.int .i64 s1.phase, .slice A3 l3 c3, .int .i64 s1.pivots]) s1 := ⟨A3, l3, c3, rfl, (hI4.but k2 (by decide)).ints⟩
  clear hW4 y0 y1 y2 f0 f1 f2 hX hR0 hbe hb3 hb4 hb34 hX4 hR4 hbe4 hI3 hI4 hT4 k2 k4
  generalize w3.heap.size = g at *
  generalize ((W4.setCell ⟨g, 0, none⟩ (.int .i64 s1.phase)).setCell ⟨g, 1, none⟩ (.slice A3 l3 c3)).setCell ⟨g, 2, none⟩ (.int .i64 s1.pivots) = W5 at *
  have hT5 := k1
  have hbe5 := k3
  clear k1 k3
  obtain ⟨x0, x1, x2⟩ := hX5.three
  obtain ⟨y0, y1, y2⟩ := hT5.three
  go_wp2_with fail
  refine (rrun_any _ _ p s1 K N _ (HLP.out.below hbe5) hM5 HFP.out HZ.out (by omega) (by have := HPV.out; omega)).mono ?_
  rw [HS1.out]
  rintro _ w6 ⟨v6, er, rfl, ⟨A6, l6, c6, rfl, hI6⟩, hb6⟩
  obtain ⟨W7, hW7, hT7, hb7⟩ := box_st w6 (.int .i64 0) (.slice none 0 0) (.int .i64 0)
  have hb67 := below_then hb6 hb7 hb6.size
  have hR7 := hR5.later hb67
  have hbe7 := below_then hbe5 hb67 hbe5.size
  have hI7 := hI6.below hb7
  have hg2 : w.heap.size + 1 < w6.heap.size := (hR5.later hb6).lt_
  clear x0 x1 x2 y0 y1 y2 hX5 hT5 hbe5 hR5 hb6 hb7 hb67 hI6 hM5
  obtain ⟨y0, y1, y2⟩ := hT7.three
  obtain ⟨f0, f1, f2⟩ := hT7.threeF
  obtain ⟨k1, k2, k3, k4⟩ := st_store (B := w.heap.size) (w0 := w) hT7 hbe7 (by omega) (.int .i64 S2.phase) (.slice A6 l6 c6) (.int .i64 S2.pivots)
  go_upto_region 3 with (fail)
  have hR8 := k4 _ _ _ (by omega) hR7
  have hI8 := hI7.but k2 (by decide)
  clear hW7 y0 y1 y2 f0 f1 f2 hR7 hbe7 hI7 hT7 k2 k4
  generalize w6.heap.size = g2 at *
  generalize ((W7.setCell ⟨g2, 0, none⟩ (.int .i64 S2.phase)).setCell ⟨g2, 1, none⟩ (.slice A6 l6 c6)).setCell ⟨g2, 2, none⟩ (.int .i64 S2.pivots) = W8 at *
  have hT8 := k1
  have hbe8 := k3
  clear k1 k3
  obtain ⟨y0, y1, y2⟩ := hT8.three
  obtain ⟨r0, r1, r2⟩ := hR8.three
  obtain ⟨f0, f1, f2⟩ := hR8.threeF
  obtain ⟨k1, k2, k3, k4⟩ := st_store (B := w.heap.size) (w0 := w) hR8 hbe8 (by omega) (.int .i64 S2.phase) (.slice A6 l6 c6) (.int .i64 S2.pivots)
  go_wp2
  refine ret_cell Tryz.results9 Tryz.underlying34 (by kernel_rfl) rfl k1 rfl ?_
  exact ⟨_, rfl, ⟨A6, l6, c6, rfl, (hI8.but k2 (by decide)).ints⟩, k3⟩
theorem state_200 (v1 : Value) (p : LPd) (K : Nat) (w : World) (h : LpM w v1 p) (F : p.Fit K) (hz : lpErr p = 0) :
    Calls Tryz.prog 9 #[v1, .int .i64 200] w fun e w' => ∃ v', e = .returned v' ∧ StM w' v' (stateQ p 200) ∧ Below w.heap.size w w' := state_own v1 p K 200 w h F hz (by decide)
end Go.Proofs.YtpanffbgihhjnaaGreat

/- The laws ProofVerify and ProofSound, walked. -/
namespace Go.Proofs.YtpanffbgihhjnaaGreat
open Go.RowKit Pl
attribute [local go_sem ↓] Go.wp_at_zero Go.wp_at_succ

theorem PrfM.but {w w' : World} {v : Value} {x : Prf} (h : PrfM w v x) (hk : KeepBut 29 w w') : PrfM w' v x := by
  obtain ⟨A, n, c, A', n', c', A'', n'', c'', h1, h2, h3, h4, h5, h6⟩ := h
  exact ⟨A, n, c, A', n', c', A'', n'', c'', h1, h2.but hk (by decide) (by decide), h3.but hk (by decide) (by decide), h4.but hk (by decide) (by decide), h5, h6⟩
theorem PrfM.xs {w : World} {st : Int} {A A' A'' : Option Addr} {n c n' c' n'' c'' : Nat} {x : Prf} (h : PrfM w (.agg #[.int .i64 st, .slice A n c, .slice A' n' c', .slice A'' n'' c'']) x) : FrsM w (.slice A n c) x.x := by
  obtain ⟨B, m, d, B', m', d', B'', m'', d'', h1, h2, h3, h4, h5, h6⟩ := h
  simp at h1
  obtain ⟨_, ⟨rfl, rfl, rfl⟩, _⟩ := h1
  exact h2
def ExtAt (U : World) (x : Prf) (s6 s7 : Value) (wx : World) : Prop :=
  ∃ g A1 n1 c1 A2 n2 c2 A3 n3 c3 er, s6 = .pointer (some ⟨g, 0, none⟩) ∧ s7 = .int .i64 er ∧ U.heap.size ≤ g ∧ Bk wx g 29 [.int .i64 x.st, .slice A1 n1 c1, .slice A2 n2 c2, .slice A3 n3 c3] ∧ PrfM wx (.agg #[.int .i64 x.st, .slice A1 n1 c1, .slice A2 n2 c2, .slice A3 n3 c3]) x ∧ Below U.heap.size U wx
theorem ExtAt.mk {U w : World} {g : Nat} {x : Prf} {a b c d : Value} {er : Int} {A1 A2 A3 : Option Addr} {n1 c1 n2 c2 n3 c3 : Nat} (hB : Bk w g 29 [a, b, c, d]) (h1 : PrfM w (.agg #[.int .i64 x.st, .slice A1 n1 c1, .slice A2 n2 c2, .slice A3 n3 c3]) x) (hb : Below U.heap.size U w) (hg : U.heap.size ≤ g) :
    ExtAt U x (.pointer (some ⟨g, 0, none⟩)) (.int .i64 er) ((((w.setCell ⟨g, 0, none⟩ (.int .i64 x.st)).setCell ⟨g, 1, none⟩ (.slice A1 n1 c1)).setCell ⟨g, 2, none⟩ (.slice A2 n2 c2)).setCell ⟨g, 3, none⟩ (.slice A3 n3 c3)) := by
  obtain ⟨k1, k2, k3, k4⟩ := prf_store (B := U.heap.size) (w0 := U) hB hb hg (.int .i64 x.st) (.slice A1 n1 c1) (.slice A2 n2 c2) (.slice A3 n3 c3)
  exact ⟨g, A1, n1, c1, A2, n2, c2, A3, n3, c3, er, rfl, rfl, hg, k1, h1.but k2, k3⟩
namespace Pl
theorem pow_fit {m : Nat} (h : m ≤ 3) : 5 ^ m * 32 ≤ 4000 := by
  have : m = 0 ∨ m = 1 ∨ m = 2 ∨ m = 3 := by omega
  rcases this with rfl | rfl | rfl | rfl <;> decide
theorem lp_fit {p : LPd} (hok : LpOK p) (hr : RsL 32 p.right) : p.Fit 32 := by
  have h1 := hok.2.1
  have h2 := hok.2.2.1
  have h3 := pow_fit h1
  exact ⟨hok.ok (by decide) hr, (lpErr_zero hok.err).2.2.2.1, by omega, hok.2.2.2.1, by omega, by decide, by omega⟩
end Pl

set_option maxRecDepth 100000 in
set_option maxHeartbeats 16000000 in
theorem proofVerify_any (v1 v2 : Value) (zl zm : List Int) (w : World) (h1 : IntsM w v1 zl) (h2 : IntsM w v2 zm) :
    Calls Tryz.prog 3 #[v1, v2] w fun e w' => e = .returned (.bool true) ∧ Below w.heap.size w w' := by
  obtain ⟨a, cap, rfl, _, _⟩ := h1.shape
  obtain ⟨a', cap', rfl, _, _⟩ := h2.shape
  generalize hn : zl.length = nl at *
  generalize hn' : zm.length = nm at *
  clear hn hn'
  go_enter Tryz.func3, Tryz.ntmps3
  go_wp2_with fail
  refine (lp_own _ zl _ h1).mono ?_
  rintro _ w1 ⟨vp, p, rfl, hp, hok, hrr0, hb1⟩
  have hrr := hrr0.mono (show 2 ≤ 32 by decide)
  have HFIT := Lib.hid (lp_fit hok hrr)
  have HLE := Lib.hid hok.err
  have HOK := Lib.hid hok
  have HOK4 := Lib.hid (hok.ok (K := 4000) (by decide) (hrr.mono (by decide)))
  have HCL : Hid (∀ (j : Nat) (c : List En), p.cols[j]? = some c → c.length ≤ 64) := Lib.hid fun j c hc => by have := (hok.2.2.2.2.2 j c hc).2.1; have := hok.2.1; omega
  have HB5 := Lib.hid (pow_fit hok.2.1)
  obtain ⟨X1, X2, X3, X4, X5, X6⟩ := extF_B (s := stateQ p 200) HFIT.out
  have HX1 := Lib.hid (X1.mono HB5.out)
  have HX2 := Lib.hid (X2.mono HB5.out)
  have HX3 := Lib.hid (X3.mono HB5.out)
  have hp5 := hok.2.2.1
  have hp3 := hok.2.1
  have HL1 : Hid ((extF p (stateQ p 200)).x.length ≤ 1000) := Lib.hid (by omega)
  have HL2 : Hid ((extF p (stateQ p 200)).y.length ≤ 1000) := Lib.hid (by omega)
  have HL3 : Hid ((extF p (stateQ p 200)).ray.length ≤ 1000) := Lib.hid (by omega)
  have HP64 : Hid (p.right.length ≤ 64) := Lib.hid (by omega)
  have HP5 : Hid (p.cols.length ≤ 1000) := Lib.hid (by omega)
  have hlp0 := hp.lp
  obtain ⟨A0, n0, c0, A1, n1, c1, A2, m, c2, rfl, hcst0, hcols, hrt⟩ := id hlp0
  obtain ⟨W2, hW2, hX, hbn⟩ := box_lp w1 (.slice A0 n0 c0) (.slice A1 n1 c1) (.slice A2 m c2)
  have hbe2 := below_then hb1 hbn hb1.size
  have hlp := hlp0.below hbn
  have hcst := hcst0.below hbn
  clear hok hp hlp0 hcols hrt hrr0 hrr X1 X2 X3 X4 X5 X6 hp5 hp3 hb1 hbn hcst0 h1
  go_upto_region 2 with (fail)
  clear hW2
  go_cut [6, 7] (fun s6 s7 wx => ExtAt W2 (extF p (stateQ p 200)) s6 s7 wx)
  case first =>
    obtain ⟨x0, x1, x2⟩ := hX.three
    have C0 := stab x0
    have C1 := stab x1
    have C2 := stab x2
    have hS0 := below_drew' W2
    clear x0 x1 x2
    refine region_plan 8 (.go 0 (.go 1 (.fork 2 (.fork 3 (.go 4 (.go 5 (.go 6 (.go 7 (.go 8 (.go 9 .done)))))) 7 (.go 3 (.go 4 (.go 5 (.go 6 (.go 8 (.go 9 .done))))))) 7 (.go 2 (.go 3 (.go 4 (.go 5 (.go 6 (.go 8 (.go 9 .done)))))))))) (by kernel_rfl) (by kernel_rfl) ?_
    repeat ((first | (refine plan_takeP (v := ?_) rfl rfl rfl ?_ ?_; rotate_left; (· (intro _ hSw; go_simp; (try go_bits); (try with_reducible rfl)))) | (refine plan_take (v := ?_) rfl rfl rfl ?_ ?_; rotate_left; (· (intro _ hSw; go_simp; (try go_bits); (try with_reducible rfl)))) | refine plan_skip rfl rfl rfl ?_ | refine plan_skipc rfl rfl rfl (by assumption) ?_); (try simp only [Act.put, pu1, pu2, pu3, pu4, pu5, pu6]))
    refine plan_fork rfl rfl (fun KR hKR => ?_) (fun KR hKR => ?_)
    · go_simp
      with_reducible refine (state_200 _ p 32 _ (hlp.below hS0) HFIT.out HLE.out).mono ?_
      rintro _ wa ⟨va, rfl, hMa, hba⟩
      have hSa := below_then hS0 hba hS0.size
      obtain ⟨Aa, la, ca, rfl, hIa⟩ := id hMa
      refine hKR.out _ _ (Or.inr hSa) ?_
      clear hKR KR
      (try simp only [Act.put, pu1, pu2, pu3, pu4, pu5, pu6])
      refine plan_fork rfl rfl (fun KR hKR => ?_) (fun KR hKR => ?_)
      · go_simp
        with_reducible refine (rextract_any _ _ p (stateQ p 200) 32 _ (hlp.below hSa) hMa HFIT.out HLE.out).mono ?_
        rintro _ wb ⟨vb, er, rfl, hPb, hbb⟩
        have hSb := below_then hSa hbb hSa.size
        obtain ⟨B1, m1, d1, B2, m2, d2, B3, m3, d3, rfl, hP1, hP2, hP3, _, _⟩ := id hPb
        refine hKR.out _ _ (Or.inr hSb) ?_
        clear hKR KR
        (try simp only [Act.put, pu1, pu2, pu3, pu4, pu5, pu6])
        repeat ((first | (refine plan_takeP (v := ?_) rfl rfl rfl ?_ ?_; rotate_left; (· (intro _ hSw; go_simp; (try go_bits); (try with_reducible rfl)))) | (refine plan_take (v := ?_) rfl rfl rfl ?_ ?_; rotate_left; (· (intro _ hSw; go_simp; (try go_bits); (try with_reducible rfl)))) | refine plan_skip rfl rfl rfl ?_ | refine plan_skipc rfl rfl rfl (by assumption) ?_); (try simp only [Act.put, pu1, pu2, pu3, pu4, pu5, pu6]))
        obtain ⟨WG, hWG, hGG, hbG⟩ := box_prf wb (.int .i64 0) (.slice none 0 0) (.slice none 0 0) (.slice none 0 0)
        have hge := hSb.size
        have hSG := below_then hSb hbG hSb.size
        replace hPb := hPb.below hbG
        refine plan_step rfl rfl (fun KR hKR => ?_)
        go_simp
        refine hKR.out _ _ (Or.inr hSG) ?_
        clear hKR KR hWG
        (try simp only [Act.put, pu1, pu2, pu3, pu4, pu5, pu6])
        obtain ⟨t0, t1, t2, t3⟩ := hGG.four
        obtain ⟨f0, f1, f2, f3⟩ := hGG.fourF
        refine plan_step rfl rfl (fun KR hKR => ?_)
        go_simp
        refine hKR.out _ _ (Or.inl (by decide)) ?_
        clear hKR KR
        (try simp only [Act.put, pu1, pu2, pu3, pu4, pu5, pu6])
        refine plan_step rfl rfl (fun KR hKR => ?_)
        go_simp
        refine hKR.out _ _ (Or.inl (by decide)) ?_
        clear hKR KR
        (try simp only [Act.put, pu1, pu2, pu3, pu4, pu5, pu6])
        refine plan_done ?_
        go_wp2_with fail
        go_meet
        exact ExtAt.mk hGG hPb hSG hge
      · obtain ⟨WG, hWG, hGG, hbG⟩ := box_prf wa (.int .i64 0) (.slice none 0 0) (.slice none 0 0) (.slice none 0 0)
        have hge := hSa.size
        have hSG := below_then hSa hbG hSa.size
        replace hMa := hMa.below hbG
        go_simp
        refine hKR.out _ _ (Or.inr hSG) ?_
        clear hKR KR hWG
        (try simp only [Act.put, pu1, pu2, pu3, pu4, pu5, pu6])
        refine plan_step rfl rfl (fun KR hKR => ?_)
        go_simp
        with_reducible refine (rextract_any _ _ p (stateQ p 200) 32 _ (hlp.below hSG) hMa HFIT.out HLE.out).mono ?_
        rintro _ wb ⟨vb, er, rfl, hPb, hbb⟩
        have hSb := below_then hSG hbb hSG.size
        obtain ⟨B1, m1, d1, B2, m2, d2, B3, m3, d3, rfl, hP1, hP2, hP3, _, _⟩ := id hPb
        replace hGG := hGG.later hbb
        refine hKR.out _ _ (Or.inr hSb) ?_
        clear hKR KR
        (try simp only [Act.put, pu1, pu2, pu3, pu4, pu5, pu6])
        repeat ((first | (refine plan_takeP (v := ?_) rfl rfl rfl ?_ ?_; rotate_left; (· (intro _ hSw; go_simp; (try go_bits); (try with_reducible rfl)))) | (refine plan_take (v := ?_) rfl rfl rfl ?_ ?_; rotate_left; (· (intro _ hSw; go_simp; (try go_bits); (try with_reducible rfl)))) | refine plan_skip rfl rfl rfl ?_ | refine plan_skipc rfl rfl rfl (by assumption) ?_); (try simp only [Act.put, pu1, pu2, pu3, pu4, pu5, pu6]))
        obtain ⟨t0, t1, t2, t3⟩ := hGG.four
        obtain ⟨f0, f1, f2, f3⟩ := hGG.fourF
        refine plan_step rfl rfl (fun KR hKR => ?_)
        go_simp
        refine hKR.out _ _ (Or.inl (by decide)) ?_
        clear hKR KR
        (try simp only [Act.put, pu1, pu2, pu3, pu4, pu5, pu6])
        refine plan_step rfl rfl (fun KR hKR => ?_)
        go_simp
        refine hKR.out _ _ (Or.inl (by decide)) ?_
        clear hKR KR
        (try simp only [Act.put, pu1, pu2, pu3, pu4, pu5, pu6])
        refine plan_done ?_
        go_wp2_with fail
        go_meet
        exact ExtAt.mk hGG hPb hSb hge
    · obtain ⟨WG, hWG, hGG, hbG⟩ := box_prf W2.drew (.int .i64 0) (.slice none 0 0) (.slice none 0 0) (.slice none 0 0)
      have hge := hS0.size
      have hSG := below_then hS0 hbG hS0.size
      go_simp
      refine hKR.out _ _ (Or.inr hSG) ?_
      clear hKR KR hWG
      (try simp only [Act.put, pu1, pu2, pu3, pu4, pu5, pu6])
      change Bk WG W2.heap.size 29 _ at hGG
      refine plan_step rfl rfl (fun KR hKR => ?_)
      go_simp
      with_reducible refine (state_200 _ p 32 _ (hlp.below hSG) HFIT.out HLE.out).mono ?_
      rintro _ wa ⟨va, rfl, hMa, hba⟩
      have hSa := below_then hSG hba hSG.size
      obtain ⟨Aa, la, ca, rfl, hIa⟩ := id hMa
      replace hGG := hGG.later hba
      refine hKR.out _ _ (Or.inr hSa) ?_
      clear hKR KR
      (try simp only [Act.put, pu1, pu2, pu3, pu4, pu5, pu6])
      refine plan_step rfl rfl (fun KR hKR => ?_)
      go_simp
      with_reducible refine (rextract_any _ _ p (stateQ p 200) 32 _ (hlp.below hSa) hMa HFIT.out HLE.out).mono ?_
      rintro _ wb ⟨vb, er, rfl, hPb, hbb⟩
      have hSb := below_then hSa hbb hSa.size
      obtain ⟨B1, m1, d1, B2, m2, d2, B3, m3, d3, rfl, hP1, hP2, hP3, _, _⟩ := id hPb
      replace hGG := hGG.later hbb
      refine hKR.out _ _ (Or.inr hSb) ?_
      clear hKR KR
      (try simp only [Act.put, pu1, pu2, pu3, pu4, pu5, pu6])
      repeat ((first | (refine plan_takeP (v := ?_) rfl rfl rfl ?_ ?_; rotate_left; (· (intro _ hSw; go_simp; (try go_bits); (try with_reducible rfl)))) | (refine plan_take (v := ?_) rfl rfl rfl ?_ ?_; rotate_left; (· (intro _ hSw; go_simp; (try go_bits); (try with_reducible rfl)))) | refine plan_skip rfl rfl rfl ?_ | refine plan_skipc rfl rfl rfl (by assumption) ?_); (try simp only [Act.put, pu1, pu2, pu3, pu4, pu5, pu6]))
      obtain ⟨t0, t1, t2, t3⟩ := hGG.four
      obtain ⟨f0, f1, f2, f3⟩ := hGG.fourF
      refine plan_step rfl rfl (fun KR hKR => ?_)
      go_simp
      refine hKR.out _ _ (Or.inl (by decide)) ?_
      clear hKR KR
      (try simp only [Act.put, pu1, pu2, pu3, pu4, pu5, pu6])
      refine plan_step rfl rfl (fun KR hKR => ?_)
      go_simp
      refine hKR.out _ _ (Or.inl (by decide)) ?_
      clear hKR KR
      (try simp only [Act.put, pu1, pu2, pu3, pu4, pu5, pu6])
      refine plan_done ?_
      go_wp2_with fail
      go_meet
      exact ExtAt.mk hGG hPb hSb hge
  case rest =>
    obtain ⟨gx, B1, m1, d1, B2, m2, d2, B3, m3, d3, er, rfl, rfl, hgx, hP3, hx3, hb3⟩ := hcut
    have hX3 := hX.later hb3
    obtain ⟨x0, x1, x2⟩ := hX3.three
    obtain ⟨p0, p1, p2, p3⟩ := hP3.four
    go_wp2_with fail
    refine (made_any _ _ _ p (extF p (stateQ p 200)) zm 4000 _ (hlp.below hb3) hx3 (h2.below (below_then hbe2 hb3 hbe2.size)) (by decide) HX1.out HX2.out HX3.out HL1.out HL2.out HL3.out HP64.out HP5.out).mono ?_
    rintro _ w4 ⟨v4, y, rfl, hy4, hkx, hky, hkr, hb4⟩
    have HKX := Lib.hid hkx
    have HKY := Lib.hid hky
    have HKR := Lib.hid hkr
    obtain ⟨E1, e1, g1, E2, e2, g2, E3, e3, g3, rfl, _, _, _, _, _⟩ := id hy4
    obtain ⟨W5, hW5, hY5, hb5⟩ := box_prf w4 (.int .i64 0) (.slice none 0 0) (.slice none 0 0) (.slice none 0 0)
    have hb34 := below_then hb3 hb4 hb3.size
    have hb35 := below_then hb34 hb5 hb34.size
    obtain ⟨k1, k2, k3, k4⟩ := prf_store (B := W2.heap.size) (w0 := W2) hY5 hb35 hb34.size (.int .i64 y.st) (.slice E1 e1 g1) (.slice E2 e2 g2) (.slice E3 e3 g3)
    have hX5 := k4 _ _ _ (Nat.ne_of_lt (hX.later hb34).lt_) (hX.later hb35)
    have hy := (hy4.below hb5).but k2
    have hbU := k3
    have hYU := k1
    obtain ⟨q0, q1, q2, q3⟩ := hY5.four
    obtain ⟨f0, f1, f2, f3⟩ := hY5.fourF
    clear x0 x1 x2 p0 p1 p2 p3 hkx hky hkr hX3 hP3 hx3 hb3 hb4 hb5 hb34 hb35 k2 k3 k4
    go_upto_region 4 with (fail)
    clear q0 q1 q2 q3 f0 f1 f2 f3 hY5 hW5 k1 hy4
    generalize w4.heap.size = gy at *
    generalize (((W5.setCell ⟨gy, 0, none⟩ (.int .i64 y.st)).setCell ⟨gy, 1, none⟩ (.slice E1 e1 g1)).setCell ⟨gy, 2, none⟩ (.slice E2 e2 g2)).setCell ⟨gy, 3, none⟩ (.slice E3 e3 g3) = U at *
    have hbw := below_then hbe2 hbU hbe2.size
    obtain ⟨x0, x1, x2⟩ := hX5.three
    obtain ⟨p0, p1, p2, p3⟩ := hYU.four
    have C0 := stab x0
    have C1 := stab x1
    have C2 := stab x2
    have D0 := stab p0
    have D1 := stab p1
    have D2 := stab p2
    have D3 := stab p3
    have hS0 := below_drew' U
    clear x0 x1 x2 p0 p1 p2 p3
    refine region_seq 11 [0, 1, 3, 4, 2, 5, 6, 7, 8, 9, 10] (by kernel_rfl) (by kernel_rfl) ?_
    repeat ((first | (refine seq_takeP (v := ?_) rfl rfl rfl ?_ ?_; rotate_left; (· (intro _ hSw; go_simp; (try go_bits); (try with_reducible rfl)))) | (refine seq_take (v := ?_) rfl rfl rfl ?_ ?_; rotate_left; (· (intro _ hSw; go_simp; (try go_bits); (try with_reducible rfl)))) | refine seq_skip rfl rfl rfl ?_ | refine seq_skipc rfl rfl rfl (by assumption) ?_); (try simp only [Act.put, pu1, pu2, pu3, pu4, pu5, pu6]))
    refine seq_step rfl rfl (fun KR hKR => ?_)
    go_simp
    with_reducible refine (verify_any _ _ p y 4000 _ (hlp.below (below_then hbU hS0 hbU.size)) (hy.below hS0) HOK4.out HKX.out HKY.out HKR.out (by decide) HCL.out (by decide)).mono ?_
    generalize hq : verQ p y = q
    have HQ := Lib.hid hq
    clear hq
    rintro _ w7 ⟨rfl, hb7⟩
    have hS7 := below_then hS0 hb7 hS0.size
    refine hKR.out _ _ (Or.inr hS7) ?_
    clear hKR KR
    (try simp only [Act.put, pu1, pu2, pu3, pu4, pu5, pu6])
    repeat ((first | (refine seq_takeP (v := ?_) rfl rfl rfl ?_ ?_; rotate_left; (· (intro _ hSw; go_simp; (try go_bits); (try with_reducible rfl)))) | (refine seq_take (v := ?_) rfl rfl rfl ?_ ?_; rotate_left; (· (intro _ hSw; go_simp; (try go_bits); (try with_reducible rfl)))) | refine seq_skip rfl rfl rfl ?_ | refine seq_skipc rfl rfl rfl (by assumption) ?_); (try simp only [Act.put, pu1, pu2, pu3, pu4, pu5, pu6]))
    refine seq_step rfl rfl (fun KR hKR => ?_)
    go_simp
    with_reducible refine (rverify_any _ _ p y 4000 _ (hlp.below (below_then hbU hS7 hbU.size)) (hy.below hS7) HOK4.out HKX.out HKY.out HKR.out (by decide) (by decide) HLE.out).mono ?_
    rw [HQ.out]
    rintro _ w8 ⟨rfl, hb8⟩
    have hS8 := below_then hS7 hb8 hS7.size
    have heq : (q == q) = true := by simp
    refine hKR.out _ _ (Or.inr hS8) ?_
    clear hKR KR
    (try simp only [Act.put, pu1, pu2, pu3, pu4, pu5, pu6])
    repeat ((first | (refine seq_takeP (v := ?_) rfl rfl rfl ?_ ?_; rotate_left; (· (intro _ hSw; go_simp; (try go_bits); (try with_reducible rfl)))) | (refine seq_take (v := ?_) rfl rfl rfl ?_ ?_; rotate_left; (· (intro _ hSw; go_simp; (try go_bits); (try with_reducible rfl)))) | refine seq_skip rfl rfl rfl ?_ | refine seq_skipc rfl rfl rfl (by assumption) ?_); (try simp only [Act.put, pu1, pu2, pu3, pu4, pu5, pu6]))
    refine seq_step rfl rfl (fun KR hKR => ?_)
    go_simp
    with_reducible refine (known_any _).mono ?_
    rintro _ w9 ⟨rfl, hb9⟩
    have hS9 := below_then hS8 hb9 hS8.size
    refine hKR.out _ _ (Or.inr hS9) ?_
    clear hKR KR
    (try simp only [Act.put, pu1, pu2, pu3, pu4, pu5, pu6])
    repeat ((first | (refine seq_takeP (v := ?_) rfl rfl rfl ?_ ?_; rotate_left; (· (intro _ hSw; go_simp; (try go_bits); (try with_reducible rfl)))) | (refine seq_take (v := ?_) rfl rfl rfl ?_ ?_; rotate_left; (· (intro _ hSw; go_simp; (try go_bits); (try with_reducible rfl)))) | refine seq_skip rfl rfl rfl ?_ | refine seq_skipc rfl rfl rfl (by assumption) ?_); (try simp only [Act.put, pu1, pu2, pu3, pu4, pu5, pu6]))
    refine seq_done ?_
    have bfin := below_then hbw hS9 hbw.size
    clear C0 C1 C2 D0 D1 D2 D3
    go_wp2
    go_ret
    exact ⟨rfl, bfin⟩

end Go.Proofs.YtpanffbgihhjnaaGreat
