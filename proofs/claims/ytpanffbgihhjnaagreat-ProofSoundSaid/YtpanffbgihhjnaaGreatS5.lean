/- Contracts and plain facts that the claim is built on, joined out of smaller texts. -/
import Derived.Deep.DeepCutAuto
import Derived.OwnWalk
import Derived.Test.YtpanffbgihhjnaaGreatS4
set_option linter.unusedVariables false
set_option linter.unusedSimpArgs false
/- Plain: the known example. -/
namespace Go.Proofs.YtpanffbgihhjnaaGreat
open Go.RowKit Pl
namespace Pl
def kI (z : Int) : RF := canF (z : Rat)
theorem kI_q (z : Int) : (kI z).q = (z : Rat) := canF_q _
theorem kI_rs {z : Int} (h : -4294967296 < z) (h2 : z < 4294967296) : (kI z).Rs 1 := (Sz_int h h2).rs
def kp : LPd := ⟨[kI 0], [[⟨0, kI 1⟩]], [kI (-1)]⟩
theorem qAt_one (f : RF) : qAt [f] 0 = f.q := rfl
theorem kp_err : lpErr kp = 0 := by
  have h1 : (kI 1).q ≠ 0 := by rw [kI_q]; decide
  unfold lpErr kp
  simp [colsErr, vecErr, vErr, leP, h1]
theorem one_rs {k : Nat} {f : RF} (h : f.Rs k) : RsL k [f] := fun i g hg => by
  match i, hg with
  | 0, hg => simp at hg; subst hg; exact h
theorem kp_ok {K : Nat} (hK : 1 ≤ K) : kp.Ok K := by
  refine ⟨one_rs ((kI_rs (by decide) (by decide)).mono hK), one_rs ((kI_rs (by decide) (by decide)).mono hK), fun j c hc => ?_⟩
  match j, hc with
  | 0, hc =>
    simp [kp] at hc
    subst hc
    refine ⟨fun k e he => ?_, fun k e he => ?_⟩
    · match k, he with
      | 0, he => simp at he; subst he; decide
    · match k, he with
      | 0, he => simp at he; subst he; exact (kI_rs (by decide) (by decide)).mono hK
theorem kp_len : ∀ (j : Nat) (c : List En), kp.cols[j]? = some c → c.length ≤ 64 := fun j c hc => by
  match j, hc with
  | 0, hc => simp [kp] at hc; subst hc; decide
theorem kp_col (i : Nat) : kp.col ((0 : Nat) : Int) i = if i = 0 then 1 else 0 := by
  rw [col_colC]
  show dQ [⟨0, kI 1⟩] (fun _ => 0) i = _
  simp only [dQ, kI_q]
  by_cases h : i = 0
  · subst h; rfl
  · rw [if_neg (show ¬ (0 : Int) = (i : Int) by omega), if_neg h]
theorem kp_dot (z : Int) : dotC [kI z] (kp.col ((0 : Nat) : Int)) kp.right.length = (z : Rat) := by
  show 0 + qAt [kI z] 0 * kp.col ((0 : Nat) : Int) 0 = _
  rw [kp_col, qAt_one, kI_q]; simp; grind
theorem kp_right (z : Int) : dotQ [kI z] kp.right kp.right.length = ((-z : Int) : Rat) := by
  show 0 + qAt [kI z] 0 * qAt [kI (-1)] 0 = _
  rw [qAt_one, qAt_one, kI_q, kI_q, Rat.intCast_neg]; grind
theorem kp_ver1 : verQ kp ⟨2, [], [kI (-1)], []⟩ = 0 := by
  refine verQ_5 kp_err (by decide) (by decide) ?_
  unfold holdB hold2
  simp only [if_neg (show ¬ (2 : Int) = 1 by decide), if_true]
  rw [Bool.and_eq_true]
  refine ⟨decide_eq_true fun j hj => ?_, ?_⟩
  · obtain rfl : j = 0 := by have : kp.cols.length = 1 := rfl; omega
    rw [kp_dot]; decide
  · rw [kp_right]; decide
theorem kp_ver2 : verQ kp ⟨2, [], [kI 1], []⟩ = 24 := by
  refine verQ_4 kp_err (by decide) (by decide) ?_
  unfold holdB hold2
  simp only [if_neg (show ¬ (2 : Int) = 1 by decide), if_true]
  rw [Bool.and_eq_false_iff]
  refine .inl (decide_eq_false fun g => ?_)
  have := g 0 (by decide)
  rw [kp_dot] at this
  exact absurd this (by decide)
theorem kp_low : lowB kp [kI (-2)] = true := by
  refine lowB_4 kp_err rfl fun j hj => ?_
  obtain rfl : j = 0 := by have : kp.cols.length = 1 := rfl; omega
  rw [kp_dot]
  show _ ≤ qAt [kI 0] 0
  rw [qAt_one, kI_q]; decide
theorem kp_lowF : lowF kp [kI (-2)] = kI 2 := by
  rw [lowF_yes kp_low, kp_right]; rfl
theorem kp_feas : feasB kp [kI 1] = false := by
  rw [feasB_eq kp_err, Bool.and_eq_false_iff]
  refine .inr (combB_false (i := 0) (by decide) ?_)
  show 0 + qAt [kI 1] 0 * kp.col ((0 : Nat) : Int) 0 ≠ qAt [kI (-1)] 0
  rw [kp_col, qAt_one, qAt_one, kI_q, kI_q, if_pos rfl, Rat.mul_one, Rat.zero_add]; decide
end Pl
section
variable {w : World} {g : Nat}
theorem FrsM.one {b b' : Bool} {A A' : Option Addr} {n c n' c' : Nat} {f : RF} (hB : Bk w g 47 [.bool b, .slice A n c, .bool b', .slice A' n' c']) (h : FracM w (.agg #[.bool b, .slice A n c, .bool b', .slice A' n' c']) f) : FrsM w (.slice (some ⟨g, 0, none⟩) 1 1) [f] := by
  refine ⟨[.bool b, .slice A n c, .bool b', .slice A' n' c'], ⟨_, 1, rfl, rfl, Nat.le_refl _, by unfold maxLen; omega, fun _ => ⟨g, 0, _, _, rfl, hB, fun j u hj => by simpa using hj⟩⟩, rfl, fun k f' hf => ?_⟩
  match k, hf with
  | 0, hf => simp at hf; subst hf; exact ⟨_, _, _, _, rfl, rfl, rfl, rfl, h⟩
theorem VecM.one {k : Int} {b b' : Bool} {A A' : Option Addr} {n c n' c' : Nat} {f : RF} (hB : Bk w g 80 [.int .i64 k, .bool b, .slice A n c, .bool b', .slice A' n' c']) (h : FracM w (.agg #[.bool b, .slice A n c, .bool b', .slice A' n' c']) f) : VecM w (.slice (some ⟨g, 0, none⟩) 1 1) [⟨k, f⟩] := by
  refine ⟨[.int .i64 k, .bool b, .slice A n c, .bool b', .slice A' n' c'], ⟨_, 1, rfl, rfl, Nat.le_refl _, by unfold maxLen; omega, fun _ => ⟨g, 0, _, _, rfl, hB, fun j u hj => by simpa using hj⟩⟩, rfl, fun j f' hf => ?_⟩
  match j, hf with
  | 0, hf => simp at hf; subst hf; exact ⟨_, _, _, _, rfl, rfl, rfl, rfl, rfl, h⟩
theorem VecsM.one {v : Value} {es : List En} (hB : Bk w g 59 [v]) (h : VecM w v es) : VecsM w (.slice (some ⟨g, 0, none⟩) 1 1) [es] := by
  refine ⟨[v], ⟨_, 1, rfl, rfl, Nat.le_refl _, by unfold maxLen; omega, fun _ => ⟨g, 0, _, _, rfl, hB, fun j u hj => by simpa using hj⟩⟩, fun j f' hf => ?_⟩
  match j, hf with
  | 0, hf => simp at hf; subst hf; exact ⟨_, rfl, h⟩
theorem FrsM.nil (w : World) : FrsM w (.slice none 0 0) [] := ⟨[], RowM.nil w _ _ none 0 (by simp), FrC.nil w⟩
end
end Go.Proofs.YtpanffbgihhjnaaGreat

/- Walks: pairinglaw26.known. -/
namespace Go.Proofs.YtpanffbgihhjnaaGreat
open Go.RowKit Pl
attribute [local go_sem ↓] Go.wp_at_zero Go.wp_at_succ

theorem box_v (w : World) (x : Value) : ∃ W, w.alloc (.cells #[x] 59) = W ∧ Bk W w.heap.size 59 [x] ∧ Below w.heap.size w W := ⟨_, rfl, Bk.new w _ [x], below_new w _⟩
theorem Bk.drewB {w : World} {g : Nat} {t : TypeId} {cs : List Value} (_h : Bk w g t cs) : Below w.heap.size w w.drew := below_drew' w
def KnownAt (U : World) (s4 s5 : Value) (wx : World) : Prop :=
  ∃ g A n c A' n' c', s4 = .pointer (some ⟨g, 0, none⟩) ∧ s5 = .bool true ∧ Bk wx g 47 [.bool (kI 2).num.neg, .slice A n c, .bool (kI 2).den.neg, .slice A' n' c'] ∧ FracM wx (.agg #[.bool (kI 2).num.neg, .slice A n c, .bool (kI 2).den.neg, .slice A' n' c']) (kI 2) ∧ Below U.heap.size U wx
theorem KnownAt.mk {U w : World} {g : Nat} {x y z u : Value} {A A' : Option Addr} {n c n' c' : Nat} (hB : Bk w g 47 [x, y, z, u]) (hF : FracM w (.agg #[.bool (kI 2).num.neg, .slice A n c, .bool (kI 2).den.neg, .slice A' n' c']) (kI 2)) (hb : Below U.heap.size U w) (hg : U.heap.size ≤ g) :
    KnownAt U (.pointer (some ⟨g, 0, none⟩)) (.bool true) ((((w.setCell ⟨g, 0, none⟩ (.bool (kI 2).num.neg)).setCell ⟨g, 1, none⟩ (.slice A n c)).setCell ⟨g, 2, none⟩ (.bool (kI 2).den.neg)).setCell ⟨g, 3, none⟩ (.slice A' n' c')) :=
  ⟨g, A, n, c, A', n', c', rfl, rfl, hB.set4 _ _ _ _, hF.keep (hB.keep4 (by decide) _ _ _ _), below_set4 hb hg _ _ _ _⟩

set_option maxRecDepth 100000 in
set_option maxHeartbeats 8000000 in
theorem known_any (w : World) : Calls Tryz.prog 13 #[] w fun e w' => e = .returned (.bool true) ∧ Below w.heap.size w w' := by
  go_enter Tryz.func13, Tryz.ntmps13
  go_wp2_with fail
  refine (rint_own (0) _ (by omega) (by omega)).mono ?_
  rw [show canF ((0 : Int) : Rat) = kI (0) from rfl]
  rintro _ w1 ⟨v1, rfl, e1, hb1⟩
  have HF1 := Lib.hid e1.frac
  clear e1
  generalize hk1 : kI (0) = k1 at *
  have HK1 := Lib.hid hk1
  clear hk1
  obtain ⟨A1, n1, c1, B1, m1, d1, rfl, _, _⟩ := id HF1.out
  obtain ⟨U1, hU1, hL1, hu1⟩ := boxF1 w1 (.bool k1.num.neg) (.slice A1 n1 c1) (.bool k1.den.neg) (.slice B1 m1 d1)
  have bU1 := below_then hb1 hu1 hb1.size
  go_wp2_with fail
  clear hU1
  refine (rint_own (1) _ (by omega) (by omega)).mono ?_
  rw [show canF ((1 : Int) : Rat) = kI (1) from rfl]
  rintro _ w2 ⟨v2, rfl, e2, hb2⟩
  have HF2 := Lib.hid e2.frac
  clear e2
  generalize hk2 : kI (1) = k2 at *
  have HK2 := Lib.hid hk2
  clear hk2
  obtain ⟨A2, n2, c2, B2, m2, d2, rfl, _, _⟩ := id HF2.out
  have bw2 := below_then bU1 hb2 bU1.size
  obtain ⟨U2, hU2, hL2, hu2⟩ := box_en w2 (.int .i64 0) (.bool k2.num.neg) (.slice A2 n2 c2) (.bool k2.den.neg) (.slice B2 m2 d2)
  have bU2 := below_then bw2 hu2 bw2.size
  obtain ⟨U3, hU3, hL3, hu3⟩ := box_v U2 (.slice (some ⟨w2.heap.size, 0, none⟩) 1 1)
  have bU3 := below_then bU2 hu3 bU2.size
  go_wp2_with fail
  clear hU2 hU3
  refine (rint_own (-1) _ (by omega) (by omega)).mono ?_
  rw [show canF ((-1 : Int) : Rat) = kI (-1) from rfl]
  rintro _ w3 ⟨v3, rfl, e3, hb3⟩
  have HF3 := Lib.hid e3.frac
  clear e3
  generalize hk3 : kI (-1) = k3 at *
  have HK3 := Lib.hid hk3
  clear hk3
  obtain ⟨A3, n3, c3, B3, m3, d3, rfl, _, _⟩ := id HF3.out
  have bw3 := below_then bU3 hb3 bU3.size
  obtain ⟨U4, hU4, hL4, hu4⟩ := boxF1 w3 (.bool k3.num.neg) (.slice A3 n3 c3) (.bool k3.den.neg) (.slice B3 m3 d3)
  have bU4 := below_then bw3 hu4 bw3.size
  obtain ⟨U5, hU5, hP, hu5⟩ := box_lp U4 (.slice (some ⟨w1.heap.size, 0, none⟩) 1 1) (.slice (some ⟨U2.heap.size, 0, none⟩) 1 1) (.slice (some ⟨w3.heap.size, 0, none⟩) 1 1)
  have bU5 := below_then bU4 hu5 bU4.size
  go_wp2_with fail
  clear hU4 hU5
  have b15 := below_then (below_then (below_then (below_then (below_then hb2 hu2 hb2.size) hu3 (by have := hb2.size; have := hu2.size; omega)) hb3 (by have := hb2.size; have := hu2.size; have := hu3.size; omega)) hu4 (by have := hb2.size; have := hu2.size; have := hu3.size; have := hb3.size; omega)) hu5 (by have := hb2.size; have := hu2.size; have := hu3.size; have := hb3.size; have := hu4.size; omega)
  have b25 := below_then (below_then (below_then hu3 hb3 hu3.size) hu4 (by have := hu3.size; have := hb3.size; omega)) hu5 (by have := hu3.size; have := hb3.size; have := hu4.size; omega)
  have b35 := below_then (below_then hb3 hu4 hb3.size) hu5 (by have := hb3.size; have := hu4.size; omega)
  have hp : LpM U5 (.agg #[.slice (some ⟨w1.heap.size, 0, none⟩) 1 1, .slice (some ⟨U2.heap.size, 0, none⟩) 1 1, .slice (some ⟨w3.heap.size, 0, none⟩) 1 1]) kp := by
    unfold kp
    rw [HK1.out, HK2.out, HK3.out]
    exact ⟨_, _, _, _, _, _, _, _, _, rfl, (FrsM.one hL1 (HF1.out.below hu1)).below b15, ((VecsM.one hL3 ((VecM.one hL2 (HF2.out.below hu2)).below hu3)).below b35), (FrsM.one hL4 (HF3.out.below hu4)).below hu5⟩
  have HP := Lib.hid hp
  clear hp b15 b25 b35 hL1 hL2 hL3 hL4 hu1 hu2 hu3 hu4 hu5 hb1 hb2 hb3 bU1 bw2 bU2 bU3 bw3 bU4 HF1 HF2 HF3
  generalize hg1 : U4.heap.size = gp at *
  clear hg1
  refine (rint_own (-1) _ (by omega) (by omega)).mono ?_
  rw [show canF ((-1 : Int) : Rat) = kI (-1) from rfl]
  rintro _ w4 ⟨v4, rfl, e4, hb4⟩
  have HF4 := Lib.hid e4.frac
  clear e4
  generalize hk4 : kI (-1) = k4 at *
  have HK4 := Lib.hid hk4
  clear hk4
  obtain ⟨A4, n4, c4, B4, m4, d4, rfl, _, _⟩ := id HF4.out
  obtain ⟨U6, hU6, hL6, hu6⟩ := boxF1 w4 (.bool k4.num.neg) (.slice A4 n4 c4) (.bool k4.den.neg) (.slice B4 m4 d4)
  obtain ⟨Z7, hZ7, hX10, hz7⟩ := box_prf U6 (.int .i64 0) (.slice none 0 0) (.slice none 0 0) (.slice none 0 0)
  obtain ⟨q0, q1, q2, q3⟩ := hX10.four
  obtain ⟨h0, h1, h2, h3⟩ := hX10.fourF
  have hX1 := hX10.set4 (.int .i64 2) (.slice none 0 0) (.slice (some ⟨w4.heap.size, 0, none⟩) 1 1) (.slice none 0 0)
  have hu7 := below_set4 hz7 (Nat.le_refl _) (.int .i64 2) (.slice none 0 0) (.slice (some ⟨w4.heap.size, 0, none⟩) 1 1) (.slice none 0 0)
  have b47 := below_then (below_then hb4 hu6 hb4.size) hu7 (by have := hb4.size; have := hu6.size; omega)
  go_wp2_with fail
  clear hU6 hZ7 q0 q1 q2 q3 h0 h1 h2 h3 hX10 hz7
  generalize (((Z7.setCell ⟨U6.heap.size, 0, none⟩ (.int .i64 2)).setCell ⟨U6.heap.size, 1, none⟩ (.slice none 0 0)).setCell ⟨U6.heap.size, 2, none⟩ (.slice (some ⟨w4.heap.size, 0, none⟩) 1 1)).setCell ⟨U6.heap.size, 3, none⟩ (.slice none 0 0) = U7 at *
  have hx1 : PrfM U7 (.agg #[.int .i64 2, .slice none 0 0, .slice (some ⟨w4.heap.size, 0, none⟩) 1 1, .slice none 0 0]) ⟨2, [], [kI (-1)], []⟩ := by
    rw [HK4.out]
    exact ⟨_, _, _, _, _, _, _, _, _, rfl, FrsM.nil _, (FrsM.one hL6 (HF4.out.below hu6)).below hu7, FrsM.nil _, by simp, by simp⟩
  have HX1 := Lib.hid hx1
  have bU7 := below_then bU5 b47 bU5.size
  have hP7 := hP.later b47
  have HP7 := Lib.hid (HP.out.below b47)
  clear hx1 hL6 hu6 hu7 hb4 HF4 hP HP b47 bU5
  generalize hg2 : U6.heap.size = g1 at *
  clear hg2
  generalize hg3 : w4.heap.size = gy1 at *
  clear hg3
  refine (rint_own (1) _ (by omega) (by omega)).mono ?_
  rw [show canF ((1 : Int) : Rat) = kI (1) from rfl]
  rintro _ w5 ⟨v5, rfl, e5, hb5⟩
  have HF5 := Lib.hid e5.frac
  clear e5
  generalize hk5 : kI (1) = k5 at *
  have HK5 := Lib.hid hk5
  clear hk5
  obtain ⟨A5, n5, c5, B5, m5, d5, rfl, _, _⟩ := id HF5.out
  obtain ⟨U8, hU8, hL8, hu8⟩ := boxF1 w5 (.bool k5.num.neg) (.slice A5 n5 c5) (.bool k5.den.neg) (.slice B5 m5 d5)
  obtain ⟨Z9, hZ9, hX20, hz9⟩ := box_prf U8 (.int .i64 0) (.slice none 0 0) (.slice none 0 0) (.slice none 0 0)
  obtain ⟨q0, q1, q2, q3⟩ := hX20.four
  obtain ⟨h0, h1, h2, h3⟩ := hX20.fourF
  have hX2 := hX20.set4 (.int .i64 2) (.slice none 0 0) (.slice (some ⟨w5.heap.size, 0, none⟩) 1 1) (.slice none 0 0)
  have hu9 := below_set4 hz9 (Nat.le_refl _) (.int .i64 2) (.slice none 0 0) (.slice (some ⟨w5.heap.size, 0, none⟩) 1 1) (.slice none 0 0)
  have b59 := below_then (below_then hb5 hu8 hb5.size) hu9 (by have := hb5.size; have := hu8.size; omega)
  go_upto_region 4 with (fail)
  clear hU8 hZ9 q0 q1 q2 q3 h0 h1 h2 h3 hX20 hz9
  generalize (((Z9.setCell ⟨U8.heap.size, 0, none⟩ (.int .i64 2)).setCell ⟨U8.heap.size, 1, none⟩ (.slice none 0 0)).setCell ⟨U8.heap.size, 2, none⟩ (.slice (some ⟨w5.heap.size, 0, none⟩) 1 1)).setCell ⟨U8.heap.size, 3, none⟩ (.slice none 0 0) = U9 at *
  have hx2 : PrfM U9 (.agg #[.int .i64 2, .slice none 0 0, .slice (some ⟨w5.heap.size, 0, none⟩) 1 1, .slice none 0 0]) ⟨2, [], [kI 1], []⟩ := by
    rw [HK5.out]
    exact ⟨_, _, _, _, _, _, _, _, _, rfl, FrsM.nil _, (FrsM.one hL8 (HF5.out.below hu8)).below hu9, FrsM.nil _, by simp, by simp⟩
  have HX2 := Lib.hid hx2
  have bU9 := below_then bU7 b59 bU7.size
  have hP9 := hP7.later b59
  have HP9 := Lib.hid (HP7.out.below b59)
  have hX19 := hX1.later b59
  have HX19 := Lib.hid (HX1.out.below b59)
  clear hx2 hL8 hu8 hu9 hb5 HF5 hP7 HP7 hX1 HX1 b59 bU7
  generalize hg4 : U8.heap.size = g2 at *
  clear hg4
  generalize hg5 : w5.heap.size = gy2 at *
  clear hg5
  go_cut [4, 5] (fun s4 s5 wx => KnownAt U9 s4 s5 wx)
  case first =>
    obtain ⟨x0, x1, x2⟩ := hP9.three
    have C0 := stab x0
    have C1 := stab x1
    have C2 := stab x2
    have hS0 := below_drew' U9
    clear x0 x1 x2
    refine region_plan 8 (.go 0 (.fork 1 (.fork 2 (.fork 3 (.go 4 (.go 5 (.go 6 (.go 7 (.go 8 (.go 9 .done)))))) 7 (.go 3 (.go 4 (.go 5 (.go 6 (.go 8 (.go 9 .done))))))) 7 (.go 2 (.go 3 (.go 4 (.go 5 (.go 6 (.go 8 (.go 9 .done)))))))) 7 (.go 1 (.go 2 (.go 3 (.go 4 (.go 5 (.go 6 (.go 8 (.go 9 .done)))))))))) (by kernel_rfl) (by kernel_rfl) ?_
    repeat ((first | (refine plan_takeP (v := ?_) rfl rfl rfl ?_ ?_; rotate_left; (· (intro _ hSw; go_simp; (try go_bits); (try with_reducible rfl)))) | (refine plan_take (v := ?_) rfl rfl rfl ?_ ?_; rotate_left; (· (intro _ hSw; go_simp; (try go_bits); (try with_reducible rfl)))) | refine plan_skip rfl rfl rfl ?_ | refine plan_skipc rfl rfl rfl (by assumption) ?_); (try simp only [Act.put, pu1, pu2, pu3, pu4, pu5, pu6]))
    refine plan_fork rfl rfl (fun KR hKR => ?_) (fun KR hKR => ?_)
    · go_simp
      with_reducible refine (rint_own (-2) _ (by omega) (by omega)).mono ?_
      rw [show canF ((-2 : Int) : Rat) = kI (-2) from rfl]
      rintro _ wA ⟨vA, rfl, eA, hbA⟩
      have hSA := below_then hS0 hbA hS0.size
      obtain ⟨A6, n6, c6, B6, m6, d6, rfl, _, _⟩ := id eA.frac
      have hFA := eA.frac
      clear eA
      refine hKR.out _ _ (Or.inr hSA) ?_
      clear hKR KR
      (try simp only [Act.put, pu1, pu2, pu3, pu4, pu5, pu6])
      refine plan_fork rfl rfl (fun KR hKR => ?_) (fun KR hKR => ?_)
      · obtain ⟨WB, hWB, hLB, hbB⟩ := boxF1 wA (.bool (kI (-2)).num.neg) (.slice A6 n6 c6) (.bool (kI (-2)).den.neg) (.slice B6 m6 d6)
        go_simp
        have hSB := below_then hSA hbB hSA.size
        refine hKR.out _ _ (Or.inr hSB) ?_
        clear hKR KR hWB
        (try simp only [Act.put, pu1, pu2, pu3, pu4, pu5, pu6])
        have hYB := FrsM.one hLB (hFA.below hbB)
        clear hLB
        refine plan_fork rfl rfl (fun KR hKR => ?_) (fun KR hKR => ?_)
        · go_simp
          with_reducible refine (lowerBound_any _ _ kp [kI (-2)] 1 _ (HP9.out.below hSB) hYB (kp_ok (by decide)) (one_rs (kI_rs (by decide) (by decide))) (by decide) kp_len (by decide)).mono ?_
          rintro _ wC ⟨vC, rfl, eC, hbC⟩
          rw [kp_lowF] at eC
          rw [kp_low]
          have hSC := below_then hSB hbC hSB.size
          obtain ⟨A7, n7, c7, B7, m7, d7, rfl, _, _⟩ := id eC
          refine hKR.out _ _ (Or.inr hSC) ?_
          clear hKR KR
          (try simp only [Act.put, pu1, pu2, pu3, pu4, pu5, pu6])
          repeat ((first | (refine plan_takeP (v := ?_) rfl rfl rfl ?_ ?_; rotate_left; (· (intro _ hSw; go_simp; (try go_bits); (try with_reducible rfl)))) | (refine plan_take (v := ?_) rfl rfl rfl ?_ ?_; rotate_left; (· (intro _ hSw; go_simp; (try go_bits); (try with_reducible rfl)))) | refine plan_skip rfl rfl rfl ?_ | refine plan_skipc rfl rfl rfl (by assumption) ?_); (try simp only [Act.put, pu1, pu2, pu3, pu4, pu5, pu6]))
          obtain ⟨WG, hWG, hGG, hbG⟩ := boxF1 wC (.bool false) (.slice none 0 0) (.bool false) (.slice none 0 0)
          refine plan_step rfl rfl (fun KR hKR => ?_)
          go_simp
          have hge := hSC.size
          have hSG := below_then hSC hbG hSC.size
          refine hKR.out _ _ (Or.inr hSG) ?_
          clear hKR KR hWG
          (try simp only [Act.put, pu1, pu2, pu3, pu4, pu5, pu6])
          have hLG := eC.below hbG
          obtain ⟨t0, t1, t2, t3⟩ := hGG.four
          obtain ⟨f0, f1, f2, f3⟩ := hGG.fourF
          refine plan_step rfl rfl (fun KR hKR => ?_)
          go_simp
          refine hKR.out _ _ (Or.inl (by decide)) ?_
          clear hKR KR
          (try simp only [Act.put, pu1, pu2, pu3, pu4, pu5, pu6])
          refine plan_step rfl rfl (fun KR hKR => ?_)
          go_simp
          refine hKR.out _ _ (Or.inl (by decide)) ?_
          clear hKR KR
          (try simp only [Act.put, pu1, pu2, pu3, pu4, pu5, pu6])
          refine plan_done ?_
          go_wp2_with fail
          go_meet
          exact KnownAt.mk hGG hLG hSG hge
        · obtain ⟨WG, hWG, hGG, hbG⟩ := boxF1 WB (.bool false) (.slice none 0 0) (.bool false) (.slice none 0 0)
          go_simp
          have hge := hSB.size
          have hSG := below_then hSB hbG hSB.size
          refine hKR.out _ _ (Or.inr hSG) ?_
          clear hKR KR hWG
          (try simp only [Act.put, pu1, pu2, pu3, pu4, pu5, pu6])
          have hYG := hYB.below hbG
          refine plan_step rfl rfl (fun KR hKR => ?_)
          go_simp
          with_reducible refine (lowerBound_any _ _ kp [kI (-2)] 1 _ (HP9.out.below hSG) hYG (kp_ok (by decide)) (one_rs (kI_rs (by decide) (by decide))) (by decide) kp_len (by decide)).mono ?_
          rintro _ wC ⟨vC, rfl, eC, hbC⟩
          rw [kp_lowF] at eC
          rw [kp_low]
          have hSC := below_then hSG hbC hSG.size
          obtain ⟨A7, n7, c7, B7, m7, d7, rfl, _, _⟩ := id eC
          refine hKR.out _ _ (Or.inr hSC) ?_
          clear hKR KR
          (try simp only [Act.put, pu1, pu2, pu3, pu4, pu5, pu6])
          have hG3 := hGG.later hbC
          repeat ((first | (refine plan_takeP (v := ?_) rfl rfl rfl ?_ ?_; rotate_left; (· (intro _ hSw; go_simp; (try go_bits); (try with_reducible rfl)))) | (refine plan_take (v := ?_) rfl rfl rfl ?_ ?_; rotate_left; (· (intro _ hSw; go_simp; (try go_bits); (try with_reducible rfl)))) | refine plan_skip rfl rfl rfl ?_ | refine plan_skipc rfl rfl rfl (by assumption) ?_); (try simp only [Act.put, pu1, pu2, pu3, pu4, pu5, pu6]))
          obtain ⟨t0, t1, t2, t3⟩ := hG3.four
          obtain ⟨f0, f1, f2, f3⟩ := hG3.fourF
          refine plan_step rfl rfl (fun KR hKR => ?_)
          go_simp
          refine hKR.out _ _ (Or.inl (by decide)) ?_
          clear hKR KR
          (try simp only [Act.put, pu1, pu2, pu3, pu4, pu5, pu6])
          refine plan_step rfl rfl (fun KR hKR => ?_)
          go_simp
          refine hKR.out _ _ (Or.inl (by decide)) ?_
          clear hKR KR
          (try simp only [Act.put, pu1, pu2, pu3, pu4, pu5, pu6])
          refine plan_done ?_
          go_wp2_with fail
          go_meet
          exact KnownAt.mk hG3 eC hSC hge
      · obtain ⟨WG, hWG, hGG, hbG⟩ := boxF1 wA (.bool false) (.slice none 0 0) (.bool false) (.slice none 0 0)
        go_simp
        have hge := hSA.size
        have hSG := below_then hSA hbG hSA.size
        refine hKR.out _ _ (Or.inr hSG) ?_
        clear hKR KR hWG
        (try simp only [Act.put, pu1, pu2, pu3, pu4, pu5, pu6])
        have hFG := hFA.below hbG
        obtain ⟨WB, hWB, hLB, hbB⟩ := boxF1 WG (.bool (kI (-2)).num.neg) (.slice A6 n6 c6) (.bool (kI (-2)).den.neg) (.slice B6 m6 d6)
        refine plan_step rfl rfl (fun KR hKR => ?_)
        go_simp
        have hSB := below_then hSG hbB hSG.size
        refine hKR.out _ _ (Or.inr hSB) ?_
        clear hKR KR hWB
        (try simp only [Act.put, pu1, pu2, pu3, pu4, pu5, pu6])
        have hYB := FrsM.one hLB (hFG.below hbB)
        clear hLB
        have hG2 := hGG.later hbB
        refine plan_step rfl rfl (fun KR hKR => ?_)
        go_simp
        with_reducible refine (lowerBound_any _ _ kp [kI (-2)] 1 _ (HP9.out.below hSB) hYB (kp_ok (by decide)) (one_rs (kI_rs (by decide) (by decide))) (by decide) kp_len (by decide)).mono ?_
        rintro _ wC ⟨vC, rfl, eC, hbC⟩
        rw [kp_lowF] at eC
        rw [kp_low]
        have hSC := below_then hSB hbC hSB.size
        obtain ⟨A7, n7, c7, B7, m7, d7, rfl, _, _⟩ := id eC
        refine hKR.out _ _ (Or.inr hSC) ?_
        clear hKR KR
        (try simp only [Act.put, pu1, pu2, pu3, pu4, pu5, pu6])
        have hG3 := hG2.later hbC
        repeat ((first | (refine plan_takeP (v := ?_) rfl rfl rfl ?_ ?_; rotate_left; (· (intro _ hSw; go_simp; (try go_bits); (try with_reducible rfl)))) | (refine plan_take (v := ?_) rfl rfl rfl ?_ ?_; rotate_left; (· (intro _ hSw; go_simp; (try go_bits); (try with_reducible rfl)))) | refine plan_skip rfl rfl rfl ?_ | refine plan_skipc rfl rfl rfl (by assumption) ?_); (try simp only [Act.put, pu1, pu2, pu3, pu4, pu5, pu6]))
        obtain ⟨t0, t1, t2, t3⟩ := hG3.four
        obtain ⟨f0, f1, f2, f3⟩ := hG3.fourF
        refine plan_step rfl rfl (fun KR hKR => ?_)
        go_simp
        refine hKR.out _ _ (Or.inl (by decide)) ?_
        clear hKR KR
        (try simp only [Act.put, pu1, pu2, pu3, pu4, pu5, pu6])
        refine plan_step rfl rfl (fun KR hKR => ?_)
        go_simp
        refine hKR.out _ _ (Or.inl (by decide)) ?_
        clear hKR KR
        (try simp only [Act.put, pu1, pu2, pu3, pu4, pu5, pu6])
        refine plan_done ?_
        go_wp2_with fail
        go_meet
        exact KnownAt.mk hG3 eC hSC hge
    · obtain ⟨WG, hWG, hGG, hbG⟩ := boxF1 U9.drew (.bool false) (.slice none 0 0) (.bool false) (.slice none 0 0)
      go_simp
      have hge := hS0.size
      have hSG := below_then hS0 hbG hS0.size
      refine hKR.out _ _ (Or.inr hSG) ?_
      clear hKR KR hWG
      (try simp only [Act.put, pu1, pu2, pu3, pu4, pu5, pu6])
      change Bk WG U9.heap.size 47 _ at hGG
      refine plan_step rfl rfl (fun KR hKR => ?_)
      go_simp
      with_reducible refine (rint_own (-2) _ (by omega) (by omega)).mono ?_
      rw [show canF ((-2 : Int) : Rat) = kI (-2) from rfl]
      rintro _ wA ⟨vA, rfl, eA, hbA⟩
      have hSA := below_then hSG hbA hSG.size
      obtain ⟨A6, n6, c6, B6, m6, d6, rfl, _, _⟩ := id eA.frac
      have hFA := eA.frac
      clear eA
      refine hKR.out _ _ (Or.inr hSA) ?_
      clear hKR KR
      (try simp only [Act.put, pu1, pu2, pu3, pu4, pu5, pu6])
      have hG := hGG.later hbA
      obtain ⟨WB, hWB, hLB, hbB⟩ := boxF1 wA (.bool (kI (-2)).num.neg) (.slice A6 n6 c6) (.bool (kI (-2)).den.neg) (.slice B6 m6 d6)
      refine plan_step rfl rfl (fun KR hKR => ?_)
      go_simp
      have hSB := below_then hSA hbB hSA.size
      refine hKR.out _ _ (Or.inr hSB) ?_
      clear hKR KR hWB
      (try simp only [Act.put, pu1, pu2, pu3, pu4, pu5, pu6])
      have hYB := FrsM.one hLB (hFA.below hbB)
      clear hLB
      have hG2 := hG.later hbB
      refine plan_step rfl rfl (fun KR hKR => ?_)
      go_simp
      with_reducible refine (lowerBound_any _ _ kp [kI (-2)] 1 _ (HP9.out.below hSB) hYB (kp_ok (by decide)) (one_rs (kI_rs (by decide) (by decide))) (by decide) kp_len (by decide)).mono ?_
      rintro _ wC ⟨vC, rfl, eC, hbC⟩
      rw [kp_lowF] at eC
      rw [kp_low]
      have hSC := below_then hSB hbC hSB.size
      obtain ⟨A7, n7, c7, B7, m7, d7, rfl, _, _⟩ := id eC
      refine hKR.out _ _ (Or.inr hSC) ?_
      clear hKR KR
      (try simp only [Act.put, pu1, pu2, pu3, pu4, pu5, pu6])
      have hG3 := hG2.later hbC
      repeat ((first | (refine plan_takeP (v := ?_) rfl rfl rfl ?_ ?_; rotate_left; (· (intro _ hSw; go_simp; (try go_bits); (try with_reducible rfl)))) | (refine plan_take (v := ?_) rfl rfl rfl ?_ ?_; rotate_left; (· (intro _ hSw; go_simp; (try go_bits); (try with_reducible rfl)))) | refine plan_skip rfl rfl rfl ?_ | refine plan_skipc rfl rfl rfl (by assumption) ?_); (try simp only [Act.put, pu1, pu2, pu3, pu4, pu5, pu6]))
      obtain ⟨t0, t1, t2, t3⟩ := hG3.four
      obtain ⟨f0, f1, f2, f3⟩ := hG3.fourF
      refine plan_step rfl rfl (fun KR hKR => ?_)
      go_simp
      refine hKR.out _ _ (Or.inl (by decide)) ?_
      clear hKR KR
      (try simp only [Act.put, pu1, pu2, pu3, pu4, pu5, pu6])
      refine plan_step rfl rfl (fun KR hKR => ?_)
      go_simp
      refine hKR.out _ _ (Or.inl (by decide)) ?_
      clear hKR KR
      (try simp only [Act.put, pu1, pu2, pu3, pu4, pu5, pu6])
      refine plan_done ?_
      go_wp2_with fail
      go_meet
      exact KnownAt.mk hG3 eC hSC hge
  case rest =>
    obtain ⟨g, A, n, c, A', n', c', rfl, rfl, hB, hF, hbK⟩ := hcut
    have bUx := below_then bU9 hbK bU9.size
    have hPx := hP9.later hbK
    have hX1x := hX19.later hbK
    have hX2x := hX2.later hbK
    have HPx := Lib.hid (HP9.out.below hbK)
    have HX1x := Lib.hid (HX19.out.below hbK)
    have HX2x := Lib.hid (HX2.out.below hbK)
    obtain ⟨x0, x1, x2⟩ := hPx.three
    obtain ⟨p0, p1, p2, p3⟩ := hX1x.four
    obtain ⟨q0, q1, q2, q3⟩ := hX2x.four
    obtain ⟨r0, r1, r2, r3⟩ := hB.four
    clear hP9 hX19 hX2 HP9 HX19 HX2 bU9
    go_wp2_with fail
    have C0 := stab x0
    have C1 := stab x1
    have C2 := stab x2
    have C3 := stab p0
    have C4 := stab p1
    have C5 := stab p2
    have C6 := stab p3
    have C7 := stab q0
    have C8 := stab q1
    have C9 := stab q2
    have C10 := stab q3
    have C11 := stab r0
    have C12 := stab r1
    have C13 := stab r2
    have C14 := stab r3
    have hS0 := hB.drewB
    clear x0 x1 x2 p0 p1 p2 p3 q0 q1 q2 q3 r0 r1 r2 r3
    refine region_seq 26 [0, 1, 2, 3, 4, 5, 6, 7, 8, 9, 10, 11, 12, 13, 14, 15, 16, 17, 18, 19, 20, 21, 22, 23, 24, 25] (by kernel_rfl) (by kernel_rfl) ?_
    repeat ((first | (refine seq_takeP (v := ?_) rfl rfl rfl ?_ ?_; rotate_left; (· (intro _ hSw; go_simp; (try go_bits); (try with_reducible rfl)))) | (refine seq_take (v := ?_) rfl rfl rfl ?_ ?_; rotate_left; (· (intro _ hSw; go_simp; (try go_bits); (try with_reducible rfl)))) | refine seq_skip rfl rfl rfl ?_ | refine seq_skipc rfl rfl rfl (by assumption) ?_); (try simp only [Act.put, pu1, pu2, pu3, pu4, pu5, pu6]))
    refine seq_step rfl rfl (fun KR hKR => ?_)
    go_simp
    with_reducible refine (verify_any _ _ kp ⟨2, [], [kI (-1)], []⟩ 1 _ (HPx.out.below hS0) (HX1x.out.below hS0) (kp_ok (by decide)) (RsL.nil 1) (one_rs (kI_rs (by decide) (by decide))) (RsL.nil 1) (by decide) kp_len (by decide)).mono ?_
    rw [kp_ver1]
    rintro _ y1 ⟨rfl, hb1⟩
    have hS1 := below_then hS0 hb1 hS0.size
    refine hKR.out _ _ (Or.inr hS1) ?_
    clear hKR KR
    (try simp only [Act.put, pu1, pu2, pu3, pu4, pu5, pu6])
    repeat ((first | (refine seq_takeP (v := ?_) rfl rfl rfl ?_ ?_; rotate_left; (· (intro _ hSw; go_simp; (try go_bits); (try with_reducible rfl)))) | (refine seq_take (v := ?_) rfl rfl rfl ?_ ?_; rotate_left; (· (intro _ hSw; go_simp; (try go_bits); (try with_reducible rfl)))) | refine seq_skip rfl rfl rfl ?_ | refine seq_skipc rfl rfl rfl (by assumption) ?_); (try simp only [Act.put, pu1, pu2, pu3, pu4, pu5, pu6]))
    refine seq_step rfl rfl (fun KR hKR => ?_)
    go_simp
    with_reducible refine (verify_any _ _ kp ⟨2, [], [kI 1], []⟩ 1 _ (HPx.out.below hS1) (HX2x.out.below hS1) (kp_ok (by decide)) (RsL.nil 1) (one_rs (kI_rs (by decide) (by decide))) (RsL.nil 1) (by decide) kp_len (by decide)).mono ?_
    rw [kp_ver2]
    rintro _ y2 ⟨rfl, hb2⟩
    have hS2 := below_then hS1 hb2 hS1.size
    refine hKR.out _ _ (Or.inr hS2) ?_
    clear hKR KR
    (try simp only [Act.put, pu1, pu2, pu3, pu4, pu5, pu6])
    repeat ((first | (refine seq_takeP (v := ?_) rfl rfl rfl ?_ ?_; rotate_left; (· (intro _ hSw; go_simp; (try go_bits); (try with_reducible rfl)))) | (refine seq_take (v := ?_) rfl rfl rfl ?_ ?_; rotate_left; (· (intro _ hSw; go_simp; (try go_bits); (try with_reducible rfl)))) | refine seq_skip rfl rfl rfl ?_ | refine seq_skipc rfl rfl rfl (by assumption) ?_); (try simp only [Act.put, pu1, pu2, pu3, pu4, pu5, pu6]))
    refine seq_step rfl rfl (fun KR hKR => ?_)
    go_simp
    with_reducible refine (rint_own 2 _ (by omega) (by omega)).mono ?_
    rw [show canF ((2 : Int) : Rat) = kI 2 from rfl]
    rintro _ y3 ⟨v3, rfl, e3, hb3⟩
    have hS3 := below_then hS2 hb3 hS2.size
    refine hKR.out _ _ (Or.inr hS3) ?_
    clear hKR KR
    (try simp only [Act.put, pu1, pu2, pu3, pu4, pu5, pu6])
    repeat ((first | (refine seq_takeP (v := ?_) rfl rfl rfl ?_ ?_; rotate_left; (· (intro _ hSw; go_simp; (try go_bits); (try with_reducible rfl)))) | (refine seq_take (v := ?_) rfl rfl rfl ?_ ?_; rotate_left; (· (intro _ hSw; go_simp; (try go_bits); (try with_reducible rfl)))) | refine seq_skip rfl rfl rfl ?_ | refine seq_skipc rfl rfl rfl (by assumption) ?_); (try simp only [Act.put, pu1, pu2, pu3, pu4, pu5, pu6]))
    refine seq_step rfl rfl (fun KR hKR => ?_)
    go_simp
    with_reducible refine (sameF_any _ _ (kI 2) (kI 2) _ (hF.below hS3) e3.frac).mono ?_
    rw [sameF_refl]
    rintro _ y4 ⟨rfl, hb4⟩
    have hS4 := below_then hS3 hb4 hS3.size
    refine hKR.out _ _ (Or.inr hS4) ?_
    clear hKR KR
    (try simp only [Act.put, pu1, pu2, pu3, pu4, pu5, pu6])
    repeat ((first | (refine seq_takeP (v := ?_) rfl rfl rfl ?_ ?_; rotate_left; (· (intro _ hSw; go_simp; (try go_bits); (try with_reducible rfl)))) | (refine seq_take (v := ?_) rfl rfl rfl ?_ ?_; rotate_left; (· (intro _ hSw; go_simp; (try go_bits); (try with_reducible rfl)))) | refine seq_skip rfl rfl rfl ?_ | refine seq_skipc rfl rfl rfl (by assumption) ?_); (try simp only [Act.put, pu1, pu2, pu3, pu4, pu5, pu6]))
    refine seq_step rfl rfl (fun KR hKR => ?_)
    go_simp
    with_reducible refine (rint_own 1 _ (by omega) (by omega)).mono ?_
    rw [show canF ((1 : Int) : Rat) = kI 1 from rfl]
    rintro _ y5 ⟨v5, rfl, e5, hb5⟩
    have hS5 := below_then hS4 hb5 hS4.size
    obtain ⟨A8, n8, c8, B8, m8, d8, rfl, _, _⟩ := id e5.frac
    refine hKR.out _ _ (Or.inr hS5) ?_
    clear hKR KR
    (try simp only [Act.put, pu1, pu2, pu3, pu4, pu5, pu6])
    repeat ((first | (refine seq_takeP (v := ?_) rfl rfl rfl ?_ ?_; rotate_left; (· (intro _ hSw; go_simp; (try go_bits); (try with_reducible rfl)))) | (refine seq_take (v := ?_) rfl rfl rfl ?_ ?_; rotate_left; (· (intro _ hSw; go_simp; (try go_bits); (try with_reducible rfl)))) | refine seq_skip rfl rfl rfl ?_ | refine seq_skipc rfl rfl rfl (by assumption) ?_); (try simp only [Act.put, pu1, pu2, pu3, pu4, pu5, pu6]))
    obtain ⟨WB, hWB, hLB, hbB⟩ := boxF1 y5 (.bool (kI 1).num.neg) (.slice A8 n8 c8) (.bool (kI 1).den.neg) (.slice B8 m8 d8)
    refine seq_step rfl rfl (fun KR hKR => ?_)
    go_simp
    have hSB := below_then hS5 hbB hS5.size
    refine hKR.out _ _ (Or.inr hSB) ?_
    clear hKR KR hWB
    (try simp only [Act.put, pu1, pu2, pu3, pu4, pu5, pu6])
    repeat ((first | (refine seq_takeP (v := ?_) rfl rfl rfl ?_ ?_; rotate_left; (· (intro _ hSw; go_simp; (try go_bits); (try with_reducible rfl)))) | (refine seq_take (v := ?_) rfl rfl rfl ?_ ?_; rotate_left; (· (intro _ hSw; go_simp; (try go_bits); (try with_reducible rfl)))) | refine seq_skip rfl rfl rfl ?_ | refine seq_skipc rfl rfl rfl (by assumption) ?_); (try simp only [Act.put, pu1, pu2, pu3, pu4, pu5, pu6]))
    refine seq_step rfl rfl (fun KR hKR => ?_)
    go_simp
    with_reducible refine (isFeasible_any _ _ kp [kI 1] 1 _ (HPx.out.below hSB) (FrsM.one hLB (e5.frac.below hbB)) (kp_ok (by decide)) (one_rs (kI_rs (by decide) (by decide))) (by decide) (by decide)).mono ?_
    rw [kp_feas]
    rintro _ y6 ⟨rfl, hb6⟩
    have hS6 := below_then hSB hb6 hSB.size
    refine hKR.out _ _ (Or.inr hS6) ?_
    clear hKR KR
    (try simp only [Act.put, pu1, pu2, pu3, pu4, pu5, pu6])
    repeat ((first | (refine seq_takeP (v := ?_) rfl rfl rfl ?_ ?_; rotate_left; (· (intro _ hSw; go_simp; (try go_bits); (try with_reducible rfl)))) | (refine seq_take (v := ?_) rfl rfl rfl ?_ ?_; rotate_left; (· (intro _ hSw; go_simp; (try go_bits); (try with_reducible rfl)))) | refine seq_skip rfl rfl rfl ?_ | refine seq_skipc rfl rfl rfl (by assumption) ?_); (try simp only [Act.put, pu1, pu2, pu3, pu4, pu5, pu6]))
    refine seq_done ?_
    have bfin := below_then bUx hS6 bUx.size
    clear C0 C1 C2 C3 C4 C5 C6 C7 C8 C9 C10 C11 C12 C13 C14
    go_wp2
    go_ret
    exact ⟨rfl, bfin⟩
end Go.Proofs.YtpanffbgihhjnaaGreat

/- Memory: lists of numbers of the call's own. Walks: package pairingref25: settle. -/
namespace Go.Proofs.YtpanffbgihhjnaaGreat
open Go.RowKit Pl
attribute [local go_sem ↓] Go.wp_at_zero Go.wp_at_succ

def IntsO (base : Nat) (w : World) (v : Value) (zs : List Int) : Prop := w.ownsRow base 3 1 v zs.length (zs.map fun z => Value.int .i64 z) ∧ ∀ z ∈ zs, -9223372036854775808 ≤ z ∧ z ≤ 9223372036854775807
theorem IntsO.below {base : Nat} {w w' : World} {v : Value} {zs : List Int} (h : IntsO base w v zs) (hb : Below w.heap.size w w') : IntsO base w' v zs := ⟨own_below h.1 hb, h.2⟩
theorem IntsO.nil (base : Nat) (w : World) : IntsO base w (.slice none 0 0) [] := ⟨World.ownsRow_nil _ _ _ _, fun z hz => by simp at hz⟩
theorem IntsO.monoB {base base' : Nat} {w : World} {v : Value} {zs : List Int} (h : IntsO base w v zs) (hb : base' ≤ base) : IntsO base' w v zs := ⟨row_mono h.1 hb, h.2⟩
theorem IntsO.but {base : Nat} {w w' : World} {e : TypeId} {v : Value} {zs : List Int} (h : IntsO base w v zs) (hk : KeepBut e w w') (h1 : 3 ≠ e) : IntsO base w' v zs := ⟨hk.own h.1 h1, h.2⟩
theorem IntsO.ints {base : Nat} {w : World} {v : Value} {zs : List Int} (h : IntsO base w v zs) : IntsM w v zs := by
  obtain ⟨A, c, hv, hl, hc, hm, hrow⟩ := RowM.of_own h.1
  refine ⟨A, c, hv, hc, hm, fun hp => ?_, h.2⟩
  obtain ⟨b, off, cs, fz, hA, hb, hx⟩ := hrow hp
  refine ⟨b, off, hA, fun i hi => ?_⟩
  rw [cell_of_row w b (off + i) cs _ fz hb, hx i (.int .i64 (zs.getD i 0)) (by simp [List.getD, List.getElem?_eq_getElem hi])]
theorem IntsO.sliceN {base : Nat} {w : World} {v : Value} {zs : List Int} (h : IntsO base w v zs) : ∃ A n c, v = .slice A n c := by
  obtain ⟨A, c, hv, _⟩ := RowM.of_own h.1
  exact ⟨A, _, c, hv⟩
theorem info_intT : (Tryz.prog.info? 3).map (fun i => (i.zero, i.size, i.bytes)) = some (some (.int .i64 0), 1, 8) := by kernel_rfl
theorem run_append_copyI (ty : TypeId) (W : World) (v : Value) (zs : List Int) (h : IntsM W v zs) (hn : zs.length ≤ 1099511627776) :
    ∃ v' w', (Builtin.append_ #[22, 22] ty #[.slice none 0 0, v]).run Tryz.prog W = .ok v' w' ∧ IntsO W.heap.size w' v' zs ∧ Below W.heap.size W w' := by
  obtain ⟨A, c, rfl, hc, hm, hrow, hrg⟩ := h
  obtain ⟨i0, hi, hz0, hz1, hz2⟩ := info_parts info_intT
  cases A with
  | none =>
    have h0 : zs.length = 0 := by
      rcases Nat.eq_zero_or_pos zs.length with e | e
      · exact e
      · obtain ⟨b, off, e1, _⟩ := hrow e; cases e1
    have hfs : zs = [] := List.eq_nil_of_length_eq_zero h0
    subst hfs
    refine ⟨_, _, ?_, IntsO.nil _ _, Below.refl _ _⟩
    simp [Builtin.append_, run_underlying Tryz.underlying22, sizeOf, typeInfo, zeroValue, hi, hz0, Builtin.lenOf, run_firstCells_none]
  | some ad =>
    obtain ⟨v', w', hr, g1, g2, _, _⟩ := run_append_own_at (P := Tryz.prog) W W.heap.size 22 ty 3 i0 _ 1 8 Tryz.underlying22 hi hz0 hz1 hz2 rfl (by decide) (.slice none 0 0) 0 [] (World.ownsRow_nil _ _ _ _) ad zs.length c (zs.map fun z => Value.int .i64 z) (by simp) (fun j u hj => by
      have hjl : j < zs.length := by have h9 := (List.getElem?_eq_some_iff.1 hj).1; simpa using h9
      obtain ⟨b, off, e, hx⟩ := hrow (by omega)
      have e := Option.some.inj e
      rw [e, addr_add0, hx j hjl]
      simp [List.getElem?_eq_getElem hjl] at hj
      rw [← hj]
      simp [List.getD, List.getElem?_eq_getElem hjl]) (fun u hu => by simp at hu; obtain ⟨z, _, rfl⟩ := hu; rfl) (by unfold maxLen; omega) (by omega) (Nat.le_refl _)
    refine ⟨v', w', hr, ⟨by simpa using g1, hrg⟩, ?_⟩
    exact (Below.refl _ _).grown g2 (Nat.le_refl _) (fun k hk => by simp [Value.ownBlock] at hk)
theorem op_append_run {o : Oper} {a : Act} {w w' : World} {v x y : Value} {K : Act → World → Prop} {Q : Exit → Act → World → Prop} {ops : Array Oper} {t : TypeId} (s1 s2 : Operand) (hgd : o.guard = none) (ho : o.op = .call { callee := .builtin .append, args := #[s1, s2], argTypes := #[t, t] }) (h1 : a.eval s1 = x) (h2 : a.eval s2 = y)
    (hrun : (Builtin.append_ #[t, t] o.type #[x, y]).run Tryz.prog w = .ok v w') (h : K (a.put o.dst v) w') : if Region.wanted o (yielded ops a.tmps) = true then Oper.wp Tryz.prog o a w K Q else K (a.put o.dst undef) w := by
  rw [if_pos (by simp [Region.wanted, hgd])]
  unfold Oper.wp execOp
  simp only [ho, resolve, invoke, builtin, Sem.run_bind, Sem.run_pure, Result.andThen_ok, List.map_toArray, List.map_cons, List.map_nil, h1, h2, hrun]
  exact h
def StO (base : Nat) (w : World) (v : Value) (s : LSt) : Prop := ∃ A n c, v = .agg #[.int .i64 s.phase, .slice A n c, .int .i64 s.pivots] ∧ IntsO base w (.slice A n c) s.basis
theorem StO.st {base : Nat} {w : World} {v : Value} {s : LSt} (h : StO base w v s) : StM w v s := by
  obtain ⟨A, n, c, rfl, h2⟩ := h
  exact ⟨A, n, c, rfl, h2.ints⟩
namespace Pl
def settleQ (p : LPd) (s : LSt) : LSt := ⟨if artN s (zL p s) (zL p s).length then s.phase else 2, s.basis, s.pivots⟩
theorem settleQ_fit {p : LPd} {s : LSt} (h : s.Fit p) : (settleQ p s).Fit p := h
end Pl
def SetAt (U : World) (s : LSt) (s7 : Value) (wx : World) : Prop :=
  ∃ g A n c, s7 = .pointer (some ⟨g, 0, none⟩) ∧ U.heap.size ≤ g ∧ Bk wx g 34 [.int .i64 s.phase, .slice A n c, .int .i64 s.pivots] ∧ IntsO U.heap.size wx (.slice A n c) s.basis ∧ Below U.heap.size U wx
theorem SetAt.mk {U w : World} {g : Nat} {s : LSt} {x y z : Value} {A : Option Addr} {n c : Nat} (hB : Bk w g 34 [x, y, z]) (hI : IntsO U.heap.size w (.slice A n c) s.basis) (hb : Below U.heap.size U w) (hg : U.heap.size ≤ g) :
    SetAt U s (.pointer (some ⟨g, 0, none⟩)) (((w.setCell ⟨g, 0, none⟩ (.int .i64 s.phase)).setCell ⟨g, 1, none⟩ (.slice A n c)).setCell ⟨g, 2, none⟩ (.int .i64 s.pivots)) := by
  have k1 := KeepBut.setCell hB 0 (.int .i64 s.phase)
  have k2 := KeepBut.setCell (hB.set_ 0 (.int .i64 s.phase)) 1 (.slice A n c)
  have k3 := KeepBut.setCell ((hB.set_ 0 (.int .i64 s.phase)).set_ 1 (.slice A n c)) 2 (.int .i64 s.pivots)
  have k4 := (k1.trans k2).trans k3
  exact ⟨g, A, n, c, rfl, hg, ((hB.set_ 0 _).set_ 1 _).set_ 2 _, hI.but k4 (by decide), ((hb.setCell (p := ⟨g, 0, none⟩) hg _).setCell (p := ⟨g, 1, none⟩) hg _).setCell (p := ⟨g, 2, none⟩) hg _⟩

set_option maxRecDepth 100000 in
set_option maxHeartbeats 4000000 in
theorem rsettle_own (v1 v2 : Value) (p : LPd) (s : LSt) (K : Nat) (w : World) (h : LpM w v1 p) (h2 : StM w v2 s) (F : p.Fit K) (S : s.Fit p) :
    Calls Tryz.prog 29 #[v1, v2] w fun e w' => ∃ v', e = .returned v' ∧ StO w.heap.size w' v' (settleQ p s) ∧ Below w.heap.size w w' := by
  obtain ⟨A, n, c, A', n', c', A'', n'', c'', rfl, hc, hv, hr⟩ := id h
  obtain ⟨Ab, nb, cb, rfl, hI⟩ := id h2
  obtain ⟨W, hW, hX0, hbe0⟩ := box_lp w (.slice A n c) (.slice A' n' c') (.slice A'' n'' c'')
  obtain ⟨W1, hW1, hS0, hbe1⟩ := box_st W (.int .i64 s.phase) (.slice Ab nb cb) (.int .i64 s.pivots)
  have hX := hX0.later hbe1
  have hbe := below_then hbe0 hbe1 hbe0.size
  obtain ⟨b1, b2, b3⟩ := hI.len
  have hsz : W.heap.size = w.heap.size + 1 := by rw [← hW]; simp
  rw [hsz] at hS0
  have HLP := Lib.hid h
  have HST := Lib.hid h2
  have HI := Lib.hid hI
  have HFP := Lib.hid F
  have HFS := Lib.hid S
  have HNB := Lib.hid b1
  have HB1 : Hid (nb = p.right.length) := Lib.hid (by rw [b1]; exact S.2)
  have hnb : nb ≤ 64 := by rw [HB1.out]; exact F.2.2.1
  obtain ⟨x0, x1, x2⟩ := hX.three
  obtain ⟨y0, y1, y2⟩ := hS0.three
  clear h h2 hc hv hr b1 hI hX0 hbe0 hbe1 F S
  obtain ⟨W2, hW2, hR, hbe2⟩ := box_st W1 (.int .i64 0) (.slice none 0 0) (.int .i64 0)
  have hX2 := hX.later hbe2
  have hS2 := hS0.later hbe2
  have hb2 := below_then hbe hbe2 hbe.size
  have hsz1 : W1.heap.size = w.heap.size + 1 + 1 := by rw [← hW1]; simp [hsz]
  rw [hsz1] at hR
  obtain ⟨x0, x1, x2⟩ := hX2.three
  obtain ⟨y0, y1, y2⟩ := hS2.three
  have HSH : Hid (∀ (i : Nat) (f : RF), (zL p s)[i]? = some f → f.Sh) := Lib.hid fun i f hf => (zL_B HFP.out s i f hf).sh (by have := HFP.out.ks; omega)
  have HZL : Hid ((zL p s).length ≤ s.basis.length) := Lib.hid (by rw [HFS.out.len]; exact solF_len)
  clear hX hS0 hbe hbe2
  go_enter Tryz.func29, Tryz.ntmps29
  go_wp2_with fail
  clear hW hW1 hW2
  refine (rbasic_own _ _ p s K _ (HLP.out.below hb2) (HST.out.below hb2) HFP.out HFS.out).mono ?_
  rintro _ w5 ⟨v5, rfl, e5, hbx⟩
  have hX5 := hX2.later hbx
  have hS5 := hS2.later hbx
  have hR5 := hR.later hbx
  have hb5 := below_then hb2 hbx hb2.size
  have hz5 := e5.frs
  obtain ⟨Az, nz, cz, rfl⟩ := e5.sliceN
  clear e5 hX2 hS2 hR x0 x1 x2 y0 y1 y2 hb2 hbx
  go_upto_region 2 with (fail)
  go_cut [7] (fun s7 wx => SetAt w5 s s7 wx)
  case first =>
    obtain ⟨y0, y1, y2⟩ := hS5.three
    have C0 := stab y0
    have C1 := stab y1
    have C2 := stab y2
    have hS0 := below_drew' w5
    clear y0 y1 y2
    refine region_plan 9 (.go 0 (.go 1 (.go 2 (.go 3 (.go 5 (.go 6 (.fork 4 (.go 7 (.go 8 (.go 9 .done))) 8 (.go 4 (.go 7 (.go 9 .done)))))))))) (by kernel_rfl) (by kernel_rfl) ?_
    repeat ((first | (refine plan_takeP (v := ?_) rfl rfl rfl ?_ ?_; rotate_left; (· (intro _ hSw; go_simp; (try go_bits); (try with_reducible rfl)))) | (refine plan_take (v := ?_) rfl rfl rfl ?_ ?_; rotate_left; (· (intro _ hSw; go_simp; (try go_bits); (try with_reducible rfl)))) | refine plan_skip rfl rfl rfl ?_ | refine plan_skipc rfl rfl rfl (by assumption) ?_); (try simp only [Act.put, pu1, pu2, pu3, pu4, pu5, pu6]))
    refine plan_fork rfl rfl (fun KR hKR => ?_) (fun KR hKR => ?_)
    · obtain ⟨vc, wc, hrun, hIc, hbc⟩ := run_append_copyI 22 w5.drew (.slice Ab nb cb) s.basis ((HI.out.below hb5).below hS0) (by rw [← HNB.out]; omega)
      obtain ⟨Ac, nc, cc, rfl⟩ := hIc.sliceN
      have hSc := below_then hS0 hbc hS0.size
      refine op_append_run _ _ rfl rfl rfl rfl hrun ?_
      refine hKR.out _ _ (Or.inr hSc) ?_
      clear hKR KR hrun
      (try simp only [Act.put, pu1, pu2, pu3, pu4, pu5, pu6])
      have hIb := hIc.monoB hS0.size
      repeat ((first | (refine plan_takeP (v := ?_) rfl rfl rfl ?_ ?_; rotate_left; (· (intro _ hSw; go_simp; (try go_bits); (try with_reducible rfl)))) | (refine plan_take (v := ?_) rfl rfl rfl ?_ ?_; rotate_left; (· (intro _ hSw; go_simp; (try go_bits); (try with_reducible rfl)))) | refine plan_skip rfl rfl rfl ?_ | refine plan_skipc rfl rfl rfl (by assumption) ?_); (try simp only [Act.put, pu1, pu2, pu3, pu4, pu5, pu6]))
      obtain ⟨WG, hWG, hGG, hbG⟩ := box_st wc (.int .i64 0) (.slice none 0 0) (.int .i64 0)
      refine plan_step rfl rfl (fun KR hKR => ?_)
      go_simp
      have hge := hSc.size
      have hSG := below_then hSc hbG hSc.size
      refine hKR.out _ _ (Or.inr hSG) ?_
      clear hKR KR hWG
      (try simp only [Act.put, pu1, pu2, pu3, pu4, pu5, pu6])
      have hIG := hIb.below hbG
      obtain ⟨t0, t1, t2⟩ := hGG.three
      obtain ⟨f0, f1, f2⟩ := hGG.threeF
      refine plan_step rfl rfl (fun KR hKR => ?_)
      go_simp
      refine hKR.out _ _ (Or.inl (by decide)) ?_
      clear hKR KR
      (try simp only [Act.put, pu1, pu2, pu3, pu4, pu5, pu6])
      refine plan_done ?_
      go_wp2_with fail
      go_meet
      exact SetAt.mk hGG hIG hSG hge
    · obtain ⟨WG, hWG, hGG, hbG⟩ := box_st w5.drew (.int .i64 0) (.slice none 0 0) (.int .i64 0)
      go_simp
      have hge := hS0.size
      have hSG := below_then hS0 hbG hS0.size
      refine hKR.out _ _ (Or.inr hSG) ?_
      clear hKR KR hWG
      (try simp only [Act.put, pu1, pu2, pu3, pu4, pu5, pu6])
      change Bk WG w5.heap.size 34 _ at hGG
      obtain ⟨vc, wc, hrun, hIc, hbc⟩ := run_append_copyI 22 WG (.slice Ab nb cb) s.basis ((HI.out.below hb5).below hSG) (by rw [← HNB.out]; omega)
      obtain ⟨Ac, nc, cc, rfl⟩ := hIc.sliceN
      have hSc := below_then hSG hbc hSG.size
      refine plan_step rfl rfl (fun KR hKR => ?_)
      refine op_append_run _ _ rfl rfl rfl rfl hrun ?_
      refine hKR.out _ _ (Or.inr hSc) ?_
      clear hKR KR hrun
      (try simp only [Act.put, pu1, pu2, pu3, pu4, pu5, pu6])
      have hIb := hIc.monoB hSG.size
      have hGc := hGG.later hbc
      repeat ((first | (refine plan_takeP (v := ?_) rfl rfl rfl ?_ ?_; rotate_left; (· (intro _ hSw; go_simp; (try go_bits); (try with_reducible rfl)))) | (refine plan_take (v := ?_) rfl rfl rfl ?_ ?_; rotate_left; (· (intro _ hSw; go_simp; (try go_bits); (try with_reducible rfl)))) | refine plan_skip rfl rfl rfl ?_ | refine plan_skipc rfl rfl rfl (by assumption) ?_); (try simp only [Act.put, pu1, pu2, pu3, pu4, pu5, pu6]))
      obtain ⟨t0, t1, t2⟩ := hGc.three
      obtain ⟨f0, f1, f2⟩ := hGc.threeF
      refine plan_step rfl rfl (fun KR hKR => ?_)
      go_simp
      refine hKR.out _ _ (Or.inl (by decide)) ?_
      clear hKR KR
      (try simp only [Act.put, pu1, pu2, pu3, pu4, pu5, pu6])
      refine plan_done ?_
      go_wp2_with fail
      go_meet
      exact SetAt.mk hGc hIb hSc hge
  case rest =>
    obtain ⟨g, A1, n1, c1, rfl, hg, hB, hIx, hbK⟩ := hcut
    have hX6 := hX5.later hbK
    have hS6 := hS5.later hbK
    have hR6 := hR5.later hbK
    have hb6 := below_then hb5 hbK hb5.size
    have hz6 := hz5.below hbK
    have hgw : w.heap.size + 1 + 1 < g := by have := hR5.lt; omega
    have hsw := hb5.size
    obtain ⟨y0, y1, y2⟩ := hS6.three
    clear hX5 hS5 hR5 hz5
    go_wp2_with fail
    refine (rartificial_any _ _ s (zL p s) _ (HST.out.below hb6) hz6 HZL.out HSH.out).mono ?_
    rintro _ w7 ⟨rfl, hb7⟩
    have hB7 := hB.later hb7
    have hR7 := hR6.later hb7
    have hI7 := hIx.below hb7
    have hbe7 := below_then hb6 hb7 hb6.size
    clear y0 y1 y2 hX6 hS6 hz6 hB hR6 hIx hb6 hb7 hbK
    obtain ⟨q0, q1, q2⟩ := hB7.three
    obtain ⟨g0, g1, g2⟩ := hB7.threeF
    cases ha : artN s (zL p s) (zL p s).length with
    | true =>
      have HQ : Hid (settleQ p s = ⟨s.phase, s.basis, s.pivots⟩) := Lib.hid (by unfold settleQ; rw [ha]; rfl)
      obtain ⟨r0, r1, r2⟩ := hR7.three
      obtain ⟨f0, f1, f2⟩ := hR7.threeF
      go_wp2
      refine ret_cell Tryz.results29 Tryz.underlying34 (by kernel_rfl) rfl (((hR7.set_ 0 _).set_ 1 _).set_ 2 _) rfl ?_
      rw [HQ.out]
      have k4 := ((KeepBut.setCell hR7 0 (.int .i64 s.phase)).trans (KeepBut.setCell (hR7.set_ 0 (.int .i64 s.phase)) 1 (.slice A1 n1 c1))).trans (KeepBut.setCell ((hR7.set_ 0 (.int .i64 s.phase)).set_ 1 (.slice A1 n1 c1)) 2 (.int .i64 s.pivots))
      exact ⟨_, rfl, ⟨A1, n1, c1, rfl, (hI7.but k4 (by decide)).monoB hsw⟩, ((hbe7.setCell (p := ⟨w.heap.size + 1 + 1, 0, none⟩) (by simp; omega) _).setCell (p := ⟨w.heap.size + 1 + 1, 1, none⟩) (by simp; omega) _).setCell (p := ⟨w.heap.size + 1 + 1, 2, none⟩) (by simp; omega) _⟩
    | false =>
      have HQ : Hid (settleQ p s = ⟨2, s.basis, s.pivots⟩) := Lib.hid (by unfold settleQ; rw [ha]; rfl)
      go_upto_region 5 with (fail)
      have hB8 : Bk (w7.setCell ⟨g, 0, none⟩ (.int .i64 2)) g 34 [.int .i64 2, .slice A1 n1 c1, .int .i64 s.pivots] := hB7.set_ 0 (.int .i64 2)
      have hI8 := hI7.but (KeepBut.setCell hB7 0 (.int .i64 2)) (by decide)
      have hR8 := hR7.far (p := ⟨g, 0, none⟩) (show w.heap.size + 1 + 1 ≠ g by omega) (.int .i64 2)
      have hbe8 := hbe7.setCell (p := ⟨g, 0, none⟩) (show w.heap.size ≤ g by omega) (.int .i64 2)
      clear q0 q1 q2 g0 g1 g2 hB7 hI7 hR7 hbe7
      generalize w7.setCell ⟨g, 0, none⟩ (.int .i64 2) = W8 at *
      obtain ⟨q0, q1, q2⟩ := hB8.three
      obtain ⟨r0, r1, r2⟩ := hR8.three
      obtain ⟨f0, f1, f2⟩ := hR8.threeF
      go_wp2
      refine ret_cell Tryz.results29 Tryz.underlying34 (by kernel_rfl) rfl (((hR8.set_ 0 _).set_ 1 _).set_ 2 _) rfl ?_
      rw [HQ.out]
      have k4 := ((KeepBut.setCell hR8 0 (.int .i64 2)).trans (KeepBut.setCell (hR8.set_ 0 (.int .i64 2)) 1 (.slice A1 n1 c1))).trans (KeepBut.setCell ((hR8.set_ 0 (.int .i64 2)).set_ 1 (.slice A1 n1 c1)) 2 (.int .i64 s.pivots))
      exact ⟨_, rfl, ⟨A1, n1, c1, rfl, (hI8.but k4 (by decide)).monoB hsw⟩, ((hbe8.setCell (p := ⟨w.heap.size + 1 + 1, 0, none⟩) (by simp; omega) _).setCell (p := ⟨w.heap.size + 1 + 1, 1, none⟩) (by simp; omega) _).setCell (p := ⟨w.heap.size + 1 + 1, 2, none⟩) (by simp; omega) _⟩
end Go.Proofs.YtpanffbgihhjnaaGreat

/- Walks: package pairingref25: ValidateState. -/
namespace Go.Proofs.YtpanffbgihhjnaaGreat
open Go.RowKit Pl
attribute [local go_sem ↓] Go.wp_at_zero Go.wp_at_succ

namespace Pl
def rngP (p : LPd) (s : LSt) : Prop := ∀ i, i < p.right.length → -(p.right.length : Int) ≤ s.at_ i ∧ s.at_ i < p.cols.length
def dupP (p : LPd) (s : LSt) : Prop := ∀ i, i < p.right.length → ∀ k, k < i → s.at_ i ≠ s.at_ k
def posP (p : LPd) (s : LSt) : Prop := ∀ i, i < p.right.length → ¬ qAt (zL p s) i < 0
instance (p : LPd) (s : LSt) : Decidable (rngP p s) := by unfold rngP; infer_instance
instance (p : LPd) (s : LSt) : Decidable (dupP p s) := by unfold dupP; infer_instance
instance (p : LPd) (s : LSt) : Decidable (posP p s) := by unfold posP; infer_instance
def vsErr (p : LPd) (s : LSt) : Int := if s.basis.length ≠ p.right.length then 12 else if s.phase < 1 ∨ 2 < s.phase ∨ s.pivots < 0 then 5 else if ¬ rngP p s then 5 else if ¬ dupP p s then 7 else if zOk p s = false then 13 else if ¬ posP p s then 16 else if s.phase = 2 ∧ artN s (zL p s) (zL p s).length = true then 16 else 0
section
variable {p : LPd} {s : LSt}
theorem vs_len (h : s.basis.length ≠ p.right.length) : vsErr p s = 12 := by unfold vsErr; rw [if_pos h]
theorem vs_num (h : s.basis.length = p.right.length) (h2 : s.phase < 1 ∨ 2 < s.phase ∨ s.pivots < 0) : vsErr p s = 5 := by unfold vsErr; rw [if_neg (by omega), if_pos h2]
theorem vs_rng (h : s.basis.length = p.right.length) (h2 : ¬ (s.phase < 1 ∨ 2 < s.phase ∨ s.pivots < 0)) (h3 : ¬ rngP p s) : vsErr p s = 5 := by unfold vsErr; rw [if_neg (by omega), if_neg h2, if_pos h3]
theorem vs_dup (h : s.basis.length = p.right.length) (h2 : ¬ (s.phase < 1 ∨ 2 < s.phase ∨ s.pivots < 0)) (h3 : rngP p s) (h4 : ¬ dupP p s) : vsErr p s = 7 := by unfold vsErr; rw [if_neg (by omega), if_neg h2, if_neg (by simpa using h3), if_pos h4]
theorem vs_sing (h : s.basis.length = p.right.length) (h2 : ¬ (s.phase < 1 ∨ 2 < s.phase ∨ s.pivots < 0)) (h3 : rngP p s) (h4 : dupP p s) (h5 : zOk p s = false) : vsErr p s = 13 := by unfold vsErr; rw [if_neg (by omega), if_neg h2, if_neg (by simpa using h3), if_neg (by simpa using h4), if_pos h5]
theorem vs_pos (h : s.basis.length = p.right.length) (h2 : ¬ (s.phase < 1 ∨ 2 < s.phase ∨ s.pivots < 0)) (h3 : rngP p s) (h4 : dupP p s) (h5 : zOk p s = true) (h6 : ¬ posP p s) : vsErr p s = 16 := by unfold vsErr; rw [if_neg (by omega), if_neg h2, if_neg (by simpa using h3), if_neg (by simpa using h4), if_neg (by rw [h5]; decide), if_pos h6]
theorem vs_art (h : s.basis.length = p.right.length) (h2 : ¬ (s.phase < 1 ∨ 2 < s.phase ∨ s.pivots < 0)) (h3 : rngP p s) (h4 : dupP p s) (h5 : zOk p s = true) (h6 : posP p s) (h7 : s.phase = 2 ∧ artN s (zL p s) (zL p s).length = true) : vsErr p s = 16 := by unfold vsErr; rw [if_neg (by omega), if_neg h2, if_neg (by simpa using h3), if_neg (by simpa using h4), if_neg (by rw [h5]; decide), if_neg (by simpa using h6), if_pos h7]
theorem vs_ok (h : s.basis.length = p.right.length) (h2 : ¬ (s.phase < 1 ∨ 2 < s.phase ∨ s.pivots < 0)) (h3 : rngP p s) (h4 : dupP p s) (h5 : zOk p s = true) (h6 : posP p s) (h7 : ¬ (s.phase = 2 ∧ artN s (zL p s) (zL p s).length = true)) : vsErr p s = 0 := by unfold vsErr; rw [if_neg (by omega), if_neg h2, if_neg (by simpa using h3), if_neg (by simpa using h4), if_neg (by rw [h5]; decide), if_neg (by simpa using h6), if_neg h7]
theorem rng_fit (h : s.basis.length = p.right.length) (h3 : rngP p s) : s.Fit p := ⟨fun i z hz => by
  have hi : i < s.basis.length := (List.getElem?_eq_some_iff.1 hz).1
  have := h3 i (by omega)
  rw [LSt.at_eq hz] at this
  exact this, h⟩
theorem vs_zero (h : vsErr p s = 0) : s.Fit p ∧ ¬ (s.phase < 1 ∨ 2 < s.phase ∨ s.pivots < 0) ∧ dupP p s ∧ zOk p s = true ∧ posP p s ∧ ¬ (s.phase = 2 ∧ artN s (zL p s) (zL p s).length = true) := by
  unfold vsErr at h
  by_cases h1 : s.basis.length ≠ p.right.length
  · rw [if_pos h1] at h; omega
  rw [if_neg h1] at h
  by_cases h2 : s.phase < 1 ∨ 2 < s.phase ∨ s.pivots < 0
  · rw [if_pos h2] at h; omega
  rw [if_neg h2] at h
  by_cases h3 : rngP p s
  · rw [if_neg (by simpa using h3)] at h
    by_cases h4 : dupP p s
    · rw [if_neg (by simpa using h4)] at h
      cases h5 : zOk p s with
      | false => rw [if_pos h5] at h; omega
      | true =>
        rw [if_neg (by rw [h5]; decide)] at h
        by_cases h6 : posP p s
        · rw [if_neg (by simpa using h6)] at h
          by_cases h7 : s.phase = 2 ∧ artN s (zL p s) (zL p s).length = true
          · rw [if_pos h7] at h; omega
          · exact ⟨rng_fit (by omega) h3, h2, h4, rfl, h6, h7⟩
        · rw [if_pos h6] at h; omega
    · rw [if_pos h4] at h; omega
  · rw [if_pos h3] at h; omega
theorem zL_at (h : zOk p s = true) {i : Nat} (hi : i < p.right.length) : (zL p s)[i]? = some (canF (qAt (zL p s) i)) := by
  unfold zOk at h
  obtain ⟨x, hx⟩ := Option.isSome_iff_exists.1 h
  unfold zL
  rw [solF_some hx, canL_get hi, canL_qAt hi]
theorem zL_len (h : zOk p s = true) : (zL p s).length = p.right.length := by
  unfold zOk at h
  obtain ⟨x, hx⟩ := Option.isSome_iff_exists.1 h
  unfold zL
  rw [solF_some hx, canL_length]
end
end Pl

theorem IntsM.all {w : World} {A : Option Addr} {n c : Nat} {zs : List Int} (h : IntsM w (.slice A n c) zs) (hn : 0 < n) : ∃ b off, A = some ⟨b, off, none⟩ ∧ ∀ i, i < n → w.cell? ⟨b, off + i, none⟩ = some (.int .i64 (zs.getD i 0)) := by
  obtain ⟨a, cap, h1, h2, h3, h4, h5⟩ := h
  injection h1 with e1 e2 e3
  subst e1 e2
  obtain ⟨b, off, g1, g2⟩ := h4 hn
  exact ⟨b, off, g1, g2⟩

set_option maxRecDepth 100000 in
set_option maxHeartbeats 8000000 in
theorem rvalidateState_any (v1 v2 : Value) (p : LPd) (s : LSt) (K : Nat) (w : World) (h : LpM w v1 p) (h2 : StM w v2 s) (F : p.Fit K) (hz : lpErr p = 0) :
    Calls Tryz.prog 28 #[v1, v2] w fun e w' => e = .returned (.int .i64 (vsErr p s)) ∧ Below w.heap.size w w' := by
  obtain ⟨A, n, c, A', n', c', A'', n'', c'', rfl, hc, hv, hr⟩ := id h
  obtain ⟨Ab, nb, cb, rfl, hI⟩ := id h2
  obtain ⟨W, hW, hX0, hbe0⟩ := box_lp w (.slice A n c) (.slice A' n' c') (.slice A'' n'' c'')
  obtain ⟨W1, hW1, hS0, hbe1⟩ := box_st W (.int .i64 s.phase) (.slice Ab nb cb) (.int .i64 s.pivots)
  have hX := hX0.later hbe1
  have hbe := below_then hbe0 hbe1 hbe0.size
  obtain ⟨b1, b2, b3⟩ := hI.len
  have hsz : W.heap.size = w.heap.size + 1 := by rw [← hW]; simp
  rw [hsz] at hS0
  have HLP := Lib.hid h
  have HST := Lib.hid h2
  have HI := Lib.hid hI
  have HFP := Lib.hid F
  have HNB := Lib.hid b1
  obtain ⟨x0, x1, x2⟩ := hX.three
  obtain ⟨y0, y1, y2⟩ := hS0.three
  obtain ⟨m1, m2, m3⟩ := hv.len
  obtain ⟨r1, r2, r3⟩ := hr.len
  have HM1 := Lib.hid m1
  have HR1 := Lib.hid r1
  have HZ0 := Lib.hid hz
  clear hz m1 r1
  clear h h2 hc hv hr b1 hI hX0 hbe0 hbe1 F
  have hn' : n' ≤ 1200 := by rw [HM1.out]; exact HFP.out.cols
  have hm' : n'' ≤ 64 := by rw [HR1.out]; exact HFP.out.rows
  have HSH : Hid (∀ (i : Nat) (f : RF), (zL p s)[i]? = some f → f.Sh) := Lib.hid fun i f hf => (zL_B HFP.out s i f hf).sh (by have := HFP.out.ks; omega)
  go_enter Tryz.func28, Tryz.ntmps28
  go_wp2_with fail
  clear hW hW1
  refine (rvalidate_any _ p K _ (HLP.out.below hbe) HFP.out.ok HFP.out.kb).mono ?_
  rw [HZ0.out]
  rintro _ w1 ⟨rfl, hb1⟩
  have hX1 := hX.later hb1
  have hT1 := hS0.later hb1
  have hbe1 := below_then hbe hb1 hbe.size
  obtain ⟨x0, x1, x2⟩ := hX1.three
  clear hX hS0 hbe hb1
  go_wp2_with fail
  have C0 := stab x0
  have C1 := stab x1
  have C2 := stab x2
  refine region_seq 8 [0, 1, 2, 3, 4, 5, 6, 7] (by kernel_rfl) (by kernel_rfl) ?_
  repeat ((first | (refine seq_takeP (v := ?_) rfl rfl rfl ?_ ?_; rotate_left; (· (intro _ hSw; go_simp; (try go_bits); (try with_reducible rfl)))) | (refine seq_take (v := ?_) rfl rfl rfl ?_ ?_; rotate_left; (· (intro _ hSw; go_simp; (try go_bits); (try with_reducible rfl)))) | refine seq_skip rfl rfl rfl ?_); (try simp only [Act.put, pu1, pu2, pu3, pu4, pu5, pu6]))
  refine seq_done ?_
  clear C0 C1 C2 x0 x1 x2
  replace hX1 := hX1.drew
  replace hT1 := hT1.drew
  replace hbe1 := hbe1.drew
  generalize w1.drew = wd at *
  obtain ⟨x0, x1, x2⟩ := hX1.three
  obtain ⟨y0, y1, y2⟩ := hT1.three
  by_cases hl : nb = n''
  · have HLN : Hid (s.basis.length = p.right.length) := Lib.hid (by rw [← HNB.out, ← HR1.out]; exact hl)
    subst hl
    have hnum : s.phase < 1 ∨ 2 < s.phase ∨ s.pivots < 0 ∨ (1 ≤ s.phase ∧ s.phase ≤ 2 ∧ 0 ≤ s.pivots) := by omega
    rcases hnum with hq | hq | hq | ⟨ha1, ha2, ha3⟩
    · have HR := Lib.hid (vs_num HLN.out (.inl hq))
      go_wp2
      go_ret
      exact ⟨ret_int' HR.out, hbe1⟩
    · have HR := Lib.hid (vs_num HLN.out (.inr (.inl hq)))
      have hq1 : ¬ s.phase < 1 := by omega
      go_wp2
      go_ret
      exact ⟨ret_int' HR.out, hbe1⟩
    · have HR := Lib.hid (vs_num HLN.out (.inr (.inr hq)))
      rcases Int.lt_or_le s.phase 1 with hp1 | hp1
      · go_wp2
        go_ret
        exact ⟨ret_int' HR.out, hbe1⟩
      · rcases Int.lt_or_le 2 s.phase with hp2 | hp2
        · go_wp2
          go_ret
          exact ⟨ret_int' HR.out, hbe1⟩
        · go_wp2
          go_ret
          exact ⟨ret_int' HR.out, hbe1⟩
    · have HNU : Hid (¬ (s.phase < 1 ∨ 2 < s.phase ∨ s.pivots < 0)) := Lib.hid (by omega)
      go_wp2
      clear x0 x1 x2 y0 y1 y2
      go_loopw [8] (fun i wr => ∃ k : Nat, k ≤ nb ∧ i = .int .i64 k ∧ Below w.heap.size w wr ∧ Bk wr w.heap.size 26 [.slice A n c, .slice A' n' c', .slice A'' nb c''] ∧ Bk wr (w.heap.size + 1) 34 [.int .i64 s.phase, .slice Ab nb cb, .int .i64 s.pivots] ∧ ∀ i, i < k → -(nb : Int) ≤ s.at_ i ∧ s.at_ i < n') (fun i _ => nb - (intOf i).toNat)
      case atStart => exact ⟨0, by omega, rfl, hbe1, hX1, hT1, fun i hi => by omega⟩
      case round =>
        clear hbe1 hX1 hT1
        obtain ⟨k, hk, rfl, hbe, hX, hS, hg⟩ := hrel
        have HG := Lib.hid hg
        clear hg
        obtain ⟨x0, x1, x2⟩ := hX.three
        obtain ⟨y0, y1, y2⟩ := hS.three
        rcases Nat.lt_or_ge k nb with hkl | hkl
        · obtain ⟨bb, bo, z, rfl, hzc, hget, z0, z1⟩ := (HI.out.below hbe).at_ hkl
          have HAT := Lib.hid (LSt.at_eq hget)
          have hkI : (k : Int) < nb := by omega
          clear hget
          rcases Int.lt_or_le z (-(nb : Int)) with h1 | h1
          · have HR : Hid (vsErr p s = 5) := Lib.hid (vs_rng HLN.out HNU.out fun hr => by have := (hr k (by rw [← HR1.out]; exact hkl)).1; rw [HAT.out, ← HR1.out] at this; omega)
            go_wp2
            go_ret
            exact ⟨ret_int' HR.out, hbe⟩
          · rcases Int.lt_or_le z n' with h2 | h2
            · have HG2 : Hid (∀ i, i < k + 1 → -(nb : Int) ≤ s.at_ i ∧ s.at_ i < n') := Lib.hid fun i hi => by
                rcases Nat.lt_or_ge i k with h | h
                · exact HG.out i h
                · obtain rfl : i = k := by omega
                  rw [HAT.out]; exact ⟨h1, h2⟩
              go_wp2
              go_roundw
              case rel => exact ⟨k + 1, by omega, by go_num, hbe, hX, hS, HG2.out⟩
              case measure => simp [intOf]; omega
            · have HR : Hid (vsErr p s = 5) := Lib.hid (vs_rng HLN.out HNU.out fun hr => by have := (hr k (by rw [← HR1.out]; exact hkl)).2; rw [HAT.out, ← HM1.out] at this; omega)
              go_wp2
              go_ret
              exact ⟨ret_int' HR.out, hbe⟩
        · obtain rfl : nb = k := by omega
          have HRG : Hid (rngP p s) := Lib.hid fun i hi => by rw [← HR1.out] at hi ⊢; rw [← HM1.out]; exact HG.out i hi
          clear HG x0 x1 x2 y0 y1 y2
          go_wp2
          go_loopw [9] (fun i wr => ∃ a : Nat, a ≤ nb ∧ i = .int .i64 a ∧ Below w.heap.size w wr ∧ Bk wr w.heap.size 26 [.slice A n c, .slice A' n' c', .slice A'' nb c''] ∧ Bk wr (w.heap.size + 1) 34 [.int .i64 s.phase, .slice Ab nb cb, .int .i64 s.pivots] ∧ ∀ i, i < a → ∀ j, j < i → s.at_ i ≠ s.at_ j) (fun i _ => nb - (intOf i).toNat)
          case atStart => exact ⟨0, by omega, rfl, hbe, hX, hS, fun i hi => by omega⟩
          case round =>
            clear hbe hX hS
            obtain ⟨a, haN, rfl, hbe, hX, hS, hg⟩ := hrel
            have HG := Lib.hid hg
            clear hg
            rcases Nat.lt_or_ge a nb with hal | hal
            · go_wp2
              go_loopw [10] (fun i wr => ∃ b : Nat, b ≤ a ∧ i = .int .i64 b ∧ Below w.heap.size w wr ∧ Bk wr w.heap.size 26 [.slice A n c, .slice A' n' c', .slice A'' nb c''] ∧ Bk wr (w.heap.size + 1) 34 [.int .i64 s.phase, .slice Ab nb cb, .int .i64 s.pivots] ∧ ∀ j, j < b → s.at_ a ≠ s.at_ j) (fun i _ => a - (intOf i).toNat)
              case atStart => exact ⟨0, by omega, rfl, hbe, hX, hS, fun j hj => by omega⟩
              case round =>
                clear hbe hX hS
                obtain ⟨b, hbN, rfl, hbe, hX, hS, hg⟩ := hrel
                have HG2 := Lib.hid hg
                clear hg
                rcases Nat.lt_or_ge b a with hba | hba
                · obtain ⟨bb, bo, rfl, hall⟩ := (HI.out.below hbe).all (show 0 < nb by omega)
                  have c1 : wr.cell? ⟨bb, bo + a, none⟩ = some (.int .i64 (s.at_ a)) := hall a hal
                  have c2 : wr.cell? ⟨bb, bo + b, none⟩ = some (.int .i64 (s.at_ b)) := hall b (by omega)
                  obtain ⟨y0, y1, y2⟩ := hS.three
                  have haI : (a : Int) < nb := by omega
                  have hbI : (b : Int) < nb := by omega
                  have hbI2 : (b : Int) < a := by omega
                  clear hall
                  generalize hza : s.at_ a = za at *
                  generalize hzb : s.at_ b = zb at *
                  have HZA := Lib.hid hza
                  have HZB := Lib.hid hzb
                  clear hza hzb
                  have hX' := hX.drew
                  have hS' := hS.drew
                  have hbe' := hbe.drew
                  by_cases he : za = zb
                  · have he' : (za == zb) = true := by simpa using he
                    have HR : Hid (vsErr p s = 7) := Lib.hid (vs_dup HLN.out HNU.out HRG.out fun hd => hd a (by rw [← HR1.out]; exact hal) b hba (by rw [HZA.out, HZB.out, he]))
                    clear he
                    go_wp2_with fail
                    have C0 := stab y0
                    have C1 := stab y1
                    have C2 := stab y2
                    have D1 := stab c1
                    have D2 := stab c2
                    clear y0 y1 y2 c1 c2
                    refine region_seq 11 [0, 1, 2, 3, 4, 5, 6, 7, 8, 9, 10] (by kernel_rfl) (by kernel_rfl) ?_
                    repeat ((first | (refine seq_takeP (v := ?_) rfl rfl rfl ?_ ?_; rotate_left; (· (intro _ hSw; go_simp; (try go_bits); (try with_reducible rfl)))) | (refine seq_take (v := ?_) rfl rfl rfl ?_ ?_; rotate_left; (· (intro _ hSw; go_simp; (try go_bits); (try with_reducible rfl)))) | refine seq_skip rfl rfl rfl ?_); (try simp only [Act.put, pu1, pu2, pu3, pu4, pu5, pu6]))
                    refine seq_done ?_
                    go_wp2
                    go_ret
                    exact ⟨ret_int' HR.out, hbe'⟩
                  · have he' : (za == zb) = false := by simpa using he
                    have HG3 : Hid (∀ j, j < b + 1 → za ≠ s.at_ j) := Lib.hid fun j hj => by
                      rcases Nat.lt_or_ge j b with h | h
                      · exact HG2.out j h
                      · obtain rfl : j = b := by omega
                        rw [HZB.out]; exact he
                    have HG4 : Hid (∀ j, j < b + 1 → s.at_ a ≠ s.at_ j) := Lib.hid fun j hj => by rw [HZA.out]; exact HG3.out j hj
                    clear he
                    go_wp2_with fail
                    have C0 := stab y0
                    have C1 := stab y1
                    have C2 := stab y2
                    have D1 := stab c1
                    have D2 := stab c2
                    clear y0 y1 y2 c1 c2
                    refine region_seq 11 [0, 1, 2, 3, 4, 5, 6, 7, 8, 9, 10] (by kernel_rfl) (by kernel_rfl) ?_
                    repeat ((first | (refine seq_takeP (v := ?_) rfl rfl rfl ?_ ?_; rotate_left; (· (intro _ hSw; go_simp; (try go_bits); (try with_reducible rfl)))) | (refine seq_take (v := ?_) rfl rfl rfl ?_ ?_; rotate_left; (· (intro _ hSw; go_simp; (try go_bits); (try with_reducible rfl)))) | refine seq_skip rfl rfl rfl ?_); (try simp only [Act.put, pu1, pu2, pu3, pu4, pu5, pu6]))
                    refine seq_done ?_
                    clear C0 C1 C2 D1 D2
                    go_wp2
                    go_roundw
                    case rel => exact ⟨b + 1, by omega, by go_num, hbe', hX', hS', by first | exact HG4.out | exact HG3.out⟩
                    case measure => simp [intOf]; omega
                · obtain rfl : a = b := by omega
                  have HG5 : Hid (∀ i, i < a + 1 → ∀ j, j < i → s.at_ i ≠ s.at_ j) := Lib.hid fun i hi j hj => by
                    rcases Nat.lt_or_ge i a with h | h
                    · exact HG.out i h j hj
                    · obtain rfl : i = a := by omega
                      exact HG2.out j hj
                  go_wp2
                  go_roundw
                  case rel => exact ⟨a + 1, by omega, by go_num, hbe, hX, hS, HG5.out⟩
                  case measure => simp [intOf]; omega
            · obtain rfl : nb = a := by omega
              have HDP : Hid (dupP p s) := Lib.hid fun i hi => by rw [← HR1.out] at hi; exact HG.out i hi
              have HFS := Lib.hid (rng_fit HLN.out HRG.out)
              obtain ⟨x0, x1, x2⟩ := hX.three
              obtain ⟨y0, y1, y2⟩ := hS.three
              clear HG
              go_wp2_with fail
              refine (rbasic_own _ _ p s K _ (HLP.out.below hbe) (HST.out.below hbe) HFP.out HFS.out).mono ?_
              rintro _ w5 ⟨v5, rfl, e5, hb5⟩
              have hX5 := hX.later hb5
              have hS5 := hS.later hb5
              have hbe5 := below_then hbe hb5 hbe.size
              have hz5 := e5.frs
              clear x0 x1 x2 y0 y1 y2 hX hS hbe hb5 e5
              cases hzk : zOk p s with
              | false =>
                have HR := Lib.hid (vs_sing HLN.out HNU.out HRG.out HDP.out hzk)
                go_wp2
                go_ret
                exact ⟨ret_int' HR.out, hbe5⟩
              | true =>
                have HZK := Lib.hid hzk
                have HZN : Hid ((zL p s).length = nb) := Lib.hid (by rw [zL_len hzk, HR1.out])
                obtain ⟨Az, cz, rfl, hz1, hz2⟩ := hz5.shape
                rw [HZN.out] at hz1 hz5 ⊢
                clear hzk
                go_wp2
                go_loopw [13] (fun i wr => ∃ k : Nat, k ≤ nb ∧ i = .int .i64 k ∧ Below w.heap.size w wr ∧ Bk wr w.heap.size 26 [.slice A n c, .slice A' n' c', .slice A'' nb c''] ∧ Bk wr (w.heap.size + 1) 34 [.int .i64 s.phase, .slice Ab nb cb, .int .i64 s.pivots] ∧ FrsM wr (.slice Az nb cz) (zL p s) ∧ ∀ i, i < k → ¬ qAt (zL p s) i < 0) (fun i _ => nb - (intOf i).toNat)
                case atStart => exact ⟨0, by omega, rfl, hbe5, hX5, hS5, hz5, fun i hi => by omega⟩
                case round =>
                  clear hbe5 hX5 hS5 hz5
                  obtain ⟨k, hk, rfl, hbe, hX, hS, hz, hg⟩ := hrel
                  have HG := Lib.hid hg
                  clear hg
                  rcases Nat.lt_or_ge k nb with hkl | hkl
                  · have hget := zL_at HZK.out (show k < p.right.length by rw [← HR1.out]; exact hkl)
                    obtain ⟨b', off', B1, n1, k1, B2, n2, k2, rfl, hlt, ⟨q0, q1, q2, q3⟩, hmf⟩ := hz.elem (Below.refl _ _) hget
                    have hsf := HSH.out k _ hget
                    have hkI : (k : Int) < nb := by omega
                    generalize hq : qAt (zL p s) k = q at *
                    have HQ := Lib.hid hq
                    clear hq hget
                    go_wp2_with fail
                    refine (rsignF_any _ (canF q) _ hmf hsf).mono ?_
                    rw [canF_q]
                    rintro _ w7 ⟨rfl, hb7⟩
                    have hX7 := hX.later hb7
                    have hS7 := hS.later hb7
                    have hz7 := hz.below hb7
                    have hbe7 := below_then hbe hb7 hbe.size
                    clear q0 q1 q2 q3 hmf hX hS hz hbe hb7
                    rcases Int.lt_or_le (qs q) 0 with hqs | hqs
                    · have HR : Hid (vsErr p s = 16) := Lib.hid (vs_pos HLN.out HNU.out HRG.out HDP.out HZK.out fun hp => hp k (by rw [← HR1.out]; exact hkl) (by rw [HQ.out]; exact qs_neg.1 hqs))
                      go_wp2
                      go_ret
                      exact ⟨ret_int' HR.out, hbe7⟩
                    · have HG2 : Hid (∀ i, i < k + 1 → ¬ qAt (zL p s) i < 0) := Lib.hid fun i hi => by
                        rcases Nat.lt_or_ge i k with h | h
                        · exact HG.out i h
                        · obtain rfl : i = k := by omega
                          rw [HQ.out]; intro h9; have := qs_neg.2 h9; omega
                      go_wp2
                      go_roundw
                      case rel => exact ⟨k + 1, by omega, by go_num, hbe7, hX7, hS7, hz7, HG2.out⟩
                      case measure => simp [intOf]; omega
                  · obtain rfl : nb = k := by omega
                    have HPP : Hid (posP p s) := Lib.hid fun i hi => by rw [← HR1.out] at hi; exact HG.out i hi
                    obtain ⟨y0, y1, y2⟩ := hS.three
                    clear HG
                    by_cases hp2 : s.phase = 2
                    · have hp2' : (s.phase == 2) = true := by simpa using hp2
                      have HP2 := Lib.hid hp2
                      clear hp2
                      go_wp2_with fail
                      refine (rartificial_any _ _ s (zL p s) _ (HST.out.below hbe) hz (by rw [HZN.out, HLN.out, HR1.out]; exact Nat.le_refl _) HSH.out).mono ?_
                      rintro _ w7 ⟨rfl, hb7⟩
                      have hbe7 := below_then hbe hb7 hbe.size
                      cases ha : artN s (zL p s) (zL p s).length with
                      | true =>
                        have HR := Lib.hid (vs_art HLN.out HNU.out HRG.out HDP.out HZK.out HPP.out ⟨HP2.out, ha⟩)
                        clear ha
                        go_wp2
                        go_ret
                        exact ⟨ret_int' HR.out, hbe7⟩
                      | false =>
                        have HR := Lib.hid (vs_ok HLN.out HNU.out HRG.out HDP.out HZK.out HPP.out (fun h => by rw [ha] at h; exact absurd h.2 (by decide)))
                        clear ha
                        go_wp2
                        go_ret
                        exact ⟨ret_int' HR.out, hbe7⟩
                    · have hp2' : (s.phase == 2) = false := by simpa using hp2
                      have HR := Lib.hid (vs_ok HLN.out HNU.out HRG.out HDP.out HZK.out HPP.out (fun h => hp2 h.1))
                      clear hp2
                      go_wp2
                      go_ret
                      exact ⟨ret_int' HR.out, hbe⟩
  · have HR : Hid (vsErr p s = 12) := Lib.hid (vs_len (by rw [← HNB.out, ← HR1.out]; exact hl))
    have hli : ((nb : Int) != (n'' : Int)) = true := by simp; omega
    go_wp2
    go_ret
    exact ⟨ret_int' HR.out, hbe1⟩
end Go.Proofs.YtpanffbgihhjnaaGreat

/- Walks: package pairingref25: status. -/
namespace Go.Proofs.YtpanffbgihhjnaaGreat
open Go.RowKit Pl
attribute [local go_sem ↓] Go.wp_at_zero Go.wp_at_succ

namespace Pl
def firstNeg (f : Nat → Rat) : Nat → Nat → Option Nat
  | _, 0 => none
  | r, n + 1 => if f r < 0 then some r else firstNeg f (r + 1) n
theorem firstNeg_none {f : Nat → Rat} : ∀ {n r : Nat}, (∀ i, r ≤ i → i < r + n → ¬ f i < 0) → firstNeg f r n = none
  | 0, _, _ => rfl
  | n + 1, r, h => by
    unfold firstNeg
    rw [if_neg (h r (Nat.le_refl _) (by omega))]
    exact firstNeg_none fun i h1 h2 => h i (by omega) (by omega)
theorem firstNeg_some {f : Nat → Rat} : ∀ {n r t : Nat}, r ≤ t → t < r + n → f t < 0 → (∀ i, r ≤ i → i < t → ¬ f i < 0) → firstNeg f r n = some t
  | 0, r, t, h1, h2, _, _ => by omega
  | n + 1, r, t, h1, h2, h3, h4 => by
    unfold firstNeg
    rcases Nat.eq_or_lt_of_le h1 with e | e
    · subst e; rw [if_pos h3]
    · rw [if_neg (h4 r (Nat.le_refl _) e)]
      exact firstNeg_some (by omega) (by omega) h3 fun i h5 h6 => h4 i (by omega) h6
theorem firstNeg_is {f : Nat → Rat} : ∀ {n r t : Nat}, firstNeg f r n = some t → r ≤ t ∧ t < r + n ∧ f t < 0 ∧ ∀ i, r ≤ i → i < t → ¬ f i < 0
  | 0, _, _, h => by cases h
  | n + 1, r, t, h => by
    unfold firstNeg at h
    split at h
    · injection h with h; subst h; exact ⟨Nat.le_refl _, by omega, by assumption, fun i h1 h2 => by omega⟩
    · rename_i h0
      obtain ⟨h1, h2, h3, h4⟩ := firstNeg_is h
      refine ⟨by omega, by omega, h3, fun i h5 h6 => ?_⟩
      rcases Nat.eq_or_lt_of_le h5 with e | e
      · subst e; exact h0
      · exact h4 i (by omega) h6
def entQ (p : LPd) (s : LSt) : Option Nat := firstNeg (fun j => redQ p s (j : Int)) 0 p.cols.length
def dirL (p : LPd) (s : LSt) (j : Int) : List RF := solF p.right.length (s.mat p) (qAt (canL p.right.length (p.col j)))
def stuckN (s : LSt) (d : List RF) : Nat → Bool
  | 0 => decide (s.phase = 2)
  | k + 1 => if 0 < qAt d k ∨ (s.at_ k < 0 ∧ qAt d k ≠ 0) then false else stuckN s d k
def statQ (p : LPd) (s : LSt) : Int := match entQ p s with | some j => (if stuckN s (dirL p s (j : Int)) (dirL p s (j : Int)).length then 3 else 0) | none => if s.phase = 1 then 2 else 1
def statJ (p : LPd) (s : LSt) : Int := match entQ p s with | some j => (j : Int) | none => -1
def statD (p : LPd) (s : LSt) : List RF := match entQ p s with | some j => dirL p s (j : Int) | none => []
theorem stat_some {p : LPd} {s : LSt} {j : Nat} (h : entQ p s = some j) : statQ p s = (if stuckN s (dirL p s (j : Int)) (dirL p s (j : Int)).length then 3 else 0) ∧ statJ p s = (j : Int) ∧ statD p s = dirL p s (j : Int) := by unfold statQ statJ statD; rw [h]; exact ⟨rfl, rfl, rfl⟩
theorem stat_none {p : LPd} {s : LSt} (h : entQ p s = none) : statQ p s = (if s.phase = 1 then 2 else 1) ∧ statJ p s = -1 ∧ statD p s = [] := by unfold statQ statJ statD; rw [h]; exact ⟨rfl, rfl, rfl⟩
theorem dirL_B {p : LPd} {K : Nat} (F : p.Fit K) (s : LSt) (j : Int) : RsL (5 ^ p.right.length * K) (dirL p s j) := solF_B (fun _ _ _ _ => LPd.Sz_col F.ok F.k1 _ _) fun r hr => by rw [canL_qAt hr]; exact LPd.Sz_col F.ok F.k1 _ _
end Pl

set_option maxRecDepth 100000 in
set_option maxHeartbeats 8000000 in
theorem rstatus_own (v1 v2 : Value) (p : LPd) (s : LSt) (K : Nat) (w : World) (h : LpM w v1 p) (h2 : StM w v2 s) (F : p.Fit K) (S : s.Fit p) :
    Calls Tryz.prog 30 #[v1, v2] w fun e w' => ∃ v', e = .returned (.tuple #[.int .i64 (statQ p s), .int .i64 (statJ p s), v']) ∧ FrsO w.heap.size w' v' (statD p s) ∧ Below w.heap.size w w' := by
  obtain ⟨A, n, c, A', n', c', A'', n'', c'', rfl, hc, hv, hr⟩ := id h
  obtain ⟨Ab, nb, cb, rfl, hI⟩ := id h2
  obtain ⟨W, hW, hX0, hbe0⟩ := box_lp w (.slice A n c) (.slice A' n' c') (.slice A'' n'' c'')
  obtain ⟨W1, hW1, hS0, hbe1⟩ := box_st W (.int .i64 s.phase) (.slice Ab nb cb) (.int .i64 s.pivots)
  have hX := hX0.later hbe1
  have hbe := below_then hbe0 hbe1 hbe0.size
  obtain ⟨b1, b2, b3⟩ := hI.len
  have hsz : W.heap.size = w.heap.size + 1 := by rw [← hW]; simp
  rw [hsz] at hS0
  have HLP := Lib.hid h
  have HST := Lib.hid h2
  have HI := Lib.hid hI
  have HFP := Lib.hid F
  have HFS := Lib.hid S
  have HNB := Lib.hid b1
  have HB1 : Hid (nb = p.right.length) := Lib.hid (by rw [b1]; exact S.2)
  have hnb : nb ≤ 64 := by rw [HB1.out]; exact F.2.2.1
  obtain ⟨x0, x1, x2⟩ := hX.three
  obtain ⟨y0, y1, y2⟩ := hS0.three
  obtain ⟨m1, m2, m3⟩ := hv.len
  have HN1 := Lib.hid m1
  clear h h2 hc hv hr b1 hI hX0 hbe0 hbe1 F S
  clear m1
  have hn' : n' ≤ 1200 := by rw [HN1.out]; exact HFP.out.cols
  have HSL : Hid (s.basis.length ≤ 1000) := Lib.hid (by rw [← HNB.out]; omega)
  have HM1 : Hid (p.right.length ≤ 1000) := Lib.hid (by have := HFP.out.rows; omega)
  have HKS : Hid (130 * (5 ^ p.right.length * K) + 200 ≤ 8589934592) := Lib.hid HFP.out.2.2.2.2.2.2
  go_enter Tryz.func30, Tryz.ntmps30
  go_wp2_with fail
  clear hW hW1
  refine (rreduced_own _ _ p s K _ (HLP.out.below hbe) (HST.out.below hbe) HFP.out HFS.out).mono ?_
  unfold redL
  rw [← HN1.out]
  rintro _ w3 ⟨v3, rfl, e3, hb3⟩
  have hX3 := hX.later hb3
  have hT3 := hS0.later hb3
  have hbe3 := below_then hbe hb3 hbe.size
  have hR3 := e3.frs
  obtain ⟨Ar, cr, rfl, hr1, hr2⟩ := hR3.shape
  rw [canL_length] at hr1 hR3 ⊢
  clear e3 hb3 hX hS0 x0 x1 x2 y0 y1 y2 hbe
  go_wp2
  go_loopw [8] (fun i wr => ∃ j : Nat, j ≤ n' ∧ i = .int .i64 j ∧ Below w.heap.size w wr ∧ Bk wr w.heap.size 26 [.slice A n c, .slice A' n' c', .slice A'' n'' c''] ∧ Bk wr (w.heap.size + 1) 34 [.int .i64 s.phase, .slice Ab nb cb, .int .i64 s.pivots] ∧ FrsM wr (.slice Ar n' cr) (canL n' fun j => redQ p s (j : Int)) ∧ ∀ i : Nat, i < j → ¬ redQ p s (i : Int) < 0) (fun i _ => n' - (intOf i).toNat)
  case atStart => exact ⟨0, by omega, rfl, hbe3, hX3, hT3, hR3, fun i hi => by omega⟩
  case round =>
    clear hbe3 hX3 hT3 hR3
    obtain ⟨j, hj, rfl, hbe, hX, hS, hR, hg⟩ := hrel
    have HG := Lib.hid hg
    clear hg
    rcases Nat.lt_or_ge j n' with hjl | hjl
    · have hget := canL_get (f := fun j : Nat => redQ p s (j : Int)) hjl
      obtain ⟨b', off', B1, n1, k1, B2, n2, k2, rfl, hlt, ⟨q0, q1, q2, q3⟩, hmf⟩ := hR.elem (Below.refl _ _) hget
      have hsf : (canF (redQ p s (j : Int))).Sh := (Sz_red HFP.out s (j : Int)).sh (by have := HKS.out; omega)
      have HJN : Hid ((j : Int) < p.cols.length) := Lib.hid (by rw [← HN1.out]; omega)
      have hjI : (j : Int) < n' := by omega
      generalize hq : redQ p s (j : Int) = q at *
      have HQ := Lib.hid hq
      clear hq hget
      go_wp2_with fail
      refine (rsignF_any _ (canF q) _ hmf hsf).mono ?_
      rw [canF_q]
      rintro _ w4 ⟨rfl, hb4⟩
      have hX4 := hX.later hb4
      have hS4 := hS.later hb4
      have hR4 := hR.below hb4
      have hbe4 := below_then hbe hb4 hbe.size
      clear q0 q1 q2 q3 hmf hX hS hR hbe hb4
      rcases Int.lt_or_le (qs q) 0 with hqs | hqs
      · have HEN : Hid (entQ p s = some j) := Lib.hid (firstNeg_some (Nat.zero_le _) (by have := HJN.out; omega) (by show redQ p s (j : Int) < 0; rw [HQ.out]; exact qs_neg.1 hqs) fun i _ hi => HG.out i hi)
        have HCR : Hid (RsL K (canL p.right.length (p.col (j : Int)))) := Lib.hid (canL_rs fun i _ => LPd.Sz_col HFP.out.ok HFP.out.k1 _ _)
        have HCL : Hid ((canL p.right.length (p.col (j : Int))).length = p.right.length) := Lib.hid (canL_length _ _)
        obtain ⟨x0, x1, x2⟩ := hX4.three
        obtain ⟨y0, y1, y2⟩ := hS4.three
        have hbe := hbe4
        clear hbe4 hR4 HG HQ
        go_wp2_with fail
        have C0 := stab x0
        have C1 := stab x1
        have C2 := stab x2
        have D0 := stab y0
        have D1 := stab y1
        have D2 := stab y2
        have hS0 := below_drew' w4
        clear x0 x1 x2 y0 y1 y2
        refine region_seq 12 [0, 1, 3, 4, 2, 5, 6, 7, 8, 9, 10, 11] (by kernel_rfl) (by kernel_rfl) ?_
        repeat ((first | (refine seq_takeP (v := ?_) rfl rfl rfl ?_ ?_; rotate_left; (· (intro _ hSw; go_simp; (try go_bits); (try with_reducible rfl)))) | (refine seq_take (v := ?_) rfl rfl rfl ?_ ?_; rotate_left; (· (intro _ hSw; go_simp; (try go_bits); (try with_reducible rfl)))) | refine seq_skip rfl rfl rfl ?_); (try simp only [Act.put, pu1, pu2, pu3, pu4, pu5, pu6]))
        refine seq_step rfl rfl (fun KR hKR => ?_)
        go_simp
        with_reducible refine (rmatrix_own _ _ p s K _ ((HLP.out.below hbe).below hS0) ((HST.out.below hbe).below hS0) HFP.out.ok HFP.out.kb HFP.out.in_ HFS.out.in_ HFP.out.rows HSL.out).mono ?_
        rw [HFS.out.len]
        rintro _ w5 ⟨v5, rfl, e5, hb5⟩
        have hS5 := below_then hS0 hb5 hS0.size
        refine hKR.out _ _ (Or.inr hS5) ?_
        clear hKR KR
        (try simp only [Act.put, pu1, pu2, pu3, pu4, pu5, pu6])
        repeat ((first | (refine seq_takeP (v := ?_) rfl rfl rfl ?_ ?_; rotate_left; (· (intro _ hSw; go_simp; (try go_bits); (try with_reducible rfl)))) | (refine seq_take (v := ?_) rfl rfl rfl ?_ ?_; rotate_left; (· (intro _ hSw; go_simp; (try go_bits); (try with_reducible rfl)))) | refine seq_skip rfl rfl rfl ?_); (try simp only [Act.put, pu1, pu2, pu3, pu4, pu5, pu6]))
        refine seq_step rfl rfl (fun KR hKR => ?_)
        go_simp
        with_reducible refine (rcolumn_any _ p K (j : Int) _ ((HLP.out.below hbe).below hS5) HFP.out.ok HFP.out.kb HFP.out.in_ (by omega) HJN.out HFP.out.rows).mono ?_
        rintro _ w6 ⟨v6, rfl, e6, hb6⟩
        have hS6 := below_then hS5 hb6 hS5.size
        have hM6 := e5.below hb6
        have hC6 := e6.frs
        clear e5 e6
        refine hKR.out _ _ (Or.inr hS6) ?_
        clear hKR KR
        (try simp only [Act.put, pu1, pu2, pu3, pu4, pu5, pu6])
        repeat ((first | (refine seq_takeP (v := ?_) rfl rfl rfl ?_ ?_; rotate_left; (· (intro _ hSw; go_simp; (try go_bits); (try with_reducible rfl)))) | (refine seq_take (v := ?_) rfl rfl rfl ?_ ?_; rotate_left; (· (intro _ hSw; go_simp; (try go_bits); (try with_reducible rfl)))) | refine seq_skip rfl rfl rfl ?_); (try simp only [Act.put, pu1, pu2, pu3, pu4, pu5, pu6]))
        refine seq_step rfl rfl (fun KR hKR => ?_)
        go_simp
        with_reducible refine (rsolve_own _ _ p.right.length (s.mat p) (canL p.right.length (p.col (j : Int))) K _ hM6 hC6 HCL.out (fun r c _ _ => Sz_mat HFP.out s c r) HCR.out HFP.out.k1 HFP.out.ks HM1.out).mono ?_
        rintro _ w7 ⟨v7, rfl, e7, hb7⟩
        have hS7 := below_then hS6 hb7 hS6.size
        refine hKR.out _ _ (Or.inr hS7) ?_
        clear hKR KR
        (try simp only [Act.put, pu1, pu2, pu3, pu4, pu5, pu6])
        repeat ((first | (refine seq_takeP (v := ?_) rfl rfl rfl ?_ ?_; rotate_left; (· (intro _ hSw; go_simp; (try go_bits); (try with_reducible rfl)))) | (refine seq_take (v := ?_) rfl rfl rfl ?_ ?_; rotate_left; (· (intro _ hSw; go_simp; (try go_bits); (try with_reducible rfl)))) | refine seq_skip rfl rfl rfl ?_); (try simp only [Act.put, pu1, pu2, pu3, pu4, pu5, pu6]))
        refine seq_done ?_
        clear C0 C1 C2 D0 D1 D2
        have hX7 := hX4.later hS7
        have hT7 := hS4.later hS7
        have hbe7 := below_then hbe hS7 hbe.size
        have hs67 := hS6.size
        have hs4 := hbe.size
        have hD7 : FrsO w.heap.size w7 v7 (dirL p s (j : Int)) := by obtain ⟨cs, ho, hf⟩ := e7; exact ⟨cs, row_mono ho (by omega), hf⟩
        have HDB := Lib.hid (dirL_B HFP.out s (j : Int))
        obtain ⟨hst1, hst2, hst3⟩ := stat_some HEN.out
        have HST1 := Lib.hid hst1
        have HST2 := Lib.hid hst2
        have HST3 := Lib.hid hst3
        have HDN : Hid ((dirL p s (j : Int)).length ≤ nb) := Lib.hid (by rw [HB1.out]; exact solF_len)
        clear e7 hM6 hC6 hX4 hS4 hS0 hS5 hS6 hS7 hb5 hb6 hb7 hbe hst1 hst2 hst3
        generalize dirL p s (j : Int) = D at *
        obtain ⟨Ad, cd, rfl, hd1, hd2⟩ := hD7.frs.shape
        generalize hDN : D.length = N at *
        have HDL := Lib.hid hDN
        have hNb : N ≤ nb := HDN.out
        clear hDN
        obtain ⟨y0, y1, y2⟩ := hT7.three
        have hst0 : decide (s.phase = 2) = stuckN s D 0 := rfl
        go_wp2
        clear y0 y1 y2
        go_loopw [11, 12] (fun b i wx => ∃ k : Nat, k ≤ N ∧ i = .int .i64 k ∧ b = .bool (stuckN s D k) ∧ Below w.heap.size w wx ∧ Bk wx w.heap.size 26 [.slice A n c, .slice A' n' c', .slice A'' n'' c''] ∧ Bk wx (w.heap.size + 1) 34 [.int .i64 s.phase, .slice Ab nb cb, .int .i64 s.pivots] ∧ FrsO w.heap.size wx (.slice Ad N cd) D) (fun _ i _ => N - (intOf i).toNat)
        case atStart => exact ⟨0, by omega, rfl, by rw [← hst0]; congr 1, hbe7, hX7, hT7, hD7⟩
        case round =>
          clear hbe7 hX7 hT7 hD7 hst0
          obtain ⟨k, hk, rfl, rfl, hbe, hX, hS, hD⟩ := hrel
          rcases Nat.lt_or_ge k N with hkl | hkl
          · obtain ⟨f, hf⟩ := get_some (fs := D) (i := k) (by rw [HDL.out]; exact hkl)
            obtain ⟨b', off', B1, n1, k1, B2, n2, k2, rfl, hlt, ⟨q0, q1, q2, q3⟩, hmf⟩ := hD.frs.elem (Below.refl _ _) hf
            have hsf : f.Sh := (HDB.out k f hf).sh (by have := HKS.out; omega)
            obtain ⟨bb, bo, rfl, hall⟩ := (HI.out.below hbe).all (show 0 < nb by omega)
            have c1 : wr.cell? ⟨bb, bo + k, none⟩ = some (.int .i64 (s.at_ k)) := hall k (by omega)
            obtain ⟨y0, y1, y2⟩ := hS.three
            have HQ := Lib.hid (qAt_some hf)
            have hkI : (k : Int) < N := by omega
            have hkI2 : (k : Int) < nb := by omega
            generalize hz : s.at_ k = z at *
            have HZ := Lib.hid hz
            clear hf hall hz
            go_wp2_with fail
            refine (rsignF_any _ f _ hmf hsf).mono ?_
            rintro _ w8 ⟨rfl, hb8⟩
            have hX8 := hX.later hb8
            have hS8 := hS.later hb8
            have hD8 := hD.below hb8
            have hbe8 := below_then hbe hb8 hbe.size
            have hm8 := hmf.below hb8
            have c1' := cell_later hb8 c1
            have q0' := cell_later hb8 q0
            have q1' := cell_later hb8 q1
            have q2' := cell_later hb8 q2
            have q3' := cell_later hb8 q3
            obtain ⟨z0, z1, z2⟩ := hS8.three
            clear q0 q1 q2 q3 hmf c1 y0 y1 y2 hX hS hD hbe hb8
            rcases Int.lt_or_le 0 (qs f.q) with hp | hp
            · have HSK : Hid (stuckN s D (k + 1) = false) := Lib.hid (by unfold stuckN; rw [if_pos (.inl (by rw [HQ.out]; exact qs_pos.1 hp))])
              go_wp2
              go_roundw
              case rel => exact ⟨k + 1, by omega, by go_num, by rw [HSK.out], hbe8, hX8, hS8, hD8⟩
              case measure => simp [intOf]; omega
            · rcases Int.lt_or_le z 0 with hz0 | hz0
              · go_wp2_with fail
                refine (rsignF_any _ f _ hm8 hsf).mono ?_
                rintro _ w9 ⟨rfl, hb9⟩
                have hX9 := hX8.later hb9
                have hS9 := hS8.later hb9
                have hD9 := hD8.below hb9
                have hbe9 := below_then hbe8 hb9 hbe8.size
                clear hX8 hS8 hD8 hbe8 hb9 c1' q0' q1' q2' q3' z0 z1 z2 hm8
                by_cases hq0 : f.q = 0
                · have hqs0 : (qs f.q != 0) = false := by rw [hq0]; decide
                  have HSK : Hid (stuckN s D (k + 1) = stuckN s D k) := Lib.hid (by rw [stuckN, if_neg (by rw [HQ.out, hq0]; intro h; rcases h with h | h; exact absurd h (by decide); exact h.2 rfl)])
                  clear hq0
                  go_wp2
                  go_roundw
                  case rel => exact ⟨k + 1, by omega, by go_num, by rw [HSK.out], hbe9, hX9, hS9, hD9⟩
                  case measure => simp [intOf]; omega
                · have hqs0 : (qs f.q != 0) = true := by simpa using fun e => hq0 (qs_zero.1 e)
                  have HSK : Hid (stuckN s D (k + 1) = false) := Lib.hid (by unfold stuckN; rw [if_pos (.inr ⟨by rw [HZ.out]; exact hz0, by rw [HQ.out]; exact hq0⟩)])
                  clear hq0
                  go_wp2
                  go_roundw
                  case rel => exact ⟨k + 1, by omega, by go_num, by rw [HSK.out], hbe9, hX9, hS9, hD9⟩
                  case measure => simp [intOf]; omega
              · have HSK : Hid (stuckN s D (k + 1) = stuckN s D k) := Lib.hid (by rw [stuckN, if_neg (by rw [HQ.out, HZ.out]; intro h; rcases h with h | h; have := qs_pos.2 h; omega; omega)])
                go_wp2
                go_roundw
                case rel => exact ⟨k + 1, by omega, by go_num, by rw [HSK.out], hbe8, hX8, hS8, hD8⟩
                case measure => simp [intOf]; omega
          · obtain rfl : N = k := by omega
            cases hsk : stuckN s D N with
            | true =>
              have HR : Hid (statQ p s = 3) := Lib.hid (by rw [HST1.out, hsk]; rfl)
              go_wp2
              (try simp only [Exit.inBlock, Exit.then])
              refine bodyPost_ret (results_tmp3 rfl _ _ _) rfl ?_
              exact ⟨_, by rw [HR.out, HST2.out]; rfl, by rw [HST3.out]; exact hD, hbe⟩
            | false =>
              have HR : Hid (statQ p s = 0) := Lib.hid (by rw [HST1.out, hsk]; rfl)
              go_wp2
              (try simp only [Exit.inBlock, Exit.then])
              refine bodyPost_ret (results_tmp3 rfl _ _ _) rfl ?_
              exact ⟨_, by rw [HR.out, HST2.out]; rfl, by rw [HST3.out]; exact hD, hbe⟩
      · have HG2 : Hid (∀ i : Nat, i < j + 1 → ¬ redQ p s (i : Int) < 0) := Lib.hid fun i hi => by
          rcases Nat.lt_or_ge i j with h | h
          · exact HG.out i h
          · obtain rfl : i = j := by omega
            rw [HQ.out]; intro h9; have := qs_neg.2 h9; omega
        go_wp2
        go_roundw
        case rel => exact ⟨j + 1, by omega, by go_num, hbe4, hX4, hS4, hR4, HG2.out⟩
        case measure => simp [intOf]; omega
    · obtain rfl : n' = j := by omega
      obtain ⟨hst1, hst2, hst3⟩ := stat_none (p := p) (s := s) (firstNeg_none fun i _ hi => HG.out i (by rw [HN1.out]; omega))
      obtain ⟨y0, y1, y2⟩ := hS.three
      by_cases hp : s.phase = 1
      · have hp' : (s.phase == 1) = true := by simpa using hp
        have HR : Hid (statQ p s = 2) := Lib.hid (by rw [hst1, if_pos hp])
        have HST2 := Lib.hid hst2
        have HST3 := Lib.hid hst3
        clear hst1 hst2 hst3 hp
        go_wp2
        (try simp only [Exit.inBlock, Exit.then])
        refine bodyPost_ret (results_tmp3 rfl _ _ _) rfl ?_
        exact ⟨_, by rw [HR.out, HST2.out]; rfl, by rw [HST3.out]; exact FrsO.nil _ _, hbe⟩
      · have hp' : (s.phase == 1) = false := by simpa using hp
        have HR : Hid (statQ p s = 1) := Lib.hid (by rw [hst1, if_neg hp])
        have HST2 := Lib.hid hst2
        have HST3 := Lib.hid hst3
        clear hst1 hst2 hst3 hp
        go_wp2
        (try simp only [Exit.inBlock, Exit.then])
        refine bodyPost_ret (results_tmp3 rfl _ _ _) rfl ?_
        exact ⟨_, by rw [HR.out, HST2.out]; rfl, by rw [HST3.out]; exact FrsO.nil _ _, hbe⟩
end Go.Proofs.YtpanffbgihhjnaaGreat

/- Walks: package pairingref25: primal. -/
namespace Go.Proofs.YtpanffbgihhjnaaGreat
open Go.RowKit Pl
attribute [local go_sem ↓] Go.wp_at_zero Go.wp_at_succ

namespace Pl
def primN (s : LSt) (Z : List RF) : Nat → Nat → Rat
  | 0 => fun _ => 0
  | k + 1 => fun j => if s.at_ k = (j : Int) then qAt Z k else primN s Z k j
theorem primN_succ (s : LSt) (Z : List RF) (k j : Nat) : primN s Z (k + 1) j = if s.at_ k = (j : Int) then qAt Z k else primN s Z k j := rfl
def primL (p : LPd) (s : LSt) : List RF := canL p.cols.length (primN s (zL p s) (zL p s).length)
theorem solF_can {m : Nat} {cols : Mx} {b : Nat → Rat} {k : Nat} {f : RF} (h : (solF m cols b)[k]? = some f) : f = canF (qAt (solF m cols b) k) := by
  cases e : solveQ m cols b with
  | none => rw [solF_none e] at h; simp at h
  | some x =>
    rw [solF_some e] at h ⊢
    have hk : k < m := by have := (List.getElem?_eq_some_iff.1 h).1; rwa [canL_length] at this
    rw [canL_get hk] at h
    injection h with h
    rw [canL_qAt hk, ← h]
theorem primN_B {s : LSt} {Z : List RF} {K : Nat} (h : RsL K Z) (hK : 1 ≤ K) : ∀ (k j : Nat), Sz K (primN s Z k j)
  | 0, j => Sz_zero.mono hK
  | k + 1, j => by
    unfold primN
    split
    · exact h.qAt hK k
    · exact primN_B h hK k j
theorem primL_B {p : LPd} {K : Nat} (F : p.Fit K) (s : LSt) : RsL (5 ^ p.right.length * K) (primL p s) := canL_rs fun i _ => primN_B (zL_B F s) (Nat.le_trans F.k1 F.le) _ i
end Pl

set_option maxRecDepth 100000 in
set_option maxHeartbeats 8000000 in
theorem rprimal_own (v1 v2 : Value) (p : LPd) (s : LSt) (K : Nat) (w : World) (h : LpM w v1 p) (h2 : StM w v2 s) (F : p.Fit K) (S : s.Fit p) :
    Calls Tryz.prog 31 #[v1, v2] w fun e w' => ∃ v', e = .returned v' ∧ FrsO w.heap.size w' v' (primL p s) ∧ Below w.heap.size w w' := by
  obtain ⟨A, n, c, A', n', c', A'', n'', c'', rfl, hc, hv, hr⟩ := id h
  obtain ⟨Ab, nb, cb, rfl, hI⟩ := id h2
  obtain ⟨W, hW, hX0, hbe0⟩ := box_lp w (.slice A n c) (.slice A' n' c') (.slice A'' n'' c'')
  obtain ⟨W1, hW1, hS0, hbe1⟩ := box_st W (.int .i64 s.phase) (.slice Ab nb cb) (.int .i64 s.pivots)
  have hX := hX0.later hbe1
  have hbe := below_then hbe0 hbe1 hbe0.size
  obtain ⟨b1, b2, b3⟩ := hI.len
  have hsz : W.heap.size = w.heap.size + 1 := by rw [← hW]; simp
  rw [hsz] at hS0
  have HLP := Lib.hid h
  have HST := Lib.hid h2
  have HI := Lib.hid hI
  have HFP := Lib.hid F
  have HFS := Lib.hid S
  have HNB := Lib.hid b1
  have HB1 : Hid (nb = p.right.length) := Lib.hid (by rw [b1]; exact S.2)
  have hnb : nb ≤ 64 := by rw [HB1.out]; exact F.2.2.1
  obtain ⟨x0, x1, x2⟩ := hX.three
  obtain ⟨y0, y1, y2⟩ := hS0.three
  obtain ⟨m1, m2, m3⟩ := hv.len
  have HN1 := Lib.hid m1
  clear h h2 hc hv hr b1 hI hX0 hbe0 hbe1 F S
  clear m1
  have hn' : n' ≤ 1200 := by rw [HN1.out]; exact HFP.out.cols
  go_enter Tryz.func31, Tryz.ntmps31
  go_wp2_with fail
  clear hW hW1
  refine (rbasic_own _ _ p s K _ (HLP.out.below hbe) (HST.out.below hbe) HFP.out HFS.out).mono ?_
  rintro _ w3 ⟨v3, rfl, e3, hb3⟩
  have hX3 := hX.later hb3
  have hT3 := hS0.later hb3
  have hbe3 := below_then hbe hb3 hbe.size
  have hZ3 := e3.frs
  obtain ⟨Az, cz, rfl, hz1, hz2⟩ := hZ3.shape
  have HZN : Hid ((zL p s).length ≤ nb) := Lib.hid (by rw [HB1.out]; exact solF_len)
  have HCAN : Hid (∀ (k : Nat) (f : RF), (zL p s)[k]? = some f → f = canF (qAt (zL p s) k)) := Lib.hid fun k f hf => solF_can hf
  generalize hZZ : zL p s = Z at *
  have HZZ := Lib.hid hZZ
  clear hZZ
  generalize hZN : Z.length = N at *
  have HZL := Lib.hid hZN
  have hNb : N ≤ nb := HZN.out
  clear hZN
  clear x0 x1 x2 y0 y1 y2
  obtain ⟨x0, x1, x2⟩ := hX3.three
  clear e3 hb3 hX hS0 hbe
  go_wp2_with fail
  refine (zeros_own n' _ (by omega)).mono ?_
  rw [canL_zero, show (canL n' fun _ => 0) = canL n' (primN s Z 0) from rfl]
  rintro _ w5 ⟨v5, rfl, e5, hb5⟩
  have hX5 := hX3.later hb5
  have hT5 := hT3.later hb5
  have hbe5 := below_then hbe3 hb5 hbe3.size
  have hw3 := hbe3.size
  have HZ3 := Lib.hid hZ3
  have HVS : Hid (∃ a d, v5 = .slice a n' d ∧ n' ≤ d ∧ d ≤ 9223372036854775807) := Lib.hid (by
    have := e5.frs.shape
    rw [canL_length] at this
    exact this)
  obtain ⟨A5, c5, rfl, hc51, hc52⟩ := HVS.out
  clear x0 x1 x2 hX3 hT3 hbe3 hZ3 HVS
  go_wp2
  go_loopw [8] (fun i wr => ∃ k : Nat, k ≤ N ∧ i = .int .i64 k ∧ Below w.heap.size w wr ∧ Below w3.heap.size w3 wr ∧ Bk wr w.heap.size 26 [.slice A n c, .slice A' n' c', .slice A'' n'' c''] ∧ Bk wr (w.heap.size + 1) 34 [.int .i64 s.phase, .slice Ab nb cb, .int .i64 s.pivots] ∧ FrsO w3.heap.size wr (.slice A5 n' c5) (canL n' (primN s Z k))) (fun i _ => N - (intOf i).toNat)
  case atStart => exact ⟨0, by omega, rfl, hbe5, hb5, hX5, hT5, e5⟩
  case round =>
    clear hbe5 hb5 hX5 hT5 e5
    obtain ⟨k, hk, rfl, hbe, hb3, hX, hS, hO⟩ := hrel
    rcases Nat.lt_or_ge k N with hkl | hkl
    · obtain ⟨f, hf⟩ := get_some (fs := Z) (i := k) (by rw [HZL.out]; exact hkl)
      obtain ⟨bb, bo, rfl, hall⟩ := (HI.out.below hbe).all (show 0 < nb by omega)
      have c1 : wr.cell? ⟨bb, bo + k, none⟩ = some (.int .i64 (s.at_ k)) := hall k (by omega)
      obtain ⟨z', hz'⟩ : ∃ z, s.basis[k]? = some z := ⟨_, List.getElem?_eq_getElem (by rw [← HNB.out]; omega)⟩
      obtain ⟨i0, i1⟩ := HFS.out.1 k z' hz'
      rw [LSt.at_eq hz'] at c1
      have HAT := Lib.hid (LSt.at_eq hz')
      obtain ⟨y0, y1, y2⟩ := hS.three
      have hkI : (k : Int) < N := by omega
      have hkI2 : (k : Int) < nb := by omega
      clear hall hz'
      rcases Int.lt_or_le z' 0 with hz0 | hz0
      · have HP : Hid (canL n' (primN s Z k) = canL n' (primN s Z (k + 1))) := Lib.hid (canL_congr fun j _ => by rw [primN_succ, HAT.out, if_neg (by omega)])
        have hO2 := hO
        rw [HP.out] at hO2
        go_wp2
        go_roundw
        case rel => exact ⟨k + 1, by omega, by go_num, hbe, hb3, hX, hS, hO2⟩
        case measure => simp [intOf]; omega
      · obtain ⟨b', off', B1, n1, k1, B2, n2, k2, rfl, hlt, ⟨q0, q1, q2, q3⟩, hmf⟩ := HZ3.out.elem hb3 hf
        obtain ⟨jn, rfl⟩ := Int.eq_ofNat_of_zero_le hz0
        have hjn : jn < n' := by have := HN1.out; omega
        have hjI : (jn : Int) < n' := by omega
        have HCF := Lib.hid (HCAN.out k f hf)
        obtain ⟨g, cg, hvg, hg1, hg2, hg3, hg4⟩ := hO.shape (by rw [canL_length]; omega)
        rw [canL_length] at hvg
        injection hvg with e1 e2 e3
        subst e1 e3
        have hOD := hO.below (below_drew' wr)
        obtain ⟨_, _, _, _, ⟨t0, t1, t2, t3⟩, ⟨f0, f1, f2, f3⟩, _⟩ := hOD.at_ (canL_get hjn)
        have hmD := hmf.below (below_drew' wr)
        have hXD := hX.drew
        have hSD := hS.drew
        have hbeD := hbe.drew
        have hb3D := hb3.drew
        clear hf
        go_upto_region 7 with (fail)
        have C0 := stab y0
        have C1 := stab y1
        have C2 := stab y2
        have D1 := stab c1
        have Q0 := stab q0
        have Q1 := stab q1
        have Q2 := stab q2
        have Q3 := stab q3
        clear y0 y1 y2 c1 q0 q1 q2 q3
        refine region_seq 11 [0, 1, 2, 3, 4, 5, 6, 7, 8, 9, 10, 11] (by kernel_rfl) (by kernel_rfl) ?_
        generalize wr.drew = wD at *
        repeat ((first | (refine seq_takeP (v := ?_) rfl rfl rfl ?_ ?_; rotate_left; (· (intro _ hSw; go_simp; (try go_bits); (try with_reducible rfl)))) | (refine seq_take (v := ?_) rfl rfl rfl ?_ ?_; rotate_left; (· (intro _ hSw; go_simp; (try go_bits); (try with_reducible rfl)))) | refine seq_skip rfl rfl rfl ?_); (try simp only [Act.put, pu1, pu2, pu3, pu4, pu5, pu6]))
        refine seq_step rfl rfl (fun KR hKR => ?_)
        go_simp
        refine hKR.out _ _ (Or.inl (by decide)) ?_
        clear hKR KR
        (try simp only [Act.put, pu1, pu2, pu3, pu4, pu5, pu6])
        refine seq_done ?_
        obtain ⟨hO3, hk3⟩ := hOD.set_ (k := jn) (by rw [canL_length]; exact hjn) hmD
        have HSET : Hid ((canL n' (primN s Z k)).set jn f = canL n' (primN s Z (k + 1))) := Lib.hid (by
          rw [HCF.out, canL_set hjn]
          exact canL_congr fun j _ => by
            rw [primN_succ, HAT.out]
            by_cases e : j = jn
            · rw [if_pos e, if_pos (by omega)]
            · rw [if_neg e, if_neg (by omega)])
        rw [HSET.out] at hO3
        have hX3 := hk3.bk hXD (by decide)
        have hS3 := hk3.bk hSD (by decide)
        have hbe4 := below_set4' hbeD (show w.heap.size ≤ g by omega) (jn * 4) (jn * 4 + 1) (jn * 4 + 2) (jn * 4 + 3)
        have hb34 := below_set4' hb3D hg1 (jn * 4) (jn * 4 + 1) (jn * 4 + 2) (jn * 4 + 3)
        go_wp2
        go_roundw
        case rel => exact ⟨k + 1, by omega, by go_num, hbe4 _ _ _ _, hb34 _ _ _ _, hX3, hS3, hO3⟩
        case measure => simp [intOf]; omega
    · obtain rfl : N = k := by omega
      go_wp2
      go_ret
      refine ⟨_, rfl, ?_, hbe⟩
      unfold primL
      rw [HZZ.out, ← HN1.out, HZL.out]
      obtain ⟨cs, ho, hf⟩ := hO
      exact ⟨cs, row_mono ho hw3, hf⟩
end Go.Proofs.YtpanffbgihhjnaaGreat

/- Memory: a number appended to a list of the call's own. Walks: package pairingref25: Start. -/
namespace Go.Proofs.YtpanffbgihhjnaaGreat
open Go.RowKit Pl
attribute [local go_sem ↓] Go.wp_at_zero Go.wp_at_succ

theorem wpList_append_int {ops : Array Oper} {rest : List Oper} {o : Oper} {a : Act} {Q : Exit → Act → World → Prop} (hgd : o.guard = none) (s x : Operand)
    (ho : o.op = .call { callee := .builtin .append, args := #[s, x], argTypes := #[22, 22] })
    (W : World) (base : Nat) (v : Value) (zs : List Int) (hs : a.eval s = v) (hown : IntsO base W v zs) (z : Int) (hz : -9223372036854775808 ≤ z ∧ z ≤ 9223372036854775807)
    (hx : a.eval x = .slice (some ⟨W.heap.size, 0, none⟩) 1 1) (hn : zs.length + 1 ≤ 1099511627776) (hbase : base ≤ W.heap.size)
    (h : ∀ v' w', IntsO base w' v' (zs ++ [z]) → KeepBut 3 W w' → Below base W w' → wpList Tryz.prog ops Q rest (a.put o.dst v') w') :
    wpList Tryz.prog ops Q (o :: rest) a (W.alloc (.cells #[.int .i64 z] 3)) := by
  obtain ⟨i0, hi, hz0, hz1, hz2⟩ := info_parts info_intT
  refine wpList_append_one hgd s x 22 ho 3 i0 _ 1 8 Tryz.underlying22 hi hz0 hz1 hz2 rfl (by decide) W base v zs.length _ [.int .i64 z] hs hown.1 hx rfl (by intro u hu; simp at hu; subst hu; rfl) (by unfold maxLen; omega) (by omega) hbase fun v' w' g1 g2 g3 => h v' w' ⟨by simpa using g1, fun y hy => ?_⟩ g2 g3
  rcases List.mem_append.1 hy with e | e
  · exact hown.2 y e
  · simp at e; subst e; exact hz
namespace Pl
def artL (k : Nat) : List Int := (List.range k).map fun r : Nat => -1 - (r : Int)
theorem artL_succ (k : Nat) : artL k ++ [-1 - (k : Int)] = artL (k + 1) := by unfold artL; rw [List.range_succ, List.map_append]; rfl
theorem artL_length (k : Nat) : (artL k).length = k := by simp [artL]
def startS (p : LPd) : LSt := ⟨1, artL p.right.length, 0⟩
theorem startS_fit (p : LPd) : (startS p).Fit p := ⟨fun i z hz => by
  have hz' : (artL p.right.length)[i]? = some z := hz
  have hi : i < p.right.length := by have := (List.getElem?_eq_some_iff.1 hz').1; rwa [artL_length] at this
  simp [artL, hi] at hz'
  omega, artL_length _⟩
end Pl

theorem IntsO.shape {base : Nat} {w : World} {v : Value} {zs : List Int} (h : IntsO base w v zs) (hp : 0 < zs.length) : ∃ g c, v = .slice (some ⟨g, 0, none⟩) zs.length c ∧ base ≤ g ∧ g < w.heap.size ∧ zs.length ≤ c ∧ c ≤ 9223372036854775807 := by
  rcases h.1.2 with ⟨rfl, h0⟩ | ⟨g, cap, cur, rfl, hb, hg, hnc, hcm, hcs, htake⟩
  · omega
  · unfold maxLen at hcm
    exact ⟨g, cap, rfl, hb, lt_heap hg, hnc, by omega⟩
theorem IntsO.cell_ {base : Nat} {w : World} {g n c : Nat} {zs : List Int} (h : IntsO base w (.slice (some ⟨g, 0, none⟩) n c) zs) {k : Nat} {z : Int} (hz : zs[k]? = some z) : w.cell? ⟨g, k, none⟩ = some (.int .i64 z) ∧ w.frozen? ⟨g, k, none⟩ = false := by
  have hn : n = zs.length := (RowM.of_own h.1).len
  subst hn
  exact row_cell h.1 (by simp [hz])
theorem IntsO.set_ {base : Nat} {w : World} {g n c : Nat} {zs : List Int} (h : IntsO base w (.slice (some ⟨g, 0, none⟩) n c) zs) {k : Nat} (hk : k < zs.length) {z : Int} (h0 : -9223372036854775808 ≤ z) (h1 : z ≤ 9223372036854775807) :
    IntsO base (w.setCell ⟨g, k, none⟩ (.int .i64 z)) (.slice (some ⟨g, 0, none⟩) n c) (zs.set k z) ∧ KeepBut 3 w (w.setCell ⟨g, k, none⟩ (.int .i64 z)) ∧ base ≤ g := by
  have hn : n = zs.length := (RowM.of_own h.1).len
  subst hn
  obtain ⟨_, b0, hb⟩ := row_block h.1
  refine ⟨⟨by rw [List.length_set, List.map_set]; exact row_set h.1 k _ (by simpa using hk), fun y hy => ?_⟩, KeepBut.setCell b0 k _, hb⟩
  rcases List.mem_or_eq_of_mem_set hy with e | e
  · exact h.2 y e
  · subst e; exact ⟨h0, h1⟩
theorem st_store {w w0 : World} {B g : Nat} {x y z : Value} (hB : Bk w g 34 [x, y, z]) (hb : Below B w0 w) (hg : B ≤ g) (x' y' z' : Value) :
    Bk (((w.setCell ⟨g, 0, none⟩ x').setCell ⟨g, 1, none⟩ y').setCell ⟨g, 2, none⟩ z') g 34 [x', y', z'] ∧ KeepBut 34 w (((w.setCell ⟨g, 0, none⟩ x').setCell ⟨g, 1, none⟩ y').setCell ⟨g, 2, none⟩ z') ∧ Below B w0 (((w.setCell ⟨g, 0, none⟩ x').setCell ⟨g, 1, none⟩ y').setCell ⟨g, 2, none⟩ z') ∧
    ∀ (g' : Nat) (t : TypeId) (cs : List Value), g' ≠ g → Bk w g' t cs → Bk (((w.setCell ⟨g, 0, none⟩ x').setCell ⟨g, 1, none⟩ y').setCell ⟨g, 2, none⟩ z') g' t cs := by
  refine ⟨((hB.set_ 0 x').set_ 1 y').set_ 2 z', ((KeepBut.setCell hB 0 x').trans (KeepBut.setCell (hB.set_ 0 x') 1 y')).trans (KeepBut.setCell ((hB.set_ 0 x').set_ 1 y') 2 z'), ((hb.setCell (p := ⟨g, 0, none⟩) hg _).setCell (p := ⟨g, 1, none⟩) hg _).setCell (p := ⟨g, 2, none⟩) hg _, fun g' t cs hne h => ?_⟩
  unfold Bk at h ⊢
  rw [heap_setCell_other _ _ _ _ hne, heap_setCell_other _ _ _ _ hne, heap_setCell_other _ _ _ _ hne]
  exact h
theorem Bk.set_other {w : World} {g g' : Nat} {t : TypeId} {cs : List Value} (h : Bk w g' t cs) (hne : g' ≠ g) (i : Nat) (u : Value) : Bk (w.setCell ⟨g, i, none⟩ u) g' t cs := by
  unfold Bk at h ⊢
  rw [heap_setCell_other _ _ _ _ hne]
  exact h
theorem Bk.lt_ {w : World} {g : Nat} {t : TypeId} {cs : List Value} (h : Bk w g t cs) : g < w.heap.size := lt_heap h
def StartAt (m : Nat) (w : World) (g : Nat) (cs : List Value) (i : Value) (wr : World) : Prop :=
  ∃ (k : Nat) (A : Option Addr) (l c : Nat), k ≤ m ∧ i = .int .i64 k ∧ Below w.heap.size w wr ∧ Bk wr w.heap.size 26 cs ∧ Bk wr (w.heap.size + 1) 34 [.int .i64 0, .slice none 0 0, .int .i64 0] ∧ Bk wr g 34 [.int .i64 1, .slice A l c, .int .i64 0] ∧ IntsO w.heap.size wr (.slice A l c) (artL k)

set_option maxRecDepth 100000 in
set_option maxHeartbeats 4000000 in
theorem rstart_own (v1 : Value) (p : LPd) (K : Nat) (w : World) (h : LpM w v1 p) (F : p.Fit K) (hz : lpErr p = 0) :
    Calls Tryz.prog 35 #[v1] w fun e w' => ∃ v', e = .returned (.tuple #[v', .int .i64 0]) ∧ StO w.heap.size w' v' (settleQ p (startS p)) ∧ Below w.heap.size w w' := by
  obtain ⟨A, n, c, A', n', c', A'', m, c'', rfl, hc, hv, hr⟩ := id h
  obtain ⟨W, hW, hX0, hbe0⟩ := box_lp w (.slice A n c) (.slice A' n' c') (.slice A'' m c'')
  obtain ⟨W1, hW1, hR0, hbe1⟩ := box_st W (.int .i64 0) (.slice none 0 0) (.int .i64 0)
  have hX := hX0.later hbe1
  have hbe := below_then hbe0 hbe1 hbe0.size
  have hsz : W.heap.size = w.heap.size + 1 := by rw [← hW]; simp
  rw [hsz] at hR0
  obtain ⟨r1, r2, r3⟩ := hr.len
  have HLP := Lib.hid h
  have HFP := Lib.hid F
  have HZ := Lib.hid hz
  have HM := Lib.hid r1
  have hm : m ≤ 64 := by rw [r1]; exact F.rows
  obtain ⟨x0, x1, x2⟩ := hX.three
  clear h hc hv hr r1 hX0 hbe0 hbe1 F hz
  go_enter Tryz.func35, Tryz.ntmps35
  go_wp2_with fail
  clear hW hW1
  refine (rvalidate_any _ p K _ (HLP.out.below hbe) HFP.out.ok HFP.out.kb).mono ?_
  rw [HZ.out]
  rintro _ w3 ⟨rfl, hb3⟩
  have hX3 := hX.later hb3
  have hR3 := hR0.later hb3
  have hbe3 := below_then hbe hb3 hbe.size
  obtain ⟨W4, hW4, hS4, hb4⟩ := box_st w3 (.int .i64 0) (.slice none 0 0) (.int .i64 0)
  have hX4 := hX3.later hb4
  have hR4 := hR3.later hb4
  have hbe4 := below_then hbe3 hb4 hbe3.size
  obtain ⟨y0, y1, y2⟩ := hS4.three
  obtain ⟨f0, f1, f2⟩ := hS4.threeF
  have hg1 : w.heap.size + 1 < w3.heap.size := hR3.lt_
  clear x0 x1 x2 hX hR0 hbe hb3 hX3 hR3 hb4
  go_wp2
  obtain ⟨k1, k2, k3, k4⟩ := st_store (B := w.heap.size) (w0 := w) hS4 hbe4 hbe3.size (.int .i64 1) (.slice none 0 0) (.int .i64 0)
  have hX5 := k4 _ _ _ (by omega) hX4
  have hR5 := k4 _ _ _ (by omega) hR4
  clear hX4 hR4 hbe4 hS4 hW4 y0 y1 y2 f0 f1 f2 k2 k4 hbe3
  generalize w3.heap.size = g at *
  generalize ((W4.setCell ⟨g, 0, none⟩ (.int .i64 1)).setCell ⟨g, 1, none⟩ (.slice none 0 0)).setCell ⟨g, 2, none⟩ (.int .i64 0) = W5 at *
  go_loopw [6] (fun i wr => StartAt m w g [.slice A n c, .slice A' n' c', .slice A'' m c''] i wr) (fun i _ => m - (intOf i).toNat)
  case atStart => exact ⟨0, none, 0, 0, by omega, rfl, k3, hX5, hR5, k1, IntsO.nil _ _⟩
  case round =>
    clear k1 k3 hX5 hR5
    obtain ⟨k, A3, l, c3, hk, rfl, hbe, hX, hR, hS, hI⟩ := hrel
    obtain ⟨x0, x1, x2⟩ := hX.three
    obtain ⟨y0, y1, y2⟩ := hS.three
    obtain ⟨f0, f1, f2⟩ := hS.threeF
    rcases Nat.lt_or_ge k m with hkl | hkl
    · have hkI : (k : Int) < m := by omega
      have hzr : -9223372036854775808 ≤ (-1 - (k : Int)) ∧ (-1 - (k : Int)) ≤ 9223372036854775807 := by omega
      have hlen : (artL k).length + 1 ≤ 1099511627776 := by rw [artL_length]; omega
      have hbs := hbe.size
      go_wp2_with (at_builtin; refine wpList_append_int rfl (.tmp 22) (.tmp 25) rfl wr w.heap.size (.slice A3 l c3) (artL k) rfl hI (-1 - (k : Int)) hzr rfl hlen hbs ?_)
      intro v' w7 hO7 hk7 hb7
      rw [artL_succ] at hO7
      obtain ⟨Av, nv, cv, rfl⟩ := hO7.sliceN
      have hX7 := hk7.bk hX (by decide)
      have hR7 := hk7.bk hR (by decide)
      have hS7 := hk7.bk hS (by decide)
      have hbe7 := hbe.trans hb7
      have hO8 := hO7.but (KeepBut.setCell hS7 1 (.slice Av nv cv)) (by decide)
      have hX8 := hX7.set_other (g := g) (by omega) 1 (.slice Av nv cv)
      have hR8 := hR7.set_other (g := g) (by omega) 1 (.slice Av nv cv)
      have hS8 := hS7.set_ 1 (.slice Av nv cv)
      have hbe8 := hbe7.setCell (p := ⟨g, 1, none⟩) (by simp; omega) (.slice Av nv cv)
      clear x0 x1 x2 y0 y1 y2 f0 f1 f2 hX hR hS hI hbe hk7 hb7
      obtain ⟨y0, y1, y2⟩ := hS7.three
      obtain ⟨f0, f1, f2⟩ := hS7.threeF
      go_wp2
      go_roundw
      case rel => exact ⟨k + 1, Av, nv, cv, by omega, by go_num, hbe8, hX8, hR8, hS8, hO8⟩
      case measure => simp [intOf]; omega
    · obtain rfl : m = k := by omega
      have HMS : Hid (StM wr (.agg #[.int .i64 1, .slice A3 l c3, .int .i64 0]) (startS p)) := Lib.hid ⟨A3, l, c3, rfl, by show IntsM wr _ (artL p.right.length); rw [← HM.out]; exact hI.ints⟩
      go_wp2_with fail
      refine (rsettle_own _ _ p (startS p) K _ (HLP.out.below hbe) HMS.out HFP.out (startS_fit p)).mono ?_
      obtain ⟨t, ht⟩ : ∃ t, settleQ p (startS p) = t := ⟨_, rfl⟩
      rw [ht]
      rintro _ w8 ⟨v8, rfl, ⟨A8, l8, c8, rfl, hI8⟩, hb8⟩
      have hR8 := hR.later hb8
      have hbe8 := below_then hbe hb8 hbe.size
      have hws := hbe.size
      clear x0 x1 x2 y0 y1 y2 f0 f1 f2 hX hR hS hI hbe hb8
      obtain ⟨r0, r1, r2⟩ := hR8.three
      obtain ⟨f0, f1, f2⟩ := hR8.threeF
      obtain ⟨k1, k2, k3, k4⟩ := st_store (B := w.heap.size) (w0 := w) hR8 hbe8 (by omega) (.int .i64 t.phase) (.slice A8 l8 c8) (.int .i64 t.pivots)
      go_wp2
      refine ret_ct Tryz.results35 Tryz.underlying34 (by kernel_rfl) rfl k1 rfl ?_
      exact ⟨_, rfl, by rw [ht]; exact ⟨A8, l8, c8, rfl, (hI8.monoB hws).but k2 (by decide)⟩, k3⟩
end Go.Proofs.YtpanffbgihhjnaaGreat

/- Walks: package pairingref25: leaving. -/
namespace Go.Proofs.YtpanffbgihhjnaaGreat
open Go.RowKit Pl
attribute [local go_sem ↓] Go.wp_at_zero Go.wp_at_succ

namespace Pl
def ratQ (Z D : List RF) (i : Nat) : Rat := qAt Z i / qAt D i
def better (p : LPd) (s : LSt) (Z D : List RF) (i b : Nat) : Prop := ratQ Z D i < ratQ Z D b ∨ (ratQ Z D i = ratQ Z D b ∧ ordQ p (s.at_ i) < ordQ p (s.at_ b))
instance (p : LPd) (s : LSt) (Z D : List RF) (i b : Nat) : Decidable (better p s Z D i b) := by unfold better; infer_instance
def bestN (p : LPd) (s : LSt) (Z D : List RF) : Nat → Option Nat
  | 0 => none
  | k + 1 => if 0 < qAt D k then (match bestN p s Z D k with | none => some k | some b => if better p s Z D k b then some k else some b) else bestN p s Z D k
theorem bestN_skip {p : LPd} {s : LSt} {Z D : List RF} {k : Nat} (h : ¬ 0 < qAt D k) : bestN p s Z D (k + 1) = bestN p s Z D k := by rw [bestN, if_neg h]
theorem bestN_first {p : LPd} {s : LSt} {Z D : List RF} {k : Nat} (hb : bestN p s Z D k = none) (h : 0 < qAt D k) : bestN p s Z D (k + 1) = some k := by rw [bestN, if_pos h, hb]
theorem bestN_better {p : LPd} {s : LSt} {Z D : List RF} {k t : Nat} (hb : bestN p s Z D k = some t) (h : 0 < qAt D k) (g : better p s Z D k t) : bestN p s Z D (k + 1) = some k := by rw [bestN, if_pos h, hb]; simp only; rw [if_pos g]
theorem bestN_worse {p : LPd} {s : LSt} {Z D : List RF} {k t : Nat} (hb : bestN p s Z D k = some t) (h : 0 < qAt D k) (g : ¬ better p s Z D k t) : bestN p s Z D (k + 1) = some t := by rw [bestN, if_pos h, hb]; simp only; rw [if_neg g]
theorem bestN_lt {p : LPd} {s : LSt} {Z D : List RF} : ∀ {k t : Nat}, bestN p s Z D k = some t → t < k ∧ 0 < qAt D t
  | 0, t, h => by cases h
  | k + 1, t, h => by
    by_cases h0 : 0 < qAt D k
    · cases hb : bestN p s Z D k with
      | none => rw [bestN_first hb h0] at h; injection h with h; subst h; exact ⟨by omega, h0⟩
      | some b =>
        obtain ⟨h1, h2⟩ := bestN_lt hb
        by_cases g : better p s Z D k b
        · rw [bestN_better hb h0 g] at h; injection h with h; subst h; exact ⟨by omega, h0⟩
        · rw [bestN_worse hb h0 g] at h; injection h with h; subst h; exact ⟨by omega, h2⟩
    · rw [bestN_skip h0] at h
      obtain ⟨h1, h2⟩ := bestN_lt h
      exact ⟨by omega, h2⟩
def oi : Option Nat → Int
  | none => -1
  | some b => (b : Int)
def artF (s : LSt) (D : List RF) (i : Nat) : Rat := if s.at_ i < 0 ∧ qAt D i ≠ 0 then -1 else 0
theorem artF_yes {s : LSt} {D : List RF} {i : Nat} (h1 : s.at_ i < 0) (h2 : qAt D i ≠ 0) : artF s D i < 0 := by unfold artF; rw [if_pos ⟨h1, h2⟩]; decide
theorem artF_no {s : LSt} {D : List RF} {i : Nat} (h : ¬ (s.at_ i < 0 ∧ qAt D i ≠ 0)) : ¬ artF s D i < 0 := by unfold artF; rw [if_neg h]; decide
def leavQ (p : LPd) (s : LSt) (Z D : List RF) : Option Nat := if s.phase = 2 then (match firstNeg (artF s D) 0 D.length with | some i => some i | none => bestN p s Z D D.length) else bestN p s Z D D.length
theorem leavQ_1 {p : LPd} {s : LSt} {Z D : List RF} (h : ¬ s.phase = 2) : leavQ p s Z D = bestN p s Z D D.length := by unfold leavQ; rw [if_neg h]
theorem leavQ_2 {p : LPd} {s : LSt} {Z D : List RF} (h : s.phase = 2) {i : Nat} (hf : firstNeg (artF s D) 0 D.length = some i) : leavQ p s Z D = some i := by unfold leavQ; rw [if_pos h, hf]
theorem leavQ_3 {p : LPd} {s : LSt} {Z D : List RF} (h : s.phase = 2) (hf : firstNeg (artF s D) 0 D.length = none) : leavQ p s Z D = bestN p s Z D D.length := by unfold leavQ; rw [if_pos h, hf]
theorem leavQ_lt {p : LPd} {s : LSt} {Z D : List RF} {i : Nat} (h : leavQ p s Z D = some i) : i < D.length := by
  by_cases hp : s.phase = 2
  · cases hf : firstNeg (artF s D) 0 D.length with
    | some j => rw [leavQ_2 hp hf] at h; injection h with h; subst h; have := firstNeg_is hf; omega
    | none => rw [leavQ_3 hp hf] at h; exact (bestN_lt h).1
  · rw [leavQ_1 hp] at h; exact (bestN_lt h).1
def BestAt (p : LPd) (s : LSt) (Z D : List RF) (k : Nat) (z : Int) : Prop := (z = -1 ∧ bestN p s Z D k = none) ∨ ∃ t : Nat, z = (t : Int) ∧ t < k ∧ bestN p s Z D k = some t
theorem BestAt.oi {p : LPd} {s : LSt} {Z D : List RF} {k : Nat} {z : Int} (h : BestAt p s Z D k z) : oi (bestN p s Z D k) = z := by
  rcases h with ⟨rfl, h⟩ | ⟨t, rfl, _, h⟩ <;> rw [h] <;> rfl
theorem at_range {p : LPd} {s : LSt} {K : Nat} (S : s.Fit p) (F : p.Fit K) (i : Nat) : -1000000 ≤ s.at_ i ∧ s.at_ i ≤ 1000000 := by
  have h1 := F.rows
  have h2 := F.cols
  rcases Nat.lt_or_ge i s.basis.length with h | h
  · have h3 := S.in_ i _ (List.getElem?_eq_getElem h)
    rw [LSt.at_eq (List.getElem?_eq_getElem h)]
    omega
  · have : s.at_ i = 0 := by unfold LSt.at_; simp [List.getD, List.getElem?_eq_none h]
    omega
end Pl
theorem FrsM.elem2 {w wr : World} {A : Option Addr} {n c : Nat} {fs : List RF} (h : FrsM w (.slice A n c) fs) (hb : Below w.heap.size w wr) {k l : Nat} {f g : RF} (hf : fs[k]? = some f) (hg : fs[l]? = some g) :
    ∃ b off A1 n1 c1 A2 n2 c2 A3 n3 c3 A4 n4 c4, A = some ⟨b, off, none⟩ ∧ (wr.cell? ⟨b, off + k * 4, none⟩ = some (.bool f.num.neg) ∧ wr.cell? ⟨b, off + k * 4 + 1, none⟩ = some (.slice A1 n1 c1) ∧ wr.cell? ⟨b, off + k * 4 + 2, none⟩ = some (.bool f.den.neg) ∧ wr.cell? ⟨b, off + k * 4 + 3, none⟩ = some (.slice A2 n2 c2)) ∧
      FracM wr (.agg #[.bool f.num.neg, .slice A1 n1 c1, .bool f.den.neg, .slice A2 n2 c2]) f ∧ (wr.cell? ⟨b, off + l * 4, none⟩ = some (.bool g.num.neg) ∧ wr.cell? ⟨b, off + l * 4 + 1, none⟩ = some (.slice A3 n3 c3) ∧ wr.cell? ⟨b, off + l * 4 + 2, none⟩ = some (.bool g.den.neg) ∧ wr.cell? ⟨b, off + l * 4 + 3, none⟩ = some (.slice A4 n4 c4)) ∧
      FracM wr (.agg #[.bool g.num.neg, .slice A3 n3 c3, .bool g.den.neg, .slice A4 n4 c4]) g := by
  obtain ⟨b, off, A1, n1, c1, A2, n2, c2, hA, _, q, hm⟩ := h.elem hb hf
  obtain ⟨b', off', A3, n3, c3, A4, n4, c4, hA', _, q', hm'⟩ := h.elem hb hg
  rw [hA] at hA'
  injection hA' with e
  injection e with e1 e2 e3
  subst e1 e2
  exact ⟨b, off, A1, n1, c1, A2, n2, c2, A3, n3, c3, A4, n4, c4, hA, q, hm, q', hm'⟩
theorem cell_below {w w' : World} {b i : Nat} {v : Value} (h : w.cell? ⟨b, i, none⟩ = some v) (hb : Below w.heap.size w w') : w'.cell? ⟨b, i, none⟩ = some v := cell_keep hb h

set_option maxRecDepth 100000 in
set_option maxHeartbeats 4000000 in
theorem rleaving_0 (v1 v2 v3 v4 : Value) (p : LPd) (s : LSt) (Z D : List RF) (K : Nat) (w : World) (h : LpM w v1 p) (h2 : StM w v2 s) (h3 : FrsM w v3 Z) (h4 : FrsM w v4 D) (F : p.Fit K) (S : s.Fit p) (hzl : D.length ≤ Z.length) (hdl : D.length ≤ p.right.length) (hkz : RsL (5 ^ p.right.length * K) Z) (hkd : RsL (5 ^ p.right.length * K) D) (hN0 : D = []) :
    Calls Tryz.prog 67 #[v1, v2, v3, v4] w fun e w' => e = .returned (.int .i64 (oi (leavQ p s Z D))) ∧ Below w.heap.size w w' := by
  obtain ⟨A, n, c, A', n', c', A'', n'', c'', rfl, hc, hv, hr⟩ := id h
  obtain ⟨Ab, nb, cb, rfl, hI⟩ := id h2
  obtain ⟨W, hW, hX0, hbe0⟩ := box_lp w (.slice A n c) (.slice A' n' c') (.slice A'' n'' c'')
  obtain ⟨W1, hW1, hS0, hbe1⟩ := box_st W (.int .i64 s.phase) (.slice Ab nb cb) (.int .i64 s.pivots)
  have hX := hX0.later hbe1
  have hbe := below_then hbe0 hbe1 hbe0.size
  obtain ⟨b1, b2, b3⟩ := hI.len
  have hsz : W.heap.size = w.heap.size + 1 := by rw [← hW]; simp
  rw [hsz] at hS0
  have HLP := Lib.hid h
  have HST := Lib.hid h2
  have HI := Lib.hid hI
  have HFP := Lib.hid F
  have HFS := Lib.hid S
  have HNB := Lib.hid b1
  have HB1 : Hid (nb = p.right.length) := Lib.hid (by rw [b1]; exact S.2)
  have hnb : nb ≤ 64 := by rw [HB1.out]; exact F.2.2.1
  obtain ⟨x0, x1, x2⟩ := hX.three
  obtain ⟨y0, y1, y2⟩ := hS0.three
  clear h h2 hc hv hr b1 hI hX0 hbe0 hbe1 F S
  obtain ⟨Az, cz, rfl, hz1, hz2⟩ := h3.shape
  obtain ⟨Ad, cd, rfl, hd1, hd2⟩ := h4.shape
  have H3 := Lib.hid h3
  have H4 := Lib.hid h4
  have HKZ := Lib.hid hkz
  have HKD := Lib.hid hkd
  have HKB : Hid (5 ^ p.right.length * K ≤ 34359738368) := Lib.hid (by have := HFP.out.ks; omega)
  have HK1 : Hid (1 ≤ 5 ^ p.right.length * K) := Lib.hid (Nat.le_trans HFP.out.k1 HFP.out.le)
  have HK2 : Hid (5 ^ p.right.length * K + 5 ^ p.right.length * K ≤ 8589934592) := Lib.hid (by have := HFP.out.2.2.2.2.2.2; omega)
  have HZL : Hid (D.length ≤ Z.length) := Lib.hid hzl
  have hdl : D.length ≤ nb := by rw [HB1.out]; exact hdl
  generalize hLZ : Z.length = LZ at *
  have HLZ := Lib.hid hLZ
  generalize hN : D.length = N at *
  have HDL := Lib.hid hN
  clear h3 h4 hkz hkd hLZ hN
  have HD0 := Lib.hid hN0
  have hN : N = 0 := by rw [← HDL.out, hN0]; rfl
  have HR : Hid (oi (leavQ p s Z D) = -1) := Lib.hid (by rw [HD0.out]; unfold leavQ; split <;> rfl)
  subst hN
  clear hN0 hdl
  go_enter Tryz.func67, Tryz.ntmps67
  go_wp2
  clear hW hW1
  go_loopw [9] (fun i wr => i = .int .i64 0 ∧ Below w.heap.size w wr) (fun _ _ => 0)
  case atStart => exact ⟨rfl, hbe⟩
  case round =>
    clear hbe x0 x1 x2 y0 y1 y2 hX hS0
    obtain ⟨rfl, hbe⟩ := hrel
    go_wp2
    go_loopw [10, 11] (fun b i wr => b = .int .i64 (-1) ∧ i = .int .i64 0 ∧ Below w.heap.size w wr) (fun _ _ _ => 0)
    case atStart => exact ⟨rfl, rfl, hbe⟩
    case round =>
      clear hbe
      obtain ⟨rfl, rfl, hbe⟩ := hrel
      go_wp2
      go_ret
      exact ⟨ret_int' HR.out, hbe⟩

set_option maxRecDepth 100000 in
set_option maxHeartbeats 16000000 in
theorem rleaving_1 (v1 v2 v3 v4 : Value) (p : LPd) (s : LSt) (Z D : List RF) (K : Nat) (w : World) (h : LpM w v1 p) (h2 : StM w v2 s) (h3 : FrsM w v3 Z) (h4 : FrsM w v4 D) (F : p.Fit K) (S : s.Fit p) (hzl : D.length ≤ Z.length) (hdl : D.length ≤ p.right.length) (hkz : RsL (5 ^ p.right.length * K) Z) (hkd : RsL (5 ^ p.right.length * K) D) (hN0 : 0 < D.length) (hph : ¬ s.phase = 2) :
    Calls Tryz.prog 67 #[v1, v2, v3, v4] w fun e w' => e = .returned (.int .i64 (oi (leavQ p s Z D))) ∧ Below w.heap.size w w' := by
  obtain ⟨A, n, c, A', n', c', A'', n'', c'', rfl, hc, hv, hr⟩ := id h
  obtain ⟨Ab, nb, cb, rfl, hI⟩ := id h2
  obtain ⟨W, hW, hX0, hbe0⟩ := box_lp w (.slice A n c) (.slice A' n' c') (.slice A'' n'' c'')
  obtain ⟨W1, hW1, hS0, hbe1⟩ := box_st W (.int .i64 s.phase) (.slice Ab nb cb) (.int .i64 s.pivots)
  have hX := hX0.later hbe1
  have hbe := below_then hbe0 hbe1 hbe0.size
  obtain ⟨b1, b2, b3⟩ := hI.len
  have hsz : W.heap.size = w.heap.size + 1 := by rw [← hW]; simp
  rw [hsz] at hS0
  have HLP := Lib.hid h
  have HST := Lib.hid h2
  have HI := Lib.hid hI
  have HFP := Lib.hid F
  have HFS := Lib.hid S
  have HNB := Lib.hid b1
  have HB1 : Hid (nb = p.right.length) := Lib.hid (by rw [b1]; exact S.2)
  have hnb : nb ≤ 64 := by rw [HB1.out]; exact F.2.2.1
  obtain ⟨x0, x1, x2⟩ := hX.three
  obtain ⟨y0, y1, y2⟩ := hS0.three
  clear h h2 hc hv hr b1 hI hX0 hbe0 hbe1 F S
  obtain ⟨Az, cz, rfl, hz1, hz2⟩ := h3.shape
  obtain ⟨Ad, cd, rfl, hd1, hd2⟩ := h4.shape
  have H3 := Lib.hid h3
  have H4 := Lib.hid h4
  have HKZ := Lib.hid hkz
  have HKD := Lib.hid hkd
  have HKB : Hid (5 ^ p.right.length * K ≤ 34359738368) := Lib.hid (by have := HFP.out.ks; omega)
  have HK1 : Hid (1 ≤ 5 ^ p.right.length * K) := Lib.hid (Nat.le_trans HFP.out.k1 HFP.out.le)
  have HK2 : Hid (5 ^ p.right.length * K + 5 ^ p.right.length * K ≤ 8589934592) := Lib.hid (by have := HFP.out.2.2.2.2.2.2; omega)
  have HZL : Hid (D.length ≤ Z.length) := Lib.hid hzl
  have hdl : D.length ≤ nb := by rw [HB1.out]; exact hdl
  generalize hLZ : Z.length = LZ at *
  have HLZ := Lib.hid hLZ
  generalize hN : D.length = N at *
  have HDL := Lib.hid hN
  clear h3 h4 hkz hkd hLZ hN
  have HLV := Lib.hid (leavQ_1 (p := p) (Z := Z) (D := D) hph)
  have hph' : (s.phase == 2) = false := by simpa using hph
  have hN1 : 0 < (N : Int) := by omega
  clear hph
  go_enter Tryz.func67, Tryz.ntmps67
  go_wp2
  clear hW hW1
  go_loopw [9] (fun i wr => i = .int .i64 0 ∧ Below w.heap.size w wr ∧ Bk wr w.heap.size 26 [.slice A n c, .slice A' n' c', .slice A'' n'' c''] ∧ Bk wr (w.heap.size + 1) 34 [.int .i64 s.phase, .slice Ab nb cb, .int .i64 s.pivots]) (fun _ _ => 0)
  case atStart => exact ⟨rfl, hbe, hX, hS0⟩
  case round =>
    clear hbe hX hS0 x0 x1 x2 y0 y1 y2
    obtain ⟨rfl, hbe, hX, hS⟩ := hrel
    obtain ⟨y0, y1, y2⟩ := hS.three
    have HKEEP := y0
    clear HKEEP
    go_wp2
    go_loopw [10, 11] (fun b i wr => ∃ (k : Nat) (z : Int), k ≤ N ∧ b = .int .i64 z ∧ i = .int .i64 k ∧ Below w.heap.size w wr ∧ Bk wr w.heap.size 26 [.slice A n c, .slice A' n' c', .slice A'' n'' c''] ∧ Bk wr (w.heap.size + 1) 34 [.int .i64 s.phase, .slice Ab nb cb, .int .i64 s.pivots] ∧ BestAt p s Z D k z) (fun _ i _ => N - (intOf i).toNat)
    case atStart => exact ⟨0, -1, by omega, rfl, rfl, hbe, hX, hS, Or.inl ⟨rfl, rfl⟩⟩
    case round =>
      clear hbe hX hS
      obtain ⟨k, z, hk, rfl, rfl, hbe, hX, hS, hB⟩ := hrel
      rcases Nat.lt_or_ge k N with hkl | hkl
      · obtain ⟨f, hf⟩ := get_some (fs := D) (i := k) (by rw [HDL.out]; exact hkl)
        have hkI : (k : Int) < N := by omega
        have HQ := Lib.hid (qAt_some hf)
        have hsf : f.Sh := (HKD.out k f hf).sh HKB.out
        rcases hB with ⟨rfl, hB⟩ | ⟨t, rfl, htk, hB⟩
        · obtain ⟨b', off', B1, n1, k1, B2, n2, k2, rfl, hlt, ⟨q0, q1, q2, q3⟩, hmf⟩ := H4.out.elem hbe hf
          have HB := Lib.hid hB
          clear hB hf
          go_wp2_with fail
          refine (rsignF_any _ f _ hmf hsf).mono ?_
          rintro _ w5 ⟨rfl, hb5⟩
          have hX5 := hX.later hb5
          have hS5 := hS.later hb5
          have hbe5 := below_then hbe hb5 hbe.size
          clear q0 q1 q2 q3 hX hS hbe hb5 hmf
          rcases Int.lt_or_le 0 (qs f.q) with hq | hq
          · have HN := Lib.hid (bestN_first HB.out (by rw [HQ.out]; exact qs_pos.1 hq))
            go_wp2
            go_roundw
            case rel => exact ⟨k + 1, (k : Int), by omega, rfl, by go_num, hbe5, hX5, hS5, Or.inr ⟨k, rfl, by omega, HN.out⟩⟩
            case measure => simp [intOf]; omega
          · have HN := Lib.hid (bestN_skip (p := p) (s := s) (Z := Z) (D := D) (k := k) (by rw [HQ.out]; intro e; have := qs_pos.2 e; omega))
            go_wp2
            go_roundw
            case rel => exact ⟨k + 1, -1, by omega, rfl, by go_num, hbe5, hX5, hS5, Or.inl ⟨rfl, HN.out.trans HB.out⟩⟩
            case measure => simp [intOf]; omega
        · obtain ⟨g, hg⟩ := get_some (fs := D) (i := t) (by rw [HDL.out]; omega)
          obtain ⟨fz, hfz⟩ := get_some (fs := Z) (i := k) (by rw [HLZ.out]; omega)
          obtain ⟨gz, hgz⟩ := get_some (fs := Z) (i := t) (by rw [HLZ.out]; omega)
          have hsg : g.Sh := (HKD.out t g hg).sh HKB.out
          have hsz : fz.Sh := (HKZ.out k fz hfz).sh HKB.out
          have hsy : gz.Sh := (HKZ.out t gz hgz).sh HKB.out
          have HRK : Hid (fz.q / f.q = ratQ Z D k) := Lib.hid (by unfold ratQ; rw [qAt_some hf, qAt_some hfz])
          have HRT : Hid (gz.q / g.q = ratQ Z D t) := Lib.hid (by unfold ratQ; rw [qAt_some hg, qAt_some hgz])
          have HSK : Hid (ShH (canF (ratQ Z D k))) := Lib.hid (Sz.shH (Sz_div (HKZ.out.qAt HK1.out k) (HKD.out.qAt HK1.out k)) HK2.out)
          have HST2 : Hid (ShH (canF (ratQ Z D t))) := Lib.hid (Sz.shH (Sz_div (HKZ.out.qAt HK1.out t) (HKD.out.qAt HK1.out t)) HK2.out)
          obtain ⟨b', off', B1, n1, k1, B2, n2, k2, B3, n3, k3, B4, n4, k4, rfl, ⟨q0, q1, q2, q3⟩, hmf, ⟨r0, r1, r2, r3⟩, hmg⟩ := H4.out.elem2 hbe hf hg
          obtain ⟨c', oc', C1, m1, l1, C2, m2, l2, C3, m3, l3, C4, m4, l4, rfl, ⟨z0, z1, z2, z3⟩, hmz, ⟨y0, y1, y2, y3⟩, hmy⟩ := H3.out.elem2 hbe hfz hgz
          have hbq0 := q0
          have hbq1 := q1
          have hbq2 := q2
          have hbq3 := q3
          have HB := Lib.hid hB
          have htI : (t : Int) < N := by omega
          have ht0 : 0 ≤ (t : Int) := by omega
          have hkZ : (k : Int) < LZ := by have := HLZ.out; omega
          have htZ : (t : Int) < LZ := by have := HLZ.out; omega
          clear hB hf hg hfz hgz
          go_wp2_with fail
          clear hbq0 hbq1 hbq2 hbq3
          refine (rsignF_any _ f _ hmf hsf).mono ?_
          rintro _ w5 ⟨rfl, hb5⟩
          have hX5 := hX.later hb5
          have hS5 := hS.later hb5
          have hbe5 := below_then hbe hb5 hbe.size
          rcases Int.lt_or_le 0 (qs f.q) with hq | hq
          rotate_left
          · have HN := Lib.hid (bestN_skip (p := p) (s := s) (Z := Z) (D := D) (k := k) (by rw [HQ.out]; intro e; have := qs_pos.2 e; omega))
            clear q0 q1 q2 q3 r0 r1 r2 r3 z0 z1 z2 z3 y0 y1 y2 y3
            go_wp2
            go_roundw
            case rel => exact ⟨k + 1, (t : Int), by omega, rfl, by go_num, hbe5, hX5, hS5, Or.inr ⟨t, rfl, by omega, HN.out.trans HB.out⟩⟩
            case measure => simp [intOf]; omega
          have HQP : Hid (0 < qAt D k) := Lib.hid (by rw [HQ.out]; exact qs_pos.1 hq)
          replace q0 := cell_below q0 hb5
          replace q1 := cell_below q1 hb5
          replace q2 := cell_below q2 hb5
          replace q3 := cell_below q3 hb5
          replace r0 := cell_below r0 hb5
          replace r1 := cell_below r1 hb5
          replace r2 := cell_below r2 hb5
          replace r3 := cell_below r3 hb5
          replace z0 := cell_below z0 hb5
          replace z1 := cell_below z1 hb5
          replace z2 := cell_below z2 hb5
          replace z3 := cell_below z3 hb5
          replace y0 := cell_below y0 hb5
          replace y1 := cell_below y1 hb5
          replace y2 := cell_below y2 hb5
          replace y3 := cell_below y3 hb5
          clear hX hS
          go_wp2_with fail
          have Q0s := stab q0
          have Q1s := stab q1
          have Q2s := stab q2
          have Q3s := stab q3
          have R0s := stab r0
          have R1s := stab r1
          have R2s := stab r2
          have R3s := stab r3
          have Z0s := stab z0
          have Z1s := stab z1
          have Z2s := stab z2
          have Z3s := stab z3
          have Y0s := stab y0
          have Y1s := stab y1
          have Y2s := stab y2
          have Y3s := stab y3
          have hS0 := below_drew' w5
          clear q0 q1 q2 q3 r0 r1 r2 r3 z0 z1 z2 z3 y0 y1 y2 y3 hq
          refine region_seq 20 [0, 1, 2, 3, 4, 5, 6, 7, 9, 10, 11, 12, 13, 14, 15, 16, 8, 17, 18, 19] (by kernel_rfl) (by kernel_rfl) ?_
          repeat ((first | (refine seq_takeP (v := ?_) rfl rfl rfl ?_ ?_; rotate_left; (· (intro _ hSw; go_simp; (try go_bits); (try with_reducible rfl)))) | (refine seq_take (v := ?_) rfl rfl rfl ?_ ?_; rotate_left; (· (intro _ hSw; go_simp; (try go_bits); (try with_reducible rfl)))) | refine seq_skip rfl rfl rfl ?_); (try simp only [Act.put, pu1, pu2, pu3, pu4, pu5, pu6]))
          refine seq_step rfl rfl (fun KR hKR => ?_)
          go_simp
          with_reducible refine (rdivF_own _ _ fz f _ ((hmz.below hb5).below hS0) ((hmf.below hb5).below hS0) hsz hsf).mono ?_
          rw [HRK.out]
          rintro _ w6 ⟨v6, rfl, e6, hb6⟩
          have hS6 := below_then hS0 hb6 hS0.size
          refine hKR.out _ _ (Or.inr hS6) ?_
          clear hKR KR
          (try simp only [Act.put, pu1, pu2, pu3, pu4, pu5, pu6])
          repeat ((first | (refine seq_takeP (v := ?_) rfl rfl rfl ?_ ?_; rotate_left; (· (intro _ hSw; go_simp; (try go_bits); (try with_reducible rfl)))) | (refine seq_take (v := ?_) rfl rfl rfl ?_ ?_; rotate_left; (· (intro _ hSw; go_simp; (try go_bits); (try with_reducible rfl)))) | refine seq_skip rfl rfl rfl ?_); (try simp only [Act.put, pu1, pu2, pu3, pu4, pu5, pu6]))
          refine seq_step rfl rfl (fun KR hKR => ?_)
          go_simp
          with_reducible refine (rdivF_own _ _ gz g _ ((hmy.below hb5).below hS6) ((hmg.below hb5).below hS6) hsy hsg).mono ?_
          rw [HRT.out]
          rintro _ w7 ⟨v7, rfl, e7, hb7⟩
          have hS7 := below_then hS6 hb7 hS6.size
          refine hKR.out _ _ (Or.inr hS7) ?_
          clear hKR KR
          (try simp only [Act.put, pu1, pu2, pu3, pu4, pu5, pu6])
          repeat ((first | (refine seq_takeP (v := ?_) rfl rfl rfl ?_ ?_; rotate_left; (· (intro _ hSw; go_simp; (try go_bits); (try with_reducible rfl)))) | (refine seq_take (v := ?_) rfl rfl rfl ?_ ?_; rotate_left; (· (intro _ hSw; go_simp; (try go_bits); (try with_reducible rfl)))) | refine seq_skip rfl rfl rfl ?_); (try simp only [Act.put, pu1, pu2, pu3, pu4, pu5, pu6]))
          refine seq_step rfl rfl (fun KR hKR => ?_)
          go_simp
          with_reducible refine (rcompareF_any _ _ (canF (ratQ Z D k)) (canF (ratQ Z D t)) _ (e6.frac.below hb7) e7.frac HSK.out HST2.out).mono ?_
          rw [canF_q, canF_q]
          generalize hsC : qs (ratQ Z D k - ratQ Z D t) = sC
          have HSC := Lib.hid hsC
          clear hsC
          rintro _ w8 ⟨rfl, hb8⟩
          have hS8 := below_then hS7 hb8 hS7.size
          refine hKR.out _ _ (Or.inr hS8) ?_
          clear hKR KR
          (try simp only [Act.put, pu1, pu2, pu3, pu4, pu5, pu6])
          repeat ((first | (refine seq_takeP (v := ?_) rfl rfl rfl ?_ ?_; rotate_left; (· (intro _ hSw; go_simp; (try go_bits); (try with_reducible rfl)))) | (refine seq_take (v := ?_) rfl rfl rfl ?_ ?_; rotate_left; (· (intro _ hSw; go_simp; (try go_bits); (try with_reducible rfl)))) | refine seq_skip rfl rfl rfl ?_); (try simp only [Act.put, pu1, pu2, pu3, pu4, pu5, pu6]))
          refine seq_done ?_
          have hX8 := hX5.later hS8
          have hT8 := hS5.later hS8
          have hbe8 := below_then hbe5 hS8 hbe5.size
          clear Q0s Q1s Q2s Q3s R0s R1s R2s R3s Z0s Z1s Z2s Z3s Y0s Y1s Y2s Y3s hX5 hS5 hbe5 hS0 hS6 hS7 hS8 hb5 hb6 hb7 hb8 e6 e7 hmf hmg hmz hmy
          obtain ⟨bb, bo, rfl, hall⟩ := (HI.out.below hbe8).all (show 0 < nb by omega)
          have c1 : w8.cell? ⟨bb, bo + k, none⟩ = some (.int .i64 (s.at_ k)) := hall k (by omega)
          have c2 : w8.cell? ⟨bb, bo + t, none⟩ = some (.int .i64 (s.at_ t)) := hall t (by omega)
          have hkB : (k : Int) < nb := by omega
          have htB : (t : Int) < nb := by omega
          obtain ⟨x0, x1, x2⟩ := hX8.three
          obtain ⟨p0, p1, p2⟩ := hT8.three
          have HAK := Lib.hid (at_range HFS.out HFP.out k)
          have HAT := Lib.hid (at_range HFS.out HFP.out t)
          clear hall
          go_wp2_with fail
          have C0 := stab x0
          have C1' := stab x1
          have C2' := stab x2
          have D0 := stab p0
          have D1 := stab p1
          have D2 := stab p2
          have E1 := stab c1
          have E2 := stab c2
          have hS0 := below_drew' w8
          clear x0 x1 x2 p0 p1 p2 c1 c2
          refine region_seq 23 [0, 1, 2, 3, 4, 5, 6, 7, 8, 9, 10, 11, 13, 14, 15, 16, 17, 18, 12, 19, 20, 21, 22] (by kernel_rfl) (by kernel_rfl) ?_
          rcases Int.lt_trichotomy sC 0 with hc | hc | hc
          · have HN := Lib.hid (bestN_better HB.out HQP.out (Or.inl (by have h9 := HSC.out; have := qs_neg.1 (h9 ▸ hc); grind)))
            repeat ((first | (refine seq_takeP (v := ?_) rfl rfl rfl ?_ ?_; rotate_left; (· (intro _ hSw; go_simp; (try go_bits); (try with_reducible rfl)))) | (refine seq_take (v := ?_) rfl rfl rfl ?_ ?_; rotate_left; (· (intro _ hSw; go_simp; (try go_bits); (try with_reducible rfl)))) | refine seq_skip rfl rfl rfl ?_ | refine seq_skipc rfl rfl rfl (by assumption) ?_); (try simp only [Act.put, pu1, pu2, pu3, pu4, pu5, pu6]))
            refine seq_done ?_
            clear C0 C1' C2' D0 D1 D2 E1 E2
            go_wp2
            go_roundw
            case rel => exact ⟨k + 1, (k : Int), by omega, rfl, by go_num, hbe8.drew, hX8.drew, hT8.drew, Or.inr ⟨k, rfl, by omega, HN.out⟩⟩
            case measure => simp [intOf]; omega
          · subst hc
            have HEQ : Hid (ratQ Z D k = ratQ Z D t) := Lib.hid (by have := qs_zero.1 HSC.out; grind)
            repeat ((first | (refine seq_takeP (v := ?_) rfl rfl rfl ?_ ?_; rotate_left; (· (intro _ hSw; go_simp; (try go_bits); (try with_reducible rfl)))) | (refine seq_take (v := ?_) rfl rfl rfl ?_ ?_; rotate_left; (· (intro _ hSw; go_simp; (try go_bits); (try with_reducible rfl)))) | refine seq_skip rfl rfl rfl ?_); (try simp only [Act.put, pu1, pu2, pu3, pu4, pu5, pu6]))
            refine seq_step rfl rfl (fun KR hKR => ?_)
            go_simp
            with_reducible refine (rorder_any _ p (s.at_ k) _ ((HLP.out.below hbe8).below hS0) HAK.out.1 HAK.out.2 HFP.out.cols).mono ?_
            generalize hok : ordQ p (s.at_ k) = ok
            have HOK := Lib.hid hok
            clear hok
            rintro _ w9 ⟨rfl, hb9⟩
            have hS9 := below_then hS0 hb9 hS0.size
            refine hKR.out _ _ (Or.inr hS9) ?_
            clear hKR KR
            (try simp only [Act.put, pu1, pu2, pu3, pu4, pu5, pu6])
            repeat ((first | (refine seq_takeP (v := ?_) rfl rfl rfl ?_ ?_; rotate_left; (· (intro _ hSw; go_simp; (try go_bits); (try with_reducible rfl)))) | (refine seq_take (v := ?_) rfl rfl rfl ?_ ?_; rotate_left; (· (intro _ hSw; go_simp; (try go_bits); (try with_reducible rfl)))) | refine seq_skip rfl rfl rfl ?_); (try simp only [Act.put, pu1, pu2, pu3, pu4, pu5, pu6]))
            refine seq_step rfl rfl (fun KR hKR => ?_)
            go_simp
            with_reducible refine (rorder_any _ p (s.at_ t) _ ((HLP.out.below hbe8).below hS9) HAT.out.1 HAT.out.2 HFP.out.cols).mono ?_
            generalize hot : ordQ p (s.at_ t) = ot
            have HOT := Lib.hid hot
            clear hot
            rintro _ w10 ⟨rfl, hb10⟩
            have hS10 := below_then hS9 hb10 hS9.size
            refine hKR.out _ _ (Or.inr hS10) ?_
            clear hKR KR
            (try simp only [Act.put, pu1, pu2, pu3, pu4, pu5, pu6])
            repeat ((first | (refine seq_takeP (v := ?_) rfl rfl rfl ?_ ?_; rotate_left; (· (intro _ hSw; go_simp; (try go_bits); (try with_reducible rfl)))) | (refine seq_take (v := ?_) rfl rfl rfl ?_ ?_; rotate_left; (· (intro _ hSw; go_simp; (try go_bits); (try with_reducible rfl)))) | refine seq_skip rfl rfl rfl ?_); (try simp only [Act.put, pu1, pu2, pu3, pu4, pu5, pu6]))
            refine seq_done ?_
            clear C0 C1' C2' D0 D1 D2 E1 E2
            have hX9 := hX8.later hS10
            have hT9 := hT8.later hS10
            have hbe9 := below_then hbe8 hS10 hbe8.size
            clear hX8 hT8 hbe8 hS0 hS9 hS10 hb9 hb10
            rcases Int.lt_or_le ok ot with ho | ho
            · have HN := Lib.hid (bestN_better HB.out HQP.out (Or.inr ⟨HEQ.out, by rw [HOK.out, HOT.out]; exact ho⟩))
              go_wp2
              go_roundw
              case rel => exact ⟨k + 1, (k : Int), by omega, rfl, by go_num, hbe9, hX9, hT9, Or.inr ⟨k, rfl, by omega, HN.out⟩⟩
              case measure => simp [intOf]; omega
            · have HN := Lib.hid (bestN_worse HB.out HQP.out (by intro e; rcases e with e | ⟨_, e⟩; (· rw [HEQ.out] at e; exact absurd e (by grind)); (· rw [HOK.out, HOT.out] at e; omega)))
              go_wp2
              go_roundw
              case rel => exact ⟨k + 1, (t : Int), by omega, rfl, by go_num, hbe9, hX9, hT9, Or.inr ⟨t, rfl, by omega, HN.out⟩⟩
              case measure => simp [intOf]; omega
          · have HN := Lib.hid (bestN_worse (p := p) (s := s) HB.out HQP.out (by have h9 := HSC.out; have := qs_pos.1 (h9 ▸ hc); intro e; rcases e with e | ⟨e, _⟩ <;> grind))
            obtain rfl : sC = 1 := by have h9 := qs_bd (ratQ Z D k - ratQ Z D t); rw [HSC.out] at h9; omega
            repeat ((first | (refine seq_takeP (v := ?_) rfl rfl rfl ?_ ?_; rotate_left; (· (intro _ hSw; go_simp; (try go_bits); (try with_reducible rfl)))) | (refine seq_take (v := ?_) rfl rfl rfl ?_ ?_; rotate_left; (· (intro _ hSw; go_simp; (try go_bits); (try with_reducible rfl)))) | refine seq_skip rfl rfl rfl ?_ | refine seq_skipc rfl rfl rfl (by assumption) ?_); (try simp only [Act.put, pu1, pu2, pu3, pu4, pu5, pu6]))
            refine seq_done ?_
            clear C0 C1' C2' D0 D1 D2 E1 E2
            go_wp2
            go_roundw
            case rel => exact ⟨k + 1, (t : Int), by omega, rfl, by go_num, hbe8.drew, hX8.drew, hT8.drew, Or.inr ⟨t, rfl, by omega, HN.out⟩⟩
            case measure => simp [intOf]; omega
      · obtain rfl : N = k := by omega
        have HR : Hid (oi (leavQ p s Z D) = z) := Lib.hid (by rw [HLV.out, HDL.out]; exact hB.oi)
        clear hB
        go_wp2
        go_ret
        exact ⟨ret_int' HR.out, hbe⟩

set_option maxRecDepth 100000 in
set_option maxHeartbeats 16000000 in
theorem rleaving_2 (v1 v2 v3 v4 : Value) (p : LPd) (s : LSt) (Z D : List RF) (K : Nat) (w : World) (h : LpM w v1 p) (h2 : StM w v2 s) (h3 : FrsM w v3 Z) (h4 : FrsM w v4 D) (F : p.Fit K) (S : s.Fit p) (hzl : D.length ≤ Z.length) (hdl : D.length ≤ p.right.length) (hkz : RsL (5 ^ p.right.length * K) Z) (hkd : RsL (5 ^ p.right.length * K) D) (hN0 : 0 < D.length) (hph : s.phase = 2) :
    Calls Tryz.prog 67 #[v1, v2, v3, v4] w fun e w' => e = .returned (.int .i64 (oi (leavQ p s Z D))) ∧ Below w.heap.size w w' := by
  obtain ⟨A, n, c, A', n', c', A'', n'', c'', rfl, hc, hv, hr⟩ := id h
  obtain ⟨Ab, nb, cb, rfl, hI⟩ := id h2
  obtain ⟨W, hW, hX0, hbe0⟩ := box_lp w (.slice A n c) (.slice A' n' c') (.slice A'' n'' c'')
  obtain ⟨W1, hW1, hS0, hbe1⟩ := box_st W (.int .i64 s.phase) (.slice Ab nb cb) (.int .i64 s.pivots)
  have hX := hX0.later hbe1
  have hbe := below_then hbe0 hbe1 hbe0.size
  obtain ⟨b1, b2, b3⟩ := hI.len
  have hsz : W.heap.size = w.heap.size + 1 := by rw [← hW]; simp
  rw [hsz] at hS0
  have HLP := Lib.hid h
  have HST := Lib.hid h2
  have HI := Lib.hid hI
  have HFP := Lib.hid F
  have HFS := Lib.hid S
  have HNB := Lib.hid b1
  have HB1 : Hid (nb = p.right.length) := Lib.hid (by rw [b1]; exact S.2)
  have hnb : nb ≤ 64 := by rw [HB1.out]; exact F.2.2.1
  obtain ⟨x0, x1, x2⟩ := hX.three
  obtain ⟨y0, y1, y2⟩ := hS0.three
  clear h h2 hc hv hr b1 hI hX0 hbe0 hbe1 F S
  obtain ⟨Az, cz, rfl, hz1, hz2⟩ := h3.shape
  obtain ⟨Ad, cd, rfl, hd1, hd2⟩ := h4.shape
  have H3 := Lib.hid h3
  have H4 := Lib.hid h4
  have HKZ := Lib.hid hkz
  have HKD := Lib.hid hkd
  have HKB : Hid (5 ^ p.right.length * K ≤ 34359738368) := Lib.hid (by have := HFP.out.ks; omega)
  have HK1 : Hid (1 ≤ 5 ^ p.right.length * K) := Lib.hid (Nat.le_trans HFP.out.k1 HFP.out.le)
  have HK2 : Hid (5 ^ p.right.length * K + 5 ^ p.right.length * K ≤ 8589934592) := Lib.hid (by have := HFP.out.2.2.2.2.2.2; omega)
  have HZL : Hid (D.length ≤ Z.length) := Lib.hid hzl
  have hdl : D.length ≤ nb := by rw [HB1.out]; exact hdl
  generalize hLZ : Z.length = LZ at *
  have HLZ := Lib.hid hLZ
  generalize hN : D.length = N at *
  have HDL := Lib.hid hN
  clear h3 h4 hkz hkd hLZ hN
  have HPH := Lib.hid hph
  have hph' : (s.phase == 2) = true := by simpa using hph
  clear hph
  go_enter Tryz.func67, Tryz.ntmps67
  go_wp2
  clear hW hW1
  go_loopw [9] (fun i wr => ∃ k : Nat, k ≤ N ∧ i = .int .i64 k ∧ Below w.heap.size w wr ∧ Bk wr w.heap.size 26 [.slice A n c, .slice A' n' c', .slice A'' n'' c''] ∧ Bk wr (w.heap.size + 1) 34 [.int .i64 s.phase, .slice Ab nb cb, .int .i64 s.pivots] ∧ ∀ i : Nat, i < k → ¬ artF s D i < 0) (fun i _ => N - (intOf i).toNat)
  case atStart => exact ⟨0, by omega, rfl, hbe, hX, hS0, fun i hi => by omega⟩
  case round =>
    clear hbe hX hS0 x0 x1 x2 y0 y1 y2
    obtain ⟨k, hk, rfl, hbe, hX, hS, hA⟩ := hrel
    have HA := Lib.hid hA
    clear hA
    obtain ⟨y0, y1, y2⟩ := hS.three
    rcases Nat.lt_or_ge k N with hkl | hkl
    · obtain ⟨bb, bo, rfl, hall⟩ := (HI.out.below hbe).all (show 0 < nb by omega)
      have c1 : wr.cell? ⟨bb, bo + k, none⟩ = some (.int .i64 (s.at_ k)) := hall k (by omega)
      obtain ⟨f, hf⟩ := get_some (fs := D) (i := k) (by rw [HDL.out]; exact hkl)
      obtain ⟨b', off', B1, n1, k1, B2, n2, k2, rfl, hlt, ⟨q0, q1, q2, q3⟩, hmf⟩ := H4.out.elem hbe hf
      have hkI : (k : Int) < N := by omega
      have hkB : (k : Int) < nb := by omega
      have HQ := Lib.hid (qAt_some hf)
      have hsf : f.Sh := (HKD.out k f hf).sh HKB.out
      clear hall hf
      generalize hz : s.at_ k = z at *
      have HZ := Lib.hid hz
      clear hz
      rcases Int.lt_or_le z 0 with hz0 | hz0
      · go_wp2_with fail
        refine (rsignF_any _ f _ hmf hsf).mono ?_
        rintro _ w5 ⟨rfl, hb5⟩
        have hX5 := hX.later hb5
        have hS5 := hS.later hb5
        have hbe5 := below_then hbe hb5 hbe.size
        by_cases hq : f.q = 0
        · have hqs : (qs f.q != 0) = false := by rw [hq]; decide
          have HA2 : Hid (∀ i : Nat, i < k + 1 → ¬ artF s D i < 0) := Lib.hid fun i hi => by
            rcases Nat.lt_succ_iff_lt_or_eq.1 hi with e | e
            · exact HA.out i e
            · subst e; exact artF_no fun e => e.2 (by rw [HQ.out, hq])
          clear hq
          go_wp2
          go_roundw
          case rel => exact ⟨k + 1, by omega, by go_num, hbe5, hX5, hS5, HA2.out⟩
          case measure => simp [intOf]; omega
        · have hqs : (qs f.q != 0) = true := by simpa using fun e => hq (qs_zero.1 e)
          have HR : Hid (oi (leavQ p s Z D) = (k : Int)) := Lib.hid (by rw [leavQ_2 HPH.out (firstNeg_some (Nat.zero_le k) (by rw [HDL.out]; omega) (artF_yes (by rw [HZ.out]; exact hz0) (by rw [HQ.out]; exact hq)) fun i _ hi => HA.out i hi)]; rfl)
          clear hq
          go_wp2
          go_ret
          exact ⟨ret_int' HR.out, hbe5⟩
      · have HA2 : Hid (∀ i : Nat, i < k + 1 → ¬ artF s D i < 0) := Lib.hid fun i hi => by
          rcases Nat.lt_succ_iff_lt_or_eq.1 hi with e | e
          · exact HA.out i e
          · subst e; exact artF_no fun e => by have := HZ.out; omega
        clear q0 q1 q2 q3
        go_wp2
        go_roundw
        case rel => exact ⟨k + 1, by omega, by go_num, hbe, hX, hS, HA2.out⟩
        case measure => simp [intOf]; omega
    · obtain rfl : N = k := by omega
      have HLV : Hid (leavQ p s Z D = bestN p s Z D D.length) := Lib.hid (leavQ_3 HPH.out (firstNeg_none fun i _ hi => HA.out i (by rw [HDL.out] at hi; omega)))
      clear HA
      go_wp2
      go_loopw [10, 11] (fun b i wr => ∃ (k : Nat) (z : Int), k ≤ N ∧ b = .int .i64 z ∧ i = .int .i64 k ∧ Below w.heap.size w wr ∧ Bk wr w.heap.size 26 [.slice A n c, .slice A' n' c', .slice A'' n'' c''] ∧ Bk wr (w.heap.size + 1) 34 [.int .i64 s.phase, .slice Ab nb cb, .int .i64 s.pivots] ∧ BestAt p s Z D k z) (fun _ i _ => N - (intOf i).toNat)
      case atStart => exact ⟨0, -1, by omega, rfl, rfl, hbe, hX, hS, Or.inl ⟨rfl, rfl⟩⟩
      case round =>
        clear hbe hX hS
        obtain ⟨k, z, hk, rfl, rfl, hbe, hX, hS, hB⟩ := hrel
        rcases Nat.lt_or_ge k N with hkl | hkl
        · obtain ⟨f, hf⟩ := get_some (fs := D) (i := k) (by rw [HDL.out]; exact hkl)
          have hkI : (k : Int) < N := by omega
          have HQ := Lib.hid (qAt_some hf)
          have hsf : f.Sh := (HKD.out k f hf).sh HKB.out
          rcases hB with ⟨rfl, hB⟩ | ⟨t, rfl, htk, hB⟩
          · obtain ⟨b', off', B1, n1, k1, B2, n2, k2, rfl, hlt, ⟨q0, q1, q2, q3⟩, hmf⟩ := H4.out.elem hbe hf
            have HB := Lib.hid hB
            clear hB hf
            go_wp2_with fail
            refine (rsignF_any _ f _ hmf hsf).mono ?_
            rintro _ w5 ⟨rfl, hb5⟩
            have hX5 := hX.later hb5
            have hS5 := hS.later hb5
            have hbe5 := below_then hbe hb5 hbe.size
            clear q0 q1 q2 q3 hX hS hbe hb5 hmf
            rcases Int.lt_or_le 0 (qs f.q) with hq | hq
            · have HN := Lib.hid (bestN_first HB.out (by rw [HQ.out]; exact qs_pos.1 hq))
              go_wp2
              go_roundw
              case rel => exact ⟨k + 1, (k : Int), by omega, rfl, by go_num, hbe5, hX5, hS5, Or.inr ⟨k, rfl, by omega, HN.out⟩⟩
              case measure => simp [intOf]; omega
            · have HN := Lib.hid (bestN_skip (p := p) (s := s) (Z := Z) (D := D) (k := k) (by rw [HQ.out]; intro e; have := qs_pos.2 e; omega))
              go_wp2
              go_roundw
              case rel => exact ⟨k + 1, -1, by omega, rfl, by go_num, hbe5, hX5, hS5, Or.inl ⟨rfl, HN.out.trans HB.out⟩⟩
              case measure => simp [intOf]; omega
          · obtain ⟨g, hg⟩ := get_some (fs := D) (i := t) (by rw [HDL.out]; omega)
            obtain ⟨fz, hfz⟩ := get_some (fs := Z) (i := k) (by rw [HLZ.out]; omega)
            obtain ⟨gz, hgz⟩ := get_some (fs := Z) (i := t) (by rw [HLZ.out]; omega)
            have hsg : g.Sh := (HKD.out t g hg).sh HKB.out
            have hsz : fz.Sh := (HKZ.out k fz hfz).sh HKB.out
            have hsy : gz.Sh := (HKZ.out t gz hgz).sh HKB.out
            have HRK : Hid (fz.q / f.q = ratQ Z D k) := Lib.hid (by unfold ratQ; rw [qAt_some hf, qAt_some hfz])
            have HRT : Hid (gz.q / g.q = ratQ Z D t) := Lib.hid (by unfold ratQ; rw [qAt_some hg, qAt_some hgz])
            have HSK : Hid (ShH (canF (ratQ Z D k))) := Lib.hid (Sz.shH (Sz_div (HKZ.out.qAt HK1.out k) (HKD.out.qAt HK1.out k)) HK2.out)
            have HST2 : Hid (ShH (canF (ratQ Z D t))) := Lib.hid (Sz.shH (Sz_div (HKZ.out.qAt HK1.out t) (HKD.out.qAt HK1.out t)) HK2.out)
            obtain ⟨b', off', B1, n1, k1, B2, n2, k2, B3, n3, k3, B4, n4, k4, rfl, ⟨q0, q1, q2, q3⟩, hmf, ⟨r0, r1, r2, r3⟩, hmg⟩ := H4.out.elem2 hbe hf hg
            obtain ⟨c', oc', C1, m1, l1, C2, m2, l2, C3, m3, l3, C4, m4, l4, rfl, ⟨z0, z1, z2, z3⟩, hmz, ⟨y0, y1, y2, y3⟩, hmy⟩ := H3.out.elem2 hbe hfz hgz
            have hbq0 := q0
            have hbq1 := q1
            have hbq2 := q2
            have hbq3 := q3
            have HB := Lib.hid hB
            have htI : (t : Int) < N := by omega
            have ht0 : 0 ≤ (t : Int) := by omega
            have hkZ : (k : Int) < LZ := by have := HLZ.out; omega
            have htZ : (t : Int) < LZ := by have := HLZ.out; omega
            clear hB hf hg hfz hgz
            go_wp2_with fail
            clear hbq0 hbq1 hbq2 hbq3
            refine (rsignF_any _ f _ hmf hsf).mono ?_
            rintro _ w5 ⟨rfl, hb5⟩
            have hX5 := hX.later hb5
            have hS5 := hS.later hb5
            have hbe5 := below_then hbe hb5 hbe.size
            rcases Int.lt_or_le 0 (qs f.q) with hq | hq
            rotate_left
            · have HN := Lib.hid (bestN_skip (p := p) (s := s) (Z := Z) (D := D) (k := k) (by rw [HQ.out]; intro e; have := qs_pos.2 e; omega))
              clear q0 q1 q2 q3 r0 r1 r2 r3 z0 z1 z2 z3 y0 y1 y2 y3
              go_wp2
              go_roundw
              case rel => exact ⟨k + 1, (t : Int), by omega, rfl, by go_num, hbe5, hX5, hS5, Or.inr ⟨t, rfl, by omega, HN.out.trans HB.out⟩⟩
              case measure => simp [intOf]; omega
            have HQP : Hid (0 < qAt D k) := Lib.hid (by rw [HQ.out]; exact qs_pos.1 hq)
            replace q0 := cell_below q0 hb5
            replace q1 := cell_below q1 hb5
            replace q2 := cell_below q2 hb5
            replace q3 := cell_below q3 hb5
            replace r0 := cell_below r0 hb5
            replace r1 := cell_below r1 hb5
            replace r2 := cell_below r2 hb5
            replace r3 := cell_below r3 hb5
            replace z0 := cell_below z0 hb5
            replace z1 := cell_below z1 hb5
            replace z2 := cell_below z2 hb5
            replace z3 := cell_below z3 hb5
            replace y0 := cell_below y0 hb5
            replace y1 := cell_below y1 hb5
            replace y2 := cell_below y2 hb5
            replace y3 := cell_below y3 hb5
            clear hX hS
            go_wp2_with fail
            have Q0s := stab q0
            have Q1s := stab q1
            have Q2s := stab q2
            have Q3s := stab q3
            have R0s := stab r0
            have R1s := stab r1
            have R2s := stab r2
            have R3s := stab r3
            have Z0s := stab z0
            have Z1s := stab z1
            have Z2s := stab z2
            have Z3s := stab z3
            have Y0s := stab y0
            have Y1s := stab y1
            have Y2s := stab y2
            have Y3s := stab y3
            have hS0 := below_drew' w5
            clear q0 q1 q2 q3 r0 r1 r2 r3 z0 z1 z2 z3 y0 y1 y2 y3 hq
            refine region_seq 20 [0, 1, 2, 3, 4, 5, 6, 7, 9, 10, 11, 12, 13, 14, 15, 16, 8, 17, 18, 19] (by kernel_rfl) (by kernel_rfl) ?_
            repeat ((first | (refine seq_takeP (v := ?_) rfl rfl rfl ?_ ?_; rotate_left; (· (intro _ hSw; go_simp; (try go_bits); (try with_reducible rfl)))) | (refine seq_take (v := ?_) rfl rfl rfl ?_ ?_; rotate_left; (· (intro _ hSw; go_simp; (try go_bits); (try with_reducible rfl)))) | refine seq_skip rfl rfl rfl ?_); (try simp only [Act.put, pu1, pu2, pu3, pu4, pu5, pu6]))
            refine seq_step rfl rfl (fun KR hKR => ?_)
            go_simp
            with_reducible refine (rdivF_own _ _ fz f _ ((hmz.below hb5).below hS0) ((hmf.below hb5).below hS0) hsz hsf).mono ?_
            rw [HRK.out]
            rintro _ w6 ⟨v6, rfl, e6, hb6⟩
            have hS6 := below_then hS0 hb6 hS0.size
            refine hKR.out _ _ (Or.inr hS6) ?_
            clear hKR KR
            (try simp only [Act.put, pu1, pu2, pu3, pu4, pu5, pu6])
            repeat ((first | (refine seq_takeP (v := ?_) rfl rfl rfl ?_ ?_; rotate_left; (· (intro _ hSw; go_simp; (try go_bits); (try with_reducible rfl)))) | (refine seq_take (v := ?_) rfl rfl rfl ?_ ?_; rotate_left; (· (intro _ hSw; go_simp; (try go_bits); (try with_reducible rfl)))) | refine seq_skip rfl rfl rfl ?_); (try simp only [Act.put, pu1, pu2, pu3, pu4, pu5, pu6]))
            refine seq_step rfl rfl (fun KR hKR => ?_)
            go_simp
            with_reducible refine (rdivF_own _ _ gz g _ ((hmy.below hb5).below hS6) ((hmg.below hb5).below hS6) hsy hsg).mono ?_
            rw [HRT.out]
            rintro _ w7 ⟨v7, rfl, e7, hb7⟩
            have hS7 := below_then hS6 hb7 hS6.size
            refine hKR.out _ _ (Or.inr hS7) ?_
            clear hKR KR
            (try simp only [Act.put, pu1, pu2, pu3, pu4, pu5, pu6])
            repeat ((first | (refine seq_takeP (v := ?_) rfl rfl rfl ?_ ?_; rotate_left; (· (intro _ hSw; go_simp; (try go_bits); (try with_reducible rfl)))) | (refine seq_take (v := ?_) rfl rfl rfl ?_ ?_; rotate_left; (· (intro _ hSw; go_simp; (try go_bits); (try with_reducible rfl)))) | refine seq_skip rfl rfl rfl ?_); (try simp only [Act.put, pu1, pu2, pu3, pu4, pu5, pu6]))
            refine seq_step rfl rfl (fun KR hKR => ?_)
            go_simp
            with_reducible refine (rcompareF_any _ _ (canF (ratQ Z D k)) (canF (ratQ Z D t)) _ (e6.frac.below hb7) e7.frac HSK.out HST2.out).mono ?_
            rw [canF_q, canF_q]
            generalize hsC : qs (ratQ Z D k - ratQ Z D t) = sC
            have HSC := Lib.hid hsC
            clear hsC
            rintro _ w8 ⟨rfl, hb8⟩
            have hS8 := below_then hS7 hb8 hS7.size
            refine hKR.out _ _ (Or.inr hS8) ?_
            clear hKR KR
            (try simp only [Act.put, pu1, pu2, pu3, pu4, pu5, pu6])
            repeat ((first | (refine seq_takeP (v := ?_) rfl rfl rfl ?_ ?_; rotate_left; (· (intro _ hSw; go_simp; (try go_bits); (try with_reducible rfl)))) | (refine seq_take (v := ?_) rfl rfl rfl ?_ ?_; rotate_left; (· (intro _ hSw; go_simp; (try go_bits); (try with_reducible rfl)))) | refine seq_skip rfl rfl rfl ?_); (try simp only [Act.put, pu1, pu2, pu3, pu4, pu5, pu6]))
            refine seq_done ?_
            have hX8 := hX5.later hS8
            have hT8 := hS5.later hS8
            have hbe8 := below_then hbe5 hS8 hbe5.size
            clear Q0s Q1s Q2s Q3s R0s R1s R2s R3s Z0s Z1s Z2s Z3s Y0s Y1s Y2s Y3s hX5 hS5 hbe5 hS0 hS6 hS7 hS8 hb5 hb6 hb7 hb8 e6 e7 hmf hmg hmz hmy
            obtain ⟨bb, bo, rfl, hall⟩ := (HI.out.below hbe8).all (show 0 < nb by omega)
            have c1 : w8.cell? ⟨bb, bo + k, none⟩ = some (.int .i64 (s.at_ k)) := hall k (by omega)
            have c2 : w8.cell? ⟨bb, bo + t, none⟩ = some (.int .i64 (s.at_ t)) := hall t (by omega)
            have hkB : (k : Int) < nb := by omega
            have htB : (t : Int) < nb := by omega
            obtain ⟨x0, x1, x2⟩ := hX8.three
            obtain ⟨p0, p1, p2⟩ := hT8.three
            have HAK := Lib.hid (at_range HFS.out HFP.out k)
            have HAT := Lib.hid (at_range HFS.out HFP.out t)
            clear hall
            go_wp2_with fail
            have C0 := stab x0
            have C1' := stab x1
            have C2' := stab x2
            have D0 := stab p0
            have D1 := stab p1
            have D2 := stab p2
            have E1 := stab c1
            have E2 := stab c2
            have hS0 := below_drew' w8
            clear x0 x1 x2 p0 p1 p2 c1 c2
            refine region_seq 23 [0, 1, 2, 3, 4, 5, 6, 7, 8, 9, 10, 11, 13, 14, 15, 16, 17, 18, 12, 19, 20, 21, 22] (by kernel_rfl) (by kernel_rfl) ?_
            rcases Int.lt_trichotomy sC 0 with hc | hc | hc
            · have HN := Lib.hid (bestN_better HB.out HQP.out (Or.inl (by have h9 := HSC.out; have := qs_neg.1 (h9 ▸ hc); grind)))
              repeat ((first | (refine seq_takeP (v := ?_) rfl rfl rfl ?_ ?_; rotate_left; (· (intro _ hSw; go_simp; (try go_bits); (try with_reducible rfl)))) | (refine seq_take (v := ?_) rfl rfl rfl ?_ ?_; rotate_left; (· (intro _ hSw; go_simp; (try go_bits); (try with_reducible rfl)))) | refine seq_skip rfl rfl rfl ?_ | refine seq_skipc rfl rfl rfl (by assumption) ?_); (try simp only [Act.put, pu1, pu2, pu3, pu4, pu5, pu6]))
              refine seq_done ?_
              clear C0 C1' C2' D0 D1 D2 E1 E2
              go_wp2
              go_roundw
              case rel => exact ⟨k + 1, (k : Int), by omega, rfl, by go_num, hbe8.drew, hX8.drew, hT8.drew, Or.inr ⟨k, rfl, by omega, HN.out⟩⟩
              case measure => simp [intOf]; omega
            · subst hc
              have HEQ : Hid (ratQ Z D k = ratQ Z D t) := Lib.hid (by have := qs_zero.1 HSC.out; grind)
              repeat ((first | (refine seq_takeP (v := ?_) rfl rfl rfl ?_ ?_; rotate_left; (· (intro _ hSw; go_simp; (try go_bits); (try with_reducible rfl)))) | (refine seq_take (v := ?_) rfl rfl rfl ?_ ?_; rotate_left; (· (intro _ hSw; go_simp; (try go_bits); (try with_reducible rfl)))) | refine seq_skip rfl rfl rfl ?_); (try simp only [Act.put, pu1, pu2, pu3, pu4, pu5, pu6]))
              refine seq_step rfl rfl (fun KR hKR => ?_)
              go_simp
              with_reducible refine (rorder_any _ p (s.at_ k) _ ((HLP.out.below hbe8).below hS0) HAK.out.1 HAK.out.2 HFP.out.cols).mono ?_
              generalize hok : ordQ p (s.at_ k) = ok
              have HOK := Lib.hid hok
              clear hok
              rintro _ w9 ⟨rfl, hb9⟩
              have hS9 := below_then hS0 hb9 hS0.size
              refine hKR.out _ _ (Or.inr hS9) ?_
              clear hKR KR
              (try simp only [Act.put, pu1, pu2, pu3, pu4, pu5, pu6])
              repeat ((first | (refine seq_takeP (v := ?_) rfl rfl rfl ?_ ?_; rotate_left; (· (intro _ hSw; go_simp; (try go_bits); (try with_reducible rfl)))) | (refine seq_take (v := ?_) rfl rfl rfl ?_ ?_; rotate_left; (· (intro _ hSw; go_simp; (try go_bits); (try with_reducible rfl)))) | refine seq_skip rfl rfl rfl ?_); (try simp only [Act.put, pu1, pu2, pu3, pu4, pu5, pu6]))
              refine seq_step rfl rfl (fun KR hKR => ?_)
              go_simp
              with_reducible refine (rorder_any _ p (s.at_ t) _ ((HLP.out.below hbe8).below hS9) HAT.out.1 HAT.out.2 HFP.out.cols).mono ?_
              generalize hot : ordQ p (s.at_ t) = ot
              have HOT := Lib.hid hot
              clear hot
              rintro _ w10 ⟨rfl, hb10⟩
              have hS10 := below_then hS9 hb10 hS9.size
              refine hKR.out _ _ (Or.inr hS10) ?_
              clear hKR KR
              (try simp only [Act.put, pu1, pu2, pu3, pu4, pu5, pu6])
              repeat ((first | (refine seq_takeP (v := ?_) rfl rfl rfl ?_ ?_; rotate_left; (· (intro _ hSw; go_simp; (try go_bits); (try with_reducible rfl)))) | (refine seq_take (v := ?_) rfl rfl rfl ?_ ?_; rotate_left; (· (intro _ hSw; go_simp; (try go_bits); (try with_reducible rfl)))) | refine seq_skip rfl rfl rfl ?_); (try simp only [Act.put, pu1, pu2, pu3, pu4, pu5, pu6]))
              refine seq_done ?_
              clear C0 C1' C2' D0 D1 D2 E1 E2
              have hX9 := hX8.later hS10
              have hT9 := hT8.later hS10
              have hbe9 := below_then hbe8 hS10 hbe8.size
              clear hX8 hT8 hbe8 hS0 hS9 hS10 hb9 hb10
              rcases Int.lt_or_le ok ot with ho | ho
              · have HN := Lib.hid (bestN_better HB.out HQP.out (Or.inr ⟨HEQ.out, by rw [HOK.out, HOT.out]; exact ho⟩))
                go_wp2
                go_roundw
                case rel => exact ⟨k + 1, (k : Int), by omega, rfl, by go_num, hbe9, hX9, hT9, Or.inr ⟨k, rfl, by omega, HN.out⟩⟩
                case measure => simp [intOf]; omega
              · have HN := Lib.hid (bestN_worse HB.out HQP.out (by intro e; rcases e with e | ⟨_, e⟩; (· rw [HEQ.out] at e; exact absurd e (by grind)); (· rw [HOK.out, HOT.out] at e; omega)))
                go_wp2
                go_roundw
                case rel => exact ⟨k + 1, (t : Int), by omega, rfl, by go_num, hbe9, hX9, hT9, Or.inr ⟨t, rfl, by omega, HN.out⟩⟩
                case measure => simp [intOf]; omega
            · have HN := Lib.hid (bestN_worse (p := p) (s := s) HB.out HQP.out (by have h9 := HSC.out; have := qs_pos.1 (h9 ▸ hc); intro e; rcases e with e | ⟨e, _⟩ <;> grind))
              obtain rfl : sC = 1 := by have h9 := qs_bd (ratQ Z D k - ratQ Z D t); rw [HSC.out] at h9; omega
              repeat ((first | (refine seq_takeP (v := ?_) rfl rfl rfl ?_ ?_; rotate_left; (· (intro _ hSw; go_simp; (try go_bits); (try with_reducible rfl)))) | (refine seq_take (v := ?_) rfl rfl rfl ?_ ?_; rotate_left; (· (intro _ hSw; go_simp; (try go_bits); (try with_reducible rfl)))) | refine seq_skip rfl rfl rfl ?_ | refine seq_skipc rfl rfl rfl (by assumption) ?_); (try simp only [Act.put, pu1, pu2, pu3, pu4, pu5, pu6]))
              refine seq_done ?_
              clear C0 C1' C2' D0 D1 D2 E1 E2
              go_wp2
              go_roundw
              case rel => exact ⟨k + 1, (t : Int), by omega, rfl, by go_num, hbe8.drew, hX8.drew, hT8.drew, Or.inr ⟨t, rfl, by omega, HN.out⟩⟩
              case measure => simp [intOf]; omega
        · obtain rfl : N = k := by omega
          have HR : Hid (oi (leavQ p s Z D) = z) := Lib.hid (by rw [HLV.out, HDL.out]; exact hB.oi)
          clear hB
          go_wp2
          go_ret
          exact ⟨ret_int' HR.out, hbe⟩

theorem rleaving_any (v1 v2 v3 v4 : Value) (p : LPd) (s : LSt) (Z D : List RF) (K : Nat) (w : World) (h : LpM w v1 p) (h2 : StM w v2 s) (h3 : FrsM w v3 Z) (h4 : FrsM w v4 D) (F : p.Fit K) (S : s.Fit p) (hzl : D.length ≤ Z.length) (hdl : D.length ≤ p.right.length) (hkz : RsL (5 ^ p.right.length * K) Z) (hkd : RsL (5 ^ p.right.length * K) D) :
    Calls Tryz.prog 67 #[v1, v2, v3, v4] w fun e w' => e = .returned (.int .i64 (oi (leavQ p s Z D))) ∧ Below w.heap.size w w' := by
  rcases Nat.eq_zero_or_pos D.length with e | e
  · exact rleaving_0 v1 v2 v3 v4 p s Z D K w h h2 h3 h4 F S hzl hdl hkz hkd (List.eq_nil_of_length_eq_zero e)
  · by_cases hp : s.phase = 2
    · exact rleaving_2 v1 v2 v3 v4 p s Z D K w h h2 h3 h4 F S hzl hdl hkz hkd e hp
    · exact rleaving_1 v1 v2 v3 v4 p s Z D K w h h2 h3 h4 F S hzl hdl hkz hkd e hp
end Go.Proofs.YtpanffbgihhjnaaGreat

/- Walks: package pairingref25: Run. -/
namespace Go.Proofs.YtpanffbgihhjnaaGreat
open Go.RowKit Pl
attribute [local go_sem ↓] Go.wp_at_zero Go.wp_at_succ

namespace Pl
def pivQ (p : LPd) (s : LSt) : Option LSt := if statQ p s = 0 then (match leavQ p s (zL p s) (statD p s) with | none => none | some i => some (settleQ p ⟨s.phase, s.basis.set i (statJ p s), s.pivots + 1⟩)) else none
theorem pivQ_1 {p : LPd} {s : LSt} (h : statQ p s ≠ 0) : pivQ p s = none := by unfold pivQ; rw [if_neg h]
theorem pivQ_2 {p : LPd} {s : LSt} (h : leavQ p s (zL p s) (statD p s) = none) : pivQ p s = none := by unfold pivQ; rw [h]; split <;> rfl
theorem pivQ_3 {p : LPd} {s : LSt} {i : Nat} (h : statQ p s = 0) (h2 : leavQ p s (zL p s) (statD p s) = some i) : pivQ p s = some (settleQ p ⟨s.phase, s.basis.set i (statJ p s), s.pivots + 1⟩) := by unfold pivQ; rw [h2, if_pos h]
def runL (p : LPd) : Nat → LSt → LSt
  | 0, s => s
  | n + 1, s => match pivQ p s with | none => s | some t => runL p n t
theorem runL_stop {p : LPd} {s : LSt} (h : pivQ p s = none) (n : Nat) : runL p n s = s := by cases n with | zero => rfl | succ n => rw [runL, h]
theorem runL_step {p : LPd} {s t : LSt} (h : pivQ p s = some t) (n : Nat) : runL p (n + 1) s = runL p n t := by rw [runL, h]
theorem run_ent {p : LPd} {s : LSt} (h : statQ p s = 0) : ∃ j : Nat, entQ p s = some j ∧ j < p.cols.length ∧ statJ p s = (j : Int) ∧ statD p s = dirL p s (j : Int) := by
  cases he : entQ p s with
  | none => rw [(stat_none he).1] at h; split at h <;> omega
  | some j => exact ⟨j, rfl, by have := (firstNeg_is he).2.1; omega, (stat_some he).2.1, (stat_some he).2.2⟩
theorem solF_lenEq {m : Nat} {cols : Mx} (b b' : Nat → Rat) : (solF m cols b).length = (solF m cols b').length := by
  have h := solveQ_some (m := m) (cols := cols) b b'
  cases h1 : solveQ m cols b with
  | none =>
    cases h2 : solveQ m cols b' with
    | none => rw [solF_none h1, solF_none h2]
    | some x => rw [h1, h2] at h; simp at h
  | some x =>
    cases h2 : solveQ m cols b' with
    | none => rw [h1, h2] at h; simp at h
    | some y => rw [solF_some h1, solF_some h2, canL_length, canL_length]
theorem statD_len {p : LPd} {s : LSt} (h : statQ p s = 0) : (statD p s).length = (zL p s).length := by
  obtain ⟨j, _, _, _, hd⟩ := run_ent h
  rw [hd]
  exact solF_lenEq _ _
theorem statD_B {p : LPd} {s : LSt} {K : Nat} (F : p.Fit K) (h : statQ p s = 0) : RsL (5 ^ p.right.length * K) (statD p s) := by
  obtain ⟨j, _, _, _, hd⟩ := run_ent h
  rw [hd]
  exact dirL_B F s _
theorem set_fit {p : LPd} {s : LSt} (S : s.Fit p) {j : Int} (h0 : 0 ≤ j) (h1 : j < p.cols.length) (i : Nat) (k : Int) : (LSt.mk s.phase (s.basis.set i j) k).Fit p := by
  refine ⟨fun i' z hz => ?_, by show (s.basis.set i j).length = _; rw [List.length_set]; exact S.2⟩
  have hz' : (s.basis.set i j)[i']? = some z := hz
  by_cases e : i = i'
  · subst e
    have hi : i < s.basis.length := by have := (List.getElem?_eq_some_iff.1 hz').1; rwa [List.length_set] at this
    rw [List.getElem?_set_self hi] at hz'
    injection hz' with hz'
    omega
  · rw [List.getElem?_set_ne e] at hz'
    exact S.1 i' z hz'
end Pl
def RunAt (p : LPd) (w : World) (cs : List Value) (T : LSt) (N : Nat) (P : Int) (i : Value) (wr : World) : Prop :=
  ∃ (n : Nat) (t : LSt) (A : Option Addr) (l c : Nat), n ≤ N ∧ i = .int .i64 n ∧ Below w.heap.size w wr ∧ Bk wr w.heap.size 26 cs ∧ Bk wr (w.heap.size + 1) 34 [.int .i64 t.phase, .slice A l c, .int .i64 t.pivots] ∧ Bk wr (w.heap.size + 1 + 1) 34 [.int .i64 0, .slice none 0 0, .int .i64 0] ∧ IntsO w.heap.size wr (.slice A l c) t.basis ∧ t.Fit p ∧ runL p (N - n) t = T ∧ t.pivots ≤ P + n ∧ 0 ≤ t.pivots

set_option maxRecDepth 100000 in
set_option maxHeartbeats 16000000 in
theorem rrun_own (v1 v2 : Value) (p : LPd) (s : LSt) (K N : Nat) (w : World) (h : LpM w v1 p) (h2 : StM w v2 s) (F : p.Fit K) (hz : lpErr p = 0) (hve : vsErr p s = 0) (hN : N ≤ 9223372036854775807) (hpv : s.pivots + N ≤ 9223372036854775807) :
    Calls Tryz.prog 36 #[v1, v2, .int .i64 (N : Int)] w fun e w' => ∃ v', e = .returned (.tuple #[v', .int .i64 0]) ∧ StO w.heap.size w' v' (runL p N (settleQ p s)) ∧ Below w.heap.size w w' := by
  obtain ⟨S, hsv, _⟩ := vs_zero hve
  have hp0 : 0 ≤ s.pivots := by omega
  have HVE := Lib.hid hve
  have HLE := Lib.hid hz
  obtain ⟨TT, hTT⟩ : ∃ T, runL p N (settleQ p s) = T := ⟨_, rfl⟩
  rw [hTT]
  have HTT := Lib.hid hTT
  clear hve hz hsv hTT
  obtain ⟨A, n, c, A', n', c', A'', n'', c'', rfl, hc, hv, hr⟩ := id h
  obtain ⟨Ab, nb, cb, rfl, hI⟩ := id h2
  obtain ⟨W, hW, hX0, hbe0⟩ := box_lp w (.slice A n c) (.slice A' n' c') (.slice A'' n'' c'')
  obtain ⟨W1, hW1, hS0, hbe1⟩ := box_st W (.int .i64 s.phase) (.slice Ab nb cb) (.int .i64 s.pivots)
  have hX := hX0.later hbe1
  have hbe := below_then hbe0 hbe1 hbe0.size
  obtain ⟨b1, b2, b3⟩ := hI.len
  have hsz : W.heap.size = w.heap.size + 1 := by rw [← hW]; simp
  rw [hsz] at hS0
  have HLP := Lib.hid h
  have HST := Lib.hid h2
  have HI := Lib.hid hI
  have HFP := Lib.hid F
  have HFS := Lib.hid S
  have HNB := Lib.hid b1
  have HB1 : Hid (nb = p.right.length) := Lib.hid (by rw [b1]; exact S.2)
  have hnb : nb ≤ 64 := by rw [HB1.out]; exact F.2.2.1
  obtain ⟨x0, x1, x2⟩ := hX.three
  obtain ⟨y0, y1, y2⟩ := hS0.three
  clear h h2 hc hv hr b1 hI hX0 hbe0 hbe1 F S
  obtain ⟨W2, hW2, hR, hbe2⟩ := box_st W1 (.int .i64 0) (.slice none 0 0) (.int .i64 0)
  have hX2 := hX.later hbe2
  have hS2 := hS0.later hbe2
  have hb2 := below_then hbe hbe2 hbe.size
  have hsz1 : W1.heap.size = w.heap.size + 1 + 1 := by rw [← hW1]; simp [hsz]
  rw [hsz1] at hR
  clear x0 x1 x2 y0 y1 y2 hX hS0 hbe hbe2
  obtain ⟨x0, x1, x2⟩ := hX2.three
  obtain ⟨y0, y1, y2⟩ := hS2.three
  have hN0 : 0 ≤ (N : Int) := by omega
  go_enter Tryz.func36, Tryz.ntmps36
  go_wp2_with fail
  clear hW hW1 hW2
  refine (rvalidateState_any _ _ p s K _ (HLP.out.below hb2) (HST.out.below hb2) HFP.out HLE.out).mono ?_
  rw [HVE.out]
  rintro _ w3 ⟨rfl, hb3⟩
  have hX3 := hX2.later hb3
  have hT3 := hS2.later hb3
  have hR3 := hR.later hb3
  have hbe3 := below_then hb2 hb3 hb2.size
  clear x0 x1 x2 y0 y1 y2 hX2 hS2 hR hb2 hb3
  obtain ⟨x0, x1, x2⟩ := hX3.three
  obtain ⟨y0, y1, y2⟩ := hT3.three
  go_wp2_with fail
  refine (rsettle_own _ _ p s K _ (HLP.out.below hbe3) (HST.out.below hbe3) HFP.out HFS.out).mono ?_
  have HT0 := Lib.hid (settleQ_fit HFS.out)
  have HP0 : Hid ((settleQ p s).pivots = s.pivots) := Lib.hid rfl
  generalize settleQ p s = t0 at *
  rintro _ w4 ⟨v4, rfl, ⟨A4, n4, c4, rfl, hI4⟩, hb4⟩
  have hX4 := hX3.later hb4
  have hT4 := hT3.later hb4
  have hR4 := hR3.later hb4
  have hbe4 := below_then hbe3 hb4 hbe3.size
  have hw3 := hbe3.size
  clear x0 x1 x2 y0 y1 y2 hX3 hT3 hR3 hbe3 hb4
  obtain ⟨y0, y1, y2⟩ := hT4.three
  obtain ⟨f0, f1, f2⟩ := hT4.threeF
  obtain ⟨k1, k2, k3, k4⟩ := st_store (B := w.heap.size) (w0 := w) hT4 hbe4 (by omega) (.int .i64 t0.phase) (.slice A4 n4 c4) (.int .i64 t0.pivots)
  go_wp2
  generalize ((w4.setCell ⟨w.heap.size + 1, 0, none⟩ (.int .i64 t0.phase)).setCell ⟨w.heap.size + 1, 1, none⟩ (.slice A4 n4 c4)).setCell ⟨w.heap.size + 1, 2, none⟩ (.int .i64 t0.pivots) = W5 at *
  go_loopw [9] (fun i wr => RunAt p w [.slice A n c, .slice A' n' c', .slice A'' n'' c''] TT N s.pivots i wr) (fun i _ => N - (intOf i).toNat)
  case atStart => exact ⟨0, t0, A4, n4, c4, by omega, rfl, k3, k4 _ _ _ (by omega) hX4, k1, k4 _ _ _ (by omega) hR4, (hI4.monoB hw3).but k2 (by decide), HT0.out, HTT.out, by have := HP0.out; omega, by have := HP0.out; omega⟩
  case round =>
    clear k1 k2 k3 k4 y0 y1 y2 f0 f1 f2 hX4 hT4 hR4 hbe4 hI4
    obtain ⟨n, t, A, l, c, hn, rfl, hbe, hX, hT, hR, hI, hF, hrn, hpp, hpp0⟩ := hrel
    have HF := Lib.hid hF
    have HRN := Lib.hid hrn
    have hms := hI.ints
    have HMT : Hid (StM wr (.agg #[.int .i64 t.phase, .slice A l c, .int .i64 t.pivots]) t) := Lib.hid ⟨A, l, c, rfl, hms⟩
    obtain ⟨l1, l2, l3⟩ := hms.len
    have HL1 := Lib.hid l1
    clear hF hrn hms l1
    obtain ⟨x0, x1, x2⟩ := hX.three
    obtain ⟨y0, y1, y2⟩ := hT.three
    obtain ⟨r0, r1, r2⟩ := hR.three
    obtain ⟨f0, f1, f2⟩ := hR.threeF
    rcases Nat.lt_or_ge n N with hnl | hnl
    rotate_left
    · obtain rfl : N = n := by omega
      have HE : Hid (TT = t) := Lib.hid (by rw [← HRN.out, Nat.sub_self]; rfl)
      go_wp2
      obtain ⟨k1, k2, k3, k4⟩ := st_store (B := w.heap.size) (w0 := w) hR hbe (by omega) (.int .i64 t.phase) (.slice A l c) (.int .i64 t.pivots)
      refine ret_ct Tryz.results36 Tryz.underlying34 (by kernel_rfl) rfl k1 rfl ?_
      exact ⟨_, rfl, ⟨A, l, c, by rw [HE.out], by rw [HE.out]; exact hI.but k2 (by decide)⟩, k3⟩
    have hnI : (n : Int) < N := by omega
    clear r0 r1 r2 f0 f1 f2
    go_wp2_with fail
    refine (rstatus_own _ _ p t K _ (HLP.out.below hbe) HMT.out HFP.out HF.out).mono ?_
    generalize hsq : statQ p t = q
    generalize hsj : statJ p t = j
    have HQ := Lib.hid hsq
    have HJ := Lib.hid hsj
    clear hsq hsj
    rintro _ w5 ⟨v5, rfl, e5, hb5⟩
    have hX5 := hX.later hb5
    have hT5 := hT.later hb5
    have hR5 := hR.later hb5
    have hI5 := hI.below hb5
    have hbe5 := below_then hbe hb5 hbe.size
    have hD5 := e5.frs
    obtain ⟨Ad, nd, cd, rfl⟩ := e5.sliceN
    clear x0 x1 x2 y0 y1 y2 hX hT hR hI hb5 e5 hbe
    by_cases hq : q = 0
    rotate_left
    · have hq' : (q != 0) = true := by simpa using hq
      have HE : Hid (TT = t) := Lib.hid (by rw [← HRN.out]; exact runL_stop (pivQ_1 (by rw [HQ.out]; exact hq)) _)
      clear hq
      obtain ⟨y0, y1, y2⟩ := hT5.three
      obtain ⟨r0, r1, r2⟩ := hR5.three
      obtain ⟨f0, f1, f2⟩ := hR5.threeF
      go_wp2
      obtain ⟨k1, k2, k3, k4⟩ := st_store (B := w.heap.size) (w0 := w) hR5 hbe5 (by omega) (.int .i64 t.phase) (.slice A l c) (.int .i64 t.pivots)
      refine ret_ct Tryz.results36 Tryz.underlying34 (by kernel_rfl) rfl k1 rfl ?_
      exact ⟨_, rfl, ⟨A, l, c, by rw [HE.out], by rw [HE.out]; exact hI5.but k2 (by decide)⟩, k3⟩
    subst hq
    obtain ⟨jn, hje, hjn, hjj, _⟩ := run_ent HQ.out
    have hj0 : 0 ≤ j := by have := HJ.out; omega
    have HJ1 : Hid (j < p.cols.length) := Lib.hid (by have := HJ.out; omega)
    have hj1 : j ≤ 1200 := by have := HJ1.out; have := HFP.out.cols; omega
    clear hje hjn hjj
    obtain ⟨x0, x1, x2⟩ := hX5.three
    obtain ⟨y0, y1, y2⟩ := hT5.three
    have HM5 : Hid (StM w5 (.agg #[.int .i64 t.phase, .slice A l c, .int .i64 t.pivots]) t) := Lib.hid ⟨A, l, c, rfl, hI5.ints⟩
    go_wp2_with fail
    refine (rbasic_own _ _ p t K _ (HLP.out.below hbe5) HM5.out HFP.out HF.out).mono ?_
    rintro _ w6 ⟨v6, rfl, e6, hb6⟩
    have hX6 := hX5.later hb6
    have hT6 := hT5.later hb6
    have hR6 := hR5.later hb6
    have hI6 := hI5.below hb6
    have hbe6 := below_then hbe5 hb6 hbe5.size
    have hD6 := hD5.below hb6
    have hZ6 := e6.frs
    obtain ⟨Az, nz, cz, rfl⟩ := e6.sliceN
    clear x0 x1 x2 y0 y1 y2 hX5 hT5 hR5 hI5 hb6 e6 hbe5 hD5
    obtain ⟨x0, x1, x2⟩ := hX6.three
    obtain ⟨y0, y1, y2⟩ := hT6.three
    have HM6 : Hid (StM w6 (.agg #[.int .i64 t.phase, .slice A l c, .int .i64 t.pivots]) t) := Lib.hid ⟨A, l, c, rfl, hI6.ints⟩
    have HDL := Lib.hid (statD_len HQ.out)
    have HZN : Hid ((zL p t).length ≤ p.right.length) := Lib.hid solF_len
    go_wp2_with fail
    refine (rleaving_any _ _ _ _ p t (zL p t) (statD p t) K _ (HLP.out.below hbe6) HM6.out hZ6 hD6 HFP.out HF.out (by rw [HDL.out]; exact Nat.le_refl _) (by rw [HDL.out]; exact HZN.out) (zL_B HFP.out t) (statD_B HFP.out HQ.out)).mono ?_
    generalize hlo : leavQ p t (zL p t) (statD p t) = lo
    have HLO := Lib.hid hlo
    clear hlo
    rintro _ w7 ⟨rfl, hb7⟩
    have hX7 := hX6.later hb7
    have hT7 := hT6.later hb7
    have hR7 := hR6.later hb7
    have hI7 := hI6.below hb7
    have hbe7 := below_then hbe6 hb7 hbe6.size
    clear x0 x1 x2 y0 y1 y2 hX6 hT6 hR6 hI6 hb7 hbe6 hD6 hZ6
    obtain ⟨y0, y1, y2⟩ := hT7.three
    rcases lo with _ | i
    · rw [show oi none = -1 from rfl]
      have HE : Hid (TT = t) := Lib.hid (by rw [← HRN.out]; exact runL_stop (pivQ_2 HLO.out) _)
      obtain ⟨r0, r1, r2⟩ := hR7.three
      obtain ⟨f0, f1, f2⟩ := hR7.threeF
      go_wp2
      obtain ⟨k1, k2, k3, k4⟩ := st_store (B := w.heap.size) (w0 := w) hR7 hbe7 (by omega) (.int .i64 t.phase) (.slice A l c) (.int .i64 t.pivots)
      refine ret_ct Tryz.results36 Tryz.underlying34 (by kernel_rfl) rfl k1 rfl ?_
      exact ⟨_, rfl, ⟨A, l, c, by rw [HE.out], by rw [HE.out]; exact hI7.but k2 (by decide)⟩, k3⟩
    rw [show oi (some i) = (i : Int) from rfl]
    have hib : i < t.basis.length := by have := leavQ_lt HLO.out; have := HDL.out; have := HZN.out; have := HF.out.len; omega
    have hil : (i : Int) < l := by have := HL1.out; omega
    have hi0 : 0 ≤ (i : Int) := by omega
    obtain ⟨g, cg, hgv, hg1, hg2, hg3, hg4⟩ := hI7.shape (by omega)
    injection hgv with e1 e2 e3
    subst e1
    obtain ⟨z0, hz0⟩ : ∃ z, t.basis[i]? = some z := ⟨_, List.getElem?_eq_getElem hib⟩
    obtain ⟨u0, u1⟩ := hI7.cell_ hz0
    obtain ⟨hI8, hk8, _⟩ := hI7.set_ hib (show -9223372036854775808 ≤ j by omega) (show j ≤ 9223372036854775807 by omega)
    have hX8 := hk8.bk hX7 (by decide)
    have hT8 := hk8.bk hT7 (by decide)
    have hR8 := hk8.bk hR7 (by decide)
    have hbe8 := hbe7.setCell (p := ⟨g, i, none⟩) hg1 (.int .i64 j)
    clear e2 e3 hz0 hg3 hg4
    go_upto_region 16 with (fail)
    clear y0 y1 y2 u0 u1 hX7 hT7 hR7 hI7 hk8 hbe7
    generalize w7.setCell ⟨g, i, none⟩ (.int .i64 j) = W8 at *
    obtain ⟨y0, y1, y2⟩ := hT8.three
    obtain ⟨f0, f1, f2⟩ := hT8.threeF
    have hI9 := hI8.but (KeepBut.setCell hT8 2 (.int .i64 (t.pivots + 1))) (by decide)
    have hX9 := hX8.set_other (g := w.heap.size + 1) (by omega) 2 (.int .i64 (t.pivots + 1))
    have hR9 := hR8.set_other (g := w.heap.size + 1) (by omega) 2 (.int .i64 (t.pivots + 1))
    have hT9 := hT8.set_ 2 (.int .i64 (t.pivots + 1))
    have hbe9 := hbe8.setCell (p := ⟨w.heap.size + 1, 2, none⟩) (by simp) (.int .i64 (t.pivots + 1))
    have hpi : t.pivots + 1 ≤ 9223372036854775807 := by omega
    go_upto_region 17 with (fail)
    clear y0 y1 y2 f0 f1 f2 hX8 hT8 hR8 hI8 hbe8
    generalize W8.setCell ⟨w.heap.size + 1, 2, none⟩ (.int .i64 (t.pivots + 1)) = W9 at *
    obtain ⟨x0, x1, x2⟩ := hX9.three
    obtain ⟨y0, y1, y2⟩ := hT9.three
    have HM9 : Hid (StM W9 (.agg #[.int .i64 t.phase, .slice (some ⟨g, 0, none⟩) l c, .int .i64 (t.pivots + 1)]) ⟨t.phase, t.basis.set i j, t.pivots + 1⟩) := Lib.hid ⟨_, l, c, rfl, hI9.ints⟩
    have HF9 : Hid ((LSt.mk t.phase (t.basis.set i j) (t.pivots + 1)).Fit p) := Lib.hid (set_fit HF.out hj0 HJ1.out i _)
    have HPV := Lib.hid (pivQ_3 HQ.out HLO.out)
    rw [HJ.out] at HPV
    go_wp2_with fail
    refine (rsettle_own _ _ p ⟨t.phase, t.basis.set i j, t.pivots + 1⟩ K _ (HLP.out.below hbe9) HM9.out HFP.out HF9.out).mono ?_
    have HF10 := Lib.hid (settleQ_fit HF9.out)
    have HP10 : Hid ((settleQ p ⟨t.phase, t.basis.set i j, t.pivots + 1⟩).pivots = t.pivots + 1) := Lib.hid rfl
    generalize settleQ p ⟨t.phase, t.basis.set i j, t.pivots + 1⟩ = t2 at *
    rintro _ w10 ⟨v10, rfl, ⟨A5, n5, c5, rfl, hI10⟩, hb10⟩
    have hX10 := hX9.later hb10
    have hT10 := hT9.later hb10
    have hR10 := hR9.later hb10
    have hbe10 := below_then hbe9 hb10 hbe9.size
    have hw9 := hbe9.size
    clear x0 x1 x2 y0 y1 y2 hX9 hT9 hR9 hbe9 hb10 hI9
    obtain ⟨y0, y1, y2⟩ := hT10.three
    obtain ⟨f0, f1, f2⟩ := hT10.threeF
    obtain ⟨k1, k2, k3, k4⟩ := st_store (B := w.heap.size) (w0 := w) hT10 hbe10 (by omega) (.int .i64 t2.phase) (.slice A5 n5 c5) (.int .i64 t2.pivots)
    have HRN2 : Hid (runL p (N - (n + 1)) t2 = TT) := Lib.hid (by rw [← HRN.out, show N - n = (N - (n + 1)) + 1 by omega, runL_step HPV.out])
    go_wp2
    go_roundw
    case rel => exact ⟨n + 1, t2, A5, n5, c5, by omega, by go_num, k3, k4 _ _ _ (by omega) hX10, k1, k4 _ _ _ (by omega) hR10, (hI10.monoB hw9).but k2 (by decide), HF10.out, HRN2.out, by have := HP10.out; omega, by have := HP10.out; omega⟩
    case measure => simp [intOf]; omega

set_option maxRecDepth 100000 in
set_option maxHeartbeats 4000000 in
theorem rrun_err (v1 v2 : Value) (p : LPd) (s : LSt) (K : Nat) (N : Int) (w : World) (h : LpM w v1 p) (h2 : StM w v2 s) (F : p.Fit K) (hz : lpErr p = 0) (hve : vsErr p s ≠ 0) :
    Calls Tryz.prog 36 #[v1, v2, .int .i64 N] w fun e w' => e = .returned (.tuple #[.agg #[.int .i64 0, .slice none 0 0, .int .i64 0], .int .i64 (vsErr p s)]) ∧ Below w.heap.size w w' := by
  obtain ⟨A, n, c, A', n', c', A'', n'', c'', rfl, hc, hv, hr⟩ := id h
  obtain ⟨Ab, nb, cb, rfl, hI⟩ := id h2
  obtain ⟨W, hW, hX0, hbe0⟩ := box_lp w (.slice A n c) (.slice A' n' c') (.slice A'' n'' c'')
  obtain ⟨W1, hW1, hS0, hbe1⟩ := box_st W (.int .i64 s.phase) (.slice Ab nb cb) (.int .i64 s.pivots)
  have hX := hX0.later hbe1
  have hbe := below_then hbe0 hbe1 hbe0.size
  have hsz : W.heap.size = w.heap.size + 1 := by rw [← hW]; simp
  rw [hsz] at hS0
  obtain ⟨W2, hW2, hR, hbe2⟩ := box_st W1 (.int .i64 0) (.slice none 0 0) (.int .i64 0)
  have hX2 := hX.later hbe2
  have hS2 := hS0.later hbe2
  have hb2 := below_then hbe hbe2 hbe.size
  have hsz1 : W1.heap.size = w.heap.size + 1 + 1 := by rw [← hW1]; simp [hsz]
  rw [hsz1] at hR
  have HLP := Lib.hid h
  have HST := Lib.hid h2
  have HFP := Lib.hid F
  have HLE := Lib.hid hz
  clear hX hS0 hbe hbe2 h h2 hc hv hr hI hX0 hbe0 hbe1 F hz
  obtain ⟨x0, x1, x2⟩ := hX2.three
  obtain ⟨y0, y1, y2⟩ := hS2.three
  obtain ⟨q, hq⟩ : ∃ q, vsErr p s = q := ⟨_, rfl⟩
  rw [hq] at hve ⊢
  have HVQ := Lib.hid hq
  clear hq
  go_enter Tryz.func36, Tryz.ntmps36
  go_wp2_with fail
  clear hW hW1 hW2
  refine (rvalidateState_any _ _ p s K _ (HLP.out.below hb2) (HST.out.below hb2) HFP.out HLE.out).mono ?_
  rw [HVQ.out]
  have hq' : (q != 0) = true := by simpa using hve
  clear hve
  rintro _ w3 ⟨rfl, hb3⟩
  have hR3 := hR.later hb3
  have hbe3 := below_then hb2 hb3 hb2.size
  clear x0 x1 x2 y0 y1 y2 hX2 hS2 hR hb2 hb3
  obtain ⟨r0, r1, r2⟩ := hR3.three
  obtain ⟨f0, f1, f2⟩ := hR3.threeF
  go_wp2
  obtain ⟨k1, k2, k3, k4⟩ := st_store (B := w.heap.size) (w0 := w) hR3 hbe3 (by omega) (.int .i64 0) (.slice none 0 0) (.int .i64 0)
  refine ret_ct Tryz.results36 Tryz.underlying34 (by kernel_rfl) rfl k1 rfl ?_
  exact ⟨rfl, k3⟩
end Go.Proofs.YtpanffbgihhjnaaGreat

/- Walks: package pairingref25: Extract. -/
namespace Go.Proofs.YtpanffbgihhjnaaGreat
open Go.RowKit Pl
attribute [local go_sem ↓] Go.wp_at_zero Go.wp_at_succ

namespace Pl
def rayN (t : LSt) (D : List RF) (j : Int) : Nat → Nat → Rat
  | 0 => fun i => if j = (i : Int) then 1 else 0
  | k + 1 => fun i => if t.at_ k = (i : Int) then -qAt D k else rayN t D j k i
theorem rayN_succ (t : LSt) (D : List RF) (j : Int) (k i : Nat) : rayN t D j (k + 1) i = if t.at_ k = (i : Int) then -qAt D k else rayN t D j k i := rfl
def rayL (p : LPd) (t : LSt) : List RF := canL p.cols.length (rayN t (statD p t) (statJ p t) (statD p t).length)
def extP (p : LPd) (t : LSt) : Prf := if statQ p t = 1 then ⟨1, primL p t, dualL p t, []⟩ else if statQ p t = 2 then ⟨2, [], dualL p t, []⟩ else if statQ p t = 3 then ⟨3, primL p t, [], rayL p t⟩ else ⟨0, [], [], []⟩
def extE (p : LPd) (t : LSt) : Int := if statQ p t = 0 then 16 else 0
theorem statQ_cases (p : LPd) (t : LSt) : statQ p t = 0 ∨ statQ p t = 1 ∨ statQ p t = 2 ∨ statQ p t = 3 := by
  cases he : entQ p t with
  | none => rw [(stat_none he).1]; split <;> omega
  | some j => rw [(stat_some he).1]; split <;> omega
theorem ext_0 {p : LPd} {t : LSt} (h : statQ p t = 0) : extP p t = ⟨0, [], [], []⟩ ∧ extE p t = 16 := by unfold extP extE; rw [h]; exact ⟨rfl, rfl⟩
theorem ext_1 {p : LPd} {t : LSt} (h : statQ p t = 1) : extP p t = ⟨1, primL p t, dualL p t, []⟩ ∧ extE p t = 0 := by unfold extP extE; rw [h]; exact ⟨rfl, rfl⟩
theorem ext_2 {p : LPd} {t : LSt} (h : statQ p t = 2) : extP p t = ⟨2, [], dualL p t, []⟩ ∧ extE p t = 0 := by unfold extP extE; rw [h]; exact ⟨rfl, rfl⟩
theorem ext_3 {p : LPd} {t : LSt} (h : statQ p t = 3) : extP p t = ⟨3, primL p t, [], rayL p t⟩ ∧ extE p t = 0 := by unfold extP extE; rw [h]; exact ⟨rfl, rfl⟩
theorem stat3_ent {p : LPd} {s : LSt} (h : statQ p s = 3) : ∃ j : Nat, j < p.cols.length ∧ statJ p s = (j : Int) ∧ statD p s = dirL p s (j : Int) := by
  cases he : entQ p s with
  | none => rw [(stat_none he).1] at h; split at h <;> omega
  | some j => exact ⟨j, by have := (firstNeg_is he).2.1; omega, (stat_some he).2.1, (stat_some he).2.2⟩
theorem rayN_B {t : LSt} {D : List RF} {K : Nat} {j : Int} (h : RsL K D) (hK : 1 ≤ K) : ∀ (k i : Nat), Sz K (rayN t D j k i)
  | 0, i => by unfold rayN; split; exact Sz_one.mono hK; exact Sz_zero.mono hK
  | k + 1, i => by
    unfold rayN
    split
    · exact Sz_neg (h.qAt hK k)
    · exact rayN_B h hK k i
theorem statD_B3 {p : LPd} {s : LSt} {K : Nat} (F : p.Fit K) (h : statQ p s = 3) : RsL (5 ^ p.right.length * K) (statD p s) := by
  obtain ⟨j, _, _, hd⟩ := stat3_ent h
  rw [hd]
  exact dirL_B F s _
theorem rayL_B {p : LPd} {s : LSt} {K : Nat} (F : p.Fit K) (h : statQ p s = 3) : RsL (5 ^ p.right.length * K) (rayL p s) := canL_rs fun i _ => rayN_B (statD_B3 F h) (Nat.le_trans F.k1 F.le) _ i
theorem extP_B {p : LPd} {t : LSt} {K : Nat} (F : p.Fit K) : RsL (5 ^ p.right.length * K) (extP p t).x ∧ RsL (5 ^ p.right.length * K) (extP p t).y ∧ RsL (5 ^ p.right.length * K) (extP p t).ray ∧ (extP p t).x.length ≤ p.cols.length ∧ (extP p t).y.length ≤ p.right.length ∧ (extP p t).ray.length ≤ p.cols.length := by
  have h1 := primL_B F t
  have h2 := dualL_B F t
  have l1 : (primL p t).length ≤ p.cols.length := by unfold primL; rw [canL_length]; exact Nat.le_refl _
  have l2 : (dualL p t).length ≤ p.right.length := solF_len
  rcases statQ_cases p t with h | h | h | h
  · rw [(ext_0 h).1]; exact ⟨RsL.nil _, RsL.nil _, RsL.nil _, by simp, by simp, by simp⟩
  · rw [(ext_1 h).1]; exact ⟨h1, h2, RsL.nil _, l1, l2, by simp⟩
  · rw [(ext_2 h).1]; exact ⟨RsL.nil _, h2, RsL.nil _, by simp, l2, by simp⟩
  · rw [(ext_3 h).1]; exact ⟨h1, RsL.nil _, rayL_B F h, l1, by simp, by show (rayL p t).length ≤ _; unfold rayL; rw [canL_length]; exact Nat.le_refl _⟩
end Pl
theorem KeepBut.set_new {e : TypeId} {w w' : World} {g : Nat} (h : KeepBut e w w') (hg : w.heap.size ≤ g) (i : Nat) (u : Value) : KeepBut e w (w'.setCell ⟨g, i, none⟩ u) := by
  intro b cs t fz ht hb
  rw [heap_setCell_other _ _ _ _ (show b ≠ g from fun e => by have := lt_heap hb; omega)]
  exact h b cs t fz ht hb
theorem prf_store {w w0 : World} {B g : Nat} {x y z u : Value} (hB : Bk w g 29 [x, y, z, u]) (hb : Below B w0 w) (hg : B ≤ g) (x' y' z' u' : Value) :
    Bk ((((w.setCell ⟨g, 0, none⟩ x').setCell ⟨g, 1, none⟩ y').setCell ⟨g, 2, none⟩ z').setCell ⟨g, 3, none⟩ u') g 29 [x', y', z', u'] ∧ KeepBut 29 w ((((w.setCell ⟨g, 0, none⟩ x').setCell ⟨g, 1, none⟩ y').setCell ⟨g, 2, none⟩ z').setCell ⟨g, 3, none⟩ u') ∧ Below B w0 ((((w.setCell ⟨g, 0, none⟩ x').setCell ⟨g, 1, none⟩ y').setCell ⟨g, 2, none⟩ z').setCell ⟨g, 3, none⟩ u') ∧
    ∀ (g' : Nat) (t : TypeId) (cs : List Value), g' ≠ g → Bk w g' t cs → Bk ((((w.setCell ⟨g, 0, none⟩ x').setCell ⟨g, 1, none⟩ y').setCell ⟨g, 2, none⟩ z').setCell ⟨g, 3, none⟩ u') g' t cs := by
  refine ⟨hB.set4 _ _ _ _, (((KeepBut.setCell hB 0 x').trans (KeepBut.setCell (hB.set_ 0 x') 1 y')).trans (KeepBut.setCell ((hB.set_ 0 x').set_ 1 y') 2 z')).trans (KeepBut.setCell (((hB.set_ 0 x').set_ 1 y').set_ 2 z') 3 u'), (((hb.setCell (p := ⟨g, 0, none⟩) hg _).setCell (p := ⟨g, 1, none⟩) hg _).setCell (p := ⟨g, 2, none⟩) hg _).setCell (p := ⟨g, 3, none⟩) hg _, fun g' t cs hne h => h.far4 hne _ _ _ _⟩
theorem frs_nil (w : World) : FrsM w (.slice none 0 0) [] := (FrsO.nil 0 w).frs

set_option maxRecDepth 100000 in
set_option maxHeartbeats 16000000 in
theorem rextract_own (v1 v2 : Value) (p : LPd) (s : LSt) (K : Nat) (w : World) (h : LpM w v1 p) (h2 : StM w v2 s) (F : p.Fit K) (hz : lpErr p = 0) (hve : vsErr p s = 0) :
    Calls Tryz.prog 8 #[v1, v2] w fun e w' => ∃ v', e = .returned (.tuple #[v', .int .i64 (extE p (settleQ p s))]) ∧ PrfM w' v' (extP p (settleQ p s)) ∧ Below w.heap.size w w' := by
  obtain ⟨S, hsv, _⟩ := vs_zero hve
  have HVE := Lib.hid hve
  have HLE := Lib.hid hz
  have HFT := Lib.hid (settleQ_fit S)
  obtain ⟨t, hTT⟩ : ∃ T, settleQ p s = T := ⟨_, rfl⟩
  rw [hTT] at HFT ⊢
  have HTT := Lib.hid hTT
  clear hve hz hsv hTT
  obtain ⟨A, n, c, A', n', c', A'', n'', c'', rfl, hc, hv, hr⟩ := id h
  obtain ⟨Ab, nb, cb, rfl, hI⟩ := id h2
  obtain ⟨W, hW, hX0, hbe0⟩ := box_lp w (.slice A n c) (.slice A' n' c') (.slice A'' n'' c'')
  obtain ⟨W1, hW1, hS0, hbe1⟩ := box_st W (.int .i64 s.phase) (.slice Ab nb cb) (.int .i64 s.pivots)
  have hX := hX0.later hbe1
  have hbe := below_then hbe0 hbe1 hbe0.size
  obtain ⟨b1, b2, b3⟩ := hI.len
  have hsz : W.heap.size = w.heap.size + 1 := by rw [← hW]; simp
  rw [hsz] at hS0
  have HLP := Lib.hid h
  have HST := Lib.hid h2
  have HI := Lib.hid hI
  have HFP := Lib.hid F
  have HFS := Lib.hid S
  have HNB := Lib.hid b1
  have HB1 : Hid (nb = p.right.length) := Lib.hid (by rw [b1]; exact S.2)
  have hnb : nb ≤ 64 := by rw [HB1.out]; exact F.2.2.1
  obtain ⟨x0, x1, x2⟩ := hX.three
  obtain ⟨y0, y1, y2⟩ := hS0.three
  obtain ⟨m1, m2, m3⟩ := hv.len
  have HN1 := Lib.hid m1
  clear h h2 hc hv hr b1 hI hX0 hbe0 hbe1 F S
  clear m1
  have hn' : n' ≤ 1200 := by rw [HN1.out]; exact HFP.out.cols
  obtain ⟨W2, hW2, hR, hbe2⟩ := box_prf W1 (.int .i64 0) (.slice none 0 0) (.slice none 0 0) (.slice none 0 0)
  have hX2 := hX.later hbe2
  have hS2 := hS0.later hbe2
  have hb2 := below_then hbe hbe2 hbe.size
  have hsz1 : W1.heap.size = w.heap.size + 1 + 1 := by rw [← hW1]; simp [hsz]
  rw [hsz1] at hR
  clear x0 x1 x2 y0 y1 y2 hX hS0 hbe hbe2
  obtain ⟨x0, x1, x2⟩ := hX2.three
  obtain ⟨y0, y1, y2⟩ := hS2.three
  go_enter Tryz.func8, Tryz.ntmps8
  go_wp2_with fail
  clear hW hW1 hW2
  refine (rvalidateState_any _ _ p s K _ (HLP.out.below hb2) (HST.out.below hb2) HFP.out HLE.out).mono ?_
  rw [HVE.out]
  rintro _ w3 ⟨rfl, hb3⟩
  have hX3 := hX2.later hb3
  have hT3 := hS2.later hb3
  have hR3 := hR.later hb3
  have hbe3 := below_then hb2 hb3 hb2.size
  clear x0 x1 x2 y0 y1 y2 hX2 hS2 hR hb2 hb3
  obtain ⟨x0, x1, x2⟩ := hX3.three
  obtain ⟨y0, y1, y2⟩ := hT3.three
  go_wp2_with fail
  refine (rsettle_own _ _ p s K _ (HLP.out.below hbe3) (HST.out.below hbe3) HFP.out HFS.out).mono ?_
  rw [HTT.out]
  rintro _ w4 ⟨v4, rfl, ⟨A, l, c, rfl, hI4⟩, hb4⟩
  have hX4 := hX3.later hb4
  have hT4 := hT3.later hb4
  have hR4 := hR3.later hb4
  have hbe4 := below_then hbe3 hb4 hbe3.size
  have hw3 := hbe3.size
  clear x0 x1 x2 y0 y1 y2 hX3 hT3 hR3 hbe3 hb4
  obtain ⟨y0, y1, y2⟩ := hT4.three
  obtain ⟨f0, f1, f2⟩ := hT4.threeF
  obtain ⟨k1, k2, k3, k4⟩ := st_store (B := w.heap.size) (w0 := w) hT4 hbe4 (by omega) (.int .i64 t.phase) (.slice A l c) (.int .i64 t.pivots)
  go_upto_region 5 with (fail)
  have hX5 := k4 _ _ _ (by omega) hX4
  have hR5 := k4 _ _ _ (by omega) hR4
  have hI5 := (hI4.monoB hw3).but k2 (by decide)
  clear y0 y1 y2 f0 f1 f2 hX4 hT4 hR4 hbe4 hI4 k2 k4
  generalize ((w4.setCell ⟨w.heap.size + 1, 0, none⟩ (.int .i64 t.phase)).setCell ⟨w.heap.size + 1, 1, none⟩ (.slice A l c)).setCell ⟨w.heap.size + 1, 2, none⟩ (.int .i64 t.pivots) = W5 at *
  have hT5 := k1
  have hbe5 := k3
  clear k1 k3
  obtain ⟨x0, x1, x2⟩ := hX5.three
  obtain ⟨y0, y1, y2⟩ := hT5.three
  have HMT5 : Hid (StM W5 (.agg #[.int .i64 t.phase, .slice A l c, .int .i64 t.pivots]) t) := Lib.hid ⟨A, l, c, rfl, hI5.ints⟩
  obtain ⟨l1, l2, l3⟩ := hI5.ints.len
  have HL1 := Lib.hid l1
  have HLB : Hid (t.basis.length = p.right.length) := Lib.hid HFT.out.len
  have hl64 : l ≤ 64 := by rw [l1, HLB.out]; exact HFP.out.rows
  clear l1
  go_wp2_with fail
  refine (rstatus_own _ _ p t K _ (HLP.out.below hbe5) HMT5.out HFP.out HFT.out).mono ?_
  have hcas := statQ_cases p t
  generalize hsq : statQ p t = q at hcas ⊢
  generalize hsj : statJ p t = j
  have HQ := Lib.hid hsq
  have HJ := Lib.hid hsj
  clear hsq hsj
  rintro _ w6 ⟨v6, rfl, e6, hb6⟩
  have hD6 := e6.frs
  obtain ⟨Ad, nd, cd, rfl⟩ := e6.sliceN
  obtain ⟨W7, hW7, hP7, hb7⟩ := box_prf w6 (.int .i64 0) (.slice none 0 0) (.slice none 0 0) (.slice none 0 0)
  have hb67 := below_then hb6 hb7 hb6.size
  have hX7 := hX5.later hb67
  have hT7 := hT5.later hb67
  have hR7 := hR5.later hb67
  have hI7 := hI5.below hb67
  have hbe7 := below_then hbe5 hb67 hbe5.size
  have hD7 := hD6.below hb7
  have hgx : w.heap.size + 1 + 1 < w6.heap.size := Nat.lt_of_lt_of_le hR5.lt_ hb6.size
  obtain ⟨gx, hgx'⟩ : ∃ gx, gx = w6.heap.size := ⟨_, rfl⟩
  rw [← hgx'] at hP7 hgx
  clear x0 x1 x2 y0 y1 y2 hX5 hT5 hR5 hI5 hb6 hb7 hb67 hD6 e6
  obtain ⟨p0, p1, p2, p3⟩ := hP7.four
  obtain ⟨g0, g1, g2, g3⟩ := hP7.fourF
  obtain ⟨k1, k2, k3, k4⟩ := prf_store (B := w.heap.size) (w0 := w) hP7 hbe7 (by omega) (.int .i64 q) (.slice none 0 0) (.slice none 0 0) (.slice none 0 0)
  rw [hgx'] at p0 p1 p2 p3 g0 g1 g2 g3
  go_upto_region 7 with (fail)
  rw [← hgx']
  clear hgx' hW7 p0 p1 p2 p3 g0 g1 g2 g3
  have hX8 := k4 _ _ _ (by omega) hX7
  have hT8 := k4 _ _ _ (by omega) hT7
  have hR8 := k4 _ _ _ (by omega) hR7
  have hI8 := hI7.but k2 (by decide)
  have hD8 := hD7.but k2 (by decide) (by decide)
  clear hX7 hT7 hR7 hI7 hD7 hbe7 k2 k4
  generalize (((W7.setCell ⟨gx, 0, none⟩ (.int .i64 q)).setCell ⟨gx, 1, none⟩ (.slice none 0 0)).setCell ⟨gx, 2, none⟩ (.slice none 0 0)).setCell ⟨gx, 3, none⟩ (.slice none 0 0) = W8 at *
  have hP8 := k1
  have hbe8 := k3
  clear k1 k3 hP7
  have HMT8 : Hid (StM W8 (.agg #[.int .i64 t.phase, .slice A l c, .int .i64 t.pivots]) t) := Lib.hid ⟨A, l, c, rfl, hI8.ints⟩
  rcases hcas with rfl | rfl | rfl | rfl
  · obtain ⟨hE1, hE2⟩ := ext_0 HQ.out
    have HE1 := Lib.hid hE1
    have HE2 := Lib.hid hE2
    clear hE1 hE2
    obtain ⟨r0, r1, r2, r3⟩ := hR8.four
    obtain ⟨f0, f1, f2, f3⟩ := hR8.fourF
    obtain ⟨p0, p1, p2, p3⟩ := hP8.four
    go_wp2
    obtain ⟨k1, k2, k3, k4⟩ := prf_store (B := w.heap.size) (w0 := w) hR8 hbe8 (by omega) (.int .i64 0) (.slice none 0 0) (.slice none 0 0) (.slice none 0 0)
    refine ret_ct Tryz.results8 Tryz.underlying29 (by kernel_rfl) rfl k1 rfl ?_
    exact ⟨_, by rw [HE2.out]; rfl, by rw [HE1.out]; exact ⟨none, 0, 0, none, 0, 0, none, 0, 0, rfl, frs_nil _, frs_nil _, frs_nil _, by simp, by simp⟩, k3⟩
  · obtain ⟨hE1, hE2⟩ := ext_1 HQ.out
    have HE1 := Lib.hid hE1
    have HE2 := Lib.hid hE2
    clear hE1 hE2
    obtain ⟨x0, x1, x2⟩ := hX8.three
    obtain ⟨y0, y1, y2⟩ := hT8.three
    go_upto_region 10 with (fail)
    have C0 := stab x0
    have C1 := stab x1
    have C2 := stab x2
    have D0 := stab y0
    have D1 := stab y1
    have D2 := stab y2
    have hS0 := below_drew' W8
    clear x0 x1 x2 y0 y1 y2
    refine region_seq 7 [0, 1, 3, 4, 2, 6, 5, 7, 8, 9] (by kernel_rfl) (by kernel_rfl) ?_
    repeat ((first | (refine seq_takeP (v := ?_) rfl rfl rfl ?_ ?_; rotate_left; (· (intro _ hSw; go_simp; (try go_bits); (try with_reducible rfl)))) | (refine seq_take (v := ?_) rfl rfl rfl ?_ ?_; rotate_left; (· (intro _ hSw; go_simp; (try go_bits); (try with_reducible rfl)))) | refine seq_skip rfl rfl rfl ?_); (try simp only [Act.put, pu1, pu2, pu3, pu4, pu5, pu6]))
    refine seq_step rfl rfl (fun KR hKR => ?_)
    go_simp
    with_reducible refine (rprimal_own _ _ p t K _ ((HLP.out.below hbe8).below hS0) (HMT8.out.below hS0) HFP.out HFT.out).mono ?_
    rintro _ w9 ⟨v9, rfl, e9, hb9⟩
    have hS9 := below_then hS0 hb9 hS0.size
    obtain ⟨A1, n1, c1, rfl⟩ := e9.sliceN
    refine hKR.out _ _ (Or.inr hS9) ?_
    clear hKR KR
    (try simp only [Act.put, pu1, pu2, pu3, pu4, pu5, pu6])
    repeat ((first | (refine seq_takeP (v := ?_) rfl rfl rfl ?_ ?_; rotate_left; (· (intro _ hSw; go_simp; (try go_bits); (try with_reducible rfl)))) | (refine seq_take (v := ?_) rfl rfl rfl ?_ ?_; rotate_left; (· (intro _ hSw; go_simp; (try go_bits); (try with_reducible rfl)))) | refine seq_skip rfl rfl rfl ?_); (try simp only [Act.put, pu1, pu2, pu3, pu4, pu5, pu6]))
    refine seq_step rfl rfl (fun KR hKR => ?_)
    go_simp
    with_reducible refine (rdual_own _ _ p t K _ ((HLP.out.below hbe8).below hS9) (HMT8.out.below hS9) HFP.out HFT.out).mono ?_
    rintro _ w10 ⟨v10, rfl, e10, hb10⟩
    have hS10 := below_then hS9 hb10 hS9.size
    obtain ⟨A2, n2, c2, rfl⟩ := e10.sliceN
    have hP10 := hP8.later hS10
    obtain ⟨p0, p1, p2, p3⟩ := hP10.four
    obtain ⟨g0, g1, g2, g3⟩ := hP10.fourF
    refine hKR.out _ _ (Or.inr hS10) ?_
    clear hKR KR
    (try simp only [Act.put, pu1, pu2, pu3, pu4, pu5, pu6])
    refine seq_step rfl rfl (fun KR hKR => ?_)
    go_simp
    refine hKR.out _ _ (Or.inl (by decide)) ?_
    clear hKR KR
    (try simp only [Act.put, pu1, pu2, pu3, pu4, pu5, pu6])
    refine seq_step rfl rfl (fun KR hKR => ?_)
    go_simp
    refine hKR.out _ _ (Or.inl (by decide)) ?_
    clear hKR KR
    (try simp only [Act.put, pu1, pu2, pu3, pu4, pu5, pu6])
    refine seq_step rfl rfl (fun KR hKR => ?_)
    go_simp
    refine hKR.out _ _ (Or.inl (by decide)) ?_
    clear hKR KR
    (try simp only [Act.put, pu1, pu2, pu3, pu4, pu5, pu6])
    refine seq_done ?_
    clear C0 C1 C2 D0 D1 D2
    have hR10 := hR8.later hS10
    have hbe10 := below_then hbe8 hS10 hbe8.size
    have kb := (KeepBut.setCell hP10 1 (.slice A1 n1 c1)).trans (KeepBut.setCell (hP10.set_ 1 (.slice A1 n1 c1)) 2 (.slice A2 n2 c2))
    have hP11 := (hP10.set_ 1 (.slice A1 n1 c1)).set_ 2 (.slice A2 n2 c2)
    have hR11 := (hR10.set_other (g := gx) (by omega) 1 (.slice A1 n1 c1)).set_other (g := gx) (by omega) 2 (.slice A2 n2 c2)
    have hbe11 := (hbe10.setCell (p := ⟨gx, 1, none⟩) (by simp; omega) (.slice A1 n1 c1)).setCell (p := ⟨gx, 2, none⟩) (by simp; omega) (.slice A2 n2 c2)
    have hZ1 := (e9.frs.below hb10).but kb (by decide) (by decide)
    have hZ2 := e10.frs.but kb (by decide) (by decide)
    clear p0 p1 p2 p3 g0 g1 g2 g3 kb hP10 hR10 hbe10 hP8 hR8 hbe8 hS0 hS9 hS10 hb9 hb10 e9 e10
    go_upto_region 21 with (fail)
    generalize (w10.setCell ⟨gx, 1, none⟩ (.slice A1 n1 c1)).setCell ⟨gx, 2, none⟩ (.slice A2 n2 c2) = W11 at *
    obtain ⟨r0, r1, r2, r3⟩ := hR11.four
    obtain ⟨f0, f1, f2, f3⟩ := hR11.fourF
    obtain ⟨p0, p1, p2, p3⟩ := hP11.four
    go_wp2
    obtain ⟨k1, k2, k3, k4⟩ := prf_store (B := w.heap.size) (w0 := w) hR11 hbe11 (by omega) (.int .i64 1) (.slice A1 n1 c1) (.slice A2 n2 c2) (.slice none 0 0)
    refine ret_ct Tryz.results8 Tryz.underlying29 (by kernel_rfl) rfl k1 rfl ?_
    exact ⟨_, by rw [HE2.out]; rfl, by rw [HE1.out]; exact ⟨_, _, _, _, _, _, _, _, _, rfl, hZ1.but k2 (by decide) (by decide), hZ2.but k2 (by decide) (by decide), frs_nil _, by simp, by simp⟩, k3⟩
  · obtain ⟨hE1, hE2⟩ := ext_2 HQ.out
    have HE1 := Lib.hid hE1
    have HE2 := Lib.hid hE2
    clear hE1 hE2
    obtain ⟨x0, x1, x2⟩ := hX8.three
    obtain ⟨y0, y1, y2⟩ := hT8.three
    go_wp2_with fail
    refine (rdual_own _ _ p t K _ (HLP.out.below hbe8) HMT8.out HFP.out HFT.out).mono ?_
    rintro _ w9 ⟨v9, rfl, e9, hb9⟩
    obtain ⟨A2, n2, c2, rfl⟩ := e9.sliceN
    have hP9 := hP8.later hb9
    have hR9 := hR8.later hb9
    have hbe9 := below_then hbe8 hb9 hbe8.size
    have hP11 := hP9.set_ 2 (.slice A2 n2 c2)
    have hR11 := hR9.set_other (g := gx) (by omega) 2 (.slice A2 n2 c2)
    have hbe11 := hbe9.setCell (p := ⟨gx, 2, none⟩) (by simp; omega) (.slice A2 n2 c2)
    have hZ2 := e9.frs.but (KeepBut.setCell hP9 2 (.slice A2 n2 c2)) (by decide) (by decide)
    clear x0 x1 x2 y0 y1 y2 hP8 hR8 hbe8 hb9 e9 hR9 hbe9
    obtain ⟨p0, p1, p2, p3⟩ := hP9.four
    obtain ⟨g0, g1, g2, g3⟩ := hP9.fourF
    go_upto_region 21 with (fail)
    clear p0 p1 p2 p3 g0 g1 g2 g3 hP9
    generalize w9.setCell ⟨gx, 2, none⟩ (.slice A2 n2 c2) = W11 at *
    obtain ⟨r0, r1, r2, r3⟩ := hR11.four
    obtain ⟨f0, f1, f2, f3⟩ := hR11.fourF
    obtain ⟨p0, p1, p2, p3⟩ := hP11.four
    go_wp2
    obtain ⟨k1, k2, k3, k4⟩ := prf_store (B := w.heap.size) (w0 := w) hR11 hbe11 (by omega) (.int .i64 2) (.slice none 0 0) (.slice A2 n2 c2) (.slice none 0 0)
    refine ret_ct Tryz.results8 Tryz.underlying29 (by kernel_rfl) rfl k1 rfl ?_
    exact ⟨_, by rw [HE2.out]; rfl, by rw [HE1.out]; exact ⟨_, _, _, _, _, _, _, _, _, rfl, frs_nil _, hZ2.but k2 (by decide) (by decide), frs_nil _, by simp, by simp⟩, k3⟩
  · obtain ⟨hE1, hE2⟩ := ext_3 HQ.out
    have HE1 := Lib.hid hE1
    have HE2 := Lib.hid hE2
    obtain ⟨jn, hjn0, hjj, hDD⟩ := stat3_ent HQ.out
    have hjn : jn < n' := by rw [HN1.out]; exact hjn0
    obtain rfl : j = (jn : Int) := by rw [← HJ.out]; exact hjj
    have HDB := Lib.hid (statD_B3 HFP.out HQ.out)
    have HDN : Hid ((statD p t).length ≤ l) := Lib.hid (by rw [HL1.out, HLB.out, hDD]; exact solF_len)
    have HRL : Hid (rayL p t = canL n' (rayN t (statD p t) (jn : Int) (statD p t).length)) := Lib.hid (by unfold rayL; rw [HJ.out, HN1.out])
    have HKB : Hid (5 ^ p.right.length * K ≤ 34359738368) := Lib.hid (by have := HFP.out.ks; omega)
    clear hE1 hE2 hjn0 hjj hDD
    obtain ⟨x0, x1, x2⟩ := hX8.three
    obtain ⟨y0, y1, y2⟩ := hT8.three
    go_upto_region 14 with (fail)
    have C0 := stab x0
    have C1 := stab x1
    have C2 := stab x2
    have D0 := stab y0
    have D1 := stab y1
    have D2 := stab y2
    have hS0 := below_drew' W8
    clear x0 x1 x2 y0 y1 y2
    refine region_seq 8 [0, 1, 3, 4, 5, 2, 7, 6, 8, 9, 10] (by kernel_rfl) (by kernel_rfl) ?_
    repeat ((first | (refine seq_takeP (v := ?_) rfl rfl rfl ?_ ?_; rotate_left; (· (intro _ hSw; go_simp; (try go_bits); (try with_reducible rfl)))) | (refine seq_take (v := ?_) rfl rfl rfl ?_ ?_; rotate_left; (· (intro _ hSw; go_simp; (try go_bits); (try with_reducible rfl)))) | refine seq_skip rfl rfl rfl ?_); (try simp only [Act.put, pu1, pu2, pu3, pu4, pu5, pu6]))
    refine seq_step rfl rfl (fun KR hKR => ?_)
    go_simp
    with_reducible refine (rprimal_own _ _ p t K _ ((HLP.out.below hbe8).below hS0) (HMT8.out.below hS0) HFP.out HFT.out).mono ?_
    rintro _ w9 ⟨v9, rfl, e9, hb9⟩
    have hS9 := below_then hS0 hb9 hS0.size
    obtain ⟨A1, n1, c1, rfl⟩ := e9.sliceN
    refine hKR.out _ _ (Or.inr hS9) ?_
    clear hKR KR
    (try simp only [Act.put, pu1, pu2, pu3, pu4, pu5, pu6])
    repeat ((first | (refine seq_takeP (v := ?_) rfl rfl rfl ?_ ?_; rotate_left; (· (intro _ hSw; go_simp; (try go_bits); (try with_reducible rfl)))) | (refine seq_take (v := ?_) rfl rfl rfl ?_ ?_; rotate_left; (· (intro _ hSw; go_simp; (try go_bits); (try with_reducible rfl)))) | refine seq_skip rfl rfl rfl ?_); (try simp only [Act.put, pu1, pu2, pu3, pu4, pu5, pu6]))
    refine seq_step rfl rfl (fun KR hKR => ?_)
    go_simp
    with_reducible refine (zeros_own n' _ (by omega)).mono ?_
    rw [canL_zero]
    rintro _ w10 ⟨v10, rfl, e10, hb10⟩
    have hS10 := below_then hS9 hb10 hS9.size
    obtain ⟨A2, n2, c2, rfl⟩ := e10.sliceN
    have hP10 := hP8.later hS10
    obtain ⟨p0, p1, p2, p3⟩ := hP10.four
    obtain ⟨g0, g1, g2, g3⟩ := hP10.fourF
    refine hKR.out _ _ (Or.inr hS10) ?_
    clear hKR KR
    (try simp only [Act.put, pu1, pu2, pu3, pu4, pu5, pu6])
    refine seq_step rfl rfl (fun KR hKR => ?_)
    go_simp
    refine hKR.out _ _ (Or.inl (by decide)) ?_
    clear hKR KR
    (try simp only [Act.put, pu1, pu2, pu3, pu4, pu5, pu6])
    refine seq_step rfl rfl (fun KR hKR => ?_)
    go_simp
    refine hKR.out _ _ (Or.inl (by decide)) ?_
    clear hKR KR
    (try simp only [Act.put, pu1, pu2, pu3, pu4, pu5, pu6])
    refine seq_step rfl rfl (fun KR hKR => ?_)
    go_simp
    refine hKR.out _ _ (Or.inl (by decide)) ?_
    clear hKR KR
    (try simp only [Act.put, pu1, pu2, pu3, pu4, pu5, pu6])
    refine seq_done ?_
    clear C0 C1 C2 D0 D1 D2
    have hR10 := hR8.later hS10
    have hT10 := hT8.later hS10
    have hI10 := hI8.below hS10
    have hD10 := hD8.below hS10
    have hbe10 := below_then hbe8 hS10 hbe8.size
    have kb := (KeepBut.setCell hP10 1 (.slice A1 n1 c1)).trans (KeepBut.setCell (hP10.set_ 1 (.slice A1 n1 c1)) 3 (.slice A2 n2 c2))
    have hP12 := (hP10.set_ 1 (.slice A1 n1 c1)).set_ 3 (.slice A2 n2 c2)
    have hR12 := (hR10.set_other (g := gx) (by omega) 1 (.slice A1 n1 c1)).set_other (g := gx) (by omega) 3 (.slice A2 n2 c2)
    have hT12 := kb.bk hT10 (by decide)
    have hbe12 := (hbe10.setCell (p := ⟨gx, 1, none⟩) (by simp; omega) (.slice A1 n1 c1)).setCell (p := ⟨gx, 3, none⟩) (by simp; omega) (.slice A2 n2 c2)
    have hZ12 := (e9.frs.below hb10).but kb (by decide) (by decide)
    have hO12 := e10.but kb (by decide) (by decide)
    have hI12 := hI10.but kb (by decide)
    have hD12 := hD10.but kb (by decide) (by decide)
    have hk9 : KeepBut 29 w9 ((w10.setCell ⟨gx, 1, none⟩ (.slice A1 n1 c1)).setCell ⟨gx, 3, none⟩ (.slice A2 n2 c2)) := (KeepBut.of_below hb10).trans kb
    have hT9 := hT8.later hS9
    have hI9 := hI8.below hS9
    have hD9 := hD8.below hS9
    have hZ9 := e9.frs
    have hwx : w.heap.size ≤ w9.heap.size := by have := hbe8.size; have := hS9.size; omega
    clear p0 p1 p2 p3 g0 g1 g2 g3 kb hP10 hR10 hbe10 hP8 hR8 hbe8 hS0 hS9 hS10 hb9 hb10 e9 e10 hT10 hI10 hD10 hX8 hT8 hI8 hD8
    have HVS : Hid (∃ a d, Value.slice A2 n2 c2 = .slice a n' d ∧ n' ≤ d ∧ d ≤ 9223372036854775807) := Lib.hid (by
      have := hO12.frs.shape
      rw [canL_length] at this
      exact this)
    obtain ⟨a2, d2, hsl, hd21, hd22⟩ := HVS.out
    injection hsl with e1 e2 e3
    subst e1 e2 e3
    clear HVS
    obtain ⟨p0, p1, p2, p3⟩ := hP12.four
    go_upto_region 15 with (fail)
    generalize (w10.setCell ⟨gx, 1, none⟩ (.slice A1 n1 c1)).setCell ⟨gx, 3, none⟩ (.slice A2 n2 c2) = W12 at *
    have C0 := stab p0
    have C1 := stab p1
    have C2 := stab p2
    have C3 := stab p3
    have hS0 := below_drew' W12
    have hjI : (jn : Int) < n2 := by omega
    obtain ⟨g, cg, hvg, hg1, hg2, hg3, hg4⟩ := hO12.shape (by rw [canL_length]; omega)
    rw [canL_length] at hvg
    injection hvg with e1 e2 e3
    subst e1 e3
    clear p0 p1 p2 p3 e2
    refine region_seq 5 [0, 1, 2, 3, 4, 5] (by kernel_rfl) (by kernel_rfl) ?_
    repeat ((first | (refine seq_takeP (v := ?_) rfl rfl rfl ?_ ?_; rotate_left; (· (intro _ hSw; go_simp; (try go_bits); (try with_reducible rfl)))) | (refine seq_take (v := ?_) rfl rfl rfl ?_ ?_; rotate_left; (· (intro _ hSw; go_simp; (try go_bits); (try with_reducible rfl)))) | refine seq_skip rfl rfl rfl ?_); (try simp only [Act.put, pu1, pu2, pu3, pu4, pu5, pu6]))
    refine seq_step rfl rfl (fun KR hKR => ?_)
    go_simp
    with_reducible refine (rint_own 1 _ (by omega) (by omega)).mono ?_
    rw [show ((1 : Int) : Rat) = 1 from rfl]
    rintro _ w13 ⟨v13, rfl, e13, hb13⟩
    have hS13 := below_then hS0 hb13 hS0.size
    obtain ⟨E1, l9, k9, E2, l9', k9', rfl, _, _⟩ := id e13.frac
    have hO13 := hO12.below hS13
    obtain ⟨_, _, _, _, ⟨t0, t1, t2, t3⟩, ⟨f0, f1, f2, f3⟩, _⟩ := hO13.at_ (canL_get (f := fun _ => 0) hjn)
    refine hKR.out _ _ (Or.inr hS13) ?_
    clear hKR KR
    (try simp only [Act.put, pu1, pu2, pu3, pu4, pu5, pu6])
    repeat ((first | (refine seq_takeP (v := ?_) rfl rfl rfl ?_ ?_; rotate_left; (· (intro _ hSw; go_simp; (try go_bits); (try with_reducible rfl)))) | (refine seq_take (v := ?_) rfl rfl rfl ?_ ?_; rotate_left; (· (intro _ hSw; go_simp; (try go_bits); (try with_reducible rfl)))) | refine seq_skip rfl rfl rfl ?_); (try simp only [Act.put, pu1, pu2, pu3, pu4, pu5, pu6]))
    refine seq_step rfl rfl (fun KR hKR => ?_)
    go_simp
    refine hKR.out _ _ (Or.inl (by decide)) ?_
    clear hKR KR
    (try simp only [Act.put, pu1, pu2, pu3, pu4, pu5, pu6])
    refine seq_done ?_
    obtain ⟨hO14, hk14⟩ := hO13.set_ (k := jn) (by rw [canL_length]; exact hjn) e13.frac
    have HSET : Hid ((canL n2 fun _ => 0).set jn (canF 1) = canL n2 (rayN t (statD p t) (jn : Int) 0)) := Lib.hid (by
      rw [canL_set hjn]
      exact canL_congr fun i _ => by
        unfold rayN
        by_cases e : i = jn
        · rw [if_pos e, if_pos (by omega)]
        · rw [if_neg e, if_neg (by omega)])
    rw [HSET.out] at hO14
    have hP14 := hk14.bk (hP12.later hS13) (by decide)
    have hR14 := hk14.bk (hR12.later hS13) (by decide)
    have hbe14 := below_set4' (below_then hbe12 hS13 hbe12.size) (Nat.le_trans hwx hg1) (jn * 4) (jn * 4 + 1) (jn * 4 + 2) (jn * 4 + 3) (.bool (canF 1).num.neg) (.slice E1 l9 k9) (.bool (canF 1).den.neg) (.slice E2 l9' k9')
    have hk9' := ((((hk9.trans (KeepBut.of_below hS13)).set_new hg1 (jn * 4) (.bool (canF 1).num.neg)).set_new hg1 (jn * 4 + 1) (.slice E1 l9 k9)).set_new hg1 (jn * 4 + 2) (.bool (canF 1).den.neg)).set_new hg1 (jn * 4 + 3) (.slice E2 l9' k9')
    clear C0 C1 C2 C3 t0 t1 t2 t3 f0 f1 f2 f3 hk14 hk9 hO13 hO12 hP12 hR12 hT12 hbe12 hZ12 hI12 hD12 hS0 hS13 hb13 e13 HSET
    obtain ⟨nd1, nd2, nd3⟩ := hD9.len
    have HND := Lib.hid nd1
    have hndl : nd ≤ l := by rw [nd1]; exact HDN.out
    clear nd1
    generalize hDq : statD p t = D at *
    go_wp2
    generalize (((w13.setCell ⟨g, jn * 4, none⟩ (.bool (canF 1).num.neg)).setCell ⟨g, jn * 4 + 1, none⟩ (.slice E1 l9 k9)).setCell ⟨g, jn * 4 + 2, none⟩ (.bool (canF 1).den.neg)).setCell ⟨g, jn * 4 + 3, none⟩ (.slice E2 l9' k9') = W14 at *
    go_loopw [11] (fun i wr => ∃ k : Nat, k ≤ nd ∧ i = .int .i64 k ∧ Below w.heap.size w wr ∧ KeepBut 29 w9 wr ∧ Bk wr (w.heap.size + 1 + 1) 29 [.int .i64 0, .slice none 0 0, .slice none 0 0, .slice none 0 0] ∧ Bk wr gx 29 [.int .i64 3, .slice A1 n1 c1, .slice none 0 0, .slice (some ⟨g, 0, none⟩) n2 c2] ∧ FrsO w9.heap.size wr (.slice (some ⟨g, 0, none⟩) n2 c2) (canL n2 (rayN t D (jn : Int) k))) (fun i _ => nd - (intOf i).toNat)
    case atStart => exact ⟨0, by omega, rfl, hbe14, hk9', hR14, hP14, hO14⟩
    case round =>
      clear hbe14 hk9' hR14 hP14 hO14
      obtain ⟨k, hk, rfl, hbe, hkr, hR, hP, hO⟩ := hrel
      have hT := hkr.bk hT9 (by decide)
      rcases Nat.lt_or_ge k nd with hkl | hkl
      · obtain ⟨bb, bo, hA, hall⟩ := (hI9.but hkr (by decide)).ints.all (show 0 < l by omega)
        have c1 : wr.cell? ⟨bb, bo + k, none⟩ = some (.int .i64 (t.at_ k)) := hall k (by omega)
        obtain ⟨z, hz⟩ : ∃ z, t.basis[k]? = some z := ⟨_, List.getElem?_eq_getElem (by have := HL1.out; omega)⟩
        obtain ⟨i0, i1⟩ := HFT.out.1 k z hz
        rw [LSt.at_eq hz] at c1
        have HAT := Lib.hid (LSt.at_eq hz)
        have HI1 : Hid (z < n2) := Lib.hid (by rw [HN1.out]; exact i1)
        subst hA
        obtain ⟨y0, y1, y2⟩ := hT.three
        have hkI : (k : Int) < nd := by omega
        have hkI2 : (k : Int) < l := by omega
        clear hall hz i0 i1
        rcases Int.lt_or_le z 0 with hz0 | hz0
        · have HP : Hid (canL n2 (rayN t D (jn : Int) k) = canL n2 (rayN t D (jn : Int) (k + 1))) := Lib.hid (canL_congr fun j _ => by rw [rayN_succ, HAT.out, if_neg (by omega)])
          have hO2 := hO
          rw [HP.out] at hO2
          go_wp2
          go_roundw
          case rel => exact ⟨k + 1, by omega, by go_num, hbe, hkr, hR, hP, hO2⟩
          case measure => simp [intOf]; omega
        · obtain ⟨f, hf⟩ := get_some (fs := D) (i := k) (by rw [← HND.out]; exact hkl)
          obtain ⟨b', off', B1, m1, k1, B2, m2, k2, hAd, hlt, ⟨q0, q1, q2, q3⟩, hmf⟩ := (hD9.but hkr (by decide) (by decide)).elem (Below.refl _ _) hf
          subst hAd
          have hsf : f.Sh := (HDB.out k f hf).sh HKB.out
          have HFQ : Hid (canF (-f.q) = canF (-qAt D k)) := Lib.hid (by rw [qAt_some hf])
          obtain ⟨bn, rfl⟩ := Int.eq_ofNat_of_zero_le hz0
          have hbn : bn < n2 := by have := HI1.out; omega
          have hbI : (bn : Int) < n2 := by omega
          obtain ⟨p0, p1, p2, p3⟩ := hP.four
          clear hf
          go_upto_region 20 with (fail)
          have C0 := stab p0
          have C1 := stab p1
          have C2 := stab p2
          have C3 := stab p3
          have D0 := stab y0
          have D1 := stab y1
          have D2 := stab y2
          have E0 := stab c1
          have Q0 := stab q0
          have Q1 := stab q1
          have Q2 := stab q2
          have Q3 := stab q3
          have hS0 := below_drew' wr
          clear p0 p1 p2 p3 y0 y1 y2 c1 q0 q1 q2 q3
          refine region_seq 13 [0, 1, 2, 3, 4, 5, 6, 7, 8, 9, 10, 11, 12, 13] (by kernel_rfl) (by kernel_rfl) ?_
          repeat ((first | (refine seq_takeP (v := ?_) rfl rfl rfl ?_ ?_; rotate_left; (· (intro _ hSw; go_simp; (try go_bits); (try with_reducible rfl)))) | (refine seq_take (v := ?_) rfl rfl rfl ?_ ?_; rotate_left; (· (intro _ hSw; go_simp; (try go_bits); (try with_reducible rfl)))) | refine seq_skip rfl rfl rfl ?_); (try simp only [Act.put, pu1, pu2, pu3, pu4, pu5, pu6]))
          refine seq_step rfl rfl (fun KR hKR => ?_)
          go_simp
          with_reducible refine (rnegateF_own _ f _ (hmf.below hS0) hsf).mono ?_
          rw [HFQ.out]
          rintro _ w6 ⟨v6, rfl, e6, hb6⟩
          have hS6 := below_then hS0 hb6 hS0.size
          obtain ⟨E1, l9, k9, E2, l9', k9', rfl, _, _⟩ := id e6.frac
          have hO6 := hO.below hS6
          obtain ⟨_, _, _, _, ⟨t0, t1, t2, t3⟩, ⟨f0, f1, f2, f3⟩, _⟩ := hO6.at_ (canL_get hbn)
          refine hKR.out _ _ (Or.inr hS6) ?_
          clear hKR KR
          (try simp only [Act.put, pu1, pu2, pu3, pu4, pu5, pu6])
          repeat ((first | (refine seq_takeP (v := ?_) rfl rfl rfl ?_ ?_; rotate_left; (· (intro _ hSw; go_simp; (try go_bits); (try with_reducible rfl)))) | (refine seq_take (v := ?_) rfl rfl rfl ?_ ?_; rotate_left; (· (intro _ hSw; go_simp; (try go_bits); (try with_reducible rfl)))) | refine seq_skip rfl rfl rfl ?_); (try simp only [Act.put, pu1, pu2, pu3, pu4, pu5, pu6]))
          refine seq_step rfl rfl (fun KR hKR => ?_)
          go_simp
          refine hKR.out _ _ (Or.inl (by decide)) ?_
          clear hKR KR
          (try simp only [Act.put, pu1, pu2, pu3, pu4, pu5, pu6])
          refine seq_done ?_
          obtain ⟨hO7, hk7⟩ := hO6.set_ (k := bn) (by rw [canL_length]; exact hbn) e6.frac
          have HSET : Hid ((canL n2 (rayN t D (jn : Int) k)).set bn (canF (-qAt D k)) = canL n2 (rayN t D (jn : Int) (k + 1))) := Lib.hid (by
            rw [canL_set hbn]
            exact canL_congr fun i _ => by
              rw [rayN_succ, HAT.out]
              by_cases e : i = bn
              · rw [if_pos e, if_pos (by omega)]
              · rw [if_neg e, if_neg (by omega)])
          rw [HSET.out] at hO7
          have hP7 := hk7.bk (hP.later hS6) (by decide)
          have hR7 := hk7.bk (hR.later hS6) (by decide)
          have hbe7 := below_set4' (below_then hbe hS6 hbe.size) (Nat.le_trans hwx hg1) (bn * 4) (bn * 4 + 1) (bn * 4 + 2) (bn * 4 + 3) (.bool (canF (-qAt D k)).num.neg) (.slice E1 l9 k9) (.bool (canF (-qAt D k)).den.neg) (.slice E2 l9' k9')
          have hkr7 := ((((hkr.trans (KeepBut.of_below hS6)).set_new hg1 (bn * 4) (.bool (canF (-qAt D k)).num.neg)).set_new hg1 (bn * 4 + 1) (.slice E1 l9 k9)).set_new hg1 (bn * 4 + 2) (.bool (canF (-qAt D k)).den.neg)).set_new hg1 (bn * 4 + 3) (.slice E2 l9' k9')
          clear C0 C1 C2 C3 D0 D1 D2 E0 Q0 Q1 Q2 Q3 t0 t1 t2 t3 f0 f1 f2 f3
          go_wp2
          go_roundw
          case rel => exact ⟨k + 1, by omega, by go_num, hbe7, hkr7, hR7, hP7, hO7⟩
          case measure => simp [intOf]; omega
      · obtain rfl : nd = k := by omega
        have HRL2 : Hid (rayL p t = canL n2 (rayN t D (jn : Int) nd)) := Lib.hid (by rw [HRL.out, HND.out])
        have hZ1 := hZ9.but hkr (by decide) (by decide)
        obtain ⟨r0, r1, r2, r3⟩ := hR.four
        obtain ⟨f0, f1, f2, f3⟩ := hR.fourF
        obtain ⟨p0, p1, p2, p3⟩ := hP.four
        go_wp2
        obtain ⟨k1, k2, k3, k4⟩ := prf_store (B := w.heap.size) (w0 := w) hR hbe (by omega) (.int .i64 3) (.slice A1 n1 c1) (.slice none 0 0) (.slice (some ⟨g, 0, none⟩) n2 c2)
        refine ret_ct Tryz.results8 Tryz.underlying29 (by kernel_rfl) rfl k1 rfl ?_
        exact ⟨_, by rw [HE2.out]; rfl, by rw [HE1.out]; exact ⟨_, _, _, _, _, _, _, _, _, rfl, hZ1.but k2 (by decide) (by decide), frs_nil _, by show FrsM _ _ (rayL p t); rw [HRL2.out]; exact (hO.frs).but k2 (by decide) (by decide), by simp, by simp⟩, k3⟩

set_option maxRecDepth 100000 in
set_option maxHeartbeats 4000000 in
theorem rextract_err (v1 v2 : Value) (p : LPd) (s : LSt) (K : Nat) (w : World) (h : LpM w v1 p) (h2 : StM w v2 s) (F : p.Fit K) (hz : lpErr p = 0) (hve : vsErr p s ≠ 0) :
    Calls Tryz.prog 8 #[v1, v2] w fun e w' => e = .returned (.tuple #[.agg #[.int .i64 0, .slice none 0 0, .slice none 0 0, .slice none 0 0], .int .i64 (vsErr p s)]) ∧ Below w.heap.size w w' := by
  obtain ⟨A, n, c, A', n', c', A'', n'', c'', rfl, hc, hv, hr⟩ := id h
  obtain ⟨Ab, nb, cb, rfl, hI⟩ := id h2
  obtain ⟨W, hW, hX0, hbe0⟩ := box_lp w (.slice A n c) (.slice A' n' c') (.slice A'' n'' c'')
  obtain ⟨W1, hW1, hS0, hbe1⟩ := box_st W (.int .i64 s.phase) (.slice Ab nb cb) (.int .i64 s.pivots)
  have hX := hX0.later hbe1
  have hbe := below_then hbe0 hbe1 hbe0.size
  have hsz : W.heap.size = w.heap.size + 1 := by rw [← hW]; simp
  rw [hsz] at hS0
  obtain ⟨W2, hW2, hR, hbe2⟩ := box_prf W1 (.int .i64 0) (.slice none 0 0) (.slice none 0 0) (.slice none 0 0)
  have hX2 := hX.later hbe2
  have hS2 := hS0.later hbe2
  have hb2 := below_then hbe hbe2 hbe.size
  have hsz1 : W1.heap.size = w.heap.size + 1 + 1 := by rw [← hW1]; simp [hsz]
  rw [hsz1] at hR
  have HLP := Lib.hid h
  have HST := Lib.hid h2
  have HFP := Lib.hid F
  have HLE := Lib.hid hz
  clear hX hS0 hbe hbe2 h h2 hc hv hr hI hX0 hbe0 hbe1 F hz
  obtain ⟨x0, x1, x2⟩ := hX2.three
  obtain ⟨y0, y1, y2⟩ := hS2.three
  obtain ⟨q, hq⟩ : ∃ q, vsErr p s = q := ⟨_, rfl⟩
  rw [hq] at hve ⊢
  have HVQ := Lib.hid hq
  clear hq
  go_enter Tryz.func8, Tryz.ntmps8
  go_wp2_with fail
  clear hW hW1 hW2
  refine (rvalidateState_any _ _ p s K _ (HLP.out.below hb2) (HST.out.below hb2) HFP.out HLE.out).mono ?_
  rw [HVQ.out]
  have hq' : (q != 0) = true := by simpa using hve
  clear hve
  rintro _ w3 ⟨rfl, hb3⟩
  have hR3 := hR.later hb3
  have hbe3 := below_then hb2 hb3 hb2.size
  clear x0 x1 x2 y0 y1 y2 hX2 hS2 hR hb2 hb3
  obtain ⟨r0, r1, r2, r3⟩ := hR3.four
  obtain ⟨f0, f1, f2, f3⟩ := hR3.fourF
  go_wp2
  obtain ⟨k1, k2, k3, k4⟩ := prf_store (B := w.heap.size) (w0 := w) hR3 hbe3 (by omega) (.int .i64 0) (.slice none 0 0) (.slice none 0 0) (.slice none 0 0)
  refine ret_ct Tryz.results8 Tryz.underlying29 (by kernel_rfl) rfl k1 rfl ?_
  exact ⟨rfl, k3⟩
end Go.Proofs.YtpanffbgihhjnaaGreat

/- The law ProofFeasible, walked: the exact result of IsFeasible. -/
namespace Go.Proofs.YtpanffbgihhjnaaGreat
open Go.RowKit Pl
attribute [local go_sem ↓] Go.wp_at_zero Go.wp_at_succ

namespace Pl
theorem RsL.set {k i : Nat} {fs : List RF} (h : RsL k fs) {f : RF} (hf : f.Rs k) : RsL k (fs.set i f) := fun j g hg => by
  rcases Nat.lt_or_ge i fs.length with hi | hi
  · by_cases hji : i = j
    · subst hji; rw [List.getElem?_set_self hi] at hg; injection hg with hg; subst hg; exact hf
    · rw [List.getElem?_set_ne hji] at hg; exact h j g hg
  · rw [List.set_eq_of_length_le hi] at hg; exact h j g hg
end Pl

end Go.Proofs.YtpanffbgihhjnaaGreat

/- Walks: package pairinglaw26: made. -/
namespace Go.Proofs.YtpanffbgihhjnaaGreat
open Go.RowKit Pl
attribute [local go_sem ↓] Go.wp_at_zero Go.wp_at_succ

def Apart (a b : Value) : Prop := ∀ g, a.ownBlock = some g → b.ownBlock ≠ some g
theorem Apart.symm {a b : Value} (h : Apart a b) : Apart b a := fun g hb ha => h g ha hb
theorem FrsO.apart {b : Nat} {w w' : World} {v1 v2 : Value} {fs1 fs2 : List RF} (h1 : FrsO b w v1 fs1) (h2 : FrsO w.heap.size w' v2 fs2) : Apart v1 v2 := fun g hg hg2 => by
  obtain ⟨cs, o1, _⟩ := h1
  obtain ⟨cs', o2, _⟩ := h2
  have a1 := own_lt' o1 g hg
  have a2 := (o2.lt g hg2).1
  omega
theorem FrsO.far4k {base : Nat} {w : World} {g i j k l : Nat} {x y z u v : Value} {fs : List RF} (h : FrsO base w v fs) (hk : Keep w ((((w.setCell ⟨g, i, none⟩ x).setCell ⟨g, j, none⟩ y).setCell ⟨g, k, none⟩ z).setCell ⟨g, l, none⟩ u)) (hne : v.ownBlock ≠ some g) :
    FrsO base ((((w.setCell ⟨g, i, none⟩ x).setCell ⟨g, j, none⟩ y).setCell ⟨g, k, none⟩ z).setCell ⟨g, l, none⟩ u) v fs :=
  h.others (((Others.of_set.trans Others.of_set).trans Others.of_set).trans Others.of_set) hk (fun b hb e => hne (hb.trans e))
def MadeAt (U : World) (x : Prf) (s7 : Value) (wx : World) : Prop :=
  ∃ g A1 n1 c1 A2 n2 c2 A3 n3 c3, s7 = .pointer (some ⟨g, 0, none⟩) ∧ U.heap.size ≤ g ∧ Bk wx g 29 [.int .i64 x.st, .slice A1 n1 c1, .slice A2 n2 c2, .slice A3 n3 c3] ∧ FrsO U.heap.size wx (.slice A1 n1 c1) x.x ∧ FrsO U.heap.size wx (.slice A2 n2 c2) x.y ∧ FrsO U.heap.size wx (.slice A3 n3 c3) x.ray ∧ (Apart (.slice A1 n1 c1) (.slice A2 n2 c2) ∧ Apart (.slice A1 n1 c1) (.slice A3 n3 c3) ∧ Apart (.slice A2 n2 c2) (.slice A3 n3 c3)) ∧ Below U.heap.size U wx
theorem MadeAt.mk {U w : World} {g : Nat} {x : Prf} {a b c d : Value} {A1 A2 A3 : Option Addr} {n1 c1 n2 c2 n3 c3 : Nat} (hB : Bk w g 29 [a, b, c, d]) (h1 : FrsO U.heap.size w (.slice A1 n1 c1) x.x) (h2 : FrsO U.heap.size w (.slice A2 n2 c2) x.y) (h3 : FrsO U.heap.size w (.slice A3 n3 c3) x.ray)
    (hap : Apart (.slice A1 n1 c1) (.slice A2 n2 c2) ∧ Apart (.slice A1 n1 c1) (.slice A3 n3 c3) ∧ Apart (.slice A2 n2 c2) (.slice A3 n3 c3)) (hb : Below U.heap.size U w) (hg : U.heap.size ≤ g) :
    MadeAt U x (.pointer (some ⟨g, 0, none⟩)) ((((w.setCell ⟨g, 0, none⟩ (.int .i64 x.st)).setCell ⟨g, 1, none⟩ (.slice A1 n1 c1)).setCell ⟨g, 2, none⟩ (.slice A2 n2 c2)).setCell ⟨g, 3, none⟩ (.slice A3 n3 c3)) := by
  obtain ⟨k1, k2, k3, k4⟩ := prf_store (B := U.heap.size) (w0 := U) hB hb hg (.int .i64 x.st) (.slice A1 n1 c1) (.slice A2 n2 c2) (.slice A3 n3 c3)
  exact ⟨g, A1, n1, c1, A2, n2, c2, A3, n3, c3, rfl, hg, k1, h1.but k2 (by decide) (by decide), h2.but k2 (by decide) (by decide), h3.but k2 (by decide) (by decide), hap, k3⟩
def MadePost (w : World) (K : Nat) (e : Ending) (w' : World) : Prop := ∃ v' y, e = .returned v' ∧ PrfM w' v' y ∧ RsL K y.x ∧ RsL K y.y ∧ RsL K y.ray ∧ Below w.heap.size w w'

set_option maxRecDepth 100000 in
set_option maxHeartbeats 32000000 in
theorem made_any (v1 v2 v3 : Value) (p : LPd) (x : Prf) (zl : List Int) (K : Nat) (w : World) (h : LpM w v1 p) (h2 : PrfM w v2 x) (hl : IntsM w v3 zl) (hK8 : 8 ≤ K) (hkx : RsL K x.x) (hky : RsL K x.y) (hkr : RsL K x.ray) (hlx : x.x.length ≤ 1000) (hly : x.y.length ≤ 1000) (hlr : x.ray.length ≤ 1000) (hp1 : p.right.length ≤ 64) (hp2 : p.cols.length ≤ 1000) :
    Calls Tryz.prog 10 #[v1, v2, v3] w (MadePost w K) := by
  obtain ⟨A, n, c, A', N, c', A'', m, c'', rfl, hc, hv, hr⟩ := id h
  obtain ⟨B, lx, d, B', ly, d', B'', lr, d'', rfl, hxx, hxy, hxr, s1, s2⟩ := id h2
  obtain ⟨al, cl, rfl, _, _⟩ := hl.shape
  generalize hnl : zl.length = nl at *
  clear hnl
  obtain ⟨W, hW, hX0, hbe0⟩ := box_lp w (.slice A n c) (.slice A' N c') (.slice A'' m c'')
  obtain ⟨W1, hW1, hY0, hbe1⟩ := box_prf W (.int .i64 x.st) (.slice B lx d) (.slice B' ly d') (.slice B'' lr d'')
  have hsz : W.heap.size = w.heap.size + 1 := by rw [← hW]; simp
  rw [hsz] at hY0
  obtain ⟨W2, hW2, hR0, hbe2⟩ := box_prf W1 (.int .i64 0) (.slice none 0 0) (.slice none 0 0) (.slice none 0 0)
  have hsz1 : W1.heap.size = w.heap.size + 1 + 1 := by rw [← hW1]; simp [hsz]
  rw [hsz1] at hR0
  have hb01 := below_then hbe0 hbe1 hbe0.size
  have hbe := below_then hb01 hbe2 hb01.size
  have hX2 := (hX0.later hbe1).later hbe2
  have hY2 := hY0.later hbe2
  obtain ⟨m1, m2, m3⟩ := hv.len
  obtain ⟨r1, r2, r3⟩ := hr.len
  have hN : N ≤ 1000 := by omega
  have hm : m ≤ 64 := by omega
  have HL1 : Hid (x.x.length ≤ 1099511627776 - 1) := Lib.hid (by omega)
  have HL2 : Hid (x.y.length ≤ 1099511627776 - 1) := Lib.hid (by omega)
  have HL3 : Hid (x.ray.length ≤ 1099511627776 - 1) := Lib.hid (by omega)
  have HST : Hid (-9223372036854775808 ≤ x.st ∧ x.st ≤ 9223372036854775807) := Lib.hid ⟨s1, s2⟩
  have HKX := Lib.hid hkx
  have HKY := Lib.hid hky
  have HKR := Lib.hid hkr
  have hw2 : w.heap.size + 1 + 1 < W2.heap.size := hR0.lt_
  clear hX0 hY0 hbe0 hbe1 hbe2 hb01 hkx hky hkr m1 r1 hc hv hr h h2 s1 s2 hlx hly hlr hp1 hp2
  go_enter Tryz.func10, Tryz.ntmps10
  go_upto_region 1 with (fail)
  clear hW hW1 hW2
  go_cut [7] (fun s7 wx => MadeAt W2 x s7 wx)
  case first =>
    obtain ⟨y0, y1, y2, y3⟩ := hY2.four
    have C0 := stab y0
    have C1 := stab y1
    have C2 := stab y2
    have C3 := stab y3
    have hS0 := below_drew' W2
    clear y0 y1 y2 y3
    refine region_plan 13 (.go 0 (.go 1 (.go 2 (.go 3 (.go 5 (.go 6 (.go 8 (.go 9 (.fork 4 (.fork 7 (.fork 10 (.go 11 (.go 12 (.go 13 .done))) 12 (.go 10 (.go 11 (.go 13 .done)))) 12 (.go 7 (.go 10 (.go 11 (.go 13 .done))))) 12 (.go 4 (.go 7 (.go 10 (.go 11 (.go 13 .done)))))))))))))) (by kernel_rfl) (by kernel_rfl) ?_
    repeat ((first | (refine plan_takeP (v := ?_) rfl rfl rfl ?_ ?_; rotate_left; (· (intro _ hSw; go_simp; (try go_bits); (try with_reducible rfl)))) | (refine plan_take (v := ?_) rfl rfl rfl ?_ ?_; rotate_left; (· (intro _ hSw; go_simp; (try go_bits); (try with_reducible rfl)))) | refine plan_skip rfl rfl rfl ?_ | refine plan_skipc rfl rfl rfl (by assumption) ?_); (try simp only [Act.put, pu1, pu2, pu3, pu4, pu5, pu6]))
    refine plan_fork rfl rfl (fun KR hKR => ?_) (fun KR hKR => ?_)
    · obtain ⟨u1, w1, hrun1, hO1, hb1⟩ := run_append_copy 23 W2.drew (.slice B lx d) x.x ((hxx.below hbe).below hS0) (Nat.le_trans HL1.out (by decide))
      obtain ⟨A1, n1, c1, rfl⟩ := hO1.sliceN
      have hS1 := below_then hS0 hb1 hS0.size
      replace hO1 := hO1.monoB hS0.size
      refine op_append_run _ _ rfl rfl rfl rfl hrun1 ?_
      refine hKR.out _ _ (Or.inr hS1) ?_
      clear hKR KR hrun1
      (try simp only [Act.put, pu1, pu2, pu3, pu4, pu5, pu6])
      refine plan_fork rfl rfl (fun KR hKR => ?_) (fun KR hKR => ?_)
      · obtain ⟨u2, w2, hrun2, hO2, hb2⟩ := run_append_copy 23 w1 (.slice B' ly d') x.y ((hxy.below hbe).below hS1) (Nat.le_trans HL2.out (by decide))
        obtain ⟨A2, n2, c2, rfl⟩ := hO2.sliceN
        have hS2 := below_then hS1 hb2 hS1.size
        have ap12 := FrsO.apart hO1 hO2
        replace hO1 := hO1.below hb2
        replace hO2 := hO2.monoB hS1.size
        refine op_append_run _ _ rfl rfl rfl rfl hrun2 ?_
        refine hKR.out _ _ (Or.inr hS2) ?_
        clear hKR KR hrun2
        (try simp only [Act.put, pu1, pu2, pu3, pu4, pu5, pu6])
        refine plan_fork rfl rfl (fun KR hKR => ?_) (fun KR hKR => ?_)
        · obtain ⟨u3, w3, hrun3, hO3, hb3⟩ := run_append_copy 23 w2 (.slice B'' lr d'') x.ray ((hxr.below hbe).below hS2) (Nat.le_trans HL3.out (by decide))
          obtain ⟨A3, n3, c3, rfl⟩ := hO3.sliceN
          have hS3 := below_then hS2 hb3 hS2.size
          have ap13 := FrsO.apart hO1 hO3
          replace hO1 := hO1.below hb3
          have ap23 := FrsO.apart hO2 hO3
          replace hO2 := hO2.below hb3
          replace hO3 := hO3.monoB hS2.size
          refine op_append_run _ _ rfl rfl rfl rfl hrun3 ?_
          refine hKR.out _ _ (Or.inr hS3) ?_
          clear hKR KR hrun3
          (try simp only [Act.put, pu1, pu2, pu3, pu4, pu5, pu6])
          repeat ((first | (refine plan_takeP (v := ?_) rfl rfl rfl ?_ ?_; rotate_left; (· (intro _ hSw; go_simp; (try go_bits); (try with_reducible rfl)))) | (refine plan_take (v := ?_) rfl rfl rfl ?_ ?_; rotate_left; (· (intro _ hSw; go_simp; (try go_bits); (try with_reducible rfl)))) | refine plan_skip rfl rfl rfl ?_ | refine plan_skipc rfl rfl rfl (by assumption) ?_); (try simp only [Act.put, pu1, pu2, pu3, pu4, pu5, pu6]))
          obtain ⟨WG, hWG, hGG, hbG⟩ := box_prf w3 (.int .i64 0) (.slice none 0 0) (.slice none 0 0) (.slice none 0 0)
          have hge := hS3.size
          have hSG := below_then hS3 hbG hS3.size
          replace hO1 := hO1.below hbG
          replace hO2 := hO2.below hbG
          replace hO3 := hO3.below hbG
          refine plan_step rfl rfl (fun KR hKR => ?_)
          go_simp
          refine hKR.out _ _ (Or.inr hSG) ?_
          clear hKR KR hWG
          (try simp only [Act.put, pu1, pu2, pu3, pu4, pu5, pu6])
          obtain ⟨t0, t1, t2, t3⟩ := hGG.four
          obtain ⟨f0, f1, f2, f3⟩ := hGG.fourF
          refine plan_step rfl rfl (fun KR hKR => ?_)
          go_simp
          refine hKR.out _ _ (Or.inl (by decide)) ?_
          clear hKR KR
          (try simp only [Act.put, pu1, pu2, pu3, pu4, pu5, pu6])
          refine plan_done ?_
          go_wp2_with fail
          go_meet
          exact MadeAt.mk hGG hO1 hO2 hO3 ⟨ap12, ap13, ap23⟩ hSG hge
        · obtain ⟨WG, hWG, hGG, hbG⟩ := box_prf w2 (.int .i64 0) (.slice none 0 0) (.slice none 0 0) (.slice none 0 0)
          have hge := hS2.size
          have hSG := below_then hS2 hbG hS2.size
          replace hO1 := hO1.below hbG
          replace hO2 := hO2.below hbG
          go_simp
          refine hKR.out _ _ (Or.inr hSG) ?_
          clear hKR KR hWG
          (try simp only [Act.put, pu1, pu2, pu3, pu4, pu5, pu6])
          obtain ⟨u3, w3, hrun3, hO3, hb3⟩ := run_append_copy 23 WG (.slice B'' lr d'') x.ray ((hxr.below hbe).below hSG) (Nat.le_trans HL3.out (by decide))
          obtain ⟨A3, n3, c3, rfl⟩ := hO3.sliceN
          have hS3 := below_then hSG hb3 hSG.size
          have ap13 := FrsO.apart hO1 hO3
          replace hO1 := hO1.below hb3
          have ap23 := FrsO.apart hO2 hO3
          replace hO2 := hO2.below hb3
          replace hGG := hGG.later hb3
          replace hO3 := hO3.monoB hSG.size
          refine plan_step rfl rfl (fun KR hKR => ?_)
          refine op_append_run _ _ rfl rfl rfl rfl hrun3 ?_
          refine hKR.out _ _ (Or.inr hS3) ?_
          clear hKR KR hrun3
          (try simp only [Act.put, pu1, pu2, pu3, pu4, pu5, pu6])
          repeat ((first | (refine plan_takeP (v := ?_) rfl rfl rfl ?_ ?_; rotate_left; (· (intro _ hSw; go_simp; (try go_bits); (try with_reducible rfl)))) | (refine plan_take (v := ?_) rfl rfl rfl ?_ ?_; rotate_left; (· (intro _ hSw; go_simp; (try go_bits); (try with_reducible rfl)))) | refine plan_skip rfl rfl rfl ?_ | refine plan_skipc rfl rfl rfl (by assumption) ?_); (try simp only [Act.put, pu1, pu2, pu3, pu4, pu5, pu6]))
          obtain ⟨t0, t1, t2, t3⟩ := hGG.four
          obtain ⟨f0, f1, f2, f3⟩ := hGG.fourF
          refine plan_step rfl rfl (fun KR hKR => ?_)
          go_simp
          refine hKR.out _ _ (Or.inl (by decide)) ?_
          clear hKR KR
          (try simp only [Act.put, pu1, pu2, pu3, pu4, pu5, pu6])
          refine plan_done ?_
          go_wp2_with fail
          go_meet
          exact MadeAt.mk hGG hO1 hO2 hO3 ⟨ap12, ap13, ap23⟩ hS3 hge
      · obtain ⟨WG, hWG, hGG, hbG⟩ := box_prf w1 (.int .i64 0) (.slice none 0 0) (.slice none 0 0) (.slice none 0 0)
        have hge := hS1.size
        have hSG := below_then hS1 hbG hS1.size
        replace hO1 := hO1.below hbG
        go_simp
        refine hKR.out _ _ (Or.inr hSG) ?_
        clear hKR KR hWG
        (try simp only [Act.put, pu1, pu2, pu3, pu4, pu5, pu6])
        obtain ⟨u2, w2, hrun2, hO2, hb2⟩ := run_append_copy 23 WG (.slice B' ly d') x.y ((hxy.below hbe).below hSG) (Nat.le_trans HL2.out (by decide))
        obtain ⟨A2, n2, c2, rfl⟩ := hO2.sliceN
        have hS2 := below_then hSG hb2 hSG.size
        have ap12 := FrsO.apart hO1 hO2
        replace hO1 := hO1.below hb2
        replace hGG := hGG.later hb2
        replace hO2 := hO2.monoB hSG.size
        refine plan_step rfl rfl (fun KR hKR => ?_)
        refine op_append_run _ _ rfl rfl rfl rfl hrun2 ?_
        refine hKR.out _ _ (Or.inr hS2) ?_
        clear hKR KR hrun2
        (try simp only [Act.put, pu1, pu2, pu3, pu4, pu5, pu6])
        obtain ⟨u3, w3, hrun3, hO3, hb3⟩ := run_append_copy 23 w2 (.slice B'' lr d'') x.ray ((hxr.below hbe).below hS2) (Nat.le_trans HL3.out (by decide))
        obtain ⟨A3, n3, c3, rfl⟩ := hO3.sliceN
        have hS3 := below_then hS2 hb3 hS2.size
        have ap13 := FrsO.apart hO1 hO3
        replace hO1 := hO1.below hb3
        replace hGG := hGG.later hb3
        have ap23 := FrsO.apart hO2 hO3
        replace hO2 := hO2.below hb3
        replace hO3 := hO3.monoB hS2.size
        refine plan_step rfl rfl (fun KR hKR => ?_)
        refine op_append_run _ _ rfl rfl rfl rfl hrun3 ?_
        refine hKR.out _ _ (Or.inr hS3) ?_
        clear hKR KR hrun3
        (try simp only [Act.put, pu1, pu2, pu3, pu4, pu5, pu6])
        repeat ((first | (refine plan_takeP (v := ?_) rfl rfl rfl ?_ ?_; rotate_left; (· (intro _ hSw; go_simp; (try go_bits); (try with_reducible rfl)))) | (refine plan_take (v := ?_) rfl rfl rfl ?_ ?_; rotate_left; (· (intro _ hSw; go_simp; (try go_bits); (try with_reducible rfl)))) | refine plan_skip rfl rfl rfl ?_ | refine plan_skipc rfl rfl rfl (by assumption) ?_); (try simp only [Act.put, pu1, pu2, pu3, pu4, pu5, pu6]))
        obtain ⟨t0, t1, t2, t3⟩ := hGG.four
        obtain ⟨f0, f1, f2, f3⟩ := hGG.fourF
        refine plan_step rfl rfl (fun KR hKR => ?_)
        go_simp
        refine hKR.out _ _ (Or.inl (by decide)) ?_
        clear hKR KR
        (try simp only [Act.put, pu1, pu2, pu3, pu4, pu5, pu6])
        refine plan_done ?_
        go_wp2_with fail
        go_meet
        exact MadeAt.mk hGG hO1 hO2 hO3 ⟨ap12, ap13, ap23⟩ hS3 hge
    · obtain ⟨WG, hWG, hGG, hbG⟩ := box_prf W2.drew (.int .i64 0) (.slice none 0 0) (.slice none 0 0) (.slice none 0 0)
      have hge := hS0.size
      have hSG := below_then hS0 hbG hS0.size
      go_simp
      refine hKR.out _ _ (Or.inr hSG) ?_
      clear hKR KR hWG
      (try simp only [Act.put, pu1, pu2, pu3, pu4, pu5, pu6])
      change Bk WG W2.heap.size 29 _ at hGG
      obtain ⟨u1, w1, hrun1, hO1, hb1⟩ := run_append_copy 23 WG (.slice B lx d) x.x ((hxx.below hbe).below hSG) (Nat.le_trans HL1.out (by decide))
      obtain ⟨A1, n1, c1, rfl⟩ := hO1.sliceN
      have hS1 := below_then hSG hb1 hSG.size
      replace hGG := hGG.later hb1
      replace hO1 := hO1.monoB hSG.size
      refine plan_step rfl rfl (fun KR hKR => ?_)
      refine op_append_run _ _ rfl rfl rfl rfl hrun1 ?_
      refine hKR.out _ _ (Or.inr hS1) ?_
      clear hKR KR hrun1
      (try simp only [Act.put, pu1, pu2, pu3, pu4, pu5, pu6])
      obtain ⟨u2, w2, hrun2, hO2, hb2⟩ := run_append_copy 23 w1 (.slice B' ly d') x.y ((hxy.below hbe).below hS1) (Nat.le_trans HL2.out (by decide))
      obtain ⟨A2, n2, c2, rfl⟩ := hO2.sliceN
      have hS2 := below_then hS1 hb2 hS1.size
      replace hGG := hGG.later hb2
      have ap12 := FrsO.apart hO1 hO2
      replace hO1 := hO1.below hb2
      replace hO2 := hO2.monoB hS1.size
      refine plan_step rfl rfl (fun KR hKR => ?_)
      refine op_append_run _ _ rfl rfl rfl rfl hrun2 ?_
      refine hKR.out _ _ (Or.inr hS2) ?_
      clear hKR KR hrun2
      (try simp only [Act.put, pu1, pu2, pu3, pu4, pu5, pu6])
      obtain ⟨u3, w3, hrun3, hO3, hb3⟩ := run_append_copy 23 w2 (.slice B'' lr d'') x.ray ((hxr.below hbe).below hS2) (Nat.le_trans HL3.out (by decide))
      obtain ⟨A3, n3, c3, rfl⟩ := hO3.sliceN
      have hS3 := below_then hS2 hb3 hS2.size
      replace hGG := hGG.later hb3
      have ap13 := FrsO.apart hO1 hO3
      replace hO1 := hO1.below hb3
      have ap23 := FrsO.apart hO2 hO3
      replace hO2 := hO2.below hb3
      replace hO3 := hO3.monoB hS2.size
      refine plan_step rfl rfl (fun KR hKR => ?_)
      refine op_append_run _ _ rfl rfl rfl rfl hrun3 ?_
      refine hKR.out _ _ (Or.inr hS3) ?_
      clear hKR KR hrun3
      (try simp only [Act.put, pu1, pu2, pu3, pu4, pu5, pu6])
      repeat ((first | (refine plan_takeP (v := ?_) rfl rfl rfl ?_ ?_; rotate_left; (· (intro _ hSw; go_simp; (try go_bits); (try with_reducible rfl)))) | (refine plan_take (v := ?_) rfl rfl rfl ?_ ?_; rotate_left; (· (intro _ hSw; go_simp; (try go_bits); (try with_reducible rfl)))) | refine plan_skip rfl rfl rfl ?_ | refine plan_skipc rfl rfl rfl (by assumption) ?_); (try simp only [Act.put, pu1, pu2, pu3, pu4, pu5, pu6]))
      obtain ⟨t0, t1, t2, t3⟩ := hGG.four
      obtain ⟨f0, f1, f2, f3⟩ := hGG.fourF
      refine plan_step rfl rfl (fun KR hKR => ?_)
      go_simp
      refine hKR.out _ _ (Or.inl (by decide)) ?_
      clear hKR KR
      (try simp only [Act.put, pu1, pu2, pu3, pu4, pu5, pu6])
      refine plan_done ?_
      go_wp2_with fail
      go_meet
      exact MadeAt.mk hGG hO1 hO2 hO3 ⟨ap12, ap13, ap23⟩ hS3 hge
  case rest =>

    obtain ⟨gy, A1, n1, c1, A2, n2, c2, A3, n3, c3, rfl, hgy, hP3, hO13, hO23, hO33, ⟨hap12, hap13, hap23⟩, hb3⟩ := hcut
    have hX3 := hX2.later hb3
    have hR3 := hR0.later hb3
    have hbe3 := below_then hbe hb3 hbe.size
    have hwb := hbe.size
    clear hX2 hY2 hR0 hb3 hbe
    go_wp2_with fail
    refine (at_any _ zl 1 _ (hl.below hbe3) (by omega)).mono ?_
    rintro _ w4 ⟨z1, rfl, hz10, hz11, hb4⟩
    go_wp2_with fail
    refine (at_any _ zl 2 _ (hl.below (below_then hbe3 hb4 hbe3.size)) (by omega)).mono ?_
    rintro _ w5 ⟨z2, rfl, hz20, hz21, hb5⟩
    go_wp2_with fail
    refine (wild_any z2 _).mono ?_
    rintro _ w6 ⟨v6, f, rfl, e6, hf8, hb6⟩
    have hb45 := below_then hb4 hb5 hb4.size
    have hb46 := below_then hb45 hb6 hb45.size
    obtain ⟨E1, l9, k9, E2, l9', k9', rfl, _, _⟩ := id e6
    obtain ⟨W7, hW7, hF7, hb7⟩ := boxF1 w6 (.bool f.num.neg) (.slice E1 l9 k9) (.bool f.den.neg) (.slice E2 l9' k9')
    have hb47 := below_then hb46 hb7 hb46.size
    have hbe7 := below_then hbe3 hb47 hbe3.size
    go_wp2_with fail
    clear hW7
    refine (at_any _ zl 0 _ (hl.below hbe7) (by omega)).mono ?_
    rintro _ wS ⟨z0, rfl, hz00, hz01, hb8⟩
    have hb38 := below_then hb47 hb8 hb47.size
    have hP := hP3.later hb38
    have hX := hX3.later hb38
    have hR := hR3.later hb38
    have hO1 := (hO13.below hb38).monoB hwb
    have hO2 := (hO23.below hb38).monoB hwb
    have hO3 := (hO33.below hb38).monoB hwb
    have hbe := below_then hbe3 hb38 hbe3.size
    have hF := hF7.later hb8
    have eF := (e6.below hb7).below hb8
    clear hP3 hX3 hR3 hO13 hO23 hO33 hbe3 hb4 hb5 hb6 hb45 hb46 hb7 hb47 hbe7 hb8 hb38 hF7 e6
    have hr8 : 0 ≤ z0 % 8 ∧ z0 % 8 < 8 := by omega
    generalize hz8 : z0 % 8 = z8 at *
    have hcs : z8 = 0 ∨ z8 = 1 ∨ z8 = 2 ∨ z8 = 3 ∨ z8 = 4 ∨ z8 = 5 ∨ z8 = 6 ∨ z8 = 7 := by omega
    clear hr8
    rcases hcs with rfl | rfl | rfl | rfl | rfl | rfl | rfl | rfl
    · obtain ⟨p0, p1, p2, p3⟩ := hP.four
      obtain ⟨g0, g1, g2, g3⟩ := hP.fourF
      have h61 : 0 ≤ z1 % 6 := by omega
      have h62 : z1 % 6 < 6 := by omega
      generalize hz6 : z1 % 6 = z6 at *
      have hkP := KeepBut.setCell hP 0 (.int .i64 (z6 - 1))
      have hP8 := hP.set_ 0 (.int .i64 (z6 - 1))
      have hR8 := hR.set_other (g := gy) (by omega) 0 (.int .i64 (z6 - 1))
      have hbe8 := hbe.setCell (p := ⟨gy, 0, none⟩) (by simp; omega) (.int .i64 (z6 - 1))
      have hZ1 := (hO1.but hkP (by decide) (by decide)).frs
      have hZ2 := (hO2.but hkP (by decide) (by decide)).frs
      have hZ3 := (hO3.but hkP (by decide) (by decide)).frs
      go_upto_region 22 with (fail)
      clear p0 p1 p2 p3 g0 g1 g2 g3 hkP
      generalize wS.setCell ⟨gy, 0, none⟩ (.int .i64 (z6 - 1)) = wE at *
      obtain ⟨p0, p1, p2, p3⟩ := hP8.four
      obtain ⟨r0, r1, r2, r3⟩ := hR8.four
      obtain ⟨g0, g1, g2, g3⟩ := hR8.fourF
      go_wp2
      obtain ⟨k1, k2, k3, k4⟩ := prf_store (B := w.heap.size) (w0 := w) hR8 hbe8 (by omega) (.int .i64 (z6 - 1)) (.slice A1 n1 c1) (.slice A2 n2 c2) (.slice A3 n3 c3)
      refine ret_cell Tryz.results10 Tryz.underlying29 (by kernel_rfl) rfl k1 rfl ?_
      exact ⟨_, ⟨z6 - 1, x.x, x.y, x.ray⟩, rfl, ⟨_, _, _, _, _, _, _, _, _, rfl, FrsM.but hZ1 k2 (by decide) (by decide), FrsM.but hZ2 k2 (by decide) (by decide), FrsM.but hZ3 k2 (by decide) (by decide), (show (-9223372036854775808 : Int) ≤ z6 - 1 by omega), (show z6 - 1 ≤ (9223372036854775807 : Int) by omega)⟩, HKX.out, HKY.out, HKR.out, k3⟩
    · by_cases hz0 : n1 = 0
      · have hz1 : (n1 : Int) ≤ 0 := by omega
        clear hz0
        obtain ⟨p0, p1, p2, p3⟩ := hP.four
        obtain ⟨r0, r1, r2, r3⟩ := hR.four
        obtain ⟨g0, g1, g2, g3⟩ := hR.fourF
        go_wp2
        obtain ⟨k1, k2, k3, k4⟩ := prf_store (B := w.heap.size) (w0 := w) hR hbe (by omega) (.int .i64 x.st) (.slice A1 n1 c1) (.slice A2 n2 c2) (.slice A3 n3 c3)
        refine ret_cell Tryz.results10 Tryz.underlying29 (by kernel_rfl) rfl k1 rfl ?_
        exact ⟨_, x, rfl, ⟨_, _, _, _, _, _, _, _, _, rfl, FrsM.but hO1.frs k2 (by decide) (by decide), FrsM.but hO2.frs k2 (by decide) (by decide), FrsM.but hO3.frs k2 (by decide) (by decide), HST.out.1, HST.out.2⟩, HKX.out, HKY.out, HKR.out, k3⟩
      have hzp : 0 < n1 := by omega
      have hzI : 0 < (n1 : Int) := by omega
      obtain ⟨r, hr, hrl⟩ : ∃ r : Nat, z1 % (n1 : Int) = (r : Int) ∧ r < n1 := ⟨(z1 % (n1 : Int)).toNat, by rw [Int.toNat_of_nonneg (Int.emod_nonneg _ (by omega))], by have := Int.emod_lt_of_pos z1 (show (0 : Int) < n1 by omega); have := Int.emod_nonneg z1 (show (n1 : Int) ≠ 0 by omega); omega⟩
      obtain ⟨l1, l2, l3⟩ := hO1.frs.len
      have HLN := Lib.hid l1
      obtain ⟨gz, czz, hzsh, hgz1, hgz2, _, _⟩ := hO1.shape (by omega)
      injection hzsh with e1 e2 e3
      subst e1
      have hrI : (r : Int) < n1 := by omega
      obtain ⟨f0', hf0'⟩ := get_some (fs := x.x) (i := r) (by omega)
      have hnz : ¬ n1 = 0 := hz0
      clear hz0 e2 e3 l1
      obtain ⟨p0, p1, p2, p3⟩ := hP.four
      obtain ⟨q0, q1, q2, q3⟩ := hF.four
      go_upto_region 9 with (fail)
      have hQD := hO1.below (below_drew' wS)
      obtain ⟨_, _, _, _, ⟨t0, t1, t2, t3⟩, ⟨g0, g1, g2, g3⟩, _⟩ := hQD.at_ hf0'
      have hfD := eF.below (below_drew' wS)
      have hRD := hR.drew
      have hPD := hP.drew
      have hbeD := hbe.drew
      have hV2 := hO2.below (below_drew' wS)
      have HA2 := Lib.hid (hap12 gz rfl)
      have hV3 := hO3.below (below_drew' wS)
      have HA3 := Lib.hid (hap13 gz rfl)
      have C0 := stab p0
      have C1 := stab p1
      have C2 := stab p2
      have C3 := stab p3
      have D0 := stab q0
      have D1 := stab q1
      have D2 := stab q2
      have D3 := stab q3
      clear p0 p1 p2 p3 q0 q1 q2 q3
      refine region_seq 9 [0, 1, 2, 3, 4, 5, 6, 7, 8, 9] (by kernel_rfl) (by kernel_rfl) ?_
      generalize wS.drew = wD at *
      repeat ((first | (refine seq_takeP (v := ?_) rfl rfl rfl ?_ ?_; rotate_left; (· (intro _ hSw; go_simp; (try go_bits); (try with_reducible rfl)))) | (refine seq_take (v := ?_) rfl rfl rfl ?_ ?_; rotate_left; (· (intro _ hSw; go_simp; (try go_bits); (try with_reducible rfl)))) | refine seq_skip rfl rfl rfl ?_); (try simp only [Act.put, pu1, pu2, pu3, pu4, pu5, pu6]))
      refine seq_step rfl rfl (fun KR hKR => ?_)
      go_simp
      refine hKR.out _ _ (Or.inl (by decide)) ?_
      clear hKR KR
      (try simp only [Act.put, pu1, pu2, pu3, pu4, pu5, pu6])
      refine seq_done ?_
      obtain ⟨hQ2, hk2⟩ := hQD.set_ (k := r) (by have := HLN.out; omega) hfD
      have hU2 := FrsO.far4k hV2 (hk2.keep (by decide)) HA2.out
      have hU3 := FrsO.far4k hV3 (hk2.keep (by decide)) HA3.out
      have hP2 := hk2.bk hPD (by decide)
      have hR2 := hk2.bk hRD (by decide)
      have hbe2 := below_set4' hbeD hgz1 (r * 4) (r * 4 + 1) (r * 4 + 2) (r * 4 + 3) (.bool f.num.neg) (.slice E1 l9 k9) (.bool f.den.neg) (.slice E2 l9' k9')
      clear C0 C1 C2 C3 D0 D1 D2 D3 t0 t1 t2 t3 g0 g1 g2 g3
      go_upto_region 22 with (fail)
      generalize (((wD.setCell ⟨gz, r * 4, none⟩ (.bool f.num.neg)).setCell ⟨gz, r * 4 + 1, none⟩ (.slice E1 l9 k9)).setCell ⟨gz, r * 4 + 2, none⟩ (.bool f.den.neg)).setCell ⟨gz, r * 4 + 3, none⟩ (.slice E2 l9' k9') = wE at *
      obtain ⟨p0, p1, p2, p3⟩ := hP2.four
      obtain ⟨r0, r1, r2, r3⟩ := hR2.four
      obtain ⟨g0, g1, g2, g3⟩ := hR2.fourF
      go_wp2
      obtain ⟨k1, k2, k3, k4⟩ := prf_store (B := w.heap.size) (w0 := w) hR2 hbe2 (by omega) (.int .i64 x.st) (.slice (some ⟨gz, 0, none⟩) n1 c1) (.slice A2 n2 c2) (.slice A3 n3 c3)
      refine ret_cell Tryz.results10 Tryz.underlying29 (by kernel_rfl) rfl k1 rfl ?_
      exact ⟨_, ⟨x.st, x.x.set r f, x.y, x.ray⟩, rfl, ⟨_, _, _, _, _, _, _, _, _, rfl, FrsM.but hQ2.frs k2 (by decide) (by decide), FrsM.but hU2.frs k2 (by decide) (by decide), FrsM.but hU3.frs k2 (by decide) (by decide), HST.out.1, HST.out.2⟩, (HKX.out.set (i := r) (hf8.mono hK8)), HKY.out, HKR.out, k3⟩
    · by_cases hz0 : n2 = 0
      · have hz1 : (n2 : Int) ≤ 0 := by omega
        clear hz0
        obtain ⟨p0, p1, p2, p3⟩ := hP.four
        obtain ⟨r0, r1, r2, r3⟩ := hR.four
        obtain ⟨g0, g1, g2, g3⟩ := hR.fourF
        go_wp2
        obtain ⟨k1, k2, k3, k4⟩ := prf_store (B := w.heap.size) (w0 := w) hR hbe (by omega) (.int .i64 x.st) (.slice A1 n1 c1) (.slice A2 n2 c2) (.slice A3 n3 c3)
        refine ret_cell Tryz.results10 Tryz.underlying29 (by kernel_rfl) rfl k1 rfl ?_
        exact ⟨_, x, rfl, ⟨_, _, _, _, _, _, _, _, _, rfl, FrsM.but hO1.frs k2 (by decide) (by decide), FrsM.but hO2.frs k2 (by decide) (by decide), FrsM.but hO3.frs k2 (by decide) (by decide), HST.out.1, HST.out.2⟩, HKX.out, HKY.out, HKR.out, k3⟩
      have hzp : 0 < n2 := by omega
      have hzI : 0 < (n2 : Int) := by omega
      obtain ⟨r, hr, hrl⟩ : ∃ r : Nat, z1 % (n2 : Int) = (r : Int) ∧ r < n2 := ⟨(z1 % (n2 : Int)).toNat, by rw [Int.toNat_of_nonneg (Int.emod_nonneg _ (by omega))], by have := Int.emod_lt_of_pos z1 (show (0 : Int) < n2 by omega); have := Int.emod_nonneg z1 (show (n2 : Int) ≠ 0 by omega); omega⟩
      obtain ⟨l1, l2, l3⟩ := hO2.frs.len
      have HLN := Lib.hid l1
      obtain ⟨gz, czz, hzsh, hgz1, hgz2, _, _⟩ := hO2.shape (by omega)
      injection hzsh with e1 e2 e3
      subst e1
      have hrI : (r : Int) < n2 := by omega
      obtain ⟨f0', hf0'⟩ := get_some (fs := x.y) (i := r) (by omega)
      have hnz : ¬ n2 = 0 := hz0
      clear hz0 e2 e3 l1
      obtain ⟨p0, p1, p2, p3⟩ := hP.four
      obtain ⟨q0, q1, q2, q3⟩ := hF.four
      go_upto_region 12 with (fail)
      have hQD := hO2.below (below_drew' wS)
      obtain ⟨_, _, _, _, ⟨t0, t1, t2, t3⟩, ⟨g0, g1, g2, g3⟩, _⟩ := hQD.at_ hf0'
      have hfD := eF.below (below_drew' wS)
      have hRD := hR.drew
      have hPD := hP.drew
      have hbeD := hbe.drew
      have hV1 := hO1.below (below_drew' wS)
      have HA1 := Lib.hid (hap12.symm gz rfl)
      have hV3 := hO3.below (below_drew' wS)
      have HA3 := Lib.hid (hap23 gz rfl)
      have C0 := stab p0
      have C1 := stab p1
      have C2 := stab p2
      have C3 := stab p3
      have D0 := stab q0
      have D1 := stab q1
      have D2 := stab q2
      have D3 := stab q3
      clear p0 p1 p2 p3 q0 q1 q2 q3
      refine region_seq 9 [0, 1, 2, 3, 4, 5, 6, 7, 8, 9] (by kernel_rfl) (by kernel_rfl) ?_
      generalize wS.drew = wD at *
      repeat ((first | (refine seq_takeP (v := ?_) rfl rfl rfl ?_ ?_; rotate_left; (· (intro _ hSw; go_simp; (try go_bits); (try with_reducible rfl)))) | (refine seq_take (v := ?_) rfl rfl rfl ?_ ?_; rotate_left; (· (intro _ hSw; go_simp; (try go_bits); (try with_reducible rfl)))) | refine seq_skip rfl rfl rfl ?_); (try simp only [Act.put, pu1, pu2, pu3, pu4, pu5, pu6]))
      refine seq_step rfl rfl (fun KR hKR => ?_)
      go_simp
      refine hKR.out _ _ (Or.inl (by decide)) ?_
      clear hKR KR
      (try simp only [Act.put, pu1, pu2, pu3, pu4, pu5, pu6])
      refine seq_done ?_
      obtain ⟨hQ2, hk2⟩ := hQD.set_ (k := r) (by have := HLN.out; omega) hfD
      have hU1 := FrsO.far4k hV1 (hk2.keep (by decide)) HA1.out
      have hU3 := FrsO.far4k hV3 (hk2.keep (by decide)) HA3.out
      have hP2 := hk2.bk hPD (by decide)
      have hR2 := hk2.bk hRD (by decide)
      have hbe2 := below_set4' hbeD hgz1 (r * 4) (r * 4 + 1) (r * 4 + 2) (r * 4 + 3) (.bool f.num.neg) (.slice E1 l9 k9) (.bool f.den.neg) (.slice E2 l9' k9')
      clear C0 C1 C2 C3 D0 D1 D2 D3 t0 t1 t2 t3 g0 g1 g2 g3
      go_upto_region 22 with (fail)
      generalize (((wD.setCell ⟨gz, r * 4, none⟩ (.bool f.num.neg)).setCell ⟨gz, r * 4 + 1, none⟩ (.slice E1 l9 k9)).setCell ⟨gz, r * 4 + 2, none⟩ (.bool f.den.neg)).setCell ⟨gz, r * 4 + 3, none⟩ (.slice E2 l9' k9') = wE at *
      obtain ⟨p0, p1, p2, p3⟩ := hP2.four
      obtain ⟨r0, r1, r2, r3⟩ := hR2.four
      obtain ⟨g0, g1, g2, g3⟩ := hR2.fourF
      go_wp2
      obtain ⟨k1, k2, k3, k4⟩ := prf_store (B := w.heap.size) (w0 := w) hR2 hbe2 (by omega) (.int .i64 x.st) (.slice A1 n1 c1) (.slice (some ⟨gz, 0, none⟩) n2 c2) (.slice A3 n3 c3)
      refine ret_cell Tryz.results10 Tryz.underlying29 (by kernel_rfl) rfl k1 rfl ?_
      exact ⟨_, ⟨x.st, x.x, x.y.set r f, x.ray⟩, rfl, ⟨_, _, _, _, _, _, _, _, _, rfl, FrsM.but hU1.frs k2 (by decide) (by decide), FrsM.but hQ2.frs k2 (by decide) (by decide), FrsM.but hU3.frs k2 (by decide) (by decide), HST.out.1, HST.out.2⟩, HKX.out, (HKY.out.set (i := r) (hf8.mono hK8)), HKR.out, k3⟩
    · by_cases hz0 : n3 = 0
      · have hz1 : (n3 : Int) ≤ 0 := by omega
        clear hz0
        obtain ⟨p0, p1, p2, p3⟩ := hP.four
        obtain ⟨r0, r1, r2, r3⟩ := hR.four
        obtain ⟨g0, g1, g2, g3⟩ := hR.fourF
        go_wp2
        obtain ⟨k1, k2, k3, k4⟩ := prf_store (B := w.heap.size) (w0 := w) hR hbe (by omega) (.int .i64 x.st) (.slice A1 n1 c1) (.slice A2 n2 c2) (.slice A3 n3 c3)
        refine ret_cell Tryz.results10 Tryz.underlying29 (by kernel_rfl) rfl k1 rfl ?_
        exact ⟨_, x, rfl, ⟨_, _, _, _, _, _, _, _, _, rfl, FrsM.but hO1.frs k2 (by decide) (by decide), FrsM.but hO2.frs k2 (by decide) (by decide), FrsM.but hO3.frs k2 (by decide) (by decide), HST.out.1, HST.out.2⟩, HKX.out, HKY.out, HKR.out, k3⟩
      have hzp : 0 < n3 := by omega
      have hzI : 0 < (n3 : Int) := by omega
      obtain ⟨r, hr, hrl⟩ : ∃ r : Nat, z1 % (n3 : Int) = (r : Int) ∧ r < n3 := ⟨(z1 % (n3 : Int)).toNat, by rw [Int.toNat_of_nonneg (Int.emod_nonneg _ (by omega))], by have := Int.emod_lt_of_pos z1 (show (0 : Int) < n3 by omega); have := Int.emod_nonneg z1 (show (n3 : Int) ≠ 0 by omega); omega⟩
      obtain ⟨l1, l2, l3⟩ := hO3.frs.len
      have HLN := Lib.hid l1
      obtain ⟨gz, czz, hzsh, hgz1, hgz2, _, _⟩ := hO3.shape (by omega)
      injection hzsh with e1 e2 e3
      subst e1
      have hrI : (r : Int) < n3 := by omega
      obtain ⟨f0', hf0'⟩ := get_some (fs := x.ray) (i := r) (by omega)
      have hnz : ¬ n3 = 0 := hz0
      clear hz0 e2 e3 l1
      obtain ⟨p0, p1, p2, p3⟩ := hP.four
      obtain ⟨q0, q1, q2, q3⟩ := hF.four
      go_upto_region 15 with (fail)
      have hQD := hO3.below (below_drew' wS)
      obtain ⟨_, _, _, _, ⟨t0, t1, t2, t3⟩, ⟨g0, g1, g2, g3⟩, _⟩ := hQD.at_ hf0'
      have hfD := eF.below (below_drew' wS)
      have hRD := hR.drew
      have hPD := hP.drew
      have hbeD := hbe.drew
      have hV1 := hO1.below (below_drew' wS)
      have HA1 := Lib.hid (hap13.symm gz rfl)
      have hV2 := hO2.below (below_drew' wS)
      have HA2 := Lib.hid (hap23.symm gz rfl)
      have C0 := stab p0
      have C1 := stab p1
      have C2 := stab p2
      have C3 := stab p3
      have D0 := stab q0
      have D1 := stab q1
      have D2 := stab q2
      have D3 := stab q3
      clear p0 p1 p2 p3 q0 q1 q2 q3
      refine region_seq 9 [0, 1, 2, 3, 4, 5, 6, 7, 8, 9] (by kernel_rfl) (by kernel_rfl) ?_
      generalize wS.drew = wD at *
      repeat ((first | (refine seq_takeP (v := ?_) rfl rfl rfl ?_ ?_; rotate_left; (· (intro _ hSw; go_simp; (try go_bits); (try with_reducible rfl)))) | (refine seq_take (v := ?_) rfl rfl rfl ?_ ?_; rotate_left; (· (intro _ hSw; go_simp; (try go_bits); (try with_reducible rfl)))) | refine seq_skip rfl rfl rfl ?_); (try simp only [Act.put, pu1, pu2, pu3, pu4, pu5, pu6]))
      refine seq_step rfl rfl (fun KR hKR => ?_)
      go_simp
      refine hKR.out _ _ (Or.inl (by decide)) ?_
      clear hKR KR
      (try simp only [Act.put, pu1, pu2, pu3, pu4, pu5, pu6])
      refine seq_done ?_
      obtain ⟨hQ2, hk2⟩ := hQD.set_ (k := r) (by have := HLN.out; omega) hfD
      have hU1 := FrsO.far4k hV1 (hk2.keep (by decide)) HA1.out
      have hU2 := FrsO.far4k hV2 (hk2.keep (by decide)) HA2.out
      have hP2 := hk2.bk hPD (by decide)
      have hR2 := hk2.bk hRD (by decide)
      have hbe2 := below_set4' hbeD hgz1 (r * 4) (r * 4 + 1) (r * 4 + 2) (r * 4 + 3) (.bool f.num.neg) (.slice E1 l9 k9) (.bool f.den.neg) (.slice E2 l9' k9')
      clear C0 C1 C2 C3 D0 D1 D2 D3 t0 t1 t2 t3 g0 g1 g2 g3
      go_upto_region 22 with (fail)
      generalize (((wD.setCell ⟨gz, r * 4, none⟩ (.bool f.num.neg)).setCell ⟨gz, r * 4 + 1, none⟩ (.slice E1 l9 k9)).setCell ⟨gz, r * 4 + 2, none⟩ (.bool f.den.neg)).setCell ⟨gz, r * 4 + 3, none⟩ (.slice E2 l9' k9') = wE at *
      obtain ⟨p0, p1, p2, p3⟩ := hP2.four
      obtain ⟨r0, r1, r2, r3⟩ := hR2.four
      obtain ⟨g0, g1, g2, g3⟩ := hR2.fourF
      go_wp2
      obtain ⟨k1, k2, k3, k4⟩ := prf_store (B := w.heap.size) (w0 := w) hR2 hbe2 (by omega) (.int .i64 x.st) (.slice A1 n1 c1) (.slice A2 n2 c2) (.slice (some ⟨gz, 0, none⟩) n3 c3)
      refine ret_cell Tryz.results10 Tryz.underlying29 (by kernel_rfl) rfl k1 rfl ?_
      exact ⟨_, ⟨x.st, x.x, x.y, x.ray.set r f⟩, rfl, ⟨_, _, _, _, _, _, _, _, _, rfl, FrsM.but hU1.frs k2 (by decide) (by decide), FrsM.but hU2.frs k2 (by decide) (by decide), FrsM.but hQ2.frs k2 (by decide) (by decide), HST.out.1, HST.out.2⟩, HKX.out, HKY.out, (HKR.out.set (i := r) (hf8.mono hK8)), k3⟩
    · obtain ⟨p0, p1, p2, p3⟩ := hP.four
      obtain ⟨q0, q1, q2, q3⟩ := hF.four
      obtain ⟨g0, g1, g2, g3⟩ := hP.fourF
      have hlen : x.x.length + 1 ≤ 1099511627776 := by have := HL1.out; omega
      have hbs := hbe.size
      go_wp2_with (at_builtin; refine wpList_append_fracG rfl (.tmp 84) (.tmp 86) rfl wS w.heap.size (.slice A1 n1 c1) x.x rfl hO1 _ _ E1 E2 l9 k9 l9' k9' f eF rfl hlen hbs ?_)
      intro v' w7 hO7 hk7 hb7 hoth7 hblk7
      obtain ⟨Av, nv, cv, rfl⟩ := hO7.sliceN
      have hP7 := hk7.bk hP (by decide)
      have hR7 := hk7.bk hR (by decide)
      have hbe7 := hbe.trans hb7
      have hU2 := hO2.others hoth7 (hk7.keep (by decide)) (fun b hb e => hap12.symm b hb e.symm)
      have hU3 := hO3.others hoth7 (hk7.keep (by decide)) (fun b hb e => hap13.symm b hb e.symm)
      clear p0 p1 p2 p3 q0 q1 q2 q3 g0 g1 g2 g3
      obtain ⟨p0, p1, p2, p3⟩ := hP7.four
      obtain ⟨g0, g1, g2, g3⟩ := hP7.fourF
      have hkP := KeepBut.setCell hP7 1 (.slice Av nv cv)
      have hP8 := hP7.set_ 1 (.slice Av nv cv)
      have hR8 := hR7.set_other (g := gy) (by omega) 1 (.slice Av nv cv)
      have hbe8 := hbe7.setCell (p := ⟨gy, 1, none⟩) (by simp; omega) (.slice Av nv cv)
      go_upto_region 22 with (fail)
      clear p0 p1 p2 p3 g0 g1 g2 g3
      have hZ1 := (hO7.but hkP (by decide) (by decide)).frs
      have hZ2 := (hU2.but hkP (by decide) (by decide)).frs
      have hZ3 := (hU3.but hkP (by decide) (by decide)).frs
      clear hkP
      generalize w7.setCell ⟨gy, 1, none⟩ (.slice Av nv cv) = wE at *
      obtain ⟨p0, p1, p2, p3⟩ := hP8.four
      obtain ⟨r0, r1, r2, r3⟩ := hR8.four
      obtain ⟨g0, g1, g2, g3⟩ := hR8.fourF
      go_wp2
      obtain ⟨k1, k2, k3, k4⟩ := prf_store (B := w.heap.size) (w0 := w) hR8 hbe8 (by omega) (.int .i64 x.st) (.slice Av nv cv) (.slice A2 n2 c2) (.slice A3 n3 c3)
      refine ret_cell Tryz.results10 Tryz.underlying29 (by kernel_rfl) rfl k1 rfl ?_
      exact ⟨_, ⟨x.st, x.x ++ [f], x.y, x.ray⟩, rfl, ⟨_, _, _, _, _, _, _, _, _, rfl, FrsM.but hZ1 k2 (by decide) (by decide), FrsM.but hZ2 k2 (by decide) (by decide), FrsM.but hZ3 k2 (by decide) (by decide), HST.out.1, HST.out.2⟩, (HKX.out.snoc (hf8.mono hK8)), HKY.out, HKR.out, k3⟩
    · obtain ⟨p0, p1, p2, p3⟩ := hP.four
      obtain ⟨q0, q1, q2, q3⟩ := hF.four
      obtain ⟨g0, g1, g2, g3⟩ := hP.fourF
      have hlen : x.y.length + 1 ≤ 1099511627776 := by have := HL2.out; omega
      have hbs := hbe.size
      go_wp2_with (at_builtin; refine wpList_append_fracG rfl (.tmp 92) (.tmp 94) rfl wS w.heap.size (.slice A2 n2 c2) x.y rfl hO2 _ _ E1 E2 l9 k9 l9' k9' f eF rfl hlen hbs ?_)
      intro v' w7 hO7 hk7 hb7 hoth7 hblk7
      obtain ⟨Av, nv, cv, rfl⟩ := hO7.sliceN
      have hP7 := hk7.bk hP (by decide)
      have hR7 := hk7.bk hR (by decide)
      have hbe7 := hbe.trans hb7
      have hU1 := hO1.others hoth7 (hk7.keep (by decide)) (fun b hb e => hap12 b hb e.symm)
      have hU3 := hO3.others hoth7 (hk7.keep (by decide)) (fun b hb e => hap23.symm b hb e.symm)
      clear p0 p1 p2 p3 q0 q1 q2 q3 g0 g1 g2 g3
      obtain ⟨p0, p1, p2, p3⟩ := hP7.four
      obtain ⟨g0, g1, g2, g3⟩ := hP7.fourF
      have hkP := KeepBut.setCell hP7 2 (.slice Av nv cv)
      have hP8 := hP7.set_ 2 (.slice Av nv cv)
      have hR8 := hR7.set_other (g := gy) (by omega) 2 (.slice Av nv cv)
      have hbe8 := hbe7.setCell (p := ⟨gy, 2, none⟩) (by simp; omega) (.slice Av nv cv)
      go_upto_region 22 with (fail)
      clear p0 p1 p2 p3 g0 g1 g2 g3
      have hZ1 := (hU1.but hkP (by decide) (by decide)).frs
      have hZ2 := (hO7.but hkP (by decide) (by decide)).frs
      have hZ3 := (hU3.but hkP (by decide) (by decide)).frs
      clear hkP
      generalize w7.setCell ⟨gy, 2, none⟩ (.slice Av nv cv) = wE at *
      obtain ⟨p0, p1, p2, p3⟩ := hP8.four
      obtain ⟨r0, r1, r2, r3⟩ := hR8.four
      obtain ⟨g0, g1, g2, g3⟩ := hR8.fourF
      go_wp2
      obtain ⟨k1, k2, k3, k4⟩ := prf_store (B := w.heap.size) (w0 := w) hR8 hbe8 (by omega) (.int .i64 x.st) (.slice A1 n1 c1) (.slice Av nv cv) (.slice A3 n3 c3)
      refine ret_cell Tryz.results10 Tryz.underlying29 (by kernel_rfl) rfl k1 rfl ?_
      exact ⟨_, ⟨x.st, x.x, x.y ++ [f], x.ray⟩, rfl, ⟨_, _, _, _, _, _, _, _, _, rfl, FrsM.but hZ1 k2 (by decide) (by decide), FrsM.but hZ2 k2 (by decide) (by decide), FrsM.but hZ3 k2 (by decide) (by decide), HST.out.1, HST.out.2⟩, HKX.out, (HKY.out.snoc (hf8.mono hK8)), HKR.out, k3⟩
    · have h61 : 0 ≤ z1 % 3 := by omega
      have h62 : z1 % 3 < 3 := by omega
      generalize hz6 : z1 % 3 = z6 at *
      obtain ⟨x0, x1, x2⟩ := hX.three
      go_upto_region 21 with (fail)
      have C0 := stab x0
      have C1 := stab x1
      have C2 := stab x2
      have hS0 := below_drew' wS
      clear x0 x1 x2
      refine region_seq 14 [0, 1, 2, 3, 4, 5, 6, 8, 9, 10, 11, 7, 12, 13, 14] (by kernel_rfl) (by kernel_rfl) ?_
      repeat ((first | (refine seq_takeP (v := ?_) rfl rfl rfl ?_ ?_; rotate_left; (· (intro _ hSw; go_simp; (try go_bits); (try with_reducible rfl)))) | (refine seq_take (v := ?_) rfl rfl rfl ?_ ?_; rotate_left; (· (intro _ hSw; go_simp; (try go_bits); (try with_reducible rfl)))) | refine seq_skip rfl rfl rfl ?_); (try simp only [Act.put, pu1, pu2, pu3, pu4, pu5, pu6]))
      refine seq_step rfl rfl (fun KR hKR => ?_)
      go_simp
      with_reducible refine (fracs_own _ zl N _ ((hl.below hbe).below hS0) (by omega)).mono ?_
      rintro _ w7 ⟨v7, fs, rfl, e7, hfl, hfr, hb7⟩
      have hS7 := below_then hS0 hb7 hS0.size
      obtain ⟨B1, m1, d1, rfl⟩ := e7.sliceN
      have hF7 := e7.frs
      refine hKR.out _ _ (Or.inr hS7) ?_
      clear hKR KR
      (try simp only [Act.put, pu1, pu2, pu3, pu4, pu5, pu6])
      repeat ((first | (refine seq_takeP (v := ?_) rfl rfl rfl ?_ ?_; rotate_left; (· (intro _ hSw; go_simp; (try go_bits); (try with_reducible rfl)))) | (refine seq_take (v := ?_) rfl rfl rfl ?_ ?_; rotate_left; (· (intro _ hSw; go_simp; (try go_bits); (try with_reducible rfl)))) | refine seq_skip rfl rfl rfl ?_); (try simp only [Act.put, pu1, pu2, pu3, pu4, pu5, pu6]))
      refine seq_step rfl rfl (fun KR hKR => ?_)
      go_simp
      with_reducible refine (fracs_own _ zl m _ ((hl.below hbe).below hS7) (by omega)).mono ?_
      rintro _ w8 ⟨v8, gs, rfl, e8, hgl, hgr, hb8⟩
      have hS8 := below_then hS7 hb8 hS7.size
      obtain ⟨B2, m2, d2, rfl⟩ := e8.sliceN
      have hF8 := hF7.below hb8
      have hP8 := hP.later hS8
      obtain ⟨p0, p1, p2, p3⟩ := hP8.four
      obtain ⟨g0, g1, g2, g3⟩ := hP8.fourF
      refine hKR.out _ _ (Or.inr hS8) ?_
      clear hKR KR
      (try simp only [Act.put, pu1, pu2, pu3, pu4, pu5, pu6])
      repeat ((first | (refine seq_takeP (v := ?_) rfl rfl rfl ?_ ?_; rotate_left; (· (intro _ hSw; go_simp; (try go_bits); (try with_reducible rfl)))) | (refine seq_take (v := ?_) rfl rfl rfl ?_ ?_; rotate_left; (· (intro _ hSw; go_simp; (try go_bits); (try with_reducible rfl)))) | refine seq_skip rfl rfl rfl ?_); (try simp only [Act.put, pu1, pu2, pu3, pu4, pu5, pu6]))
      refine seq_step rfl rfl (fun KR hKR => ?_)
      go_simp
      refine hKR.out _ _ (Or.inl (by decide)) ?_
      clear hKR KR
      (try simp only [Act.put, pu1, pu2, pu3, pu4, pu5, pu6])
      refine seq_done ?_
      have hR8 := hR.later hS8
      have hbe8 := below_then hbe hS8 hbe.size
      obtain ⟨k1, k2, k3, k4⟩ := prf_store (B := w.heap.size) (w0 := w) hP8 hbe8 (by omega) (.int .i64 (1 + z6)) (.slice B1 m1 d1) (.slice B2 m2 d2) (.slice none 0 0)
      have hR9 := k4 _ _ _ (by omega) hR8
      have hZ1 := hF8.but k2 (by decide) (by decide)
      have hZ2 := e8.frs.but k2 (by decide) (by decide)
      clear C0 C1 C2 p0 p1 p2 p3 g0 g1 g2 g3 k2 k4
      go_upto_region 22 with (fail)
      generalize (((w8.setCell ⟨gy, 0, none⟩ (.int .i64 (1 + z6))).setCell ⟨gy, 1, none⟩ (.slice B1 m1 d1)).setCell ⟨gy, 2, none⟩ (.slice B2 m2 d2)).setCell ⟨gy, 3, none⟩ (.slice none 0 0) = wE at *
      have hP9 := k1
      have hbe9 := k3
      clear k1 k3
      obtain ⟨p0, p1, p2, p3⟩ := hP9.four
      obtain ⟨r0, r1, r2, r3⟩ := hR9.four
      obtain ⟨g0, g1, g2, g3⟩ := hR9.fourF
      go_wp2
      obtain ⟨k1, k2, k3, k4⟩ := prf_store (B := w.heap.size) (w0 := w) hR9 hbe9 (by omega) (.int .i64 (1 + z6)) (.slice B1 m1 d1) (.slice B2 m2 d2) (.slice none 0 0)
      refine ret_cell Tryz.results10 Tryz.underlying29 (by kernel_rfl) rfl k1 rfl ?_
      exact ⟨_, ⟨1 + z6, fs, gs, []⟩, rfl, ⟨_, _, _, _, _, _, _, _, _, rfl, FrsM.but hZ1 k2 (by decide) (by decide), FrsM.but hZ2 k2 (by decide) (by decide), FrsM.but (frs_nil _) k2 (by decide) (by decide), (show (-9223372036854775808 : Int) ≤ 1 + z6 by omega), (show 1 + z6 ≤ (9223372036854775807 : Int) by omega)⟩, (hfr.mono (by omega)), (hgr.mono (by omega)), (RsL.nil _), k3⟩
    · obtain ⟨p0, p1, p2, p3⟩ := hP.four
      obtain ⟨r0, r1, r2, r3⟩ := hR.four
      obtain ⟨g0, g1, g2, g3⟩ := hR.fourF
      go_wp2
      obtain ⟨k1, k2, k3, k4⟩ := prf_store (B := w.heap.size) (w0 := w) hR hbe (by omega) (.int .i64 x.st) (.slice A1 n1 c1) (.slice A2 n2 c2) (.slice A3 n3 c3)
      refine ret_cell Tryz.results10 Tryz.underlying29 (by kernel_rfl) rfl k1 rfl ?_
      exact ⟨_, x, rfl, ⟨_, _, _, _, _, _, _, _, _, rfl, FrsM.but hO1.frs k2 (by decide) (by decide), FrsM.but hO2.frs k2 (by decide) (by decide), FrsM.but hO3.frs k2 (by decide) (by decide), HST.out.1, HST.out.2⟩, HKX.out, HKY.out, HKR.out, k3⟩
end Go.Proofs.YtpanffbgihhjnaaGreat

/- Walks: package pairingref25: length, Verify (the checks ahead of the switch). -/
namespace Go.Proofs.YtpanffbgihhjnaaGreat
open Go.RowKit Pl
attribute [local go_sem ↓] Go.wp_at_zero Go.wp_at_succ

end Go.Proofs.YtpanffbgihhjnaaGreat

/- Walks: package pairingref25: Verify, proofs of status 1. -/
namespace Go.Proofs.YtpanffbgihhjnaaGreat
open Go.RowKit Pl
attribute [local go_sem ↓] Go.wp_at_zero Go.wp_at_succ

end Go.Proofs.YtpanffbgihhjnaaGreat

/- Walks: package pairingref25: Verify, proofs of status 2. -/
namespace Go.Proofs.YtpanffbgihhjnaaGreat
open Go.RowKit Pl
attribute [local go_sem ↓] Go.wp_at_zero Go.wp_at_succ

end Go.Proofs.YtpanffbgihhjnaaGreat

/- Walks: package pairingref25: Verify, proofs of status 3. -/
namespace Go.Proofs.YtpanffbgihhjnaaGreat
open Go.RowKit Pl
attribute [local go_sem ↓] Go.wp_at_zero Go.wp_at_succ

end Go.Proofs.YtpanffbgihhjnaaGreat

/- Walks: package pairingref25: Verify, Run and Extract at any input; package pairinglaw26: state. -/
namespace Go.Proofs.YtpanffbgihhjnaaGreat
open Go.RowKit Pl
attribute [local go_sem ↓] Go.wp_at_zero Go.wp_at_succ

namespace Pl
def runE (p : LPd) (s : LSt) (N : Nat) : LSt := if vsErr p s = 0 then runL p N (settleQ p s) else ⟨0, [], 0⟩
def extF (p : LPd) (s : LSt) : Prf := if vsErr p s = 0 then extP p (settleQ p s) else ⟨0, [], [], []⟩
def stateQ (p : LPd) (N : Nat) : LSt := runE p (settleQ p (startS p)) N
theorem extF_B {p : LPd} {s : LSt} {K : Nat} (F : p.Fit K) : RsL (5 ^ p.right.length * K) (extF p s).x ∧ RsL (5 ^ p.right.length * K) (extF p s).y ∧ RsL (5 ^ p.right.length * K) (extF p s).ray ∧ (extF p s).x.length ≤ p.cols.length ∧ (extF p s).y.length ≤ p.right.length ∧ (extF p s).ray.length ≤ p.cols.length := by
  unfold extF
  split
  · exact extP_B F
  · exact ⟨RsL.nil _, RsL.nil _, RsL.nil _, by simp, by simp, by simp⟩
end Pl
theorem rrun_any (v1 v2 : Value) (p : LPd) (s : LSt) (K N : Nat) (w : World) (h : LpM w v1 p) (h2 : StM w v2 s) (F : p.Fit K) (hz : lpErr p = 0) (hN : N ≤ 9223372036854775807) (hpv : s.pivots + N ≤ 9223372036854775807) :
    Calls Tryz.prog 36 #[v1, v2, .int .i64 (N : Int)] w fun e w' => ∃ v' er, e = .returned (.tuple #[v', .int .i64 er]) ∧ StO 0 w' v' (runE p s N) ∧ Below w.heap.size w w' := by
  unfold runE
  by_cases hv : vsErr p s = 0
  · rw [if_pos hv]
    refine (rrun_own v1 v2 p s K N w h h2 F hz hv hN hpv).mono ?_
    rintro e w' ⟨v', rfl, hs, hb⟩
    obtain ⟨A, l, c, hv', hi⟩ := hs
    exact ⟨v', 0, rfl, ⟨A, l, c, hv', hi.monoB (Nat.zero_le _)⟩, hb⟩
  · rw [if_neg hv]
    refine (rrun_err v1 v2 p s K N w h h2 F hz hv).mono ?_
    rintro e w' ⟨rfl, hb⟩
    exact ⟨_, _, rfl, ⟨none, 0, 0, rfl, IntsO.nil 0 w'⟩, hb⟩
theorem rextract_any (v1 v2 : Value) (p : LPd) (s : LSt) (K : Nat) (w : World) (h : LpM w v1 p) (h2 : StM w v2 s) (F : p.Fit K) (hz : lpErr p = 0) :
    Calls Tryz.prog 8 #[v1, v2] w fun e w' => ∃ v' er, e = .returned (.tuple #[v', .int .i64 er]) ∧ PrfM w' v' (extF p s) ∧ Below w.heap.size w w' := by
  unfold extF
  by_cases hv : vsErr p s = 0
  · rw [if_pos hv]
    refine (rextract_own v1 v2 p s K w h h2 F hz hv).mono ?_
    rintro e w' ⟨v', rfl, hs, hb⟩
    exact ⟨v', _, rfl, hs, hb⟩
  · rw [if_neg hv]
    refine (rextract_err v1 v2 p s K w h h2 F hz hv).mono ?_
    rintro e w' ⟨rfl, hb⟩
    exact ⟨_, _, rfl, ⟨none, 0, 0, none, 0, 0, none, 0, 0, rfl, frs_nil _, frs_nil _, frs_nil _, by simp, by simp⟩, hb⟩

set_option maxRecDepth 100000 in
set_option maxHeartbeats 8000000 in
theorem state_own (v1 : Value) (p : LPd) (K N : Nat) (w : World) (h : LpM w v1 p) (F : p.Fit K) (hz : lpErr p = 0) (hN : N ≤ 1000000) :
    Calls Tryz.prog 9 #[v1, .int .i64 (N : Int)] w fun e w' => ∃ v', e = .returned v' ∧ StM w' v' (stateQ p N) ∧ Below w.heap.size w w' := by
  obtain ⟨A, n, c, A', n', c', A'', m, c'', rfl, hc, hv, hr⟩ := id h
  obtain ⟨W, hW, hX0, hbe0⟩ := box_lp w (.slice A n c) (.slice A' n' c') (.slice A'' m c'')
  obtain ⟨W1, hW1, hR0, hbe1⟩ := box_st W (.int .i64 0) (.slice none 0 0) (.int .i64 0)
  have hX := hX0.later hbe1
  have hbe := below_then hbe0 hbe1 hbe0.size
  have hsz : W.heap.size = w.heap.size + 1 := by rw [← hW]; simp
  rw [hsz] at hR0
  have HLP := Lib.hid h
  have HFP := Lib.hid F
  have HZ := Lib.hid hz
  obtain ⟨x0, x1, x2⟩ := hX.three
  obtain ⟨S2, hS2⟩ : ∃ s, stateQ p N = s := ⟨_, rfl⟩
  rw [hS2]
  have HS2 := Lib.hid hS2
  clear h hc hv hr hX0 hbe0 hbe1 F hz hS2
  go_enter Tryz.func9, Tryz.ntmps9
  go_wp2_with fail
  clear hW hW1
  refine (rstart_own _ p K _ (HLP.out.below hbe) HFP.out HZ.out).mono ?_
  obtain ⟨s1, hs1⟩ : ∃ s, settleQ p (startS p) = s := ⟨_, rfl⟩
  rw [hs1]
  have HS1 : Hid (runE p s1 N = S2) := Lib.hid (by rw [← hs1]; exact HS2.out)
  have hpv : s1.pivots = 0 := by rw [← hs1]; rfl
  have HPV := Lib.hid hpv
  clear hs1 hpv
  rintro _ w3 ⟨v3, rfl, ⟨A3, l3, c3, rfl, hI3⟩, hb3⟩
  obtain ⟨W4, hW4, hT4, hb4⟩ := box_st w3 (.int .i64 0) (.slice none 0 0) (.int .i64 0)
  have hb34 := below_then hb3 hb4 hb3.size
  have hX4 := hX.later hb34
  have hR4 := hR0.later hb34
  have hbe4 := below_then hbe hb34 hbe.size
  have hI4 := hI3.below hb4
  have hg1 : w.heap.size + 1 < w3.heap.size := (hR0.later hb3).lt_
  obtain ⟨y0, y1, y2⟩ := hT4.three
  obtain ⟨f0, f1, f2⟩ := hT4.threeF
  obtain ⟨k1, k2, k3, k4⟩ := st_store (B := w.heap.size) (w0 := w) hT4 hbe4 (by omega) (.int .i64 s1.phase) (.slice A3 l3 c3) (.int .i64 s1.pivots)
  clear x0 x1 x2
  go_upto_region 2 with (fail)
  have hX5 := k4 _ _ _ (by omega) hX4
  have hR5 := k4 _ _ _ (by omega) hR4
  have hM5 : StM _ (.agg #[.int .i64 s1.phase, .slice A3 l3 c3, .int .i64 s1.pivots]) s1 := ⟨A3, l3, c3, rfl, (hI4.but k2 (by decide)).ints⟩
  clear hW4 y0 y1 y2 f0 f1 f2 hX hR0 hbe hb3 hb4 hb34 hX4 hR4 hbe4 hI3 hI4 hT4 k2 k4
  generalize w3.heap.size = g at *
  generalize ((W4.setCell ⟨g, 0, none⟩ (.int .i64 s1.phase)).setCell ⟨g, 1, none⟩ (.slice A3 l3 c3)).setCell ⟨g, 2, none⟩ (.int .i64 s1.pivots) = W5 at *
  have hT5 := k1
  have hbe5 := k3
  clear k1 k3
  obtain ⟨x0, x1, x2⟩ := hX5.three
  obtain ⟨y0, y1, y2⟩ := hT5.three
  go_wp2_with fail
  refine (rrun_any _ _ p s1 K N _ (HLP.out.below hbe5) hM5 HFP.out HZ.out (by omega) (by have := HPV.out; omega)).mono ?_
  rw [HS1.out]
  rintro _ w6 ⟨v6, er, rfl, ⟨A6, l6, c6, rfl, hI6⟩, hb6⟩
  obtain ⟨W7, hW7, hT7, hb7⟩ := box_st w6 (.int .i64 0) (.slice none 0 0) (.int .i64 0)
  have hb67 := below_then hb6 hb7 hb6.size
  have hR7 := hR5.later hb67
  have hbe7 := below_then hbe5 hb67 hbe5.size
  have hI7 := hI6.below hb7
  have hg2 : w.heap.size + 1 < w6.heap.size := (hR5.later hb6).lt_
  clear x0 x1 x2 y0 y1 y2 hX5 hT5 hbe5 hR5 hb6 hb7 hb67 hI6 hM5
  obtain ⟨y0, y1, y2⟩ := hT7.three
  obtain ⟨f0, f1, f2⟩ := hT7.threeF
  obtain ⟨k1, k2, k3, k4⟩ := st_store (B := w.heap.size) (w0 := w) hT7 hbe7 (by omega) (.int .i64 S2.phase) (.slice A6 l6 c6) (.int .i64 S2.pivots)
  go_upto_region 3 with (fail)
  have hR8 := k4 _ _ _ (by omega) hR7
  have hI8 := hI7.but k2 (by decide)
  clear hW7 y0 y1 y2 f0 f1 f2 hR7 hbe7 hI7 hT7 k2 k4
  generalize w6.heap.size = g2 at *
  generalize ((W7.setCell ⟨g2, 0, none⟩ (.int .i64 S2.phase)).setCell ⟨g2, 1, none⟩ (.slice A6 l6 c6)).setCell ⟨g2, 2, none⟩ (.int .i64 S2.pivots) = W8 at *
  have hT8 := k1
  have hbe8 := k3
  clear k1 k3
  obtain ⟨y0, y1, y2⟩ := hT8.three
  obtain ⟨r0, r1, r2⟩ := hR8.three
  obtain ⟨f0, f1, f2⟩ := hR8.threeF
  obtain ⟨k1, k2, k3, k4⟩ := st_store (B := w.heap.size) (w0 := w) hR8 hbe8 (by omega) (.int .i64 S2.phase) (.slice A6 l6 c6) (.int .i64 S2.pivots)
  go_wp2
  refine ret_cell Tryz.results9 Tryz.underlying34 (by kernel_rfl) rfl k1 rfl ?_
  exact ⟨_, rfl, ⟨A6, l6, c6, rfl, (hI8.but k2 (by decide)).ints⟩, k3⟩
theorem state_200 (v1 : Value) (p : LPd) (K : Nat) (w : World) (h : LpM w v1 p) (F : p.Fit K) (hz : lpErr p = 0) :
    Calls Tryz.prog 9 #[v1, .int .i64 200] w fun e w' => ∃ v', e = .returned v' ∧ StM w' v' (stateQ p 200) ∧ Below w.heap.size w w' := state_own v1 p K 200 w h F hz (by decide)
end Go.Proofs.YtpanffbgihhjnaaGreat
