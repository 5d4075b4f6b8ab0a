/- Contracts and plain facts that the claim is built on, joined out of smaller texts. -/
import Derived.Test.YtpanffbgihhjnaaGreatM4
set_option linter.unusedVariables false
set_option linter.unusedSimpArgs false
/- Proof.Bounds: the exact result of LowerBound, and that it is at most the cost of a solution: the walk of the law. -/
namespace Go.Proofs.YtpanffbgihhjnaaGreat
open Go.RowKit Pl
attribute [local go_sem ↓] Go.wp_at_zero Go.wp_at_succ

set_option maxRecDepth 100000 in
set_option maxHeartbeats 8000000 in
theorem proofBounds_any (v1 v2 : Value) (zl zm : List Int) (w : World) (h1 : IntsM w v1 zl) (h2 : IntsM w v2 zm) :
    Calls Tryz.prog 5 #[v1, v2] w fun e w' => e = .returned (.bool true) ∧ Below w.heap.size w w' := by
  obtain ⟨a, cap, rfl, _, _⟩ := h1.shape
  obtain ⟨a', cap', rfl, _, _⟩ := h2.shape
  generalize hn : zl.length = nl at *
  generalize hn' : zm.length = nm at *
  clear hn hn'
  go_enter Tryz.func5, Tryz.ntmps5
  go_wp2_with fail
  refine (feasibleData_own _ zl _ h1).mono ?_
  rintro _ w1 ⟨vp, vx, p, xs, rfl, hp, hx, hok, hrr, hrx, hxl, hnn, heq, hb1⟩
  have HOK := Lib.hid hok
  have hlp := hp.lp
  obtain ⟨A0, n0, c0, A1, n1, c1, A2, m, c2, rfl, hcst, hcols, hrt⟩ := id hlp
  obtain ⟨M1, M2, M3⟩ := hrt.len
  have m2 : m ≤ 3 := by rw [M1]; exact hok.2.1
  have HM1 := Lib.hid M1
  obtain ⟨Ax, nx, cx, rfl⟩ := hx.sliceN
  have HXL := Lib.hid hxl
  have HNN := Lib.hid hnn
  have HEQ := Lib.hid heq
  have HKX := Lib.hid (hrx.mono (show 2 ≤ 32 by decide))
  have HKR := Lib.hid hrr
  have HOKP := Lib.hid (hok.ok (K := 32) (by decide) hrr)
  have HKC : Hid (RsL 32 p.cost) := Lib.hid (hok.2.2.2.2.1.mono (by decide))
  obtain ⟨W2, hW2, hX, hbn⟩ := box_lp w1 (.slice A0 n0 c0) (.slice A1 n1 c1) (.slice A2 m c2)
  have hb2 := below_then hb1 hbn hb1.size
  have hm2 := h2.below hb2
  have hlp2 := hlp.below hbn
  have hx2 := hx.frs.below hbn
  have hc2 := hcst.below hbn
  obtain ⟨x0, x1, x2⟩ := hX.three
  clear hok hp hlp hcols hrt M1 hxl hnn heq hrx hrr hb1 hbn hx hcst h1 h2
  go_wp2_with fail
  clear hW2
  have C2 := stab x2
  have hS0 := below_drew' W2
  clear x0 x1 x2
  refine region_seq 11 [0, 1, 2, 3, 4, 5, 6, 7, 8, 9, 10] (by kernel_rfl) (by kernel_rfl) ?_
  repeat (first | (refine seq_takeP (v := ?_) rfl rfl rfl ?_ ?_; rotate_left; (· (intro _ hSw; go_simp; (try go_bits); (try with_reducible rfl))); (try simp only [Act.put, List.setIfInBounds_toArray, List.set_cons_zero, List.set_cons_succ, List.getElem_toArray, List.getElem_cons_zero, List.getElem_cons_succ])) | (refine seq_take (v := ?_) rfl rfl rfl ?_ ?_; rotate_left; (· (intro _ hSw; go_simp; (try go_bits); (try with_reducible rfl))); (try simp only [Act.put, List.setIfInBounds_toArray, List.set_cons_zero, List.set_cons_succ, List.getElem_toArray, List.getElem_cons_zero, List.getElem_cons_succ])) | (refine seq_skip rfl rfl rfl ?_; (try simp only [Act.put, List.setIfInBounds_toArray, List.set_cons_zero, List.set_cons_succ, List.getElem_toArray, List.getElem_cons_zero, List.getElem_cons_succ])))
  refine seq_step rfl rfl (fun KR hKR => ?_)
  go_simp
  with_reducible refine (at_int _ zm 9 _ (hm2.below hS0) (by omega) (by omega)).mono ?_
  rintro _ w3 ⟨z, rfl, z0, z1, hb3⟩
  have hS3 := below_then hS0 hb3 hS0.size
  obtain ⟨M, hM1, hM2⟩ : ∃ M : Nat, (m : Int) + z % 8 / 7 = M ∧ M ≤ 4 := ⟨m + (z % 8 / 7).toNat, by omega, by omega⟩
  refine hKR.out _ _ (Or.inr hS3) ?_
  clear hKR KR
  (try simp only [Act.put, List.setIfInBounds_toArray, List.set_cons_zero, List.set_cons_succ, List.getElem_toArray, List.getElem_cons_zero, List.getElem_cons_succ])
  repeat (first | (refine seq_takeP (v := ?_) rfl rfl rfl ?_ ?_; rotate_left; (· (intro _ hSw; go_simp; (try go_bits); (try with_reducible rfl))); (try simp only [Act.put, List.setIfInBounds_toArray, List.set_cons_zero, List.set_cons_succ, List.getElem_toArray, List.getElem_cons_zero, List.getElem_cons_succ])) | (refine seq_take (v := ?_) rfl rfl rfl ?_ ?_; rotate_left; (· (intro _ hSw; go_simp; (try go_bits); (try with_reducible rfl))); (try simp only [Act.put, List.setIfInBounds_toArray, List.set_cons_zero, List.set_cons_succ, List.getElem_toArray, List.getElem_cons_zero, List.getElem_cons_succ])) | (refine seq_skip rfl rfl rfl ?_; (try simp only [Act.put, List.setIfInBounds_toArray, List.set_cons_zero, List.set_cons_succ, List.getElem_toArray, List.getElem_cons_zero, List.getElem_cons_succ])))
  (try rw [hM1])
  refine seq_step rfl rfl (fun KR hKR => ?_)
  go_simp
  with_reducible refine (fracs_own _ zm M _ (hm2.below hS3) (by omega)).mono ?_
  rintro _ w4 ⟨vy, ys, rfl, hy, hyl, hyr, hb4⟩
  have hS4 := below_then hS3 hb4 hS3.size
  refine hKR.out _ _ (Or.inr hS4) ?_
  clear hKR KR
  (try simp only [Act.put, List.setIfInBounds_toArray, List.set_cons_zero, List.set_cons_succ, List.getElem_toArray, List.getElem_cons_zero, List.getElem_cons_succ])
  repeat (first | (refine seq_takeP (v := ?_) rfl rfl rfl ?_ ?_; rotate_left; (· (intro _ hSw; go_simp; (try go_bits); (try with_reducible rfl))); (try simp only [Act.put, List.setIfInBounds_toArray, List.set_cons_zero, List.set_cons_succ, List.getElem_toArray, List.getElem_cons_zero, List.getElem_cons_succ])) | (refine seq_take (v := ?_) rfl rfl rfl ?_ ?_; rotate_left; (· (intro _ hSw; go_simp; (try go_bits); (try with_reducible rfl))); (try simp only [Act.put, List.setIfInBounds_toArray, List.set_cons_zero, List.set_cons_succ, List.getElem_toArray, List.getElem_cons_zero, List.getElem_cons_succ])) | (refine seq_skip rfl rfl rfl ?_; (try simp only [Act.put, List.setIfInBounds_toArray, List.set_cons_zero, List.set_cons_succ, List.getElem_toArray, List.getElem_cons_zero, List.getElem_cons_succ])))
  refine seq_done ?_
  obtain ⟨Ay, ny, cy, rfl⟩ := hy.sliceN
  have hy4 := hy.frs
  have HYR := Lib.hid (hyr.mono (show 2 ≤ 32 by decide))
  have hb4' := below_then hb2 hS4 hb2.size
  have hX4 := hX.later hS4
  have hlp4 := hlp2.below hS4
  have hx4 := hx2.below hS4
  have hcs4 := hc2.below hS4
  clear hX hlp2 hx2 hc2 hm2 hS0 hS3 hS4 hb3 hb4 hy hyr C2 hM1 hb2 z0 z1 hyl
  obtain ⟨x0, x1, x2⟩ := hX4.three
  go_wp2_with fail
  clear x0 x1 x2
  have hcl : ∀ (j : Nat) (c : List En), p.cols[j]? = some c → c.length ≤ 64 := fun j c hc => by have := (HOK.out.2.2.2.2.2 j c hc).2.1; have := HOK.out.2.1; omega
  have HCL := Lib.hid hcl
  clear hcl
  refine (lowerBound_any _ _ p ys 32 _ hlp4 hy4 HOKP.out HYR.out (by decide) HCL.out (by decide)).mono ?_
  rintro _ w5 ⟨va, rfl, ea, hb5⟩
  obtain ⟨B1, k1, d1, B2, k2, d2, rfl, _, _⟩ := id ea
  have hX5 := hX4.later hb5
  have hlp5 := hlp4.below hb5
  have hx5 := hx4.below hb5
  have hcs5 := hcs4.below hb5
  have hy5 := hy4.below hb5
  have hb5' := below_then hb4' hb5 hb4'.size
  clear hX4 hlp4 hx4 hcs4 hy4 hb4' hb5
  generalize hLF : lowF p ys = LF at *
  have HLF := Lib.hid hLF
  clear hLF
  obtain ⟨W6, hW6, hA, hbn⟩ := boxF1 w5 (.bool LF.num.neg) (.slice B1 k1 d1) (.bool LF.den.neg) (.slice B2 k2 d2)
  have hX6 := hX5.later hbn
  have hlp6 := hlp5.below hbn
  have hx6 := hx5.below hbn
  have hcs6 := hcs5.below hbn
  have hy6 := hy5.below hbn
  have ha6 := ea.below hbn
  have hb6' := below_then hb5' hbn hb5'.size
  obtain ⟨x0, x1, x2⟩ := hX6.three
  clear hX5 hlp5 hx5 hcs5 hy5 hb5' hbn ea
  go_wp2_with fail
  clear hW6 x0 x1 x2
  refine (rlowerBound_any _ _ p ys 32 _ hlp6 hy6 HOKP.out HYR.out (by decide) (by decide)).mono ?_
  rintro _ w7 ⟨vb, rfl, eb, hb7⟩
  rw [HLF.out] at eb
  obtain ⟨B3, k3, d3, B4, k4, d4, rfl, _, _⟩ := id eb
  obtain ⟨W8, hW8, hB, hbn⟩ := boxF1 w7 (.bool LF.num.neg) (.slice B3 k3 d3) (.bool LF.den.neg) (.slice B4 k4 d4)
  have hb78 := below_then hb7 hbn hb7.size
  have hX8 := hX6.later hb78
  have hA8 := hA.later hb78
  have hxs := hx6.below hb78
  have hcst := hcs6.below hb78
  have hFa := ha6.below hb78
  have hFb := eb.below hbn
  have hb8' := below_then hb6' hb78 hb6'.size
  obtain ⟨x0, x1, x2⟩ := hX8.three
  obtain ⟨p0, p1, p2, p3⟩ := hA8.four
  obtain ⟨q0, q1, q2, q3⟩ := hB.four
  clear hX6 hA hlp6 hx6 hcs6 hy6 ha6 hb6' hbn hb7 hb78 eb
  have HSD : Hid (1 + min p.cost.length xs.length * (2 * 32 + 1) ≤ 34359738368) := Lib.hid (by
    have := HOK.out.2.2.1; have := HOK.out.2.2.2.1
    have : min p.cost.length xs.length ≤ 5 := by omega
    omega)
  have HLE : Hid (lowB p ys = true → qs (LF.q - dotQ p.cost xs (min p.cost.length xs.length)) ≤ 0) := Lib.hid (fun hl => by
    obtain ⟨l1, l2, l3⟩ := lowB_true hl
    have hmin : min p.cost.length xs.length = p.cols.length := by rw [HOK.out.2.2.2.1, HXL.out, Nat.min_self]
    rw [hmin, ← HLF.out, lowF_yes hl, canF_q]
    have := weak (xs := xs) l3 (fun j hj => by
      obtain ⟨f, hf⟩ := get_some (fs := xs) (i := j) (by rw [HXL.out]; exact hj)
      rw [qAt_some hf]; exact HNN.out j f hf) (fun i hi => (HEQ.out i hi).symm)
    exact Int.not_lt.1 fun g => (qs_sub_pos.1 g) this)
  have HSA : Hid (lowB p ys = true → ShH LF) := Lib.hid (fun hl => by
    rw [← HLF.out, lowF_yes hl]
    exact Sz.shH (Sz_dot HYR.out HKR.out (by decide)) (by have := HOK.out.2.1; omega))
  have HSB : Hid (ShH (canF (dotQ p.cost xs (min p.cost.length xs.length)))) := Lib.hid (Sz.shH (Sz_dot HKC.out HKX.out (by decide)) (by have := HSD.out; have := HOK.out.2.2.1; have := HOK.out.2.2.2.1; omega))
  cases hlb : lowB p ys
  · clear HLE HSA HSB hlb
    go_wp2_with fail
    clear hW8
    have C0 := stab x0
    have C1 := stab x1
    have C2 := stab x2
    have C3 := stab p0
    have C4 := stab p1
    have C5 := stab p2
    have C6 := stab p3
    have C7 := stab q0
    have C8 := stab q1
    have C9 := stab q2
    have C10 := stab q3
    have hS0 := below_drew' W8
    clear x0 x1 x2 p0 p1 p2 p3 q0 q1 q2 q3
    refine region_seq 25 [0, 1, 2, 3, 4, 5, 6, 7, 8, 9, 10, 11, 12, 13, 14, 15, 16, 17, 18, 19, 20, 21, 22, 23, 24] (by kernel_rfl) (by kernel_rfl) ?_
    repeat (first | (refine seq_takeP (v := ?_) rfl rfl rfl ?_ ?_; rotate_left; (· (intro _ hSw; go_simp; (try go_bits); (try with_reducible rfl))); (try simp only [Act.put, List.setIfInBounds_toArray, List.set_cons_zero, List.set_cons_succ, List.getElem_toArray, List.getElem_cons_zero, List.getElem_cons_succ])) | (refine seq_take (v := ?_) rfl rfl rfl ?_ ?_; rotate_left; (· (intro _ hSw; go_simp; (try go_bits); (try with_reducible rfl))); (try simp only [Act.put, List.setIfInBounds_toArray, List.set_cons_zero, List.set_cons_succ, List.getElem_toArray, List.getElem_cons_zero, List.getElem_cons_succ])) | (refine seq_skip rfl rfl rfl ?_; (try simp only [Act.put, List.setIfInBounds_toArray, List.set_cons_zero, List.set_cons_succ, List.getElem_toArray, List.getElem_cons_zero, List.getElem_cons_succ])) | (refine seq_skipc rfl rfl rfl (by assumption) ?_; (try simp only [Act.put, List.setIfInBounds_toArray, List.set_cons_zero, List.set_cons_succ, List.getElem_toArray, List.getElem_cons_zero, List.getElem_cons_succ])))
    refine seq_step rfl rfl (fun KR hKR => ?_)
    go_simp
    with_reducible refine (sameF_any _ _ _ _ _ (hFa.below hS0) (hFb.below hS0)).mono ?_
    rw [sameF_refl]
    rintro _ w9 ⟨rfl, hb9⟩
    have hS9 := below_then hS0 hb9 hS0.size
    refine hKR.out _ _ (Or.inr hS9) ?_
    clear hKR KR
    (try simp only [Act.put, List.setIfInBounds_toArray, List.set_cons_zero, List.set_cons_succ, List.getElem_toArray, List.getElem_cons_zero, List.getElem_cons_succ])
    repeat (first | (refine seq_takeP (v := ?_) rfl rfl rfl ?_ ?_; rotate_left; (· (intro _ hSw; go_simp; (try go_bits); (try with_reducible rfl))); (try simp only [Act.put, List.setIfInBounds_toArray, List.set_cons_zero, List.set_cons_succ, List.getElem_toArray, List.getElem_cons_zero, List.getElem_cons_succ])) | (refine seq_take (v := ?_) rfl rfl rfl ?_ ?_; rotate_left; (· (intro _ hSw; go_simp; (try go_bits); (try with_reducible rfl))); (try simp only [Act.put, List.setIfInBounds_toArray, List.set_cons_zero, List.set_cons_succ, List.getElem_toArray, List.getElem_cons_zero, List.getElem_cons_succ])) | (refine seq_skip rfl rfl rfl ?_; (try simp only [Act.put, List.setIfInBounds_toArray, List.set_cons_zero, List.set_cons_succ, List.getElem_toArray, List.getElem_cons_zero, List.getElem_cons_succ])) | (refine seq_skipc rfl rfl rfl (by assumption) ?_; (try simp only [Act.put, List.setIfInBounds_toArray, List.set_cons_zero, List.set_cons_succ, List.getElem_toArray, List.getElem_cons_zero, List.getElem_cons_succ])))
    refine seq_step rfl rfl (fun KR hKR => ?_)
    go_simp
    with_reducible refine (known_any _).mono ?_
    rintro _ w12 ⟨rfl, hb12⟩
    have hS12 := below_then hS9 hb12 hS9.size
    refine hKR.out _ _ (Or.inr hS12) ?_
    clear hKR KR
    (try simp only [Act.put, List.setIfInBounds_toArray, List.set_cons_zero, List.set_cons_succ, List.getElem_toArray, List.getElem_cons_zero, List.getElem_cons_succ])
    repeat (first | (refine seq_takeP (v := ?_) rfl rfl rfl ?_ ?_; rotate_left; (· (intro _ hSw; go_simp; (try go_bits); (try with_reducible rfl))); (try simp only [Act.put, List.setIfInBounds_toArray, List.set_cons_zero, List.set_cons_succ, List.getElem_toArray, List.getElem_cons_zero, List.getElem_cons_succ])) | (refine seq_take (v := ?_) rfl rfl rfl ?_ ?_; rotate_left; (· (intro _ hSw; go_simp; (try go_bits); (try with_reducible rfl))); (try simp only [Act.put, List.setIfInBounds_toArray, List.set_cons_zero, List.set_cons_succ, List.getElem_toArray, List.getElem_cons_zero, List.getElem_cons_succ])) | (refine seq_skip rfl rfl rfl ?_; (try simp only [Act.put, List.setIfInBounds_toArray, List.set_cons_zero, List.set_cons_succ, List.getElem_toArray, List.getElem_cons_zero, List.getElem_cons_succ])) | (refine seq_skipc rfl rfl rfl (by assumption) ?_; (try simp only [Act.put, List.setIfInBounds_toArray, List.set_cons_zero, List.set_cons_succ, List.getElem_toArray, List.getElem_cons_zero, List.getElem_cons_succ])))
    refine seq_done ?_
    have bfin := below_then hb8' hS12 hb8'.size
    clear C0 C1 C2 C3 C4 C5 C6 C7 C8 C9 C10
    go_wp2
    go_ret
    exact ⟨rfl, bfin⟩
  · replace HLE := Lib.hid (HLE.out hlb)
    replace HSA := Lib.hid (HSA.out hlb)
    clear hlb
    go_wp2_with fail
    clear hW8
    have C0 := stab x0
    have C1 := stab x1
    have C2 := stab x2
    have C3 := stab p0
    have C4 := stab p1
    have C5 := stab p2
    have C6 := stab p3
    have C7 := stab q0
    have C8 := stab q1
    have C9 := stab q2
    have C10 := stab q3
    have hS0 := below_drew' W8
    clear x0 x1 x2 p0 p1 p2 p3 q0 q1 q2 q3
    refine region_seq 25 [0, 1, 2, 3, 4, 5, 6, 7, 8, 9, 10, 11, 12, 13, 14, 15, 16, 17, 18, 19, 20, 21, 22, 23, 24] (by kernel_rfl) (by kernel_rfl) ?_
    repeat (first | (refine seq_takeP (v := ?_) rfl rfl rfl ?_ ?_; rotate_left; (· (intro _ hSw; go_simp; (try go_bits); (try with_reducible rfl))); (try simp only [Act.put, List.setIfInBounds_toArray, List.set_cons_zero, List.set_cons_succ, List.getElem_toArray, List.getElem_cons_zero, List.getElem_cons_succ])) | (refine seq_take (v := ?_) rfl rfl rfl ?_ ?_; rotate_left; (· (intro _ hSw; go_simp; (try go_bits); (try with_reducible rfl))); (try simp only [Act.put, List.setIfInBounds_toArray, List.set_cons_zero, List.set_cons_succ, List.getElem_toArray, List.getElem_cons_zero, List.getElem_cons_succ])) | (refine seq_skip rfl rfl rfl ?_; (try simp only [Act.put, List.setIfInBounds_toArray, List.set_cons_zero, List.set_cons_succ, List.getElem_toArray, List.getElem_cons_zero, List.getElem_cons_succ])) | (refine seq_skipc rfl rfl rfl (by assumption) ?_; (try simp only [Act.put, List.setIfInBounds_toArray, List.set_cons_zero, List.set_cons_succ, List.getElem_toArray, List.getElem_cons_zero, List.getElem_cons_succ])))
    refine seq_step rfl rfl (fun KR hKR => ?_)
    go_simp
    with_reducible refine (sameF_any _ _ _ _ _ (hFa.below hS0) (hFb.below hS0)).mono ?_
    rw [sameF_refl]
    rintro _ w9 ⟨rfl, hb9⟩
    have hS9 := below_then hS0 hb9 hS0.size
    refine hKR.out _ _ (Or.inr hS9) ?_
    clear hKR KR
    (try simp only [Act.put, List.setIfInBounds_toArray, List.set_cons_zero, List.set_cons_succ, List.getElem_toArray, List.getElem_cons_zero, List.getElem_cons_succ])
    repeat (first | (refine seq_takeP (v := ?_) rfl rfl rfl ?_ ?_; rotate_left; (· (intro _ hSw; go_simp; (try go_bits); (try with_reducible rfl))); (try simp only [Act.put, List.setIfInBounds_toArray, List.set_cons_zero, List.set_cons_succ, List.getElem_toArray, List.getElem_cons_zero, List.getElem_cons_succ])) | (refine seq_take (v := ?_) rfl rfl rfl ?_ ?_; rotate_left; (· (intro _ hSw; go_simp; (try go_bits); (try with_reducible rfl))); (try simp only [Act.put, List.setIfInBounds_toArray, List.set_cons_zero, List.set_cons_succ, List.getElem_toArray, List.getElem_cons_zero, List.getElem_cons_succ])) | (refine seq_skip rfl rfl rfl ?_; (try simp only [Act.put, List.setIfInBounds_toArray, List.set_cons_zero, List.set_cons_succ, List.getElem_toArray, List.getElem_cons_zero, List.getElem_cons_succ])) | (refine seq_skipc rfl rfl rfl (by assumption) ?_; (try simp only [Act.put, List.setIfInBounds_toArray, List.set_cons_zero, List.set_cons_succ, List.getElem_toArray, List.getElem_cons_zero, List.getElem_cons_succ])))
    refine seq_step rfl rfl (fun KR hKR => ?_)
    go_simp
    with_reducible refine (rdot_own _ _ p.cost xs 32 _ (hcst.below hS9) (hxs.below hS9) (by decide) HKC.out HKX.out HSD.out (by decide)).mono ?_
    rintro _ w10 ⟨v10, rfl, e10, hb10⟩
    have hS10 := below_then hS9 hb10 hS9.size
    refine hKR.out _ _ (Or.inr hS10) ?_
    clear hKR KR
    (try simp only [Act.put, List.setIfInBounds_toArray, List.set_cons_zero, List.set_cons_succ, List.getElem_toArray, List.getElem_cons_zero, List.getElem_cons_succ])
    repeat (first | (refine seq_takeP (v := ?_) rfl rfl rfl ?_ ?_; rotate_left; (· (intro _ hSw; go_simp; (try go_bits); (try with_reducible rfl))); (try simp only [Act.put, List.setIfInBounds_toArray, List.set_cons_zero, List.set_cons_succ, List.getElem_toArray, List.getElem_cons_zero, List.getElem_cons_succ])) | (refine seq_take (v := ?_) rfl rfl rfl ?_ ?_; rotate_left; (· (intro _ hSw; go_simp; (try go_bits); (try with_reducible rfl))); (try simp only [Act.put, List.setIfInBounds_toArray, List.set_cons_zero, List.set_cons_succ, List.getElem_toArray, List.getElem_cons_zero, List.getElem_cons_succ])) | (refine seq_skip rfl rfl rfl ?_; (try simp only [Act.put, List.setIfInBounds_toArray, List.set_cons_zero, List.set_cons_succ, List.getElem_toArray, List.getElem_cons_zero, List.getElem_cons_succ])) | (refine seq_skipc rfl rfl rfl (by assumption) ?_; (try simp only [Act.put, List.setIfInBounds_toArray, List.set_cons_zero, List.set_cons_succ, List.getElem_toArray, List.getElem_cons_zero, List.getElem_cons_succ])))
    refine seq_step rfl rfl (fun KR hKR => ?_)
    go_simp
    with_reducible refine (rcompareF_any _ _ LF _ _ (hFa.below hS10) e10 HSA.out HSB.out).mono ?_
    rw [canF_q]
    generalize hsc : qs (LF.q - dotQ p.cost xs (min p.cost.length xs.length)) = sc
    have hsc2 : sc ≤ 0 := by rw [← hsc]; exact HLE.out
    clear hsc
    rintro _ w11 ⟨rfl, hb11⟩
    have hS11 := below_then hS10 hb11 hS10.size
    refine hKR.out _ _ (Or.inr hS11) ?_
    clear hKR KR
    (try simp only [Act.put, List.setIfInBounds_toArray, List.set_cons_zero, List.set_cons_succ, List.getElem_toArray, List.getElem_cons_zero, List.getElem_cons_succ])
    repeat (first | (refine seq_takeP (v := ?_) rfl rfl rfl ?_ ?_; rotate_left; (· (intro _ hSw; go_simp; (try go_bits); (try with_reducible rfl))); (try simp only [Act.put, List.setIfInBounds_toArray, List.set_cons_zero, List.set_cons_succ, List.getElem_toArray, List.getElem_cons_zero, List.getElem_cons_succ])) | (refine seq_take (v := ?_) rfl rfl rfl ?_ ?_; rotate_left; (· (intro _ hSw; go_simp; (try go_bits); (try with_reducible rfl))); (try simp only [Act.put, List.setIfInBounds_toArray, List.set_cons_zero, List.set_cons_succ, List.getElem_toArray, List.getElem_cons_zero, List.getElem_cons_succ])) | (refine seq_skip rfl rfl rfl ?_; (try simp only [Act.put, List.setIfInBounds_toArray, List.set_cons_zero, List.set_cons_succ, List.getElem_toArray, List.getElem_cons_zero, List.getElem_cons_succ])) | (refine seq_skipc rfl rfl rfl (by assumption) ?_; (try simp only [Act.put, List.setIfInBounds_toArray, List.set_cons_zero, List.set_cons_succ, List.getElem_toArray, List.getElem_cons_zero, List.getElem_cons_succ])))
    refine seq_step rfl rfl (fun KR hKR => ?_)
    go_simp
    with_reducible refine (known_any _).mono ?_
    rintro _ w12 ⟨rfl, hb12⟩
    have hS12 := below_then hS11 hb12 hS11.size
    refine hKR.out _ _ (Or.inr hS12) ?_
    clear hKR KR
    (try simp only [Act.put, List.setIfInBounds_toArray, List.set_cons_zero, List.set_cons_succ, List.getElem_toArray, List.getElem_cons_zero, List.getElem_cons_succ])
    repeat (first | (refine seq_takeP (v := ?_) rfl rfl rfl ?_ ?_; rotate_left; (· (intro _ hSw; go_simp; (try go_bits); (try with_reducible rfl))); (try simp only [Act.put, List.setIfInBounds_toArray, List.set_cons_zero, List.set_cons_succ, List.getElem_toArray, List.getElem_cons_zero, List.getElem_cons_succ])) | (refine seq_take (v := ?_) rfl rfl rfl ?_ ?_; rotate_left; (· (intro _ hSw; go_simp; (try go_bits); (try with_reducible rfl))); (try simp only [Act.put, List.setIfInBounds_toArray, List.set_cons_zero, List.set_cons_succ, List.getElem_toArray, List.getElem_cons_zero, List.getElem_cons_succ])) | (refine seq_skip rfl rfl rfl ?_; (try simp only [Act.put, List.setIfInBounds_toArray, List.set_cons_zero, List.set_cons_succ, List.getElem_toArray, List.getElem_cons_zero, List.getElem_cons_succ])) | (refine seq_skipc rfl rfl rfl (by assumption) ?_; (try simp only [Act.put, List.setIfInBounds_toArray, List.set_cons_zero, List.set_cons_succ, List.getElem_toArray, List.getElem_cons_zero, List.getElem_cons_succ])))
    refine seq_done ?_
    have bfin := below_then hb8' hS12 hb8'.size
    clear C0 C1 C2 C3 C4 C5 C6 C7 C8 C9 C10
    go_wp2
    go_ret
    exact ⟨rfl, bfin⟩
end Go.Proofs.YtpanffbgihhjnaaGreat
