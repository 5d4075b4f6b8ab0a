/- Contracts and plain facts that the claim is built on, joined out of smaller texts. -/
import Derived.Test.YtpanffbgihhjnaaGreatS5
set_option linter.unusedVariables false
set_option linter.unusedSimpArgs false
/- The laws ProofVerify and ProofSound, walked. -/
namespace Go.Proofs.YtpanffbgihhjnaaGreat
open Go.RowKit Pl
attribute [local go_sem ↓] Go.wp_at_zero Go.wp_at_succ

theorem PrfM.but {w w' : World} {v : Value} {x : Prf} (h : PrfM w v x) (hk : KeepBut 29 w w') : PrfM w' v x := by
  obtain ⟨A, n, c, A', n', c', A'', n'', c'', h1, h2, h3, h4, h5, h6⟩ := h
  exact ⟨A, n, c, A', n', c', A'', n'', c'', h1, h2.but hk (by decide) (by decide), h3.but hk (by decide) (by decide), h4.but hk (by decide) (by decide), h5, h6⟩
theorem PrfM.xs {w : World} {st : Int} {A A' A'' : Option Addr} {n c n' c' n'' c'' : Nat} {x : Prf} (h : PrfM w (.agg #[.int .i64 st, .slice A n c, .slice A' n' c', .slice A'' n'' c'']) x) : FrsM w (.slice A n c) x.x := by
  obtain ⟨B, m, d, B', m', d', B'', m'', d'', h1, h2, h3, h4, h5, h6⟩ := h
  simp at h1
  obtain ⟨_, ⟨rfl, rfl, rfl⟩, _⟩ := h1
  exact h2
def ExtAt (U : World) (x : Prf) (s6 s7 : Value) (wx : World) : Prop :=
  ∃ g A1 n1 c1 A2 n2 c2 A3 n3 c3 er, s6 = .pointer (some ⟨g, 0, none⟩) ∧ s7 = .int .i64 er ∧ U.heap.size ≤ g ∧ Bk wx g 29 [.int .i64 x.st, .slice A1 n1 c1, .slice A2 n2 c2, .slice A3 n3 c3] ∧ PrfM wx (.agg #[.int .i64 x.st, .slice A1 n1 c1, .slice A2 n2 c2, .slice A3 n3 c3]) x ∧ Below U.heap.size U wx
theorem ExtAt.mk {U w : World} {g : Nat} {x : Prf} {a b c d : Value} {er : Int} {A1 A2 A3 : Option Addr} {n1 c1 n2 c2 n3 c3 : Nat} (hB : Bk w g 29 [a, b, c, d]) (h1 : PrfM w (.agg #[.int .i64 x.st, .slice A1 n1 c1, .slice A2 n2 c2, .slice A3 n3 c3]) x) (hb : Below U.heap.size U w) (hg : U.heap.size ≤ g) :
    ExtAt U x (.pointer (some ⟨g, 0, none⟩)) (.int .i64 er) ((((w.setCell ⟨g, 0, none⟩ (.int .i64 x.st)).setCell ⟨g, 1, none⟩ (.slice A1 n1 c1)).setCell ⟨g, 2, none⟩ (.slice A2 n2 c2)).setCell ⟨g, 3, none⟩ (.slice A3 n3 c3)) := by
  obtain ⟨k1, k2, k3, k4⟩ := prf_store (B := U.heap.size) (w0 := U) hB hb hg (.int .i64 x.st) (.slice A1 n1 c1) (.slice A2 n2 c2) (.slice A3 n3 c3)
  exact ⟨g, A1, n1, c1, A2, n2, c2, A3, n3, c3, er, rfl, rfl, hg, k1, h1.but k2, k3⟩
namespace Pl
theorem pow_fit {m : Nat} (h : m ≤ 3) : 5 ^ m * 32 ≤ 4000 := by
  have : m = 0 ∨ m = 1 ∨ m = 2 ∨ m = 3 := by omega
  rcases this with rfl | rfl | rfl | rfl <;> decide
theorem lp_fit {p : LPd} (hok : LpOK p) (hr : RsL 32 p.right) : p.Fit 32 := by
  have h1 := hok.2.1
  have h2 := hok.2.2.1
  have h3 := pow_fit h1
  exact ⟨hok.ok (by decide) hr, (lpErr_zero hok.err).2.2.2.1, by omega, hok.2.2.2.1, by omega, by decide, by omega⟩
theorem ver_zero {p : LPd} {x : Prf} (h : verQ p x = 0) : lpErr p = 0 ∧ shB p x = true ∧ holdB p x = true := by
  unfold verQ at h
  by_cases h1 : lpErr p = 0
  · rw [if_neg (by simpa using h1)] at h
    by_cases h2 : x.st < 1 ∨ 3 < x.st
    · rw [if_pos h2] at h; omega
    · rw [if_neg h2] at h
      cases h3 : shB p x with
      | false => rw [if_pos h3] at h; omega
      | true =>
        rw [if_neg (by simp [h3])] at h
        cases h4 : holdB p x with
        | false => rw [if_pos h4] at h; omega
        | true => exact ⟨h1, rfl, rfl⟩
  · rw [if_pos h1] at h; exact absurd h h1
theorem sound2 {p : LPd} {xs ys : List RF} (hnon : nonTo p ys p.cols.length) (hx : ∀ j, j < p.cols.length → 0 ≤ qAt xs j) (hr : ∀ i, i < p.right.length → timesQ p xs p.cols.length i = qAt p.right i) : dotQ ys p.right p.right.length ≤ 0 := by
  have h := weak (p := ⟨[], p.cols, p.right⟩) (xs := xs) (ys := ys) (fun j hj => by
    have := hnon j hj
    show dotC ys (LPd.col ⟨[], p.cols, p.right⟩ (j : Int)) p.right.length ≤ qAt [] j
    have e : LPd.col ⟨[], p.cols, p.right⟩ (j : Int) = p.col (j : Int) := rfl
    rw [e]
    simpa [qAt] using this) hx hr
  have e : ∀ n, dotQ ([] : List RF) xs n = 0 := fun n => by
    unfold dotQ
    induction n with
    | zero => rfl
    | succ n ih => rw [sumN_succ, ih, show qAt ([] : List RF) n = 0 from rfl]; grind
  have h' : dotQ ys p.right p.right.length ≤ dotQ ([] : List RF) xs p.cols.length := h
  rw [e] at h'
  exact h'
end Pl

set_option maxRecDepth 100000 in
set_option maxHeartbeats 16000000 in
theorem proofSound_any (v1 v2 : Value) (zl zm : List Int) (w : World) (h1 : IntsM w v1 zl) (h2 : IntsM w v2 zm) :
    Calls Tryz.prog 4 #[v1, v2] w fun e w' => e = .returned (.bool true) ∧ Below w.heap.size w w' := by
  obtain ⟨a, cap, rfl, _, _⟩ := h1.shape
  obtain ⟨a', cap', rfl, _, _⟩ := h2.shape
  generalize hn : zl.length = nl at *
  generalize hn' : zm.length = nm at *
  clear hn hn'
  go_enter Tryz.func4, Tryz.ntmps4
  go_wp2_with fail
  refine (feasibleData_own _ zl _ h1).mono ?_
  rintro _ w1 ⟨vp, vx, p, xs, rfl, hp, hx, hok, hrr, hrx, hxl, hnn, heq, hb1⟩
  obtain ⟨Ax, nx, cx, rfl⟩ := hx.sliceN
  have HXL := Lib.hid hxl
  have HNN := Lib.hid hnn
  have HEQ := Lib.hid heq
  have HKS := Lib.hid (hrx.mono (show 2 ≤ 4000 by decide))
  have HFIT := Lib.hid (lp_fit hok hrr)
  have HLE := Lib.hid hok.err
  have HOK := Lib.hid hok
  have HOK4 := Lib.hid (hok.ok (K := 4000) (by decide) (hrr.mono (by decide)))
  have HCL : Hid (∀ (j : Nat) (c : List En), p.cols[j]? = some c → c.length ≤ 64) := Lib.hid fun j c hc => by have := (hok.2.2.2.2.2 j c hc).2.1; have := hok.2.1; omega
  have HB5 := Lib.hid (pow_fit hok.2.1)
  obtain ⟨X1, X2, X3, X4, X5, X6⟩ := extF_B (s := stateQ p 200) HFIT.out
  have HX1 := Lib.hid (X1.mono HB5.out)
  have HX2 := Lib.hid (X2.mono HB5.out)
  have HX3 := Lib.hid (X3.mono HB5.out)
  have hp5 := hok.2.2.1
  have hp3 := hok.2.1
  have HL1 : Hid ((extF p (stateQ p 200)).x.length ≤ 1000) := Lib.hid (by omega)
  have HL2 : Hid ((extF p (stateQ p 200)).y.length ≤ 1000) := Lib.hid (by omega)
  have HL3 : Hid ((extF p (stateQ p 200)).ray.length ≤ 1000) := Lib.hid (by omega)
  have HP64 : Hid (p.right.length ≤ 64) := Lib.hid (by omega)
  have HP5 : Hid (p.cols.length ≤ 1000) := Lib.hid (by omega)
  have hlp0 := hp.lp
  obtain ⟨A0, n0, c0, A1, n1, c1, A2, m, c2, rfl, hcst0, hcols, hrt⟩ := id hlp0
  obtain ⟨W2, hW2, hX, hbn⟩ := box_lp w1 (.slice A0 n0 c0) (.slice A1 n1 c1) (.slice A2 m c2)
  have hbe2 := below_then hb1 hbn hb1.size
  have hlp := hlp0.below hbn
  have hcst := hcst0.below hbn
  have hxs := hx.frs.below hbn
  clear hok hp hlp0 hcols hrt hrr hxl hnn heq hrx hx X1 X2 X3 X4 X5 X6 hp5 hp3 hb1 hbn hcst0 h1
  go_upto_region 2 with (fail)
  clear hW2
  go_cut [7, 8] (fun s6 s7 wx => ExtAt W2 (extF p (stateQ p 200)) s6 s7 wx)
  case first =>
    obtain ⟨x0, x1, x2⟩ := hX.three
    have C0 := stab x0
    have C1 := stab x1
    have C2 := stab x2
    have hS0 := below_drew' W2
    clear x0 x1 x2
    refine region_plan 8 (.go 0 (.go 1 (.fork 2 (.fork 3 (.go 4 (.go 5 (.go 6 (.go 7 (.go 8 (.go 9 .done)))))) 7 (.go 3 (.go 4 (.go 5 (.go 6 (.go 8 (.go 9 .done))))))) 7 (.go 2 (.go 3 (.go 4 (.go 5 (.go 6 (.go 8 (.go 9 .done)))))))))) (by kernel_rfl) (by kernel_rfl) ?_
    repeat ((first | (refine plan_takeP (v := ?_) rfl rfl rfl ?_ ?_; rotate_left; (· (intro _ hSw; go_simp; (try go_bits); (try with_reducible rfl)))) | (refine plan_take (v := ?_) rfl rfl rfl ?_ ?_; rotate_left; (· (intro _ hSw; go_simp; (try go_bits); (try with_reducible rfl)))) | refine plan_skip rfl rfl rfl ?_ | refine plan_skipc rfl rfl rfl (by assumption) ?_); (try simp only [Act.put, pu1, pu2, pu3, pu4, pu5, pu6]))
    refine plan_fork rfl rfl (fun KR hKR => ?_) (fun KR hKR => ?_)
    · go_simp
      with_reducible refine (state_200 _ p 32 _ (hlp.below hS0) HFIT.out HLE.out).mono ?_
      rintro _ wa ⟨va, rfl, hMa, hba⟩
      have hSa := below_then hS0 hba hS0.size
      obtain ⟨Aa, la, ca, rfl, hIa⟩ := id hMa
      refine hKR.out _ _ (Or.inr hSa) ?_
      clear hKR KR
      (try simp only [Act.put, pu1, pu2, pu3, pu4, pu5, pu6])
      refine plan_fork rfl rfl (fun KR hKR => ?_) (fun KR hKR => ?_)
      · go_simp
        with_reducible refine (rextract_any _ _ p (stateQ p 200) 32 _ (hlp.below hSa) hMa HFIT.out HLE.out).mono ?_
        rintro _ wb ⟨vb, er, rfl, hPb, hbb⟩
        have hSb := below_then hSa hbb hSa.size
        obtain ⟨B1, m1, d1, B2, m2, d2, B3, m3, d3, rfl, hP1, hP2, hP3, _, _⟩ := id hPb
        refine hKR.out _ _ (Or.inr hSb) ?_
        clear hKR KR
        (try simp only [Act.put, pu1, pu2, pu3, pu4, pu5, pu6])
        repeat ((first | (refine plan_takeP (v := ?_) rfl rfl rfl ?_ ?_; rotate_left; (· (intro _ hSw; go_simp; (try go_bits); (try with_reducible rfl)))) | (refine plan_take (v := ?_) rfl rfl rfl ?_ ?_; rotate_left; (· (intro _ hSw; go_simp; (try go_bits); (try with_reducible rfl)))) | refine plan_skip rfl rfl rfl ?_ | refine plan_skipc rfl rfl rfl (by assumption) ?_); (try simp only [Act.put, pu1, pu2, pu3, pu4, pu5, pu6]))
        obtain ⟨WG, hWG, hGG, hbG⟩ := box_prf wb (.int .i64 0) (.slice none 0 0) (.slice none 0 0) (.slice none 0 0)
        have hge := hSb.size
        have hSG := below_then hSb hbG hSb.size
        replace hPb := hPb.below hbG
        refine plan_step rfl rfl (fun KR hKR => ?_)
        go_simp
        refine hKR.out _ _ (Or.inr hSG) ?_
        clear hKR KR hWG
        (try simp only [Act.put, pu1, pu2, pu3, pu4, pu5, pu6])
        obtain ⟨t0, t1, t2, t3⟩ := hGG.four
        obtain ⟨f0, f1, f2, f3⟩ := hGG.fourF
        refine plan_step rfl rfl (fun KR hKR => ?_)
        go_simp
        refine hKR.out _ _ (Or.inl (by decide)) ?_
        clear hKR KR
        (try simp only [Act.put, pu1, pu2, pu3, pu4, pu5, pu6])
        refine plan_step rfl rfl (fun KR hKR => ?_)
        go_simp
        refine hKR.out _ _ (Or.inl (by decide)) ?_
        clear hKR KR
        (try simp only [Act.put, pu1, pu2, pu3, pu4, pu5, pu6])
        refine plan_done ?_
        go_wp2_with fail
        go_meet
        exact ExtAt.mk hGG hPb hSG hge
      · obtain ⟨WG, hWG, hGG, hbG⟩ := box_prf wa (.int .i64 0) (.slice none 0 0) (.slice none 0 0) (.slice none 0 0)
        have hge := hSa.size
        have hSG := below_then hSa hbG hSa.size
        replace hMa := hMa.below hbG
        go_simp
        refine hKR.out _ _ (Or.inr hSG) ?_
        clear hKR KR hWG
        (try simp only [Act.put, pu1, pu2, pu3, pu4, pu5, pu6])
        refine plan_step rfl rfl (fun KR hKR => ?_)
        go_simp
        with_reducible refine (rextract_any _ _ p (stateQ p 200) 32 _ (hlp.below hSG) hMa HFIT.out HLE.out).mono ?_
        rintro _ wb ⟨vb, er, rfl, hPb, hbb⟩
        have hSb := below_then hSG hbb hSG.size
        obtain ⟨B1, m1, d1, B2, m2, d2, B3, m3, d3, rfl, hP1, hP2, hP3, _, _⟩ := id hPb
        replace hGG := hGG.later hbb
        refine hKR.out _ _ (Or.inr hSb) ?_
        clear hKR KR
        (try simp only [Act.put, pu1, pu2, pu3, pu4, pu5, pu6])
        repeat ((first | (refine plan_takeP (v := ?_) rfl rfl rfl ?_ ?_; rotate_left; (· (intro _ hSw; go_simp; (try go_bits); (try with_reducible rfl)))) | (refine plan_take (v := ?_) rfl rfl rfl ?_ ?_; rotate_left; (· (intro _ hSw; go_simp; (try go_bits); (try with_reducible rfl)))) | refine plan_skip rfl rfl rfl ?_ | refine plan_skipc rfl rfl rfl (by assumption) ?_); (try simp only [Act.put, pu1, pu2, pu3, pu4, pu5, pu6]))
        obtain ⟨t0, t1, t2, t3⟩ := hGG.four
        obtain ⟨f0, f1, f2, f3⟩ := hGG.fourF
        refine plan_step rfl rfl (fun KR hKR => ?_)
        go_simp
        refine hKR.out _ _ (Or.inl (by decide)) ?_
        clear hKR KR
        (try simp only [Act.put, pu1, pu2, pu3, pu4, pu5, pu6])
        refine plan_step rfl rfl (fun KR hKR => ?_)
        go_simp
        refine hKR.out _ _ (Or.inl (by decide)) ?_
        clear hKR KR
        (try simp only [Act.put, pu1, pu2, pu3, pu4, pu5, pu6])
        refine plan_done ?_
        go_wp2_with fail
        go_meet
        exact ExtAt.mk hGG hPb hSb hge
    · obtain ⟨WG, hWG, hGG, hbG⟩ := box_prf W2.drew (.int .i64 0) (.slice none 0 0) (.slice none 0 0) (.slice none 0 0)
      have hge := hS0.size
      have hSG := below_then hS0 hbG hS0.size
      go_simp
      refine hKR.out _ _ (Or.inr hSG) ?_
      clear hKR KR hWG
      (try simp only [Act.put, pu1, pu2, pu3, pu4, pu5, pu6])
      change Bk WG W2.heap.size 29 _ at hGG
      refine plan_step rfl rfl (fun KR hKR => ?_)
      go_simp
      with_reducible refine (state_200 _ p 32 _ (hlp.below hSG) HFIT.out HLE.out).mono ?_
      rintro _ wa ⟨va, rfl, hMa, hba⟩
      have hSa := below_then hSG hba hSG.size
      obtain ⟨Aa, la, ca, rfl, hIa⟩ := id hMa
      replace hGG := hGG.later hba
      refine hKR.out _ _ (Or.inr hSa) ?_
      clear hKR KR
      (try simp only [Act.put, pu1, pu2, pu3, pu4, pu5, pu6])
      refine plan_step rfl rfl (fun KR hKR => ?_)
      go_simp
      with_reducible refine (rextract_any _ _ p (stateQ p 200) 32 _ (hlp.below hSa) hMa HFIT.out HLE.out).mono ?_
      rintro _ wb ⟨vb, er, rfl, hPb, hbb⟩
      have hSb := below_then hSa hbb hSa.size
      obtain ⟨B1, m1, d1, B2, m2, d2, B3, m3, d3, rfl, hP1, hP2, hP3, _, _⟩ := id hPb
      replace hGG := hGG.later hbb
      refine hKR.out _ _ (Or.inr hSb) ?_
      clear hKR KR
      (try simp only [Act.put, pu1, pu2, pu3, pu4, pu5, pu6])
      repeat ((first | (refine plan_takeP (v := ?_) rfl rfl rfl ?_ ?_; rotate_left; (· (intro _ hSw; go_simp; (try go_bits); (try with_reducible rfl)))) | (refine plan_take (v := ?_) rfl rfl rfl ?_ ?_; rotate_left; (· (intro _ hSw; go_simp; (try go_bits); (try with_reducible rfl)))) | refine plan_skip rfl rfl rfl ?_ | refine plan_skipc rfl rfl rfl (by assumption) ?_); (try simp only [Act.put, pu1, pu2, pu3, pu4, pu5, pu6]))
      obtain ⟨t0, t1, t2, t3⟩ := hGG.four
      obtain ⟨f0, f1, f2, f3⟩ := hGG.fourF
      refine plan_step rfl rfl (fun KR hKR => ?_)
      go_simp
      refine hKR.out _ _ (Or.inl (by decide)) ?_
      clear hKR KR
      (try simp only [Act.put, pu1, pu2, pu3, pu4, pu5, pu6])
      refine plan_step rfl rfl (fun KR hKR => ?_)
      go_simp
      refine hKR.out _ _ (Or.inl (by decide)) ?_
      clear hKR KR
      (try simp only [Act.put, pu1, pu2, pu3, pu4, pu5, pu6])
      refine plan_done ?_
      go_wp2_with fail
      go_meet
      exact ExtAt.mk hGG hPb hSb hge
  case rest =>
    obtain ⟨gx, B1, m1, d1, B2, m2, d2, B3, m3, d3, er, rfl, rfl, hgx, hP3, hx3, hb3⟩ := hcut
    have hX3 := hX.later hb3
    obtain ⟨x0, x1, x2⟩ := hX3.three
    obtain ⟨p0, p1, p2, p3⟩ := hP3.four
    go_wp2_with fail
    refine (made_any _ _ _ p (extF p (stateQ p 200)) zm 4000 _ (hlp.below hb3) hx3 (h2.below (below_then hbe2 hb3 hbe2.size)) (by decide) HX1.out HX2.out HX3.out HL1.out HL2.out HL3.out HP64.out HP5.out).mono ?_
    rintro _ w4 ⟨v4, y, rfl, hy4, hkx, hky, hkr, hb4⟩
    have HKX := Lib.hid hkx
    have HKY := Lib.hid hky
    have HKR := Lib.hid hkr
    obtain ⟨E1, e1, g1, E2, e2, g2, E3, e3, g3, rfl, _, _, _, _, _⟩ := id hy4
    obtain ⟨W5, hW5, hY5, hb5⟩ := box_prf w4 (.int .i64 0) (.slice none 0 0) (.slice none 0 0) (.slice none 0 0)
    have hb34 := below_then hb3 hb4 hb3.size
    have hb35 := below_then hb34 hb5 hb34.size
    obtain ⟨k1, k2, k3, k4⟩ := prf_store (B := W2.heap.size) (w0 := W2) hY5 hb35 hb34.size (.int .i64 y.st) (.slice E1 e1 g1) (.slice E2 e2 g2) (.slice E3 e3 g3)
    have hX5 := k4 _ _ _ (Nat.ne_of_lt (hX.later hb34).lt_) (hX.later hb35)
    have hy := (hy4.below hb5).but k2
    have hbU := k3
    have hYU := k1
    obtain ⟨q0, q1, q2, q3⟩ := hY5.four
    obtain ⟨f0, f1, f2, f3⟩ := hY5.fourF
    clear x0 x1 x2 p0 p1 p2 p3 hkx hky hkr hX3 hP3 hx3 hb3 hb4 hb5 hb34 hb35 k2 k3 k4
    go_upto_region 4 with (fail)
    clear q0 q1 q2 q3 f0 f1 f2 f3 hY5 hW5 k1 hy4
    generalize w4.heap.size = gy at *
    generalize (((W5.setCell ⟨gy, 0, none⟩ (.int .i64 y.st)).setCell ⟨gy, 1, none⟩ (.slice E1 e1 g1)).setCell ⟨gy, 2, none⟩ (.slice E2 e2 g2)).setCell ⟨gy, 3, none⟩ (.slice E3 e3 g3) = U at *
    have hbw := below_then hbe2 hbU hbe2.size
    obtain ⟨x0, x1, x2⟩ := hX5.three
    obtain ⟨p0, p1, p2, p3⟩ := hYU.four
    by_cases hs1 : y.st < 1
    · go_wp2_with fail
      refine (known_any _).mono ?_
      rintro _ w7 ⟨rfl, hb7⟩
      have bfin := below_then hbw hb7 hbw.size
      go_wp2
      go_ret
      exact ⟨rfl, bfin⟩
    have hs1' : 1 ≤ y.st := by omega
    clear hs1
    by_cases hs2 : 2 < y.st
    · go_wp2_with fail
      refine (known_any _).mono ?_
      rintro _ w7 ⟨rfl, hb7⟩
      have bfin := below_then hbw hb7 hbw.size
      go_wp2
      go_ret
      exact ⟨rfl, bfin⟩
    have hs2' : y.st ≤ 2 := by omega
    clear hs2
    go_wp2_with fail
    refine (verify_any _ _ p y 4000 _ (hlp.below hbU) hy HOK4.out HKX.out HKY.out HKR.out (by decide) HCL.out (by decide)).mono ?_
    generalize hq : verQ p y = q
    have HQ := Lib.hid hq
    clear hq
    rintro _ w6 ⟨rfl, hb6⟩
    by_cases hq0 : q = 0
    rotate_left
    · have hq1 : (q != 0) = true := by simpa using hq0
      clear hq0
      go_wp2_with fail
      refine (known_any _).mono ?_
      rintro _ w7 ⟨rfl, hb7⟩
      have bfin := below_then hbw (below_then hb6 hb7 hb6.size) hbw.size
      go_wp2
      go_ret
      exact ⟨rfl, bfin⟩
    subst hq0
    have HV := Lib.hid (ver_zero HQ.out)
    have HPOS : Hid (∀ j, j < p.cols.length → 0 ≤ qAt xs j) := Lib.hid fun j hj => by
      obtain ⟨f, hf⟩ := get_some (fs := xs) (i := j) (by rw [HXL.out]; exact hj)
      rw [qAt_some hf]; exact HNN.out j f hf
    have hst : y.st = 1 := by
      obtain ⟨_, _, hh⟩ := HV.out
      rcases (show y.st = 1 ∨ y.st = 2 by omega) with e | e
      · exact e
      · exfalso
        unfold holdB at hh
        rw [if_neg (by omega), if_pos e] at hh
        unfold hold2 at hh
        simp only [Bool.and_eq_true, decide_eq_true_eq] at hh
        have h9 := sound2 (xs := xs) hh.1 HPOS.out (fun i hi => (HEQ.out i hi).symm)
        have h8 := qs_pos.1 hh.2
        grind
    obtain ⟨hv1, hv2, hv3⟩ := HV.out
    have HH1 : Hid (hold1 p y = true) := Lib.hid (by unfold holdB at hv3; rw [if_pos hst] at hv3; exact hv3)
    have HYX : Hid (y.x.length = p.cols.length) := Lib.hid (by have h9 := (shB_true hv2).1; unfold shX at h9; rw [hst, if_neg (by decide)] at h9; exact h9)
    obtain ⟨gx1, gx2, gx3⟩ := hcst.len
    clear hv1 hv2 hv3 HV hs1' hs2'
    have HC0 := Lib.hid gx1
    clear gx1
    have hyx := hy.xs
    obtain ⟨gy1, gy2, gy3⟩ := hyx.len
    have HCY : Hid (e1 = n0) := Lib.hid (by rw [gy1, HYX.out, HC0.out, HOK.out.2.2.2.1])
    have hcy : ((e1 : Int) == (n0 : Int)) = true := by rw [HCY.out]; simp
    clear gy1
    have HMN1 : Hid (min p.cost.length y.x.length = p.cols.length) := Lib.hid (by rw [HOK.out.2.2.2.1, HYX.out, Nat.min_self])
    have HMN2 : Hid (min p.cost.length xs.length = p.cols.length) := Lib.hid (by rw [HOK.out.2.2.2.1, HXL.out, Nat.min_self])
    have HSD1 : Hid (1 + min p.cost.length y.x.length * (2 * 4000 + 1) ≤ 34359738368) := Lib.hid (by rw [HMN1.out]; have := HOK.out.2.2.1; omega)
    have HSD2 : Hid (1 + min p.cost.length xs.length * (2 * 4000 + 1) ≤ 34359738368) := Lib.hid (by rw [HMN2.out]; have := HOK.out.2.2.1; omega)
    have HKC : Hid (RsL 4000 p.cost) := Lib.hid HOK4.out.1
    have HSA : Hid (ShH (canF (dotQ p.cost y.x p.cols.length))) := Lib.hid (Sz.shH (Sz_dot HKC.out HKX.out (by decide)) (by have := HOK.out.2.2.1; omega))
    have HSB : Hid (ShH (canF (dotQ p.cost xs p.cols.length))) := Lib.hid (Sz.shH (Sz_dot HKC.out HKS.out (by decide)) (by have := HOK.out.2.2.1; omega))
    have HLE2 : Hid (qs (dotQ p.cost y.x p.cols.length - dotQ p.cost xs p.cols.length) ≤ 0) := Lib.hid (by
      have hh := HH1.out
      unfold hold1 at hh
      simp only [Bool.and_eq_true, beq_iff_eq] at hh
      obtain ⟨l1, l2, l3⟩ := lowB_true hh.1
      have h9 := weak (xs := xs) l3 HPOS.out (fun i hi => (HEQ.out i hi).symm)
      have h8 := qs_zero.1 hh.2.2
      exact qs_le.2 (by grind))
    have HBD := Lib.hid (qs_bd (dotQ p.cost y.x p.cols.length - dotQ p.cost xs p.cols.length))
    have hX6 := hX5.later hb6
    have hY6 := hYU.later hb6
    rw [hst] at hY6
    have hbU6 := below_then hbU hb6 hbU.size
    have hyx6 := hyx.below hb6
    have hbw6 := below_then hbw hb6 hbw.size
    clear x0 x1 x2 p0 p1 p2 p3 hX5 hYU hbU hyx hbw hb6 hy
    have hbU := hbU6
    have hyx := hyx6
    have hbw := hbw6
    clear hbU6 hyx6 hbw6
    obtain ⟨x0, x1, x2⟩ := hX6.three
    obtain ⟨p0, p1, p2, p3⟩ := hY6.four
    go_wp2_with fail
    have C0 := stab x0
    have C1 := stab x1
    have C2 := stab x2
    have D0 := stab p0
    have D1 := stab p1
    have D2 := stab p2
    have D3 := stab p3
    have hS0 := below_drew' w6
    clear x0 x1 x2 p0 p1 p2 p3
    refine region_seq 29 [0, 1, 2, 3, 4, 5, 6, 7, 8, 9, 10, 11, 12, 13, 14, 15, 16, 18, 19, 20, 17, 21, 22, 23, 24, 25, 26, 27, 28] (by kernel_rfl) (by kernel_rfl) ?_
    repeat ((first | (refine seq_takeP (v := ?_) rfl rfl rfl ?_ ?_; rotate_left; (· (intro _ hSw; go_simp; (try go_bits); (try with_reducible rfl)))) | (refine seq_take (v := ?_) rfl rfl rfl ?_ ?_; rotate_left; (· (intro _ hSw; go_simp; (try go_bits); (try with_reducible rfl)))) | refine seq_skip rfl rfl rfl ?_ | refine seq_skipc rfl rfl rfl (by assumption) ?_); (try simp only [Act.put, pu1, pu2, pu3, pu4, pu5, pu6]))
    refine seq_step rfl rfl (fun KR hKR => ?_)
    go_simp
    with_reducible refine (rdot_own _ _ p.cost y.x 4000 _ ((hcst.below hbU).below (hS0)) (hyx.below hS0) (by decide) HKC.out HKX.out HSD1.out (by decide)).mono ?_
    rw [HMN1.out]
    rintro _ w7 ⟨v7, rfl, e7, hb7⟩
    have hS7 := below_then hS0 hb7 hS0.size
    refine hKR.out _ _ (Or.inr hS7) ?_
    clear hKR KR
    (try simp only [Act.put, pu1, pu2, pu3, pu4, pu5, pu6])
    repeat ((first | (refine seq_takeP (v := ?_) rfl rfl rfl ?_ ?_; rotate_left; (· (intro _ hSw; go_simp; (try go_bits); (try with_reducible rfl)))) | (refine seq_take (v := ?_) rfl rfl rfl ?_ ?_; rotate_left; (· (intro _ hSw; go_simp; (try go_bits); (try with_reducible rfl)))) | refine seq_skip rfl rfl rfl ?_ | refine seq_skipc rfl rfl rfl (by assumption) ?_); (try simp only [Act.put, pu1, pu2, pu3, pu4, pu5, pu6]))
    refine seq_step rfl rfl (fun KR hKR => ?_)
    go_simp
    with_reducible refine (rdot_own _ _ p.cost xs 4000 _ ((hcst.below hbU).below hS7) ((hxs.below hbU).below hS7) (by decide) HKC.out HKS.out HSD2.out (by decide)).mono ?_
    rw [HMN2.out]
    rintro _ w8 ⟨v8, rfl, e8, hb8⟩
    have hS8 := below_then hS7 hb8 hS7.size
    refine hKR.out _ _ (Or.inr hS8) ?_
    clear hKR KR
    (try simp only [Act.put, pu1, pu2, pu3, pu4, pu5, pu6])
    repeat ((first | (refine seq_takeP (v := ?_) rfl rfl rfl ?_ ?_; rotate_left; (· (intro _ hSw; go_simp; (try go_bits); (try with_reducible rfl)))) | (refine seq_take (v := ?_) rfl rfl rfl ?_ ?_; rotate_left; (· (intro _ hSw; go_simp; (try go_bits); (try with_reducible rfl)))) | refine seq_skip rfl rfl rfl ?_ | refine seq_skipc rfl rfl rfl (by assumption) ?_); (try simp only [Act.put, pu1, pu2, pu3, pu4, pu5, pu6]))
    refine seq_step rfl rfl (fun KR hKR => ?_)
    go_simp
    with_reducible refine (rcompareF_any _ _ _ _ _ (e7.below hb8) e8 HSA.out HSB.out).mono ?_
    rw [canF_q, canF_q]
    have hsl := HLE2.out
    have hbd := HBD.out
    generalize qs (dotQ p.cost y.x p.cols.length - dotQ p.cost xs p.cols.length) = sD at hsl hbd ⊢
    have hs01 : sD = 0 ∨ sD = -1 := by omega
    clear hsl hbd
    rintro _ w9 ⟨rfl, hb9⟩
    have hS9 := below_then hS8 hb9 hS8.size
    refine hKR.out _ _ (Or.inr hS9) ?_
    clear hKR KR
    (try simp only [Act.put, pu1, pu2, pu3, pu4, pu5, pu6])
    rcases hs01 with rfl | rfl
    all_goals
      repeat ((first | (refine seq_takeP (v := ?_) rfl rfl rfl ?_ ?_; rotate_left; (· (intro _ hSw; go_simp; (try go_bits); (try with_reducible rfl)))) | (refine seq_take (v := ?_) rfl rfl rfl ?_ ?_; rotate_left; (· (intro _ hSw; go_simp; (try go_bits); (try with_reducible rfl)))) | refine seq_skip rfl rfl rfl ?_ | refine seq_skipc rfl rfl rfl (by assumption) ?_); (try simp only [Act.put, pu1, pu2, pu3, pu4, pu5, pu6]))
      refine seq_step rfl rfl (fun KR hKR => ?_)
      go_simp
      with_reducible refine (known_any _).mono ?_
      rintro _ w10 ⟨rfl, hb10⟩
      have hS10 := below_then hS9 hb10 hS9.size
      refine hKR.out _ _ (Or.inr hS10) ?_
      clear hKR KR
      (try simp only [Act.put, pu1, pu2, pu3, pu4, pu5, pu6])
      repeat ((first | (refine seq_takeP (v := ?_) rfl rfl rfl ?_ ?_; rotate_left; (· (intro _ hSw; go_simp; (try go_bits); (try with_reducible rfl)))) | (refine seq_take (v := ?_) rfl rfl rfl ?_ ?_; rotate_left; (· (intro _ hSw; go_simp; (try go_bits); (try with_reducible rfl)))) | refine seq_skip rfl rfl rfl ?_ | refine seq_skipc rfl rfl rfl (by assumption) ?_); (try simp only [Act.put, pu1, pu2, pu3, pu4, pu5, pu6]))
      refine seq_done ?_
      have bfin := below_then hbw hS10 hbw.size
      clear C0 C1 C2 D0 D1 D2 D3
      go_wp2
      go_ret
      exact ⟨rfl, bfin⟩
end Go.Proofs.YtpanffbgihhjnaaGreat
