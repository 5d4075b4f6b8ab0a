/- Contracts and plain facts that the claim is built on, joined out of smaller texts. -/
import Derived.StillTail
import Derived.OpenShut
import Derived.Test.YtpanffbgihhjnaaGreatV2
set_option linter.unusedVariables false
set_option linter.unusedSimpArgs false
/- Walks: package pairingref25: Mul, Div, Add. -/
namespace Go.Proofs.YtpanffbgihhjnaaGreat
open Go.RowKit Pl
attribute [local go_sem ↓] Go.wp_at_zero Go.wp_at_succ

set_option maxRecDepth 100000 in
set_option maxHeartbeats 4000000 in
theorem rmulF_own (v1 v2 : Value) (a b : RF) (w : World) (h1 : FracM w v1 a) (h2 : FracM w v2 b) (hs : a.Sh) (hs2 : b.Sh) :
    Calls Tryz.prog 48 #[v1, v2] w fun e w' => ∃ v', e = .returned v' ∧ FracO w.heap.size w' v' (canF (a.q * b.q)) ∧ Below w.heap.size w w' := by
  obtain ⟨A, n, c, A', n', c', rfl, _, _⟩ := id h1
  obtain ⟨B, m, d, B', m', d', rfl, _, _⟩ := id h2
  obtain ⟨W, hW, hX, hY, hR, hbe⟩ := boxF3 w (.bool a.num.neg) (.slice A n c) (.bool a.den.neg) (.slice A' n' c') (.bool b.num.neg) (.slice B m d) (.bool b.den.neg) (.slice B' m' d')
  have i1 := h1.below hbe
  have i2 := h2.below hbe
  have hn1 : w.heap.size ≠ w.heap.size + 1 := by omega
  have hn2 : w.heap.size + 1 + 1 ≠ w.heap.size := by omega
  have hn3 : w.heap.size + 1 + 1 ≠ w.heap.size + 1 := by omega
  have tok : True := trivial
  obtain ⟨p1, p2, p3, p4⟩ := hX.four
  obtain ⟨q1, q2, q3, q4⟩ := hY.four
  go_enter Tryz.func48, Tryz.ntmps48
  go_wp2_with fail
  clear hW
  go_upto_region 1 with (fail)
  go_cut [] (fun wx => ∃ (A A' B B' : Option Addr) (n c n' c' m d m' d' : Nat), CanF2 a.q b.q w wx A A' B B' n c n' c' m d m' d')
  case first =>
    go_region_with (first
      | (go_at_call 74; have _t := tok; refine (rcanon_own _ a _ (i1.keep (Keep.drew _)) hs).mono ?_; clear tok _t; rintro e w6 ⟨v6, rfl, e6, hb6⟩; obtain ⟨A6, n6, k6, A6', n6', k6', rfl, _, _⟩ := id e6.1; obtain ⟨q1', q2', q3', q4'⟩ := (hY.drew.later hb6).four)
      | (go_at_call 74; refine (rcanon_own _ b _ ((i2.keep (Keep.drew _)).below hb6) hs2).mono ?_; rintro e w7 ⟨v7, rfl, e7, hb7⟩; obtain ⟨A7, n7, k7, A7', n7', k7', rfl, _, _⟩ := id e7.1; obtain ⟨c0, c1, c2, c3⟩ := ((hX.drew.later hb6).later hb7).four; obtain ⟨r0, r1, r2, r3⟩ := ((hX.drew.later hb6).later hb7).fourF; obtain ⟨c0', c1', c2', c3'⟩ := ((hY.drew.later hb6).later hb7).four; obtain ⟨r0', r1', r2', r3'⟩ := ((hY.drew.later hb6).later hb7).fourF))
    all_goals
      go_wp2_with fail
      go_meet
      have b1 := below_then hbe.drew hb6 hbe.size
      obtain ⟨a1, a2, a3, a4, a5, a6⟩ := fin_two ((hX.drew.later hb6).later hb7) ((hY.drew.later hb6).later hb7) ((hR.drew.later hb6).later hb7) hn1 hn2 hn3 (e6.below hb7).1 e7.1 (below_then b1 hb7 b1.size) (by omega) (by omega) _ rfl
      exact ⟨A6, A6', A7, A7', n6, k6, n6', k6', n7, k7, n7', k7', a1, a2, a3, a4, a5, a6⟩
  case rest =>
    obtain ⟨A, A', B, B', n, c, n', c', m, d, m', d', bX, bY, bR, fX, fY, be⟩ := hcut
    clear p1 p2 p3 p4 q1 q2 q3 q4 hX hY hR hbe i1 i2 h1 h2 tok
    have sz1 := hs.sz
    have sz2 := hs2.sz
    obtain ⟨l1, l2⟩ := szI sz1
    obtain ⟨l3, l4⟩ := szI sz2
    have hz1 := zN a.q
    have hz2 := zD a.q
    have hz3 := zN b.q
    have hz4 := zD b.q
    generalize canF a.q = P at *
    generalize canF b.q = Q at *
    have HZ1 := Lib.hid hz1
    have HZ2 := Lib.hid hz2
    have HZ3 := Lib.hid hz3
    have HZ4 := Lib.hid hz4
    clear hz1 hz2 hz3 hz4
    obtain ⟨iN, iD⟩ := fX.num
    obtain ⟨jN, jD⟩ := fY.num
    have tok : True := trivial
    have tok2 : True := trivial
    have hL1 : (digs (val (canI (P.num.z * Q.num.z)).ds)).length ≤ 137438953472 := (szV (by rw [HZ1.out, HZ3.out, Int.natAbs_mul]; exact Nat.le_trans (mul_len _ _) (Nat.le_trans (Nat.add_le_add sz1.1 sz2.1) (by decide))))
    have hL2 : (digs (val (canI (P.den.z * Q.den.z)).ds)).length ≤ 137438953472 := (szV (by rw [HZ2.out, HZ4.out, Int.natAbs_mul]; exact Nat.le_trans (mul_len _ _) (Nat.le_trans (Nat.add_le_add sz1.2 sz2.2) (by decide))))
    have HV : Hid (Rat.divInt (P.num.z * Q.num.z) (P.den.z * Q.den.z) = a.q * b.q) := Lib.hid (by rw [HZ1.out, HZ2.out, HZ3.out, HZ4.out]; exact mul_eq _ _)
    clear sz1 sz2 hs hs2 HZ1 HZ2 HZ3 HZ4
    go_wp2_with fail
    go_region_held3 (fun w' => (w'.cell? ⟨w.heap.size, 0, none⟩ = some (.bool P.num.neg) ∧ w'.cell? ⟨w.heap.size, 1, none⟩ = some (.slice A n c) ∧ w'.cell? ⟨w.heap.size, 2, none⟩ = some (.bool P.den.neg) ∧ w'.cell? ⟨w.heap.size, 3, none⟩ = some (.slice A' n' c')) ∧ (w'.cell? ⟨w.heap.size + 1, 0, none⟩ = some (.bool Q.num.neg) ∧ w'.cell? ⟨w.heap.size + 1, 1, none⟩ = some (.slice B m d) ∧ w'.cell? ⟨w.heap.size + 1, 2, none⟩ = some (.bool Q.den.neg) ∧ w'.cell? ⟨w.heap.size + 1, 3, none⟩ = some (.slice B' m' d')))
      (first | with_reducible exact ⟨bX.drew.four, bY.drew.four⟩ | with_reducible exact ⟨(bX.drew.later hb8).four, (bY.drew.later hb8).four⟩ | with_reducible exact ⟨((bX.drew.later hb8).later hb9).four, ((bY.drew.later hb8).later hb9).four⟩ | with_reducible exact ⟨(((bX.drew.later hb8).later hb9).later hb10).four, (((bY.drew.later hb8).later hb9).later hb10).four⟩ | with_reducible exact ⟨((((bX.drew.later hb8).later hb9).later hb10).far4 (Ne.symm hn2) _ _ _ _).four, ((((bY.drew.later hb8).later hb9).later hb10).far4 (Ne.symm hn3) _ _ _ _).four⟩)
      (first
        | (go_at_call 77; have _t := tok; refine (rmul_any _ _ P.num Q.num _ (iN.keep (Keep.drew _)) (jN.keep (Keep.drew _)) (by omega)).mono ?_; clear tok _t; rintro e w8 ⟨v8, rfl, e8, hb8⟩)
        | (go_at_call 77; refine (rmul_any _ _ P.den Q.den _ ((iD.keep (Keep.drew _)).below hb8) ((jD.keep (Keep.drew _)).below hb8) (by omega)).mono ?_; rintro e w9 ⟨v9, rfl, e9, hb9⟩)
        | (go_at_call 56; refine (rnew_own _ _ (canI (P.num.z * Q.num.z)) (canI (P.den.z * Q.den.z)) _ (e8.below hb9) e9 hL1 hL2).mono ?_; rw [canI_z, canI_z, HV.out]; rintro e w10 ⟨v10, rfl, e10, hb10⟩; obtain ⟨C, l, f, C', l', f', rfl, _, _⟩ := id e10.1; obtain ⟨c0, c1, c2, c3⟩ := (((bR.drew.later hb8).later hb9).later hb10).four; obtain ⟨f0, f1, f2, f3⟩ := (((bR.drew.later hb8).later hb9).later hb10).fourF))
    go_wp2
    refine ret_cell Tryz.results48 Tryz.underlying47 (by kernel_rfl) rfl ((((bR.drew.later hb8).later hb9).later hb10).set4 _ _ _ _) rfl ?_
    have b0 := be.drew
    have b1 := below_then b0 hb8 b0.size
    have b2 := below_then b1 hb9 b1.size
    have b3 := below_then b2 hb10 b2.size
    exact fin_fracO (((bR.drew.later hb8).later hb9).later hb10) (e10.mono b2.size) b3 (by omega)

set_option maxRecDepth 100000 in
set_option maxHeartbeats 4000000 in
theorem rdivF_own (v1 v2 : Value) (a b : RF) (w : World) (h1 : FracM w v1 a) (h2 : FracM w v2 b) (hs : a.Sh) (hs2 : b.Sh) :
    Calls Tryz.prog 58 #[v1, v2] w fun e w' => ∃ v', e = .returned v' ∧ FracO w.heap.size w' v' (canF (a.q / b.q)) ∧ Below w.heap.size w w' := by
  obtain ⟨A, n, c, A', n', c', rfl, _, _⟩ := id h1
  obtain ⟨B, m, d, B', m', d', rfl, _, _⟩ := id h2
  obtain ⟨W, hW, hX, hY, hR, hbe⟩ := boxF3 w (.bool a.num.neg) (.slice A n c) (.bool a.den.neg) (.slice A' n' c') (.bool b.num.neg) (.slice B m d) (.bool b.den.neg) (.slice B' m' d')
  have i1 := h1.below hbe
  have i2 := h2.below hbe
  have hn1 : w.heap.size ≠ w.heap.size + 1 := by omega
  have hn2 : w.heap.size + 1 + 1 ≠ w.heap.size := by omega
  have hn3 : w.heap.size + 1 + 1 ≠ w.heap.size + 1 := by omega
  have tok : True := trivial
  obtain ⟨p1, p2, p3, p4⟩ := hX.four
  obtain ⟨q1, q2, q3, q4⟩ := hY.four
  go_enter Tryz.func58, Tryz.ntmps58
  go_wp2_with fail
  clear hW
  go_upto_region 1 with (fail)
  go_cut [] (fun wx => ∃ (A A' B B' : Option Addr) (n c n' c' m d m' d' : Nat), CanF2 a.q b.q w wx A A' B B' n c n' c' m d m' d')
  case first =>
    go_region_with (first
      | (go_at_call 74; have _t := tok; refine (rcanon_own _ a _ (i1.keep (Keep.drew _)) hs).mono ?_; clear tok _t; rintro e w6 ⟨v6, rfl, e6, hb6⟩; obtain ⟨A6, n6, k6, A6', n6', k6', rfl, _, _⟩ := id e6.1; obtain ⟨q1', q2', q3', q4'⟩ := (hY.drew.later hb6).four)
      | (go_at_call 74; refine (rcanon_own _ b _ ((i2.keep (Keep.drew _)).below hb6) hs2).mono ?_; rintro e w7 ⟨v7, rfl, e7, hb7⟩; obtain ⟨A7, n7, k7, A7', n7', k7', rfl, _, _⟩ := id e7.1; obtain ⟨c0, c1, c2, c3⟩ := ((hX.drew.later hb6).later hb7).four; obtain ⟨r0, r1, r2, r3⟩ := ((hX.drew.later hb6).later hb7).fourF; obtain ⟨c0', c1', c2', c3'⟩ := ((hY.drew.later hb6).later hb7).four; obtain ⟨r0', r1', r2', r3'⟩ := ((hY.drew.later hb6).later hb7).fourF))
    all_goals
      go_wp2_with fail
      go_meet
      have b1 := below_then hbe.drew hb6 hbe.size
      obtain ⟨a1, a2, a3, a4, a5, a6⟩ := fin_two ((hX.drew.later hb6).later hb7) ((hY.drew.later hb6).later hb7) ((hR.drew.later hb6).later hb7) hn1 hn2 hn3 (e6.below hb7).1 e7.1 (below_then b1 hb7 b1.size) (by omega) (by omega) _ rfl
      exact ⟨A6, A6', A7, A7', n6, k6, n6', k6', n7, k7, n7', k7', a1, a2, a3, a4, a5, a6⟩
  case rest =>
    obtain ⟨A, A', B, B', n, c, n', c', m, d, m', d', bX, bY, bR, fX, fY, be⟩ := hcut
    clear p1 p2 p3 p4 q1 q2 q3 q4 hX hY hR hbe i1 i2 h1 h2 tok
    have sz1 := hs.sz
    have sz2 := hs2.sz
    obtain ⟨l1, l2⟩ := szI sz1
    obtain ⟨l3, l4⟩ := szI sz2
    have hz1 := zN a.q
    have hz2 := zD a.q
    have hz3 := zN b.q
    have hz4 := zD b.q
    generalize canF a.q = P at *
    generalize canF b.q = Q at *
    have HZ1 := Lib.hid hz1
    have HZ2 := Lib.hid hz2
    have HZ3 := Lib.hid hz3
    have HZ4 := Lib.hid hz4
    clear hz1 hz2 hz3 hz4
    obtain ⟨iN, iD⟩ := fX.num
    obtain ⟨jN, jD⟩ := fY.num
    have tok : True := trivial
    have tok2 : True := trivial
    have hL1 : (digs (val (canI (P.num.z * Q.den.z)).ds)).length ≤ 137438953472 := (szV (by rw [HZ1.out, HZ4.out, Int.natAbs_mul]; exact Nat.le_trans (mul_len _ _) (Nat.le_trans (Nat.add_le_add sz1.1 sz2.2) (by decide))))
    have hL2 : (digs (val (canI (P.den.z * Q.num.z)).ds)).length ≤ 137438953472 := (szV (by rw [HZ2.out, HZ3.out, Int.natAbs_mul]; exact Nat.le_trans (mul_len _ _) (Nat.le_trans (Nat.add_le_add sz1.2 sz2.1) (by decide))))
    have HV : Hid (Rat.divInt (P.num.z * Q.den.z) (P.den.z * Q.num.z) = a.q / b.q) := Lib.hid (by rw [HZ1.out, HZ2.out, HZ3.out, HZ4.out]; exact div_eq _ _)
    clear sz1 sz2 hs hs2 HZ1 HZ2 HZ3 HZ4
    go_wp2_with fail
    go_region_held3 (fun w' => (w'.cell? ⟨w.heap.size, 0, none⟩ = some (.bool P.num.neg) ∧ w'.cell? ⟨w.heap.size, 1, none⟩ = some (.slice A n c) ∧ w'.cell? ⟨w.heap.size, 2, none⟩ = some (.bool P.den.neg) ∧ w'.cell? ⟨w.heap.size, 3, none⟩ = some (.slice A' n' c')) ∧ (w'.cell? ⟨w.heap.size + 1, 0, none⟩ = some (.bool Q.num.neg) ∧ w'.cell? ⟨w.heap.size + 1, 1, none⟩ = some (.slice B m d) ∧ w'.cell? ⟨w.heap.size + 1, 2, none⟩ = some (.bool Q.den.neg) ∧ w'.cell? ⟨w.heap.size + 1, 3, none⟩ = some (.slice B' m' d')))
      (first | with_reducible exact ⟨bX.drew.four, bY.drew.four⟩ | with_reducible exact ⟨(bX.drew.later hb8).four, (bY.drew.later hb8).four⟩ | with_reducible exact ⟨((bX.drew.later hb8).later hb9).four, ((bY.drew.later hb8).later hb9).four⟩ | with_reducible exact ⟨(((bX.drew.later hb8).later hb9).later hb10).four, (((bY.drew.later hb8).later hb9).later hb10).four⟩ | with_reducible exact ⟨((((bX.drew.later hb8).later hb9).later hb10).far4 (Ne.symm hn2) _ _ _ _).four, ((((bY.drew.later hb8).later hb9).later hb10).far4 (Ne.symm hn3) _ _ _ _).four⟩)
      (first
        | (go_at_call 77; have _t := tok; refine (rmul_any _ _ P.num Q.den _ (iN.keep (Keep.drew _)) (jD.keep (Keep.drew _)) (by omega)).mono ?_; clear tok _t; rintro e w8 ⟨v8, rfl, e8, hb8⟩)
        | (go_at_call 77; refine (rmul_any _ _ P.den Q.num _ ((iD.keep (Keep.drew _)).below hb8) ((jN.keep (Keep.drew _)).below hb8) (by omega)).mono ?_; rintro e w9 ⟨v9, rfl, e9, hb9⟩)
        | (go_at_call 56; refine (rnew_own _ _ (canI (P.num.z * Q.den.z)) (canI (P.den.z * Q.num.z)) _ (e8.below hb9) e9 hL1 hL2).mono ?_; rw [canI_z, canI_z, HV.out]; rintro e w10 ⟨v10, rfl, e10, hb10⟩; obtain ⟨C, l, f, C', l', f', rfl, _, _⟩ := id e10.1; obtain ⟨c0, c1, c2, c3⟩ := (((bR.drew.later hb8).later hb9).later hb10).four; obtain ⟨f0, f1, f2, f3⟩ := (((bR.drew.later hb8).later hb9).later hb10).fourF))
    go_wp2
    refine ret_cell Tryz.results58 Tryz.underlying47 (by kernel_rfl) rfl ((((bR.drew.later hb8).later hb9).later hb10).set4 _ _ _ _) rfl ?_
    have b0 := be.drew
    have b1 := below_then b0 hb8 b0.size
    have b2 := below_then b1 hb9 b1.size
    have b3 := below_then b2 hb10 b2.size
    exact fin_fracO (((bR.drew.later hb8).later hb9).later hb10) (e10.mono b2.size) b3 (by omega)

set_option maxRecDepth 100000 in
set_option maxHeartbeats 4000000 in
theorem raddF_own (v1 v2 : Value) (a b : RF) (w : World) (h1 : FracM w v1 a) (h2 : FracM w v2 b) (hs : a.Sh) (hs2 : b.Sh) :
    Calls Tryz.prog 47 #[v1, v2] w fun e w' => ∃ v', e = .returned v' ∧ FracO w.heap.size w' v' (canF (a.q + b.q)) ∧ Below w.heap.size w w' := by
  obtain ⟨A, n, c, A', n', c', rfl, _, _⟩ := id h1
  obtain ⟨B, m, d, B', m', d', rfl, _, _⟩ := id h2
  obtain ⟨W, hW, hX, hY, hR, hbe⟩ := boxF3 w (.bool a.num.neg) (.slice A n c) (.bool a.den.neg) (.slice A' n' c') (.bool b.num.neg) (.slice B m d) (.bool b.den.neg) (.slice B' m' d')
  have i1 := h1.below hbe
  have i2 := h2.below hbe
  have hn1 : w.heap.size ≠ w.heap.size + 1 := by omega
  have hn2 : w.heap.size + 1 + 1 ≠ w.heap.size := by omega
  have hn3 : w.heap.size + 1 + 1 ≠ w.heap.size + 1 := by omega
  have tok : True := trivial
  obtain ⟨p1, p2, p3, p4⟩ := hX.four
  obtain ⟨q1, q2, q3, q4⟩ := hY.four
  go_enter Tryz.func47, Tryz.ntmps47
  go_wp2_with fail
  clear hW
  go_upto_region 1 with (fail)
  go_cut [] (fun wx => ∃ (A A' B B' : Option Addr) (n c n' c' m d m' d' : Nat), CanF2 a.q b.q w wx A A' B B' n c n' c' m d m' d')
  case first =>
    go_region_with (first
      | (go_at_call 74; have _t := tok; refine (rcanon_own _ a _ (i1.keep (Keep.drew _)) hs).mono ?_; clear tok _t; rintro e w6 ⟨v6, rfl, e6, hb6⟩; obtain ⟨A6, n6, k6, A6', n6', k6', rfl, _, _⟩ := id e6.1; obtain ⟨q1', q2', q3', q4'⟩ := (hY.drew.later hb6).four)
      | (go_at_call 74; refine (rcanon_own _ b _ ((i2.keep (Keep.drew _)).below hb6) hs2).mono ?_; rintro e w7 ⟨v7, rfl, e7, hb7⟩; obtain ⟨A7, n7, k7, A7', n7', k7', rfl, _, _⟩ := id e7.1; obtain ⟨c0, c1, c2, c3⟩ := ((hX.drew.later hb6).later hb7).four; obtain ⟨r0, r1, r2, r3⟩ := ((hX.drew.later hb6).later hb7).fourF; obtain ⟨c0', c1', c2', c3'⟩ := ((hY.drew.later hb6).later hb7).four; obtain ⟨r0', r1', r2', r3'⟩ := ((hY.drew.later hb6).later hb7).fourF))
    all_goals
      go_wp2_with fail
      go_meet
      have b1 := below_then hbe.drew hb6 hbe.size
      obtain ⟨a1, a2, a3, a4, a5, a6⟩ := fin_two ((hX.drew.later hb6).later hb7) ((hY.drew.later hb6).later hb7) ((hR.drew.later hb6).later hb7) hn1 hn2 hn3 (e6.below hb7).1 e7.1 (below_then b1 hb7 b1.size) (by omega) (by omega) _ rfl
      exact ⟨A6, A6', A7, A7', n6, k6, n6', k6', n7, k7, n7', k7', a1, a2, a3, a4, a5, a6⟩
  case rest =>
    obtain ⟨A, A', B, B', n, c, n', c', m, d, m', d', bX, bY, bR, fX, fY, be⟩ := hcut
    clear p1 p2 p3 p4 q1 q2 q3 q4 hX hY hR hbe i1 i2 h1 h2 tok
    have sz1 := hs.sz
    have sz2 := hs2.sz
    obtain ⟨l1, l2⟩ := szI sz1
    obtain ⟨l3, l4⟩ := szI sz2
    have hz1 := zN a.q
    have hz2 := zD a.q
    have hz3 := zN b.q
    have hz4 := zD b.q
    generalize canF a.q = P at *
    generalize canF b.q = Q at *
    have HZ1 := Lib.hid hz1
    have HZ2 := Lib.hid hz2
    have HZ3 := Lib.hid hz3
    have HZ4 := Lib.hid hz4
    clear hz1 hz2 hz3 hz4
    obtain ⟨iN, iD⟩ := fX.num
    obtain ⟨jN, jD⟩ := fY.num
    have tok : True := trivial
    have tok2 : True := trivial
    have hA1 : (digs (P.num.z * Q.den.z).natAbs).length ≤ 68719476736 := by rw [HZ1.out, HZ4.out, Int.natAbs_mul]; exact Nat.le_trans (mul_len _ _) (Nat.add_le_add sz1.1 sz2.2)
    have hA2 : (digs (Q.num.z * P.den.z).natAbs).length ≤ 68719476736 := by rw [HZ3.out, HZ2.out, Int.natAbs_mul]; exact Nat.le_trans (mul_len _ _) (Nat.add_le_add sz2.1 sz1.2)
    have hL1 : (digs (val (canI (P.num.z * Q.den.z + Q.num.z * P.den.z)).ds)).length ≤ 137438953472 := szV (Nat.le_trans (add_lenI hA1 hA2) (by decide))
    have hL2 : (digs (val (canI (P.den.z * Q.den.z)).ds)).length ≤ 137438953472 := szV (by rw [HZ2.out, HZ4.out, Int.natAbs_mul]; exact Nat.le_trans (mul_len _ _) (Nat.le_trans (Nat.add_le_add sz1.2 sz2.2) (by decide)))
    have HV : Hid (Rat.divInt (P.num.z * Q.den.z + Q.num.z * P.den.z) (P.den.z * Q.den.z) = a.q + b.q) := Lib.hid (by rw [HZ1.out, HZ2.out, HZ3.out, HZ4.out]; exact add_eq _ _)
    clear sz1 sz2 hs hs2 HZ1 HZ2 HZ3 HZ4
    go_wp2_with fail
    go_region_held3 (fun w' => (w'.cell? ⟨w.heap.size, 0, none⟩ = some (.bool P.num.neg) ∧ w'.cell? ⟨w.heap.size, 1, none⟩ = some (.slice A n c) ∧ w'.cell? ⟨w.heap.size, 2, none⟩ = some (.bool P.den.neg) ∧ w'.cell? ⟨w.heap.size, 3, none⟩ = some (.slice A' n' c')) ∧ (w'.cell? ⟨w.heap.size + 1, 0, none⟩ = some (.bool Q.num.neg) ∧ w'.cell? ⟨w.heap.size + 1, 1, none⟩ = some (.slice B m d) ∧ w'.cell? ⟨w.heap.size + 1, 2, none⟩ = some (.bool Q.den.neg) ∧ w'.cell? ⟨w.heap.size + 1, 3, none⟩ = some (.slice B' m' d')))
      (first | with_reducible exact ⟨bX.drew.four, bY.drew.four⟩ | with_reducible exact ⟨(bX.drew.later hb8).four, (bY.drew.later hb8).four⟩ | with_reducible exact ⟨((bX.drew.later hb8).later hb9).four, ((bY.drew.later hb8).later hb9).four⟩ | with_reducible exact ⟨(((bX.drew.later hb8).later hb9).later hb10).four, (((bY.drew.later hb8).later hb9).later hb10).four⟩ | with_reducible exact ⟨((((bX.drew.later hb8).later hb9).later hb10).later hb11).four, ((((bY.drew.later hb8).later hb9).later hb10).later hb11).four⟩ | with_reducible exact ⟨(((((bX.drew.later hb8).later hb9).later hb10).later hb11).later hb12).four, (((((bY.drew.later hb8).later hb9).later hb10).later hb11).later hb12).four⟩ | with_reducible exact ⟨((((((bX.drew.later hb8).later hb9).later hb10).later hb11).later hb12).far4 (Ne.symm hn2) _ _ _ _).four, ((((((bY.drew.later hb8).later hb9).later hb10).later hb11).later hb12).far4 (Ne.symm hn3) _ _ _ _).four⟩)
      (first
        | (go_at_call 77; have _t := tok; refine (rmul_any _ _ P.num Q.den _ (iN.keep (Keep.drew _)) (jD.keep (Keep.drew _)) (by omega)).mono ?_; clear tok _t; rintro e w8 ⟨v8, rfl, e8, hb8⟩)
        | (go_at_call 77; have _t := tok2; refine (rmul_any _ _ Q.num P.den _ ((jN.keep (Keep.drew _)).below hb8) ((iD.keep (Keep.drew _)).below hb8) (by omega)).mono ?_; clear tok2 _t; rintro e w9 ⟨v9, rfl, e9, hb9⟩)
        | (go_at_call 76; refine (radd_any _ _ (canI (P.num.z * Q.den.z)) (canI (Q.num.z * P.den.z)) _ (e8.below hb9) e9 (by rw [len_canI]; omega) (by rw [len_canI]; omega)).mono ?_; rw [canI_z, canI_z]; rintro e w10 ⟨v10, rfl, e10, hb10⟩)
        | (go_at_call 77; refine (rmul_any _ _ P.den Q.den _ ((((iD.keep (Keep.drew _)).below hb8).below hb9).below hb10) ((((jD.keep (Keep.drew _)).below hb8).below hb9).below hb10) (by omega)).mono ?_; rintro e w11 ⟨v11, rfl, e11, hb11⟩)
        | (go_at_call 56; refine (rnew_own _ _ (canI (P.num.z * Q.den.z + Q.num.z * P.den.z)) (canI (P.den.z * Q.den.z)) _ (e10.below hb11) e11 hL1 hL2).mono ?_; rw [canI_z, canI_z, HV.out]; rintro e w12 ⟨v12, rfl, e12, hb12⟩; obtain ⟨C, l, f, C', l', f', rfl, _, _⟩ := id e12.1; obtain ⟨c0, c1, c2, c3⟩ := (((((bR.drew.later hb8).later hb9).later hb10).later hb11).later hb12).four; obtain ⟨f0, f1, f2, f3⟩ := (((((bR.drew.later hb8).later hb9).later hb10).later hb11).later hb12).fourF))
    go_wp2
    refine ret_cell Tryz.results47 Tryz.underlying47 (by kernel_rfl) rfl ((((((bR.drew.later hb8).later hb9).later hb10).later hb11).later hb12).set4 _ _ _ _) rfl ?_
    have b0 := be.drew
    have b1 := below_then b0 hb8 b0.size
    have b2 := below_then b1 hb9 b1.size
    have b3 := below_then b2 hb10 b2.size
    have b4 := below_then b3 hb11 b3.size
    have b5 := below_then b4 hb12 b4.size
    exact fin_fracO (((((bR.drew.later hb8).later hb9).later hb10).later hb11).later hb12) (e12.mono b4.size) b5 (by omega)
end Go.Proofs.YtpanffbgihhjnaaGreat

/- Walks: package pairingref25: Sub, Compare, Same. -/
namespace Go.Proofs.YtpanffbgihhjnaaGreat
open Go.RowKit Pl
attribute [local go_sem ↓] Go.wp_at_zero Go.wp_at_succ

theorem FracO.frac {base : Nat} {w : World} {v : Value} {f : RF} (h : FracO base w v f) : FracM w v f := h.1

set_option maxRecDepth 100000 in
set_option maxHeartbeats 2000000 in
theorem rsubF_own (v1 v2 : Value) (a b : RF) (w : World) (h1 : FracM w v1 a) (h2 : FracM w v2 b) (hs : a.Sh) (hs2 : b.Sh) :
    Calls Tryz.prog 49 #[v1, v2] w fun e w' => ∃ v', e = .returned v' ∧ FracO w.heap.size w' v' (canF (a.q - b.q)) ∧ Below w.heap.size w w' := by
  obtain ⟨A, n, c, A', n', c', rfl, _, _⟩ := id h1
  obtain ⟨B, m, d, B', m', d', rfl, _, _⟩ := id h2
  obtain ⟨W, hW, hX, hY, hR, hbe⟩ := boxF3 w (.bool a.num.neg) (.slice A n c) (.bool a.den.neg) (.slice A' n' c') (.bool b.num.neg) (.slice B m d) (.bool b.den.neg) (.slice B' m' d')
  have i1 := h1.below hbe
  have i2 := h2.below hbe
  have hn2 : w.heap.size ≠ w.heap.size + 1 + 1 := by omega
  have hn3 : w.heap.size + 1 ≠ w.heap.size + 1 + 1 := by omega
  have hs3 : (canF (-b.q)).Sh := (Sz_neg hs2.sz).sh (Nat.le_refl _)
  have HV : Hid (a.q + (canF (-b.q)).q = a.q - b.q) := Lib.hid (by rw [canF_q, Rat.sub_eq_add_neg])
  go_enter Tryz.func49, Tryz.ntmps49
  go_wp2_with fail
  clear hW
  go_region_held3 (fun w' => (w'.cell? ⟨w.heap.size, 0, none⟩ = some (.bool a.num.neg) ∧ w'.cell? ⟨w.heap.size, 1, none⟩ = some (.slice A n c) ∧ w'.cell? ⟨w.heap.size, 2, none⟩ = some (.bool a.den.neg) ∧ w'.cell? ⟨w.heap.size, 3, none⟩ = some (.slice A' n' c')) ∧ (w'.cell? ⟨w.heap.size + 1, 0, none⟩ = some (.bool b.num.neg) ∧ w'.cell? ⟨w.heap.size + 1, 1, none⟩ = some (.slice B m d) ∧ w'.cell? ⟨w.heap.size + 1, 2, none⟩ = some (.bool b.den.neg) ∧ w'.cell? ⟨w.heap.size + 1, 3, none⟩ = some (.slice B' m' d')))
    (first | with_reducible exact ⟨hX.drew.four, hY.drew.four⟩ | with_reducible exact ⟨(hX.drew.later hb8).four, (hY.drew.later hb8).four⟩ | with_reducible exact ⟨((hX.drew.later hb8).later hb9).four, ((hY.drew.later hb8).later hb9).four⟩ | with_reducible exact ⟨(((hX.drew.later hb8).later hb9).far4 hn2 _ _ _ _).four, (((hY.drew.later hb8).later hb9).far4 hn3 _ _ _ _).four⟩)
    (first
      | (go_at_call 34; (with_reducible refine (rnegateF_own _ b _ (i2.keep (Keep.drew _)) hs2).mono ?_); rintro e w8 ⟨v8, rfl, e8, hb8⟩)
      | (go_at_call 47; (with_reducible refine (raddF_own _ _ a (canF (-b.q)) _ ((i1.keep (Keep.drew _)).below hb8) e8.frac hs hs3).mono ?_); rw [HV.out]; rintro e w9 ⟨v9, rfl, e9, hb9⟩; obtain ⟨C, l, f, C', l', f', rfl, _, _⟩ := id e9.1; obtain ⟨c0, c1, c2, c3⟩ := ((hR.drew.later hb8).later hb9).four; obtain ⟨f0, f1, f2, f3⟩ := ((hR.drew.later hb8).later hb9).fourF))
  go_wp2
  refine ret_cell Tryz.results49 Tryz.underlying47 (by kernel_rfl) rfl (((hR.drew.later hb8).later hb9).set4 _ _ _ _) rfl ?_
  have b1 := below_then hbe.drew hb8 hbe.size
  exact fin_fracO ((hR.drew.later hb8).later hb9) (e9.mono b1.size) (below_then b1 hb9 b1.size) (by omega)

def ShH (f : RF) : Prop := (digs (val f.num.ds)).length ≤ 8589934592 ∧ (digs (val f.den.ds)).length ≤ 8589934592
theorem ShH.sh {f : RF} (h : ShH f) : f.Sh := by unfold ShH at h; unfold RF.Sh; omega
theorem ShH.sz {f : RF} (h : ShH f) : Sz 8589934592 f.q := Sz_divInt (by rw [z_natAbs]; exact h.1) (by rw [z_natAbs]; exact h.2) (by decide)
theorem Sz.shH {k : Nat} {q : Rat} (h : Sz k q) (hk : k ≤ 8589934592) : ShH (canF q) := by
  unfold ShH canF
  simp only [val_canI]
  exact ⟨Nat.le_trans h.1 hk, Nat.le_trans h.2 hk⟩
theorem canF_qs (q : Rat) : qs (canF q).q = qs q := by rw [canF_q]

set_option maxHeartbeats 1000000 in
theorem rcompareF_any (v1 v2 : Value) (a b : RF) (w : World) (h1 : FracM w v1 a) (h2 : FracM w v2 b) (hs : ShH a) (hs2 : ShH b) :
    Calls Tryz.prog 15 #[v1, v2] w fun e w' => e = .returned (.int .i64 (qs (a.q - b.q))) ∧ Below w.heap.size w w' := by
  obtain ⟨A, n, c, A', n', c', rfl, _, _⟩ := id h1
  obtain ⟨B, m, d, B', m', d', rfl, _, _⟩ := id h2
  obtain ⟨W, hW, hsz, hX, hY, hbe⟩ := boxF2 w (.bool a.num.neg) (.slice A n c) (.bool a.den.neg) (.slice A' n' c') (.bool b.num.neg) (.slice B m d) (.bool b.den.neg) (.slice B' m' d')
  have i1 := h1.below hbe
  have i2 := h2.below hbe
  obtain ⟨p1, p2, p3, p4⟩ := hX.four
  obtain ⟨q1, q2, q3, q4⟩ := hY.four
  have hs3 : (canF (a.q - b.q)).Sh := (Sz_sub hs.sz hs2.sz).sh (by decide)
  have HQ := Lib.hid (canF_qs (a.q - b.q))
  clear hsz
  go_enter Tryz.func15, Tryz.ntmps15
  go_wp2_with fail
  clear hW
  refine (rsubF_own _ _ a b _ i1 i2 hs.sh hs2.sh).mono ?_
  rintro e w1 ⟨v1, rfl, e1, hb1⟩
  generalize canF (a.q - b.q) = DF at *
  go_wp2_with fail
  refine (rsignF_any _ DF _ e1.1 hs3).mono ?_
  rw [HQ.out]
  rintro e w2 ⟨rfl, hb2⟩
  go_wp2
  go_ret
  have b1 := below_then hbe hb1 hbe.size
  exact ⟨rfl, below_then b1 hb2 b1.size⟩

def sameF (a b : RF) : Bool := sameI a.num b.num && sameI a.den b.den
theorem sameF_1 {a b : RF} (h : sameI a.num b.num = true) : sameF a b = sameI a.den b.den := by simp [sameF, h]
theorem sameF_0 {a b : RF} (h : sameI a.num b.num = false) : sameF a b = false := by simp [sameF, h]
theorem sameF_refl (a : RF) : sameF a a = true := by simp [sameF, sameI]

set_option maxHeartbeats 1000000 in
theorem sameF_any (v1 v2 : Value) (a b : RF) (w : World) (h1 : FracM w v1 a) (h2 : FracM w v2 b) :
    Calls Tryz.prog 21 #[v1, v2] w fun e w' => e = .returned (.bool (sameF a b)) ∧ Below w.heap.size w w' := by
  obtain ⟨A, n, c, A', n', c', rfl, _, _⟩ := id h1
  obtain ⟨B, m, d, B', m', d', rfl, _, _⟩ := id h2
  obtain ⟨W, hW, hsz, hX, hY, hbe⟩ := boxF2 w (.bool a.num.neg) (.slice A n c) (.bool a.den.neg) (.slice A' n' c') (.bool b.num.neg) (.slice B m d) (.bool b.den.neg) (.slice B' m' d')
  obtain ⟨i1, i2⟩ := (h1.below hbe).num
  obtain ⟨j1, j2⟩ := (h2.below hbe).num
  obtain ⟨p1, p2, p3, p4⟩ := hX.four
  obtain ⟨q1, q2, q3, q4⟩ := hY.four
  clear hsz
  go_enter Tryz.func21, Tryz.ntmps21
  go_wp2_with fail
  clear hW
  refine (sameInt_any _ _ a.num b.num _ i1 j1).mono ?_
  rintro e w1 ⟨rfl, hb1⟩
  have b1 := below_then hbe hb1 hbe.size
  cases hc : sameI a.num b.num
  · have HC := Lib.hid hc
    clear hc
    go_wp2
    go_ret
    exact ⟨ret_bool (sameF_0 HC.out), b1⟩
  · have HC := Lib.hid hc
    clear hc
    obtain ⟨p1', p2', p3', p4'⟩ := (hX.later hb1).four
    obtain ⟨q1', q2', q3', q4'⟩ := (hY.later hb1).four
    go_wp2_with fail
    refine (sameInt_any _ _ a.den b.den _ (i2.below hb1) (j2.below hb1)).mono ?_
    rintro e w2 ⟨rfl, hb2⟩
    go_wp2
    go_ret
    exact ⟨ret_bool (sameF_1 HC.out), below_then b1 hb2 b1.size⟩
end Go.Proofs.YtpanffbgihhjnaaGreat

/- Memory: slices of fractions. -/
namespace Go.Proofs.YtpanffbgihhjnaaGreat
open Go.RowKit Pl
attribute [local go_sem ↓] Go.wp_at_zero Go.wp_at_succ

def FrC (w : World) (cs : List Value) (fs : List RF) : Prop :=
  cs.length = fs.length * 4 ∧ ∀ k f, fs[k]? = some f → ∃ x y z u, cs[k * 4]? = some x ∧ cs[k * 4 + 1]? = some y ∧ cs[k * 4 + 2]? = some z ∧ cs[k * 4 + 3]? = some u ∧ FracM w (.agg #[x, y, z, u]) f
theorem FrC.keep {w w' : World} {cs : List Value} {fs : List RF} (h : FrC w cs fs) (hk : Keep w w') : FrC w' cs fs :=
  ⟨h.1, fun k f hf => by
    obtain ⟨x, y, z, u, h1, h2, h3, h4, h5⟩ := h.2 k f hf
    exact ⟨x, y, z, u, h1, h2, h3, h4, h5.keep hk⟩⟩
theorem FrC.nil (w : World) : FrC w [] [] := ⟨rfl, fun k f h => by simp at h⟩
theorem FrC.snoc {w : World} {cs : List Value} {fs : List RF} (h : FrC w cs fs) {x y z u : Value} {f : RF} (hf : FracM w (.agg #[x, y, z, u]) f) : FrC w (cs ++ [x, y, z, u]) (fs ++ [f]) := by
  refine ⟨by simp [h.1]; omega, fun k g hg => ?_⟩
  have hl := h.1
  rcases Nat.lt_or_ge k fs.length with hk | hk
  · rw [List.getElem?_append_left hk] at hg
    obtain ⟨x', y', z', u', h1, h2, h3, h4, h5⟩ := h.2 k g hg
    refine ⟨x', y', z', u', ?_, ?_, ?_, ?_, h5⟩
    · rw [List.getElem?_append_left (by omega)]; exact h1
    · rw [List.getElem?_append_left (by omega)]; exact h2
    · rw [List.getElem?_append_left (by omega)]; exact h3
    · rw [List.getElem?_append_left (by omega)]; exact h4
  · rw [List.getElem?_append_right hk] at hg
    have hk' : k - fs.length = 0 := by
      rcases Nat.eq_zero_or_pos (k - fs.length) with e | e
      · exact e
      · rw [List.getElem?_eq_none (by simp; omega)] at hg; cases hg
    rw [hk'] at hg
    simp at hg
    subst hg
    obtain rfl : k = fs.length := by omega
    refine ⟨x, y, z, u, ?_, ?_, ?_, ?_, hf⟩
    · rw [List.getElem?_append_right (by omega), show fs.length * 4 - cs.length = 0 by omega]; rfl
    · rw [List.getElem?_append_right (by omega), show fs.length * 4 + 1 - cs.length = 1 by omega]; rfl
    · rw [List.getElem?_append_right (by omega), show fs.length * 4 + 2 - cs.length = 2 by omega]; rfl
    · rw [List.getElem?_append_right (by omega), show fs.length * 4 + 3 - cs.length = 3 by omega]; rfl
def set4l (cs : List Value) (j : Nat) (x y z u : Value) : List Value := (((cs.set j x).set (j + 1) y).set (j + 2) z).set (j + 3) u
theorem FrC.set_ {w : World} {cs : List Value} {fs : List RF} (h : FrC w cs fs) {k : Nat} (hk : k < fs.length) {x y z u : Value} {f : RF} (hf : FracM w (.agg #[x, y, z, u]) f) : FrC w (set4l cs (k * 4) x y z u) (fs.set k f) := by
  have hl := h.1
  refine ⟨by simp [set4l, hl], fun j g hg => ?_⟩
  rcases Nat.lt_trichotomy j k with hjk | hjk | hjk
  · rw [List.getElem?_set_ne (by omega)] at hg
    obtain ⟨x', y', z', u', h1, h2, h3, h4, h5⟩ := h.2 j g hg
    refine ⟨x', y', z', u', ?_, ?_, ?_, ?_, h5⟩ <;> unfold set4l <;> rw [List.getElem?_set_ne (by omega), List.getElem?_set_ne (by omega), List.getElem?_set_ne (by omega), List.getElem?_set_ne (by omega)] <;> assumption
  · subst hjk
    rw [List.getElem?_set_self hk] at hg
    injection hg with hg
    subst hg
    refine ⟨x, y, z, u, ?_, ?_, ?_, ?_, hf⟩ <;> unfold set4l
    · rw [List.getElem?_set_ne (by omega), List.getElem?_set_ne (by omega), List.getElem?_set_ne (by omega), List.getElem?_set_self (by omega)]
    · rw [List.getElem?_set_ne (by omega), List.getElem?_set_ne (by omega), List.getElem?_set_self (by simp; omega)]
    · rw [List.getElem?_set_ne (by omega), List.getElem?_set_self (by simp; omega)]
    · rw [List.getElem?_set_self (by simp; omega)]
  · rw [List.getElem?_set_ne (by omega)] at hg
    obtain ⟨x', y', z', u', h1, h2, h3, h4, h5⟩ := h.2 j g hg
    refine ⟨x', y', z', u', ?_, ?_, ?_, ?_, h5⟩ <;> unfold set4l <;> rw [List.getElem?_set_ne (by omega), List.getElem?_set_ne (by omega), List.getElem?_set_ne (by omega), List.getElem?_set_ne (by omega)] <;> assumption

def RowM (w : World) (t : TypeId) (s : Nat) (v : Value) (n : Nat) (xs : List Value) : Prop :=
  ∃ A c, v = .slice A n c ∧ xs.length = n * s ∧ n ≤ c ∧ c ≤ maxLen ∧ (0 < n → ∃ b off cs fz, A = some ⟨b, off, none⟩ ∧ w.heap[b]? = some (.cells cs t fz) ∧ ∀ j u, xs[j]? = some u → cs[off + j]? = some u)
theorem RowM.below {w w' : World} {t : TypeId} {s n : Nat} {v : Value} {xs : List Value} (h : RowM w t s v n xs) (hb : Below w.heap.size w w') : RowM w' t s v n xs := by
  obtain ⟨A, c, h1, h2, h3, h4, h5⟩ := h
  refine ⟨A, c, h1, h2, h3, h4, fun hp => ?_⟩
  obtain ⟨b, off, cs, fz, hA, hc, hx⟩ := h5 hp
  exact ⟨b, off, cs, fz, hA, (hb.block b (lt_heap hc)).trans hc, hx⟩
theorem RowM.shape {w : World} {t : TypeId} {s n : Nat} {v : Value} {xs : List Value} (h : RowM w t s v n xs) : ∃ A c, v = .slice A n c ∧ n ≤ c ∧ c ≤ 9223372036854775807 := by
  obtain ⟨A, c, h1, h2, h3, h4, h5⟩ := h
  unfold maxLen at h4
  exact ⟨A, c, h1, h3, by omega⟩
theorem RowM.at_ {w : World} {t : TypeId} {s n c : Nat} {A : Option Addr} {xs : List Value} (h : RowM w t s (.slice A n c) n xs) (hn : 0 < n) :
    ∃ b off, A = some ⟨b, off, none⟩ ∧ b < w.heap.size ∧ ∀ j u, xs[j]? = some u → w.cell? ⟨b, off + j, none⟩ = some u := by
  obtain ⟨A', c', hv, h2, h3, h4, h5⟩ := h
  injection hv with e1 e2 e3
  subst e1
  obtain ⟨b, off, cs, fz, hA, hc, hx⟩ := h5 hn
  exact ⟨b, off, hA, lt_heap hc, fun j u hj => by rw [cell_of_row w b (off + j) cs _ fz hc, hx j u hj]⟩
theorem RowM.len {w : World} {t : TypeId} {s n m c : Nat} {A : Option Addr} {xs : List Value} (h : RowM w t s (.slice A n c) m xs) : n = m := by
  obtain ⟨A', c', hv, _⟩ := h
  injection hv
theorem RowM.of_own {w : World} {base : Nat} {t : TypeId} {s n : Nat} {v : Value} {xs : List Value} (h : w.ownsRow base t s v n xs) : RowM w t s v n xs := by
  rcases h.2 with ⟨rfl, h0⟩ | ⟨g, cap, cur, rfl, hb, hg, hnc, hcm, hcs, htake⟩
  · have hl := h.1
    have hx : n = 0 ∨ s = 0 := by
      subst h0
      exact Or.inl rfl
    subst h0
    exact ⟨none, 0, rfl, hl, Nat.le_refl _, by simp, fun hp => by omega⟩
  · refine ⟨_, cap, rfl, h.1, hnc, hcm, fun _ => ⟨g, 0, cur, (0, 0), rfl, hg, fun j u hj => ?_⟩⟩
    rw [← htake, List.getElem?_take] at hj
    split at hj
    · simpa using hj
    · cases hj
theorem RowM.nil (w : World) (t : TypeId) (s : Nat) (A : Option Addr) (c : Nat) (hm : c ≤ maxLen) : RowM w t s (.slice A 0 c) 0 [] := ⟨A, c, rfl, by simp, Nat.zero_le _, hm, fun h => by omega⟩

def FrsM (w : World) (v : Value) (fs : List RF) : Prop := ∃ cs, RowM w 47 4 v fs.length cs ∧ FrC w cs fs
theorem FrsM.below {w w' : World} {v : Value} {fs : List RF} (h : FrsM w v fs) (hb : Below w.heap.size w w') : FrsM w' v fs := by
  obtain ⟨cs, h1, h2⟩ := h
  exact ⟨cs, h1.below hb, h2.keep (Keep.of_below hb)⟩
theorem FrsM.shape {w : World} {v : Value} {fs : List RF} (h : FrsM w v fs) : ∃ A c, v = .slice A fs.length c ∧ fs.length ≤ c ∧ c ≤ 9223372036854775807 := by
  obtain ⟨cs, h1, h2⟩ := h
  exact h1.shape
theorem FrsM.at_ {w : World} {A : Option Addr} {n c : Nat} {fs : List RF} (h : FrsM w (.slice A n c) fs) {k : Nat} {f : RF} (hf : fs[k]? = some f) :
    ∃ b off x y z u, A = some ⟨b, off, none⟩ ∧ b < w.heap.size ∧ w.cell? ⟨b, off + k * 4, none⟩ = some x ∧ w.cell? ⟨b, off + k * 4 + 1, none⟩ = some y ∧ w.cell? ⟨b, off + k * 4 + 2, none⟩ = some z ∧ w.cell? ⟨b, off + k * 4 + 3, none⟩ = some u ∧ FracM w (.agg #[x, y, z, u]) f := by
  obtain ⟨cs, h1, h2⟩ := h
  obtain ⟨x, y, z, u, c1, c2, c3, c4, hm⟩ := h2.2 k f hf
  have hk : k < fs.length := (List.getElem?_eq_some_iff.1 hf).1
  have hn := h1.len
  subst hn
  obtain ⟨b, off, hA, hb, hc⟩ := h1.at_ (by omega)
  exact ⟨b, off, x, y, z, u, hA, hb, hc _ _ c1, hc _ _ c2, hc _ _ c3, hc _ _ c4, hm⟩
def FrsO (base : Nat) (w : World) (v : Value) (fs : List RF) : Prop := ∃ cs, w.ownsRow base 47 4 v fs.length cs ∧ FrC w cs fs
theorem FrsO.frs {base : Nat} {w : World} {v : Value} {fs : List RF} (h : FrsO base w v fs) : FrsM w v fs := by
  obtain ⟨cs, h1, h2⟩ := h
  exact ⟨cs, RowM.of_own h1, h2⟩
theorem own_below {w w' : World} {base : Nat} {t : TypeId} {s n : Nat} {v : Value} {xs : List Value} (h : w.ownsRow base t s v n xs) (hb : Below w.heap.size w w') : w'.ownsRow base t s v n xs := by
  refine ⟨h.1, ?_⟩
  rcases h.2 with hn | ⟨g, cap, cur, rfl, hb', hgg, rest⟩
  · exact .inl hn
  · exact .inr ⟨g, cap, cur, rfl, hb', (hb.block g (lt_heap hgg)).trans hgg, rest⟩
theorem FrsO.below {base : Nat} {w w' : World} {v : Value} {fs : List RF} (h : FrsO base w v fs) (hb : Below w.heap.size w w') : FrsO base w' v fs := by
  obtain ⟨cs, h1, h2⟩ := h
  exact ⟨cs, own_below h1 hb, h2.keep (Keep.of_below hb)⟩
theorem FrsO.nil (base : Nat) (w : World) : FrsO base w (.slice none 0 0) [] := ⟨[], World.ownsRow_nil _ _ _ _, FrC.nil _⟩
theorem info_frac : (Tryz.prog.info? 47).map (fun i => (i.zero, i.size, i.bytes)) = some (some (.agg #[.bool false, .slice none 0 0, .bool false, .slice none 0 0]), 4, 64) := by kernel_rfl
end Go.Proofs.YtpanffbgihhjnaaGreat

/- Memory: one element appended to a row of the call's own; a cell of such a row set. Walks: package pairingref25: Zeros. -/
namespace Go.Proofs.YtpanffbgihhjnaaGreat
open Go.RowKit Pl
attribute [local go_sem ↓] Go.wp_at_zero Go.wp_at_succ

def KeepBut (e : TypeId) (w w' : World) : Prop := ∀ (b : Nat) (cs : Array Value) (t : TypeId) (fz : Nat × Nat), t ≠ e → w.heap[b]? = some (.cells cs t fz) → w'.heap[b]? = some (.cells cs t fz)
theorem KeepBut.keep {e : TypeId} {w w' : World} (h : KeepBut e w w') (he : 85 ≠ e) : Keep w w' := fun b cs fz hb => h b cs _ fz he hb
theorem KeepBut.bk {e : TypeId} {w w' : World} {g : Nat} {t : TypeId} {cs : List Value} (h : KeepBut e w w') (hb : Bk w g t cs) (ht : t ≠ e) : Bk w' g t cs := h g _ t _ ht hb
theorem KeepBut.own {e : TypeId} {w w' : World} {base : Nat} {t : TypeId} {s n : Nat} {v : Value} {xs : List Value} (h : KeepBut e w w') (ho : w.ownsRow base t s v n xs) (ht : t ≠ e) : w'.ownsRow base t s v n xs := by
  refine ⟨ho.1, ?_⟩
  rcases ho.2 with hn | ⟨g, cap, cur, rfl, hb', hgg, rest⟩
  · exact .inl hn
  · exact .inr ⟨g, cap, cur, rfl, hb', h g _ t _ ht hgg, rest⟩
theorem KeepBut.row {e : TypeId} {w w' : World} {t : TypeId} {s n : Nat} {v : Value} {xs : List Value} (h : KeepBut e w w') (hr : RowM w t s v n xs) (ht : t ≠ e) : RowM w' t s v n xs := by
  obtain ⟨A, c, h1, h2, h3, h4, h5⟩ := hr
  refine ⟨A, c, h1, h2, h3, h4, fun hp => ?_⟩
  obtain ⟨b, off, cs, fz, hA, hc, hx⟩ := h5 hp
  exact ⟨b, off, cs, fz, hA, h b cs t fz ht hc, hx⟩
theorem KeepBut.trans {e : TypeId} {a b c : World} (h : KeepBut e a b) (k : KeepBut e b c) : KeepBut e a c := fun x cs t fz ht hx => k x cs t fz ht (h x cs t fz ht hx)
theorem KeepBut.alloc (e : TypeId) (w : World) (o : Obj) : KeepBut e w (w.alloc o) := fun b _ _ _ _ hb => (Below.heap_alloc w o b (lt_heap hb)).trans hb
theorem KeepBut.setCell {w : World} {g : Nat} {cs : Array Value} {e : TypeId} {fz : Nat × Nat} (h : w.heap[g]? = some (.cells cs e fz)) (i : Nat) (u : Value) : KeepBut e w (w.setCell ⟨g, i, none⟩ u) := by
  intro b cs' t fz' ht hb
  have hne : b ≠ g := by
    rintro rfl
    rw [h] at hb
    injection hb with hb
    injection hb with _ h2 _
    exact ht h2.symm
  rw [heap_setCell_other w _ _ _ hne]
  exact hb

theorem run_append_one (ty t e : TypeId) (i : TypeInfo) (z : Value) (size bytes : Nat) (ht : Tryz.prog.underlying t = some (.slice e)) (hi : Tryz.prog.info? e = some i) (hz : i.zero = some z)
    (hsize : i.size = size) (hby : i.bytes = bytes) (hzs : z.cells.size = size) (hsz : 0 < size) (W : World) (base : Nat) (v : Value) (n : Nat) (xs news : List Value) (hown : W.ownsRow base e size v n xs)
    (hl : news.length = size) (h1 : ∀ u ∈ news, u.oneCell' = true) (hn : n + 1 ≤ maxLen) (hb : (n + 1) * bytes ≤ 140737488355328) (hbase : base ≤ W.heap.size) :
    ∃ v' w', (Builtin.append_ #[t, t] ty #[v, .slice (some ⟨W.heap.size, 0, none⟩) 1 1]).run Tryz.prog (W.alloc (.cells news.toArray e)) = .ok v' w' ∧ w'.ownsRow base e size v' (n + 1) (xs ++ news) ∧ KeepBut e W w' ∧ Below base W w' := by
  have hnew : Bk (W.alloc (.cells news.toArray e)) W.heap.size e news := Bk.new W e news
  obtain ⟨v', w', hrun, h2, h3, _, _⟩ := run_append_own_at (P := Tryz.prog) (W.alloc (.cells news.toArray e)) base t ty e i z size bytes ht hi hz hsize hby hzs hsz v n xs (hown.alloc _) ⟨W.heap.size, 0, none⟩ 1 1 news (by omega) (fun j u hj => by rw [addr_add, Nat.zero_add, hnew.cell]; exact hj) h1 hn hb (by simp; omega)
  refine ⟨v', w', hrun, h2, ?_, ?_⟩
  · intro b cs t' fz hne hc
    have hlt := lt_heap hc
    refine (h3.block b (by simp; omega) ?_).trans ((Below.heap_alloc W _ b hlt).trans hc)
    intro e1
    rcases hown.2 with ⟨rfl, _⟩ | ⟨g, cap, cur, rfl, _, hg, _⟩
    · simp [Value.ownBlock] at e1
    · simp [Value.ownBlock] at e1
      subst e1
      rw [hg] at hc
      injection hc with hc
      injection hc with _ h2 _
      exact hne h2.symm
  · refine ((Below.refl _ _).alloc hbase _).grown h3 (by simp; omega) (fun k hk => ?_)
    exact (hown.lt k hk).1
 where
  addr_add (g j : Nat) : (⟨g, 0, none⟩ : Addr).add j = ⟨g, 0 + j, none⟩ := by
    unfold Addr.add
    split
    · rename_i h; subst h; rfl
    · rfl
theorem wpList_append_one {ops : Array Oper} {rest : List Oper} {o : Oper} {a : Act} {Q : Exit → Act → World → Prop} (hgd : o.guard = none) (s x : Operand) (t : TypeId)
    (ho : o.op = .call { callee := .builtin .append, args := #[s, x], argTypes := #[t, t] })
    (e : TypeId) (i : TypeInfo) (z : Value) (size bytes : Nat) (ht : Tryz.prog.underlying t = some (.slice e)) (hi : Tryz.prog.info? e = some i) (hz : i.zero = some z)
    (hsize : i.size = size) (hby : i.bytes = bytes) (hzs : z.cells.size = size) (hsz : 0 < size) (W : World) (base : Nat) (v : Value) (n : Nat) (xs news : List Value) (hs : a.eval s = v) (hown : W.ownsRow base e size v n xs)
    (hx : a.eval x = .slice (some ⟨W.heap.size, 0, none⟩) 1 1) (hl : news.length = size) (h1 : ∀ u ∈ news, u.oneCell' = true) (hn : n + 1 ≤ maxLen) (hb : (n + 1) * bytes ≤ 140737488355328) (hbase : base ≤ W.heap.size)
    (h : ∀ v' w', w'.ownsRow base e size v' (n + 1) (xs ++ news) → KeepBut e W w' → Below base W w' → wpList Tryz.prog ops Q rest (a.put o.dst v') w') :
    wpList Tryz.prog ops Q (o :: rest) a (W.alloc (.cells news.toArray e)) := by
  refine wpList_plain hgd fun K hK => ?_
  obtain ⟨v', w', hr, h2, h3, h4⟩ := run_append_one o.type t e i z size bytes ht hi hz hsize hby hzs hsz W base v n xs news hown hl h1 hn hb hbase
  unfold Oper.wp execOp
  simp only [ho, resolve, invoke, builtin, Sem.run_bind, Sem.run_pure, Result.andThen_ok, List.map_toArray, List.map_cons, List.map_nil, hs, hx, hr]
  exact hK _ _ (h v' w' h2 h3 h4)

theorem frac_oneCell {x y : Bool} {A A' : Option Addr} {n c n' c' : Nat} : ∀ u ∈ [Value.bool x, .slice A n c, .bool y, .slice A' n' c'], u.oneCell' = true := by
  intro u hu
  simp at hu
  rcases hu with rfl | rfl | rfl | rfl <;> rfl

theorem wpList_append_frac {ops : Array Oper} {rest : List Oper} {o : Oper} {a : Act} {Q : Exit → Act → World → Prop} (hgd : o.guard = none) (s x : Operand)
    (ho : o.op = .call { callee := .builtin .append, args := #[s, x], argTypes := #[23, 23] })
    (W : World) (base : Nat) (v : Value) (fs : List RF) (hs : a.eval s = v) (hown : FrsO base W v fs) (b b' : Bool) (A A' : Option Addr) (n c n' c' : Nat) (f : RF) (hf : FracM W (.agg #[.bool b, .slice A n c, .bool b', .slice A' n' c']) f)
    (hx : a.eval x = .slice (some ⟨W.heap.size, 0, none⟩) 1 1) (hn : fs.length + 1 ≤ 1099511627776) (hbase : base ≤ W.heap.size)
    (h : ∀ v' w', FrsO base w' v' (fs ++ [f]) → KeepBut 47 W w' → Below base W w' → wpList Tryz.prog ops Q rest (a.put o.dst v') w') :
    wpList Tryz.prog ops Q (o :: rest) a (W.alloc (.cells #[.bool b, .slice A n c, .bool b', .slice A' n' c'] 47)) := by
  obtain ⟨cs, h1, h2⟩ := hown
  obtain ⟨i0, hi, hz0, hz1, hz2⟩ := info_parts info_frac
  refine wpList_append_one hgd s x 23 ho 47 i0 _ 4 64 Tryz.underlying23 hi hz0 hz1 hz2 rfl (by decide) W base v fs.length cs [.bool b, .slice A n c, .bool b', .slice A' n' c'] hs h1 hx rfl frac_oneCell (by unfold maxLen; omega) (by omega) hbase ?_
  intro v' w' g1 g2 g3
  refine h v' w' ⟨_, by simpa using g1, ?_⟩ g2 g3
  have hk := g2.keep (by decide)
  exact (h2.keep hk).snoc (hf.keep hk)

theorem row_set {w : World} {base : Nat} {e : TypeId} {size n c g : Nat} {xs : List Value} (h : w.ownsRow base e size (.slice (some ⟨g, 0, none⟩) n c) n xs) (j : Nat) (u : Value) (hj : j < xs.length) :
    (w.setCell ⟨g, j, none⟩ u).ownsRow base e size (.slice (some ⟨g, 0, none⟩) n c) n (xs.set j u) := by
  refine ⟨by rw [List.length_set]; exact h.1, ?_⟩
  rcases h.2 with ⟨h0, _⟩ | ⟨g', cap, cur, hv, hb, hg, hnc, hcm, hcs, htake⟩
  · injection h0 with h0; cases h0
  · injection hv with e1 e2 e3
    injection e1 with e1
    injection e1 with e1
    subst e1 e3
    refine .inr ⟨g, c, cur.setIfInBounds j u, rfl, hb, ?_, hnc, hcm, by simpa using hcs, ?_⟩
    · rw [heap_setCell_same w g j _ e u hg]
    · rw [Array.toList_setIfInBounds, List.take_set, htake]
theorem row_cell {w : World} {base : Nat} {e : TypeId} {size n c g : Nat} {xs : List Value} (h : w.ownsRow base e size (.slice (some ⟨g, 0, none⟩) n c) n xs) {j : Nat} {u : Value} (hj : xs[j]? = some u) : w.cell? ⟨g, j, none⟩ = some u ∧ w.frozen? ⟨g, j, none⟩ = false := by
  rcases h.2 with ⟨h0, _⟩ | ⟨g', cap, cur, hv, hb, hg, hnc, hcm, hcs, htake⟩
  · injection h0 with h0; cases h0
  · injection hv with e1 e2 e3
    injection e1 with e1
    injection e1 with e1
    subst e1 e3
    refine ⟨?_, frozen_of_row w g j _ _ hg⟩
    rw [cell_of_row w g j _ _ _ hg]
    rw [← htake, List.getElem?_take] at hj
    split at hj
    · simpa using hj
    · cases hj
theorem row_block {w : World} {base : Nat} {e : TypeId} {size n c g : Nat} {xs : List Value} (h : w.ownsRow base e size (.slice (some ⟨g, 0, none⟩) n c) n xs) : ∃ cur, w.heap[g]? = some (.cells cur e (0, 0)) ∧ base ≤ g := by
  rcases h.2 with ⟨h0, _⟩ | ⟨g', cap, cur, hv, hb, hg, hnc, hcm, hcs, htake⟩
  · injection h0 with h0; cases h0
  · injection hv with e1 e2 e3
    injection e1 with e1
    injection e1 with e1
    subst e1
    exact ⟨cur, hg, hb⟩
theorem FrsO.shape {base : Nat} {w : World} {v : Value} {fs : List RF} (h : FrsO base w v fs) (hp : 0 < fs.length) : ∃ g c, v = .slice (some ⟨g, 0, none⟩) fs.length c ∧ base ≤ g ∧ g < w.heap.size ∧ fs.length ≤ c ∧ c ≤ 9223372036854775807 := by
  obtain ⟨cs, h1, h2⟩ := h
  rcases h1.2 with ⟨rfl, h0⟩ | ⟨g, cap, cur, rfl, hb, hg, hnc, hcm, hcs, htake⟩
  · have := h2.1; rw [h0] at this; simp at this; omega
  · unfold maxLen at hcm
    exact ⟨g, cap, rfl, hb, lt_heap hg, hnc, by omega⟩
theorem FrsO.at_ {base : Nat} {w : World} {g n c : Nat} {fs : List RF} (h : FrsO base w (.slice (some ⟨g, 0, none⟩) n c) fs) {k : Nat} {f : RF} (hf : fs[k]? = some f) :
    ∃ x y z u, (w.cell? ⟨g, k * 4, none⟩ = some x ∧ w.cell? ⟨g, k * 4 + 1, none⟩ = some y ∧ w.cell? ⟨g, k * 4 + 2, none⟩ = some z ∧ w.cell? ⟨g, k * 4 + 3, none⟩ = some u) ∧ (w.frozen? ⟨g, k * 4, none⟩ = false ∧ w.frozen? ⟨g, k * 4 + 1, none⟩ = false ∧ w.frozen? ⟨g, k * 4 + 2, none⟩ = false ∧ w.frozen? ⟨g, k * 4 + 3, none⟩ = false) ∧ FracM w (.agg #[x, y, z, u]) f := by
  obtain ⟨cs, h1, h2⟩ := h
  have hn : n = fs.length := (RowM.of_own h1).len
  subst hn
  obtain ⟨x, y, z, u, c1, c2, c3, c4, hm⟩ := h2.2 k f hf
  exact ⟨x, y, z, u, ⟨(row_cell h1 c1).1, (row_cell h1 c2).1, (row_cell h1 c3).1, (row_cell h1 c4).1⟩, ⟨(row_cell h1 c1).2, (row_cell h1 c2).2, (row_cell h1 c3).2, (row_cell h1 c4).2⟩, hm⟩
theorem FrsO.set_ {base : Nat} {w : World} {g n c : Nat} {fs : List RF} (h : FrsO base w (.slice (some ⟨g, 0, none⟩) n c) fs) {k : Nat} (hk : k < fs.length) {x y z u : Value} {f : RF} (hf : FracM w (.agg #[x, y, z, u]) f) :
    FrsO base ((((w.setCell ⟨g, k * 4, none⟩ x).setCell ⟨g, k * 4 + 1, none⟩ y).setCell ⟨g, k * 4 + 2, none⟩ z).setCell ⟨g, k * 4 + 3, none⟩ u) (.slice (some ⟨g, 0, none⟩) n c) (fs.set k f) ∧
    KeepBut 47 w ((((w.setCell ⟨g, k * 4, none⟩ x).setCell ⟨g, k * 4 + 1, none⟩ y).setCell ⟨g, k * 4 + 2, none⟩ z).setCell ⟨g, k * 4 + 3, none⟩ u) := by
  obtain ⟨cs, h1, h2⟩ := h
  have hn : n = fs.length := (RowM.of_own h1).len
  subst hn
  have hl := h2.1
  have o1 := row_set h1 (k * 4) x (by omega)
  have o2 := row_set o1 (k * 4 + 1) y (by simp; omega)
  have o3 := row_set o2 (k * 4 + 2) z (by simp; omega)
  have o4 := row_set o3 (k * 4 + 3) u (by simp; omega)
  obtain ⟨_, b0, _⟩ := row_block h1
  obtain ⟨_, b1, _⟩ := row_block o1
  obtain ⟨_, b2, _⟩ := row_block o2
  obtain ⟨_, b3, _⟩ := row_block o3
  have kp := (((KeepBut.setCell b0 (k * 4) x).trans (KeepBut.setCell b1 (k * 4 + 1) y)).trans (KeepBut.setCell b2 (k * 4 + 2) z)).trans (KeepBut.setCell b3 (k * 4 + 3) u)
  have kd := kp.keep (by decide)
  refine ⟨⟨set4l cs (k * 4) x y z u, by rw [List.length_set]; exact o4, ?_⟩, kp⟩
  exact (h2.keep kd).set_ hk (hf.keep kd)

set_option maxRecDepth 100000 in
set_option maxHeartbeats 1000000 in
theorem zeros_own (n : Nat) (w : World) (hn : n ≤ 1099511627776) :
    Calls Tryz.prog 33 #[.int .i64 (n : Int)] w fun e w' => ∃ v', e = .returned v' ∧ FrsO w.heap.size w' v' (List.replicate n (canF 0)) ∧ Below w.heap.size w w' := by
  go_enter Tryz.func33, Tryz.ntmps33
  go_wp2
  go_loopw [3, 4] (fun s i wr => ∃ k : Nat, k ≤ n ∧ i = .int .i64 k ∧ FrsO w.heap.size wr s (List.replicate k (canF 0)) ∧ Below w.heap.size w wr) (fun _ i _ => n - (intOf i).toNat)
  case atStart => exact ⟨0, by omega, rfl, FrsO.nil _ _, Below.refl _ _⟩
  case round =>
    obtain ⟨k, hk, rfl, hown, hbe⟩ := hrel
    rcases Nat.lt_or_ge k n with hkl | hkl
    · go_wp2_with fail
      refine (rint_own 0 _ (by omega) (by omega)).mono ?_
      rintro e w1 ⟨v1, rfl, e1, hb1⟩
      rw [show ((0 : Int) : Rat) = 0 from rfl] at e1
      have hown1 := hown.below hb1
      have hbe1 := below_then hbe hb1 hbe.size
      obtain ⟨A, m, c, A', m', c', rfl, _, _⟩ := id e1.frac
      have HF := Lib.hid e1.frac
      have HO := Lib.hid hown1
      have hlen : (List.replicate k (canF 0)).length + 1 ≤ 1099511627776 := by simp; omega
      have hbs := hbe1.size
      clear hown hown1 hbe hb1 e1
      go_wp2_with (at_builtin; refine wpList_append_frac rfl (.tmp 10) (.tmp 12) rfl w1 w.heap.size u3 (List.replicate k (canF 0)) rfl HO.out _ _ A A' m c m' c' (canF 0) HF.out rfl hlen hbs ?_)
      intro v' w2 hown2 hk2 hb2
      go_wp2
      go_roundw
      case rel => exact ⟨k + 1, by omega, by go_num, by rw [List.replicate_succ']; exact hown2, hbe1.trans hb2⟩
      case measure => simp [intOf]; omega
    · obtain rfl : k = n := by omega
      go_wp2
      go_ret
      exact ⟨_, rfl, hown, hbe⟩
end Go.Proofs.YtpanffbgihhjnaaGreat

/- A region that draws its order, whose last operations wait for all others: what holds of the world while the loads float need not hold behind those last ones. -/
namespace Go.Proofs.YtpanffbgihhjnaaGreat
open Go.RowKit Pl

section
variable {P : Program} {ops : Array Oper} {Q : Exit → Act → World → Prop} {md : Region.Mode} {S : World → Prop} {n : Nat}

def AnyF (P : Program) (md : Region.Mode) (ops : Array Oper) (Q : Exit → Act → World → Prop) (S : World → Prop) (n : Nat) : Nat → Array Bool → Act → World → Prop
  | 0, listed, a, w => Region.ready md ops listed = [] ∧ Q .normal a w
  | fuel + 1, listed, a, w => (Region.ready md ops listed = [] → Q .normal a w) ∧
      ∀ i ∈ Region.ready md ops listed, wpOp P ops Q i (fun a' w' => (n ≤ i ∨ S w') ∧ AnyF P md ops Q S n fuel (listed.setIfInBounds i true) a' w') a w
theorem AnyF.any : ∀ (fuel : Nat) (listed : Array Bool) (a : Act) (w : World), AnyF P md ops Q S n fuel listed a w → wpAny P md ops Q fuel listed a w
  | 0, _, _, _, h => h
  | fuel + 1, _, _, _, h => ⟨h.1, fun i hi => wpOp_mono (fun a' w' h' => AnyF.any fuel _ a' w' h'.2) (h.2 i hi)⟩
theorem region_F {id : Nat} {a : Act} {w : World} (hm : P.follows .mixedOrders = true) (hS : S w.drew)
    (h : S w.drew → AnyF P .any ops Q S n ops.size (Array.replicate ops.size false) a w.drew) : (Code.region id ops true).wp P Q a w :=
  wp_region_any hm (AnyF.any _ _ _ _ (h hS))
def lastWait (md : Region.Mode) (ops : Array Oper) (n i : Nat) : Bool := (List.range ops.size).all fun j => decide (j < n) || Region.waitsFor md ops j i
theorem lastWait_spec {i j : Nat} (h : lastWait md ops n i = true) (hj : n ≤ j) {oj : Oper} (ho : ops[j]? = some oj) : ∃ e ∈ oj.after, Region.binds md e = true ∧ e.on = i := by
  have hlt : j < ops.size := (Array.getElem?_eq_some_iff.1 ho).1
  have h1 := List.all_eq_true.1 h j (List.mem_range.2 hlt)
  rw [decide_eq_false (by omega), Bool.false_or] at h1
  obtain ⟨oj', ho', e, he, hb, hon⟩ := Region.waitsFor_spec h1
  rw [ho] at ho'
  injection ho' with ho'
  subst ho'
  exact ⟨e, he, hb, hon⟩
theorem anyF_first {i : Nat} {oi : Oper} {v : Value} (hi : ops[i]? = some oi) (hsel : ∀ (j : Nat) (o : Oper) cs b, ops[j]? = some o → o.op ≠ .select cs b) (hw : lastWait md ops n i = true)
    (hQ : ∀ c a w, Q (.panic c) (a.put oi.dst v) w → Q (.panic c) a w) :
    ∀ (fuel : Nat) (listed : Array Bool) (a : Act) (w : World),
      (∀ j oj, ops[j]? = some oj → j ≠ i → listed.getD j true = false → (∀ e ∈ oj.after, Region.binds md e = true → e.on ≠ i) → oi.apart ops oj = true) →
      i ∈ Region.ready md ops listed → YieldsIf P ops S oi v a → S w →
      AnyF P md ops Q S n fuel (listed.setIfInBounds i true) (a.put oi.dst v) w → AnyF P md ops Q S n (fuel + 1) listed a w := by
  intro fuel
  induction fuel with
  | zero =>
    intro listed a w _ hr hy hS H
    refine ⟨fun h => (by rw [h] at hr; cases hr), fun j hj => ?_⟩
    by_cases hji : j = i
    · subst hji; exact hy.wpOp hi hS ⟨.inr hS, H⟩
    · have := ready_mono hj hji
      rw [H.1] at this
      cases this
  | succ fuel ih =>
    intro listed a w hfree hr hy hS H
    refine ⟨fun h => (by rw [h] at hr; cases hr), fun j hj => ?_⟩
    by_cases hji : j = i
    · subst hji; exact hy.wpOp hi hS ⟨.inr hS, H⟩
    · have h1 := H.2 j (ready_mono hj hji)
      obtain ⟨hjun, oj, hoj, hall⟩ := mem_ready.1 hj
      have hnot : ∀ e ∈ oj.after, Region.binds md e = true → e.on ≠ i := fun e he hb heq => by
        have h1 := hall e he hb
        have h0 := (mem_ready.1 hr).1
        rw [heq] at h1
        rcases Nat.lt_or_ge i listed.size with h' | h'
        · simp [h'] at h0 h1; rw [h0] at h1; cases h1
        · simp [Array.getElem?_eq_none h'] at h1
      have hjn : ¬ n ≤ j := fun hle => by
        obtain ⟨e, he, hb, hon⟩ := lastWait_spec hw hle hoj
        exact hnot e he hb hon
      have h2 := wpOp_putIf hoj (hfree j oj hoj hji hjun hnot) (fun cs b => hsel i oi cs b hi) (fun cs b => hsel j oj cs b hoj) hQ hy h1
      have hfree' : ∀ k ok, ops[k]? = some ok → k ≠ i → (listed.setIfInBounds j true).getD k true = false →
          (∀ e ∈ ok.after, Region.binds md e = true → e.on ≠ i) → oi.apart ops ok = true := fun k ok hk hki hun hno => by
        refine hfree k ok hk hki ?_ hno
        by_cases hjk : j = k
        · subst hjk; exact hjun
        · rw [getD_set_ne true hjk] at hun; exact hun
      refine wpOp_mono (fun a' w' h3 => ⟨h3.2.1, ih (listed.setIfInBounds j true) a' w' hfree' (ready_mono hr (Ne.symm hji)) h3.1 (h3.2.1.resolve_left hjn) ?_⟩) h2
      rw [Array.setIfInBounds_comm _ _ hji]
      exact h3.2.2
theorem anyF_take {i : Nat} {oi : Oper} {v : Value} {fuel : Nat} {listed : Array Bool} {a : Act} {w : World} (hi : ops[i]? = some oi)
    (hs : Region.noSelect ops = true) (hf : Region.free md ops listed i = true) (hr : (Region.ready md ops listed).contains i = true) (hw : lastWait md ops n i = true)
    (hQ : ∀ c a w, Q (.panic c) (a.put oi.dst v) w → Q (.panic c) a w) (hy : YieldsIf P ops S oi v a) (hS : S w)
    (h : AnyF P md ops Q S n fuel (listed.setIfInBounds i true) (a.put oi.dst v) w) : AnyF P md ops Q S n (fuel + 1) listed a w :=
  anyF_first hi (Region.noSelect_spec hs) hw hQ fuel listed a w (Region.free_spec hi hf) (by simpa using hr) hy hS h
theorem anyF_step {i : Nat} {o : Oper} {fuel : Nat} {listed : Array Bool} {a : Act} {w : World} (hr : Region.ready md ops listed = [i]) (ho : ops[i]? = some o)
    (h : ∀ K' : Act → World → Prop, Shut (∀ a w, S w → (S w → AnyF P md ops Q S n fuel (listed.setIfInBounds i true) a w) → K' a w) → if Region.wanted o (yielded ops a.tmps) = true then Oper.wp P o a w K' Q else K' (a.put o.dst undef) w) :
    AnyF P md ops Q S n (fuel + 1) listed a w := by
  refine ⟨fun h0 => (by rw [hr] at h0; cases h0), fun j hj => ?_⟩
  rw [hr] at hj
  obtain rfl : j = i := by simpa using hj
  exact wpOp_step ho (fun K' hK => h K' (fun a w hS hW => hK a w ⟨.inr hS, hW hS⟩))
theorem anyF_last {i : Nat} {o : Oper} {fuel : Nat} {listed : Array Bool} {a : Act} {w : World} (hr : Region.ready md ops listed = [i]) (ho : ops[i]? = some o) (hn : n ≤ i)
    (h : ∀ K' : Act → World → Prop, Shut (∀ a w, AnyF P md ops Q S n fuel (listed.setIfInBounds i true) a w → K' a w) → if Region.wanted o (yielded ops a.tmps) = true then Oper.wp P o a w K' Q else K' (a.put o.dst undef) w) :
    AnyF P md ops Q S n (fuel + 1) listed a w := by
  refine ⟨fun h0 => (by rw [hr] at h0; cases h0), fun j hj => ?_⟩
  rw [hr] at hj
  obtain rfl : j = i := by simpa using hj
  exact wpOp_step ho (fun K' hK => h K' (fun a w hW => hK a w ⟨.inl hn, hW⟩))
theorem anyF_done {listed : Array Bool} {a : Act} {w : World} (hr : Region.ready md ops listed = []) (h : Q .normal a w) : ∀ fuel, AnyF P md ops Q S n fuel listed a w
  | 0 => ⟨hr, h⟩
  | _ + 1 => ⟨fun _ => h, by rw [hr]; simp⟩
end
end Go.Proofs.YtpanffbgihhjnaaGreat

/- Sums; walks: package pairingref25: Dot. -/
namespace Go.Proofs.YtpanffbgihhjnaaGreat
open Go.RowKit Pl
attribute [local go_sem ↓] Go.wp_at_zero Go.wp_at_succ

namespace Pl
def RF.Rs (k : Nat) (f : RF) : Prop := (digs (val f.num.ds)).length ≤ k ∧ (digs (val f.den.ds)).length ≤ k
theorem RF.Rs.mono {j k : Nat} {f : RF} (h : f.Rs j) (hk : j ≤ k) : f.Rs k := ⟨Nat.le_trans h.1 hk, Nat.le_trans h.2 hk⟩
theorem RF.Rs.sh {k : Nat} {f : RF} (h : f.Rs k) (hk : k ≤ 34359738368) : f.Sh := h.mono hk
theorem RF.Rs.shH {k : Nat} {f : RF} (h : f.Rs k) (hk : k ≤ 8589934592) : ShH f := h.mono hk
theorem RF.Rs.sm {k : Nat} {f : RF} (h : f.Rs k) (hk : k ≤ 34359738368) : f.Sm := (h.sh hk).sm
theorem Sz.rs {k : Nat} {q : Rat} (h : Sz k q) : (canF q).Rs k := by
  unfold RF.Rs canF
  simp only [val_canI]
  exact h
theorem RF.Rs.sz {k : Nat} {f : RF} (h : f.Rs k) (hk : 1 ≤ k) : Sz k f.q := Sz_divInt (by rw [z_natAbs]; exact h.1) (by rw [z_natAbs]; exact h.2) hk
def qAt (fs : List RF) (i : Nat) : Rat := match fs[i]? with | some f => f.q | none => 0
theorem qAt_some {fs : List RF} {i : Nat} {f : RF} (h : fs[i]? = some f) : qAt fs i = f.q := by simp [qAt, h]
def sumN (f : Nat → Rat) : Nat → Rat
  | 0 => 0
  | n + 1 => sumN f n + f n
theorem sumN_zero (f : Nat → Rat) : sumN f 0 = 0 := rfl
theorem sumN_succ (f : Nat → Rat) (n : Nat) : sumN f (n + 1) = sumN f n + f n := rfl
theorem sumN_congr {f g : Nat → Rat} {n : Nat} (h : ∀ i, i < n → f i = g i) : sumN f n = sumN g n := by
  induction n with
  | zero => rfl
  | succ n ih => rw [sumN_succ, sumN_succ, ih (fun i hi => h i (by omega)), h n (by omega)]
theorem Sz_sum {f : Nat → Rat} {K n : Nat} (h : ∀ i, i < n → Sz K (f i)) : Sz (1 + n * (K + 1)) (sumN f n) := by
  induction n with
  | zero => exact Sz_zero.mono (by omega)
  | succ n ih =>
    rw [sumN_succ]
    exact (Sz_add (ih fun i hi => h i (by omega)) (h n (by omega))).mono (by rw [Nat.add_mul n 1]; omega)
def dotQ (xs ys : List RF) (n : Nat) : Rat := sumN (fun i => qAt xs i * qAt ys i) n
theorem dotQ_succ (xs ys : List RF) (n : Nat) : dotQ xs ys (n + 1) = dotQ xs ys n + qAt xs n * qAt ys n := rfl
def RsL (k : Nat) (fs : List RF) : Prop := ∀ (i : Nat) (f : RF), fs[i]? = some f → f.Rs k
theorem RsL.qAt {k : Nat} {fs : List RF} (h : RsL k fs) (hk : 1 ≤ k) (i : Nat) : Sz k (qAt fs i) := by
  unfold Pl.qAt
  split
  · rename_i f hf; exact (h i f hf).sz hk
  · exact Sz_zero.mono hk
theorem Sz_dot {xs ys : List RF} {K n : Nat} (ha : RsL K xs) (hb : RsL K ys) (hK : 1 ≤ K) : Sz (1 + n * (2 * K + 1)) (dotQ xs ys n) :=
  Sz_sum fun i _ => (Sz_mul (ha.qAt hK i) (hb.qAt hK i)).mono (by omega)
theorem qs_zero {q : Rat} : qs q = 0 ↔ q = 0 := by
  unfold qs
  rw [sgn_eq_zero]
  exact Rat.num_eq_zero
theorem get_some {fs : List RF} {i : Nat} (h : i < fs.length) : ∃ f, fs[i]? = some f := ⟨fs[i], List.getElem?_eq_getElem h⟩
end Pl

theorem cell4_later {w w' : World} {b o : Nat} {x y z u : Value} (hb : Below w.heap.size w w') (h : w.cell? ⟨b, o, none⟩ = some x ∧ w.cell? ⟨b, o + 1, none⟩ = some y ∧ w.cell? ⟨b, o + 2, none⟩ = some z ∧ w.cell? ⟨b, o + 3, none⟩ = some u) :
    w'.cell? ⟨b, o, none⟩ = some x ∧ w'.cell? ⟨b, o + 1, none⟩ = some y ∧ w'.cell? ⟨b, o + 2, none⟩ = some z ∧ w'.cell? ⟨b, o + 3, none⟩ = some u :=
  ⟨cell_keep hb h.1, cell_keep hb h.2.1, cell_keep hb h.2.2.1, cell_keep hb h.2.2.2⟩
theorem FrsM.elem {w wr : World} {A : Option Addr} {n c : Nat} {fs : List RF} (h : FrsM w (.slice A n c) fs) (hb : Below w.heap.size w wr) {k : Nat} {f : RF} (hf : fs[k]? = some f) :
    ∃ b off A1 n1 c1 A2 n2 c2, A = some ⟨b, off, none⟩ ∧ b < w.heap.size ∧ (wr.cell? ⟨b, off + k * 4, none⟩ = some (.bool f.num.neg) ∧ wr.cell? ⟨b, off + k * 4 + 1, none⟩ = some (.slice A1 n1 c1) ∧ wr.cell? ⟨b, off + k * 4 + 2, none⟩ = some (.bool f.den.neg) ∧ wr.cell? ⟨b, off + k * 4 + 3, none⟩ = some (.slice A2 n2 c2)) ∧
      FracM wr (.agg #[.bool f.num.neg, .slice A1 n1 c1, .bool f.den.neg, .slice A2 n2 c2]) f := by
  obtain ⟨b, off, x, y, z, u, hA, hlt, c1, c2, c3, c4, hm⟩ := h.at_ hf
  obtain ⟨A1, n1, k1, A2, n2, k2, hv, d1, d2⟩ := id hm
  simp at hv
  obtain ⟨rfl, rfl, rfl, rfl⟩ := hv
  exact ⟨b, off, A1, n1, k1, A2, n2, k2, hA, hlt, cell4_later hb ⟨c1, c2, c3, c4⟩, hm.below hb⟩

def DotAt (xs ys : List RF) (w : World) (g : Nat) (k : Nat) (wr : World) : Prop :=
  ∃ (A A' : Option Addr) (n c n' c' : Nat), Bk wr g 47 [.bool (canF (dotQ xs ys k)).num.neg, .slice A n c, .bool (canF (dotQ xs ys k)).den.neg, .slice A' n' c'] ∧ FracM wr (.agg #[.bool (canF (dotQ xs ys k)).num.neg, .slice A n c, .bool (canF (dotQ xs ys k)).den.neg, .slice A' n' c']) (canF (dotQ xs ys k)) ∧
    Bk wr w.heap.size 47 [.bool false, .slice none 0 0, .bool false, .slice none 0 0] ∧ Below w.heap.size w wr ∧ w.heap.size < g

set_option maxRecDepth 100000 in
set_option maxHeartbeats 4000000 in
theorem rdot_own (v1 v2 : Value) (xs ys : List RF) (K : Nat) (w : World) (h1 : FrsM w v1 xs) (h2 : FrsM w v2 ys) (hK : 1 ≤ K) (ha : RsL K xs) (hb : RsL K ys) (hs : 1 + min xs.length ys.length * (2 * K + 1) ≤ 34359738368) (hs2 : 2 * K ≤ 34359738368) :
    Calls Tryz.prog 16 #[v1, v2] w fun e w' => ∃ v', e = .returned v' ∧ FracM w' v' (canF (dotQ xs ys (min xs.length ys.length))) ∧ Below w.heap.size w w' := by
  obtain ⟨A, c, rfl, hc1, hc2⟩ := h1.shape
  obtain ⟨A', c', rfl, hc3, hc4⟩ := h2.shape
  have HS := Lib.hid hs
  obtain ⟨W, hW, hR, hbe⟩ := boxF1 w (.bool false) (.slice none 0 0) (.bool false) (.slice none 0 0)
  generalize hn : xs.length = n at *
  generalize hm : ys.length = m at *
  have HN := Lib.hid hn
  have HM := Lib.hid hm
  have HA := Lib.hid ha
  have HB := Lib.hid hb
  clear hs hn hm ha hb
  go_enter Tryz.func16, Tryz.ntmps16
  go_wp2_with fail
  clear hW
  refine (rint_own 0 _ (by omega) (by omega)).mono ?_
  rw [show ((0 : Int) : Rat) = dotQ xs ys 0 from rfl]
  rintro e w1 ⟨v1, rfl, e1, hb1⟩
  obtain ⟨B, l, d, B', l', d', rfl, _, _⟩ := id e1.frac
  have hX := Bk.new w1 47 [.bool (canF (dotQ xs ys 0)).num.neg, .slice B l d, .bool (canF (dotQ xs ys 0)).den.neg, .slice B' l' d']
  have bn := below_new w1 (.cells [.bool (canF (dotQ xs ys 0)).num.neg, .slice B l d, .bool (canF (dotQ xs ys 0)).den.neg, .slice B' l' d'].toArray 47)
  have b1 := below_then hbe hb1 hbe.size
  have start : DotAt xs ys w w1.heap.size 0 (w1.alloc (.cells #[.bool (canF (dotQ xs ys 0)).num.neg, .slice B l d, .bool (canF (dotQ xs ys 0)).den.neg, .slice B' l' d'] 47)) :=
    ⟨B, B', l, d, l', d', hX, e1.frac.below bn, (hR.later hb1).later bn, below_then b1 bn b1.size, (hR.later hb1).lt⟩
  have ST := Lib.hid start
  clear start hX bn b1 hR hbe hb1 e1
  generalize canF (dotQ xs ys 0) = D0 at *
  go_wp2
  go_loopw [6] (fun i wr => ∃ k : Nat, k ≤ min n m ∧ i = .int .i64 k ∧ DotAt xs ys w w1.heap.size k wr) (fun i _ => n - (intOf i).toNat)
  case atStart => exact ⟨0, by omega, rfl, ST.out⟩
  case round =>
    obtain ⟨k, hk, rfl, C, C', p, q, p', q', hX, hF, hR, hbe, hg⟩ := hrel
    rcases Nat.lt_or_ge k (min n m) with hkl | hkl
    · obtain ⟨f, hf⟩ := get_some (fs := xs) (i := k) (by rw [HN.out]; omega)
      obtain ⟨f', hf'⟩ := get_some (fs := ys) (i := k) (by rw [HM.out]; omega)
      obtain ⟨b, off, A1, n1, k1, A2, n2, k2, rfl, hlt, hcell, hm⟩ := h1.elem hbe hf
      obtain ⟨b', off', A3, n3, k3, A4, n4, k4, rfl, hlt', hcell', hm'⟩ := h2.elem hbe hf'
      have hn1 : (k : Int) < n := by omega
      have hn2 : (k : Int) < m := by omega
      have hsf := HA.out k f hf
      have hsf' := HB.out k f' hf'
      have HD : Hid (dotQ xs ys (k + 1) = dotQ xs ys k + f.q * f'.q) := Lib.hid (by rw [dotQ_succ, qAt_some hf, qAt_some hf'])
      have szD : Sz 34359738368 (dotQ xs ys k) := by
        refine (Sz_dot HA.out HB.out hK).mono ?_
        have := Nat.mul_le_mul_right (2 * K + 1) hk
        have := HS.out
        omega
      clear hf hf'
      have hcA := hcell
      have hcB := hcell'
      obtain ⟨x1, x2, x3, x4⟩ := hcell
      go_wp2_with fail
      refine (rsignF_any _ f _ hm (hsf.sh (by omega))).mono ?_
      rintro e w2 ⟨rfl, hb2⟩
      have hX2 := hX.later hb2
      have hR2 := hR.later hb2
      have hF2 := hF.below hb2
      have hbe2 := below_then hbe hb2 hbe.size
      have hm2 := hm.below hb2
      have hm2' := hm'.below hb2
      have hcA2 := cell4_later hb2 hcA
      have hcB2 := cell4_later hb2 hcB
      clear hX hR hF hbe hm hm' hcA hcB hcell' x1 x2 x3 x4 hb2
      by_cases hz : f.q = 0
      · have hsg : qs f.q = 0 := qs_zero.2 hz
        have HD0 : Hid (dotQ xs ys (k + 1) = dotQ xs ys k) := Lib.hid (by rw [HD.out, hz]; simp [Rat.zero_mul, Rat.add_zero])
        clear hz HD
        go_wp2
        go_roundw
        case rel => exact ⟨k + 1, by omega, by go_num, C, C', p, q, p', q', by rw [HD0.out]; exact hX2, by rw [HD0.out]; exact hF2, hR2, hbe2, hg⟩
        case measure => simp [intOf]; omega
      · have hsg : (qs f.q != 0) = true := by simpa using fun h => hz (qs_zero.1 h)
        clear hz
        obtain ⟨y1, y2, y3, y4⟩ := hcB2
        go_wp2_with fail
        refine (rsignF_any _ f' _ hm2' (hsf'.sh (by omega))).mono ?_
        rintro e w3 ⟨rfl, hb3⟩
        have hX3 := hX2.later hb3
        have hR3 := hR2.later hb3
        have hF3 := hF2.below hb3
        have hbe3 := below_then hbe2 hb3 hbe2.size
        have hm3 := hm2.below hb3
        have hm3' := hm2'.below hb3
        have hcA3 := cell4_later hb3 hcA2
        have hcB3 := cell4_later hb3 ⟨y1, y2, y3, y4⟩
        clear hX2 hR2 hF2 hbe2 hm2 hm2' hcA2 y1 y2 y3 y4 hb3 hsg
        by_cases hz : f'.q = 0
        · have hsg : qs f'.q = 0 := qs_zero.2 hz
          have HD0 : Hid (dotQ xs ys (k + 1) = dotQ xs ys k) := Lib.hid (by rw [HD.out, hz]; simp [Rat.mul_zero, Rat.add_zero])
          clear hz HD
          go_wp2
          go_roundw
          case rel => exact ⟨k + 1, by omega, by go_num, C, C', p, q, p', q', by rw [HD0.out]; exact hX3, by rw [HD0.out]; exact hF3, hR3, hbe3, hg⟩
          case measure => simp [intOf]; omega
        · have hsg : (qs f'.q != 0) = true := by simpa using fun h => hz (qs_zero.1 h)
          clear hz
          have szP : (canF (f.q * f'.q)).Sh := ((Sz_mul (hsf.sz hK) (hsf'.sz hK))).sh (by omega)
          have szD' : (canF (dotQ xs ys k)).Sh := szD.sh (Nat.le_refl _)
          have HV : Hid ((canF (dotQ xs ys k)).q + (canF (f.q * f'.q)).q = dotQ xs ys (k + 1)) := Lib.hid (by rw [canF_q, canF_q, HD.out])
          have hne1 : b ≠ w1.heap.size := by omega
          have hne2 : b' ≠ w1.heap.size := by omega
          generalize canF (dotQ xs ys k) = DK at *
          go_wp2_with fail
          refine wp_region_noPanic ?_
          refine region_F (S := fun w' => (w'.cell? ⟨b, off + k * 4, none⟩ = some (.bool f.num.neg) ∧ w'.cell? ⟨b, off + k * 4 + 1, none⟩ = some (.slice A1 n1 k1) ∧ w'.cell? ⟨b, off + k * 4 + 2, none⟩ = some (.bool f.den.neg) ∧ w'.cell? ⟨b, off + k * 4 + 3, none⟩ = some (.slice A2 n2 k2)) ∧ (w'.cell? ⟨b', off' + k * 4, none⟩ = some (.bool f'.num.neg) ∧ w'.cell? ⟨b', off' + k * 4 + 1, none⟩ = some (.slice A3 n3 k3) ∧ w'.cell? ⟨b', off' + k * 4 + 2, none⟩ = some (.bool f'.den.neg) ∧ w'.cell? ⟨b', off' + k * 4 + 3, none⟩ = some (.slice A4 n4 k4)) ∧ (w'.cell? ⟨w1.heap.size, 0, none⟩ = some (.bool DK.num.neg) ∧ w'.cell? ⟨w1.heap.size, 1, none⟩ = some (.slice C p q) ∧ w'.cell? ⟨w1.heap.size, 2, none⟩ = some (.bool DK.den.neg) ∧ w'.cell? ⟨w1.heap.size, 3, none⟩ = some (.slice C' p' q'))) (n := 11) (by kernel_rfl) ?_ (fun hHeld => ?_)
          · exact ⟨hcA3, hcB3, hX3.drew.four⟩
          refine anyF_take (i := 0) (v := ?_) rfl (by kernel_rfl) (by kernel_rfl) (by kernel_rfl) (by kernel_rfl) (fun _ _ _ h => h) (Or.inl ⟨by rfl, ?y1⟩) (by assumption) ?_
          case y1 => (intro _ hSw; (try dsimp only at hSw); go_simp; (try with_reducible rfl))
          (try simp only [Act.put, List.setIfInBounds_toArray, List.set_cons_zero, List.set_cons_succ])
          refine anyF_take (i := 1) (v := ?_) rfl (by kernel_rfl) (by kernel_rfl) (by kernel_rfl) (by kernel_rfl) (fun _ _ _ h => h) (Or.inl ⟨by rfl, ?y2⟩) (by assumption) ?_
          case y2 => (intro _ hSw; (try dsimp only at hSw); go_simp; (try with_reducible rfl))
          (try simp only [Act.put, List.setIfInBounds_toArray, List.set_cons_zero, List.set_cons_succ])
          refine anyF_take (i := 2) (v := ?_) rfl (by kernel_rfl) (by kernel_rfl) (by kernel_rfl) (by kernel_rfl) (fun _ _ _ h => h) (Or.inl ⟨by rfl, ?y3⟩) (by assumption) ?_
          case y3 => (intro _ hSw; (try dsimp only at hSw); go_simp; (try with_reducible rfl))
          (try simp only [Act.put, List.setIfInBounds_toArray, List.set_cons_zero, List.set_cons_succ])
          refine anyF_take (i := 3) (v := ?_) rfl (by kernel_rfl) (by kernel_rfl) (by kernel_rfl) (by kernel_rfl) (fun _ _ _ h => h) (Or.inl ⟨by rfl, ?y4⟩) (by assumption) ?_
          case y4 => (intro _ hSw; (try dsimp only at hSw); go_simp; (try with_reducible rfl))
          (try simp only [Act.put, List.setIfInBounds_toArray, List.set_cons_zero, List.set_cons_succ])
          refine anyF_take (i := 4) (v := ?_) rfl (by kernel_rfl) (by kernel_rfl) (by kernel_rfl) (by kernel_rfl) (fun _ _ _ h => h) (Or.inl ⟨by rfl, ?y5⟩) (by assumption) ?_
          case y5 => (intro _ hSw; (try dsimp only at hSw); go_simp; (try with_reducible rfl))
          (try simp only [Act.put, List.setIfInBounds_toArray, List.set_cons_zero, List.set_cons_succ])
          refine anyF_take (i := 5) (v := ?_) rfl (by kernel_rfl) (by kernel_rfl) (by kernel_rfl) (by kernel_rfl) (fun _ _ _ h => h) (Or.inl ⟨by rfl, ?y6⟩) (by assumption) ?_
          case y6 => (intro _ hSw; (try dsimp only at hSw); go_simp; (try with_reducible rfl))
          (try simp only [Act.put, List.setIfInBounds_toArray, List.set_cons_zero, List.set_cons_succ])
          refine anyF_take (i := 6) (v := ?_) rfl (by kernel_rfl) (by kernel_rfl) (by kernel_rfl) (by kernel_rfl) (fun _ _ _ h => h) (Or.inl ⟨by rfl, ?y7⟩) (by assumption) ?_
          case y7 => (intro _ hSw; (try dsimp only at hSw); go_simp; (try with_reducible rfl))
          (try simp only [Act.put, List.setIfInBounds_toArray, List.set_cons_zero, List.set_cons_succ])
          refine anyF_take (i := 7) (v := ?_) rfl (by kernel_rfl) (by kernel_rfl) (by kernel_rfl) (by kernel_rfl) (fun _ _ _ h => h) (Or.inl ⟨by rfl, ?y8⟩) (by assumption) ?_
          case y8 => (intro _ hSw; (try dsimp only at hSw); go_simp; (try with_reducible rfl))
          (try simp only [Act.put, List.setIfInBounds_toArray, List.set_cons_zero, List.set_cons_succ])
          refine anyF_take (i := 8) (v := ?_) rfl (by kernel_rfl) (by kernel_rfl) (by kernel_rfl) (by kernel_rfl) (fun _ _ _ h => h) (Or.inl ⟨by rfl, ?y9⟩) (by assumption) ?_
          case y9 => (intro _ hSw; (try dsimp only at hSw); go_simp; (try with_reducible rfl))
          (try simp only [Act.put, List.setIfInBounds_toArray, List.set_cons_zero, List.set_cons_succ])
          refine anyF_step (i := 9) (by kernel_rfl) rfl (fun KR hKR => ?_)
          go_simp
          with_reducible refine (rmulF_own _ _ f f' _ (hm3.keep (Keep.drew _)) (hm3'.keep (Keep.drew _)) (hsf.sh (by omega)) (hsf'.sh (by omega))).mono ?_
          rintro e w8 ⟨v8, rfl, e8, hb8⟩
          refine hKR.out _ _ ?_ (fun hHeld => ?_)
          · exact ⟨cell4_later hb8 hcA3, cell4_later hb8 hcB3, (hX3.drew.later hb8).four⟩
          clear hKR KR
          (try simp only [Act.put, List.setIfInBounds_toArray, List.set_cons_zero, List.set_cons_succ])
          refine anyF_step (i := 10) (by kernel_rfl) rfl (fun KR hKR => ?_)
          go_simp
          with_reducible refine (raddF_own _ _ DK (canF (f.q * f'.q)) _ ((hF3.keep (Keep.drew _)).below hb8) e8.frac szD' szP).mono ?_
          rw [HV.out]
          rintro e w9 ⟨v9, rfl, e9, hb9⟩
          obtain ⟨E, l9, k9, E', l9', k9', rfl, _, _⟩ := id e9.frac
          obtain ⟨c0, c1, c2, c3⟩ := ((hX3.drew.later hb8).later hb9).four
          obtain ⟨f0, f1, f2, f3⟩ := ((hX3.drew.later hb8).later hb9).fourF
          refine hKR.out _ _ ?_ (fun hHeld => ?_)
          · exact ⟨cell4_later hb9 (cell4_later hb8 hcA3), cell4_later hb9 (cell4_later hb8 hcB3), ((hX3.drew.later hb8).later hb9).four⟩
          clear hKR KR
          (try simp only [Act.put, List.setIfInBounds_toArray, List.set_cons_zero, List.set_cons_succ])
          refine anyF_last (i := 11) (by kernel_rfl) rfl (by decide) (fun KR hKR => ?_)
          go_simp
          refine hKR.out _ _ ?_
          clear hKR KR
          (try simp only [Act.put, List.setIfInBounds_toArray, List.set_cons_zero, List.set_cons_succ])
          refine anyF_done (by kernel_rfl) (NoPanic.normal ?_) _
          have hX9 := (hX3.drew.later hb8).later hb9
          have bb1 := below_then hbe3.drew hb8 hbe3.size
          have bb2 := below_then bb1 hb9 bb1.size
          have hR9 := ((hR3.drew.later hb8).later hb9).far4 (show w.heap.size ≠ w1.heap.size by omega)
          go_wp2
          go_roundw
          case rel => exact ⟨k + 1, by omega, by go_num, E, E', l9, k9, l9', k9', hX9.set4 _ _ _ _, e9.frac.keep (hX9.keep4 (by decide) _ _ _ _), hR9 _ _ _ _, below_set4 bb2 (by omega) _ _ _ _, hg⟩
          case measure => simp [intOf]; omega
    · have hkm : k = min n m := by omega
      have hex : decide (k < n) = false ∨ (decide (k < n) = true ∧ decide (k < m) = false) := by
        rcases Nat.lt_or_ge k n with h | h
        · right; simp; omega
        · left; simp; omega
      have HKM := Lib.hid hkm
      clear hkm hkl hk
      obtain ⟨x1, x2, x3, x4⟩ := hX.four
      obtain ⟨c0, c1, c2, c3⟩ := hR.four
      obtain ⟨f0, f1, f2, f3⟩ := hR.fourF
      generalize hDK : canF (dotQ xs ys k) = DK at *
      have HDK := Lib.hid hDK
      clear hDK
      rcases hex with hex | ⟨hex, hex2⟩
      all_goals
        go_wp2
        refine ret_cell Tryz.results16 Tryz.underlying47 (by kernel_rfl) rfl (hR.set4 _ _ _ _) rfl ?_
        rw [← HKM.out, HDK.out]
        exact fin_frac hR hF hbe (Nat.le_refl _)
end Go.Proofs.YtpanffbgihhjnaaGreat

/- Memory: sparse vectors, lists of them, linear programs. The errors of a vector and of a program, as plain functions. -/
namespace Go.Proofs.YtpanffbgihhjnaaGreat
open Go.RowKit Pl
attribute [local go_sem ↓] Go.wp_at_zero Go.wp_at_succ

namespace Pl
structure En where
  idx : Int
  f : RF
structure LPd where
  cost : List RF
  cols : List (List En)
  right : List RF
def leP (p : Option Int) (i : Int) : Bool := match p with | some j => decide (i ≤ j) | none => false
def vErr (n : Int) : List En → Option Int → Int
  | [], _ => 0
  | e :: es, p => if e.idx < 0 ∨ n ≤ e.idx then 5 else if leP p e.idx = true then 8 else if e.f.q = 0 then 11 else vErr n es (some e.idx)
def vecErr (es : List En) (n : Int) : Int := if n < 0 ∨ 4096 < n then 5 else vErr n es none
def prevI (es : List En) (k : Nat) : Option Int := match k with | 0 => none | k + 1 => (es[k]?).map (·.idx)
theorem vErr_step {n : Int} {es : List En} {k : Nat} {e : En} (h : es[k]? = some e) :
    vErr n (es.drop k) (prevI es k) = if e.idx < 0 ∨ n ≤ e.idx then 5 else if leP (prevI es k) e.idx = true then 8 else if e.f.q = 0 then 11 else vErr n (es.drop (k + 1)) (prevI es (k + 1)) := by
  have hk : k < es.length := (List.getElem?_eq_some_iff.1 h).1
  have he : es[k] = e := (List.getElem?_eq_some_iff.1 h).2
  rw [List.drop_eq_getElem_cons hk, he, vErr]
  rw [show prevI es (k + 1) = some e.idx from by simp [prevI, h]]
theorem vErr_end {n : Int} {es : List En} {k : Nat} (h : es.length ≤ k) : vErr n (es.drop k) (prevI es k) = 0 := by
  rw [List.drop_eq_nil_of_le h, vErr]
def colsErr (n : Int) : List (List En) → Int
  | [] => 0
  | c :: cs => if vecErr c n = 0 then colsErr n cs else vecErr c n
theorem colsErr_step {n : Int} {cs : List (List En)} {k : Nat} {c : List En} (h : cs[k]? = some c) : colsErr n (cs.drop k) = if vecErr c n = 0 then colsErr n (cs.drop (k + 1)) else vecErr c n := by
  have hk : k < cs.length := (List.getElem?_eq_some_iff.1 h).1
  have he : cs[k] = c := (List.getElem?_eq_some_iff.1 h).2
  rw [List.drop_eq_getElem_cons hk, he, colsErr]
theorem colsErr_end {n : Int} {cs : List (List En)} {k : Nat} (h : cs.length ≤ k) : colsErr n (cs.drop k) = 0 := by
  rw [List.drop_eq_nil_of_le h, colsErr]
def lpErr (p : LPd) : Int := if 64 < p.right.length ∨ 1200 < p.cols.length then 10 else if p.cost.length ≠ p.cols.length then 12 else colsErr (p.right.length : Int) p.cols
theorem vErr_cases (n : Int) (p : Option Int) (es : List En) : vErr n es p = 0 ∨ vErr n es p = 5 ∨ vErr n es p = 8 ∨ vErr n es p = 11 := by
  induction es generalizing p with
  | nil => left; rfl
  | cons e es ih =>
    rw [vErr]
    split
    · simp
    · split
      · simp
      · split
        · simp
        · exact ih _
theorem vecErr_bd (es : List En) (n : Int) : 0 ≤ vecErr es n ∧ vecErr es n ≤ 11 := by
  unfold vecErr
  split
  · omega
  · rcases vErr_cases n none es with h | h | h | h <;> omega
end Pl

def EnC (w : World) (cs : List Value) (es : List En) : Prop :=
  cs.length = es.length * 5 ∧ ∀ k e, es[k]? = some e → ∃ x y z u, cs[k * 5]? = some (.int .i64 e.idx) ∧ cs[k * 5 + 1]? = some x ∧ cs[k * 5 + 2]? = some y ∧ cs[k * 5 + 3]? = some z ∧ cs[k * 5 + 4]? = some u ∧ FracM w (.agg #[x, y, z, u]) e.f
theorem EnC.keep {w w' : World} {cs : List Value} {es : List En} (h : EnC w cs es) (hk : Keep w w') : EnC w' cs es :=
  ⟨h.1, fun k f hf => by
    obtain ⟨x, y, z, u, h0, h1, h2, h3, h4, h5⟩ := h.2 k f hf
    exact ⟨x, y, z, u, h0, h1, h2, h3, h4, h5.keep hk⟩⟩
theorem EnC.nil (w : World) : EnC w [] [] := ⟨rfl, fun k f h => by simp at h⟩
theorem EnC.snoc {w : World} {cs : List Value} {es : List En} (h : EnC w cs es) {x y z u : Value} {e : En} (hf : FracM w (.agg #[x, y, z, u]) e.f) : EnC w (cs ++ [.int .i64 e.idx, x, y, z, u]) (es ++ [e]) := by
  refine ⟨by simp [h.1]; omega, fun k g hg => ?_⟩
  have hl := h.1
  rcases Nat.lt_or_ge k es.length with hk | hk
  · rw [List.getElem?_append_left hk] at hg
    obtain ⟨x', y', z', u', h0, h1, h2, h3, h4, h5⟩ := h.2 k g hg
    refine ⟨x', y', z', u', ?_, ?_, ?_, ?_, ?_, h5⟩
    · rw [List.getElem?_append_left (by omega)]; exact h0
    · rw [List.getElem?_append_left (by omega)]; exact h1
    · rw [List.getElem?_append_left (by omega)]; exact h2
    · rw [List.getElem?_append_left (by omega)]; exact h3
    · rw [List.getElem?_append_left (by omega)]; exact h4
  · rw [List.getElem?_append_right hk] at hg
    have hk' : k - es.length = 0 := by
      rcases Nat.eq_zero_or_pos (k - es.length) with e | e
      · exact e
      · rw [List.getElem?_eq_none (by simp; omega)] at hg; cases hg
    rw [hk'] at hg
    simp at hg
    subst hg
    obtain rfl : k = es.length := by omega
    refine ⟨x, y, z, u, ?_, ?_, ?_, ?_, ?_, hf⟩
    · rw [List.getElem?_append_right (by omega), show es.length * 5 - cs.length = 0 by omega]; rfl
    · rw [List.getElem?_append_right (by omega), show es.length * 5 + 1 - cs.length = 1 by omega]; rfl
    · rw [List.getElem?_append_right (by omega), show es.length * 5 + 2 - cs.length = 2 by omega]; rfl
    · rw [List.getElem?_append_right (by omega), show es.length * 5 + 3 - cs.length = 3 by omega]; rfl
    · rw [List.getElem?_append_right (by omega), show es.length * 5 + 4 - cs.length = 4 by omega]; rfl
def VecM (w : World) (v : Value) (es : List En) : Prop := ∃ cs, RowM w 80 5 v es.length cs ∧ EnC w cs es
theorem VecM.below {w w' : World} {v : Value} {es : List En} (h : VecM w v es) (hb : Below w.heap.size w w') : VecM w' v es := by
  obtain ⟨cs, h1, h2⟩ := h
  exact ⟨cs, h1.below hb, h2.keep (Keep.of_below hb)⟩
theorem VecM.but {w w' : World} {e : TypeId} {v : Value} {es : List En} (h : VecM w v es) (hk : KeepBut e w w') (h1 : 80 ≠ e) (h2 : 85 ≠ e) : VecM w' v es := by
  obtain ⟨cs, g1, g2⟩ := h
  exact ⟨cs, hk.row g1 h1, g2.keep (hk.keep h2)⟩
theorem FrsM.but {w w' : World} {e : TypeId} {v : Value} {fs : List RF} (h : FrsM w v fs) (hk : KeepBut e w w') (h1 : 47 ≠ e) (h2 : 85 ≠ e) : FrsM w' v fs := by
  obtain ⟨cs, g1, g2⟩ := h
  exact ⟨cs, hk.row g1 h1, g2.keep (hk.keep h2)⟩
theorem FrsO.but {base : Nat} {w w' : World} {e : TypeId} {v : Value} {fs : List RF} (h : FrsO base w v fs) (hk : KeepBut e w w') (h1 : 47 ≠ e) (h2 : 85 ≠ e) : FrsO base w' v fs := by
  obtain ⟨cs, g1, g2⟩ := h
  exact ⟨cs, hk.own g1 h1, g2.keep (hk.keep h2)⟩
theorem VecM.shape {w : World} {v : Value} {es : List En} (h : VecM w v es) : ∃ A c, v = .slice A es.length c ∧ es.length ≤ c ∧ c ≤ 9223372036854775807 := by
  obtain ⟨cs, h1, h2⟩ := h
  exact h1.shape
theorem VecM.elem {w wr : World} {A : Option Addr} {n c : Nat} {es : List En} (h : VecM w (.slice A n c) es) (hb : Below w.heap.size w wr) {k : Nat} {e : En} (he : es[k]? = some e) :
    ∃ b off A1 n1 c1 A2 n2 c2, A = some ⟨b, off, none⟩ ∧ b < w.heap.size ∧ (wr.cell? ⟨b, off + k * 5, none⟩ = some (.int .i64 e.idx) ∧ wr.cell? ⟨b, off + k * 5 + 1, none⟩ = some (.bool e.f.num.neg) ∧ wr.cell? ⟨b, off + k * 5 + 2, none⟩ = some (.slice A1 n1 c1) ∧ wr.cell? ⟨b, off + k * 5 + 3, none⟩ = some (.bool e.f.den.neg) ∧ wr.cell? ⟨b, off + k * 5 + 4, none⟩ = some (.slice A2 n2 c2)) ∧
      FracM wr (.agg #[.bool e.f.num.neg, .slice A1 n1 c1, .bool e.f.den.neg, .slice A2 n2 c2]) e.f := by
  obtain ⟨cs, h1, h2⟩ := h
  obtain ⟨x, y, z, u, c0, c1, c2, c3, c4, hm⟩ := h2.2 k e he
  have hk : k < es.length := (List.getElem?_eq_some_iff.1 he).1
  have hn := h1.len
  subst hn
  obtain ⟨b, off, hA, hlt, hc⟩ := h1.at_ (by omega)
  obtain ⟨A1, n1, k1, A2, n2, k2, hv, d1, d2⟩ := id hm
  simp at hv
  obtain ⟨rfl, rfl, rfl, rfl⟩ := hv
  exact ⟨b, off, A1, n1, k1, A2, n2, k2, hA, hlt, ⟨cell_keep hb (hc _ _ c0), cell_keep hb (hc _ _ c1), cell_keep hb (hc _ _ c2), cell_keep hb (hc _ _ c3), cell_keep hb (hc _ _ c4)⟩, hm.below hb⟩
def VecsM (w : World) (v : Value) (cols : List (List En)) : Prop := ∃ cs, RowM w 59 1 v cols.length cs ∧ ∀ (k : Nat) (c : List En), cols[k]? = some c → ∃ u, cs[k]? = some u ∧ VecM w u c
theorem VecsM.below {w w' : World} {v : Value} {cols : List (List En)} (h : VecsM w v cols) (hb : Below w.heap.size w w') : VecsM w' v cols := by
  obtain ⟨cs, h1, h2⟩ := h
  exact ⟨cs, h1.below hb, fun k c hc => by obtain ⟨u, g1, g2⟩ := h2 k c hc; exact ⟨u, g1, g2.below hb⟩⟩
theorem VecsM.shape {w : World} {v : Value} {cols : List (List En)} (h : VecsM w v cols) : ∃ A c, v = .slice A cols.length c ∧ cols.length ≤ c ∧ c ≤ 9223372036854775807 := by
  obtain ⟨cs, h1, h2⟩ := h
  exact h1.shape
theorem VecsM.elem {w wr : World} {A : Option Addr} {n c : Nat} {cols : List (List En)} (h : VecsM w (.slice A n c) cols) (hb : Below w.heap.size w wr) {k : Nat} {es : List En} (he : cols[k]? = some es) :
    ∃ b off A1 c1, A = some ⟨b, off, none⟩ ∧ b < w.heap.size ∧ wr.cell? ⟨b, off + k, none⟩ = some (.slice A1 es.length c1) ∧ VecM wr (.slice A1 es.length c1) es := by
  obtain ⟨cs, h1, h2⟩ := h
  obtain ⟨u, hu, hv⟩ := h2 k es he
  have hk : k < cols.length := (List.getElem?_eq_some_iff.1 he).1
  have hn := h1.len
  subst hn
  obtain ⟨b, off, hA, hlt, hc⟩ := h1.at_ (by omega)
  obtain ⟨A1, c1, rfl, _, _⟩ := hv.shape
  exact ⟨b, off, A1, c1, hA, hlt, cell_keep hb (hc _ _ hu), hv.below hb⟩
def LpM (w : World) (v : Value) (p : LPd) : Prop :=
  ∃ A n c A' n' c' A'' n'' c'', v = .agg #[.slice A n c, .slice A' n' c', .slice A'' n'' c''] ∧ FrsM w (.slice A n c) p.cost ∧ VecsM w (.slice A' n' c') p.cols ∧ FrsM w (.slice A'' n'' c'') p.right
theorem LpM.below {w w' : World} {v : Value} {p : LPd} (h : LpM w v p) (hb : Below w.heap.size w w') : LpM w' v p := by
  obtain ⟨A, n, c, A', n', c', A'', n'', c'', h1, h2, h3, h4⟩ := h
  exact ⟨A, n, c, A', n', c', A'', n'', c'', h1, h2.below hb, h3.below hb, h4.below hb⟩
theorem FrsM.len {w : World} {A : Option Addr} {n c : Nat} {fs : List RF} (h : FrsM w (.slice A n c) fs) : n = fs.length ∧ n ≤ c ∧ c ≤ 9223372036854775807 := by
  obtain ⟨A', c', e, h1, h2⟩ := h.shape
  injection e with _ e2 e3
  subst e2 e3
  exact ⟨rfl, h1, h2⟩
theorem VecM.len {w : World} {A : Option Addr} {n c : Nat} {fs : List En} (h : VecM w (.slice A n c) fs) : n = fs.length ∧ n ≤ c ∧ c ≤ 9223372036854775807 := by
  obtain ⟨A', c', e, h1, h2⟩ := h.shape
  injection e with _ e2 e3
  subst e2 e3
  exact ⟨rfl, h1, h2⟩
theorem VecsM.len {w : World} {A : Option Addr} {n c : Nat} {fs : List (List En)} (h : VecsM w (.slice A n c) fs) : n = fs.length ∧ n ≤ c ∧ c ≤ 9223372036854775807 := by
  obtain ⟨A', c', e, h1, h2⟩ := h.shape
  injection e with _ e2 e3
  subst e2 e3
  exact ⟨rfl, h1, h2⟩
section
variable {w : World} {g : Nat} {t : TypeId} {a b c : Value}
theorem Bk.three (h : Bk w g t [a, b, c]) : w.cell? ⟨g, 0, none⟩ = some a ∧ w.cell? ⟨g, 1, none⟩ = some b ∧ w.cell? ⟨g, 2, none⟩ = some c := ⟨h.cellAt 0 rfl, h.cellAt 1 rfl, h.cellAt 2 rfl⟩
theorem Bk.five {d e : Value} (h : Bk w g t [a, b, c, d, e]) : w.cell? ⟨g, 0, none⟩ = some a ∧ w.cell? ⟨g, 1, none⟩ = some b ∧ w.cell? ⟨g, 2, none⟩ = some c ∧ w.cell? ⟨g, 3, none⟩ = some d ∧ w.cell? ⟨g, 4, none⟩ = some e := ⟨h.cellAt 0 rfl, h.cellAt 1 rfl, h.cellAt 2 rfl, h.cellAt 3 rfl, h.cellAt 4 rfl⟩
end
end Go.Proofs.YtpanffbgihhjnaaGreat

/- Walks: pairingref25.vector, sparse.Validate. -/
namespace Go.Proofs.YtpanffbgihhjnaaGreat
open Go.RowKit Pl
attribute [local go_sem ↓] Go.wp_at_zero Go.wp_at_succ

namespace Pl
theorem vErr_range {n : Int} {es : List En} {k : Nat} {e : En} (h : es[k]? = some e) (h2 : e.idx < 0 ∨ n ≤ e.idx) : vErr n (es.drop k) (prevI es k) = 5 := by rw [vErr_step h, if_pos h2]
theorem vErr_order {n : Int} {es : List En} {k : Nat} {e p : En} (h : es[k + 1]? = some e) (hp : es[k]? = some p) (h2 : ¬ (e.idx < 0 ∨ n ≤ e.idx)) (h3 : e.idx ≤ p.idx) : vErr n (es.drop (k + 1)) (prevI es (k + 1)) = 8 := by
  rw [vErr_step h, if_neg h2, if_pos (by simp [prevI, hp, leP, h3])]
theorem vErr_zero {n : Int} {es : List En} {k : Nat} {e : En} (h : es[k]? = some e) (h2 : ¬ (e.idx < 0 ∨ n ≤ e.idx)) (h3 : leP (prevI es k) e.idx = false) (h4 : e.f.q = 0) : vErr n (es.drop k) (prevI es k) = 11 := by
  rw [vErr_step h, if_neg h2, if_neg (by simp [h3]), if_pos h4]
theorem vErr_next {n : Int} {es : List En} {k : Nat} {e : En} (h : es[k]? = some e) (h2 : ¬ (e.idx < 0 ∨ n ≤ e.idx)) (h3 : leP (prevI es k) e.idx = false) (h4 : e.f.q ≠ 0) : vErr n (es.drop k) (prevI es k) = vErr n (es.drop (k + 1)) (prevI es (k + 1)) := by
  rw [vErr_step h, if_neg h2, if_neg (by simp [h3]), if_neg h4]
theorem leP_next {es : List En} {k : Nat} {p : En} (hp : es[k]? = some p) {i : Int} (h : ¬ i ≤ p.idx) : leP (prevI es (k + 1)) i = false := by simp [prevI, hp, leP]; omega
theorem get_someE {es : List En} {i : Nat} (h : i < es.length) : ∃ f, es[i]? = some f := ⟨es[i], List.getElem?_eq_getElem h⟩
def EnI (es : List En) : Prop := ∀ (k : Nat) (e : En), es[k]? = some e → -9223372036854775808 ≤ e.idx ∧ e.idx ≤ 9223372036854775807
end Pl

set_option maxRecDepth 100000 in
set_option maxHeartbeats 4000000 in
theorem vector_any (v : Value) (es : List En) (n : Int) (w : World) (h : VecM w v es) (hs : ∀ (k : Nat) (e : En), es[k]? = some e → e.f.Sh) (hi : EnI es) (h0 : -9223372036854775808 ≤ n) (h1 : n ≤ 9223372036854775807) :
    Calls Tryz.prog 72 #[v, .int .i64 n] w fun e w' => e = .returned (.int .i64 (vecErr es n)) ∧ Below w.heap.size w w' := by
  obtain ⟨A, c, rfl, hc1, hc2⟩ := h.shape
  generalize hl : es.length = l at *
  have HL := Lib.hid hl
  have HS := Lib.hid hs
  have HI := Lib.hid hi
  clear hl hs hi
  by_cases hneg : n < 0
  · have HV : Hid (vecErr es n = 5) := Lib.hid (by unfold vecErr; rw [if_pos (.inl hneg)])
    go_enter Tryz.func72, Tryz.ntmps72
    go_wp2
    go_ret
    exact ⟨by rw [HV.out]; rfl, Below.refl _ _⟩
  · by_cases hbig : 4096 < n
    · have HV : Hid (vecErr es n = 5) := Lib.hid (by unfold vecErr; rw [if_pos (.inr hbig)])
      go_enter Tryz.func72, Tryz.ntmps72
      go_wp2
      go_ret
      exact ⟨by rw [HV.out]; rfl, Below.refl _ _⟩
    · have hv : vecErr es n = vErr n (es.drop 0) (prevI es 0) := by
        unfold vecErr
        rw [if_neg (by omega)]
        rfl
      generalize vecErr es n = RES at *
      have HV := Lib.hid hv
      clear hv
      have hd1 : decide (n < 0) = false := by simpa using hneg
      have hd2 : decide (4096 < n) = false := by simpa using hbig
      clear hneg hbig
      go_enter Tryz.func72, Tryz.ntmps72
      go_wp2
      clear hd1 hd2
      go_loopw [5] (fun i wr => ∃ k : Nat, k ≤ l ∧ i = .int .i64 k ∧ Below w.heap.size w wr ∧ RES = vErr n (es.drop k) (prevI es k)) (fun i _ => l - (intOf i).toNat)
      case atStart => exact ⟨0, by omega, rfl, Below.refl _ _, HV.out⟩
      case round =>
        obtain ⟨k, hk, rfl, hbe, heq⟩ := hrel
        have HE := Lib.hid heq
        clear heq HV
        rcases Nat.lt_or_ge k l with hkl | hkl
        · obtain ⟨e, he⟩ := get_someE (es := es) (i := k) (by rw [HL.out]; exact hkl)
          obtain ⟨b, off, A1, n1, c1, A2, n2, c2, rfl, hlt, hcell, hm⟩ := h.elem hbe he
          obtain ⟨x0, x1, x2, x3, x4⟩ := hcell
          obtain ⟨i0, i1⟩ := HI.out k e he
          have hsh := HS.out k e he
          by_cases hlow : e.idx < 0
          · have HR : Hid (RES = 5) := Lib.hid (HE.out.trans (vErr_range he (.inl hlow)))
            clear he
            go_wp2
            go_ret
            exact ⟨by rw [HR.out]; rfl, hbe⟩
          · by_cases hhi : n ≤ e.idx
            · have HR : Hid (RES = 5) := Lib.hid (HE.out.trans (vErr_range he (.inr hhi)))
              clear he
              go_wp2
              go_ret
              exact ⟨by rw [HR.out]; rfl, hbe⟩
            · have hin : ¬ (e.idx < 0 ∨ n ≤ e.idx) := by omega
              have HIN := Lib.hid hin
              have hd1 : decide (e.idx < 0) = false := by simpa using hlow
              have hd2 : decide (n ≤ e.idx) = false := by simpa using hhi
              clear hin hlow hhi
              by_cases hk0 : k = 0
              · have HP : Hid (leP (prevI es k) e.idx = false) := Lib.hid (by rw [hk0]; rfl)
                have hg : decide ((0 : Int) < (k : Int)) = false := by simp; omega
                have hg' : decide (0 < k) = false := by simp; omega
                clear hk0
                by_cases hz : e.f.q = 0
                · have hsg : qs e.f.q = 0 := qs_zero.2 hz
                  have HR : Hid (RES = 11) := Lib.hid (HE.out.trans (vErr_zero he HIN.out HP.out hz))
                  clear he hz
                  go_wp2
                  go_quiet (fail)
                  go_wp2_with fail
                  refine (rsignF_any _ e.f _ (hm.keep (Keep.drewN _ _)) hsh).mono ?_
                  rintro _ w2 ⟨rfl, hb2⟩
                  go_wp2
                  go_ret
                  exact ⟨by rw [HR.out]; rfl, below_then (below_drewN hbe _) hb2 hbe.size⟩
                · have hsg : (qs e.f.q == 0) = false := by simpa using fun h => hz (qs_zero.1 h)
                  have HR : Hid (RES = vErr n (es.drop (k + 1)) (prevI es (k + 1))) := Lib.hid (HE.out.trans (vErr_next he HIN.out HP.out hz))
                  clear he hz
                  go_wp2
                  go_quiet (fail)
                  go_wp2_with fail
                  refine (rsignF_any _ e.f _ (hm.keep (Keep.drewN _ _)) hsh).mono ?_
                  rintro _ w2 ⟨rfl, hb2⟩
                  go_wp2
                  go_roundw
                  case rel => exact ⟨k + 1, by omega, by go_num, below_then (below_drewN hbe _) hb2 hbe.size, HR.out⟩
                  case measure => simp [intOf]; omega
              · obtain ⟨j, hj⟩ : ∃ j, k = j + 1 := ⟨k - 1, by omega⟩
                have hji : (k : Int) - 1 = (j : Int) := by omega
                have hg : (0 : Int) < (k : Int) := by omega
                have hg' : 0 < k := by omega
                have HJ := Lib.hid hj
                obtain ⟨p, hp⟩ := get_someE (es := es) (i := j) (by rw [HL.out]; omega)
                obtain ⟨b2, off2, B1, m1, d1, B2, m2, d2, hA, _, hcell, _⟩ := h.elem hbe hp
                injection hA with hA
                injection hA with hA1 hA2
                subst hA1 hA2
                obtain ⟨y0, _, _, _, _⟩ := hcell
                obtain ⟨j0, j1⟩ := HI.out j p hp
                have hjl : (j : Int) < l := by omega
                by_cases hle : e.idx ≤ p.idx
                · have HR : Hid (RES = 8) := Lib.hid (HE.out.trans (by rw [HJ.out] at he ⊢; exact vErr_order he hp HIN.out hle))
                  clear he hp hk0 hj
                  go_wp2
                  go_quiet (fail)
                  go_wp2
                  go_ret
                  exact ⟨by rw [HR.out]; rfl, below_drewN hbe _⟩
                · have HP : Hid (leP (prevI es k) e.idx = false) := Lib.hid (by rw [HJ.out]; exact leP_next hp hle)
                  have hle' : decide (e.idx ≤ p.idx) = false := by simpa using hle
                  clear hp hk0 hj hle
                  by_cases hz : e.f.q = 0
                  · have hsg : qs e.f.q = 0 := qs_zero.2 hz
                    have HR : Hid (RES = 11) := Lib.hid (HE.out.trans (vErr_zero he HIN.out HP.out hz))
                    clear he hz
                    go_wp2
                    go_quiet (fail)
                    go_wp2_with fail
                    refine (rsignF_any _ e.f _ (hm.keep (Keep.drewN _ _)) hsh).mono ?_
                    rintro _ w2 ⟨rfl, hb2⟩
                    go_wp2
                    go_ret
                    exact ⟨by rw [HR.out]; rfl, below_then (below_drewN hbe _) hb2 hbe.size⟩
                  · have hsg : (qs e.f.q == 0) = false := by simpa using fun h => hz (qs_zero.1 h)
                    have HR : Hid (RES = vErr n (es.drop (k + 1)) (prevI es (k + 1))) := Lib.hid (HE.out.trans (vErr_next he HIN.out HP.out hz))
                    clear he hz
                    go_wp2
                    go_quiet (fail)
                    go_wp2_with fail
                    refine (rsignF_any _ e.f _ (hm.keep (Keep.drewN _ _)) hsh).mono ?_
                    rintro _ w2 ⟨rfl, hb2⟩
                    go_wp2
                    go_roundw
                    case rel => exact ⟨k + 1, by omega, by go_num, below_then (below_drewN hbe _) hb2 hbe.size, HR.out⟩
                    case measure => simp [intOf]; omega
        · have HR : Hid (RES = 0) := Lib.hid (HE.out.trans (vErr_end (by rw [HL.out]; omega)))
          go_wp2
          go_ret
          exact ⟨by rw [HR.out]; rfl, hbe⟩
end Go.Proofs.YtpanffbgihhjnaaGreat

/- Walks: sparse.Validate. -/
namespace Go.Proofs.YtpanffbgihhjnaaGreat
open Go.RowKit Pl
attribute [local go_sem ↓] Go.wp_at_zero Go.wp_at_succ

theorem box_en (w : World) (x0 x1 x2 x3 x4 : Value) : ∃ W, w.alloc (.cells #[x0, x1, x2, x3, x4] 80) = W ∧ Bk W w.heap.size 80 [x0, x1, x2, x3, x4] ∧ Below w.heap.size w W :=
  ⟨_, rfl, Bk.new w _ [x0, x1, x2, x3, x4], below_new w _⟩

set_option maxRecDepth 100000 in
set_option maxHeartbeats 4000000 in
theorem sparseValidate_any (v : Value) (es : List En) (n : Int) (w : World) (h : VecM w v es) (hi : EnI es) (h0 : -9223372036854775808 ≤ n) (h1 : n ≤ 9223372036854775807) :
    Calls Tryz.prog 68 #[v, .int .i64 n] w fun e w' => e = .returned (.int .i64 (vecErr es n)) ∧ Below w.heap.size w w' := by
  obtain ⟨A, c, rfl, hc1, hc2⟩ := h.shape
  generalize hl : es.length = l at *
  have HL := Lib.hid hl
  have HI := Lib.hid hi
  clear hl hi
  by_cases hneg : n < 0
  · have HV : Hid (vecErr es n = 5) := Lib.hid (by unfold vecErr; rw [if_pos (.inl hneg)])
    go_enter Tryz.func68, Tryz.ntmps68
    go_wp2
    go_ret
    exact ⟨by rw [HV.out]; rfl, Below.refl _ _⟩
  · by_cases hbig : 4096 < n
    · have HV : Hid (vecErr es n = 5) := Lib.hid (by unfold vecErr; rw [if_pos (.inr hbig)])
      go_enter Tryz.func68, Tryz.ntmps68
      go_wp2
      go_ret
      exact ⟨by rw [HV.out]; rfl, Below.refl _ _⟩
    · have hv : vecErr es n = vErr n (es.drop 0) (prevI es 0) := by
        unfold vecErr
        rw [if_neg (by omega)]
        rfl
      generalize vecErr es n = RES at *
      have HV := Lib.hid hv
      clear hv
      have hd1 : decide (n < 0) = false := by simpa using hneg
      have hd2 : decide (4096 < n) = false := by simpa using hbig
      clear hneg hbig
      go_enter Tryz.func68, Tryz.ntmps68
      go_wp2
      clear hd1 hd2
      go_loopw [15] (fun i wr => ∃ k : Nat, k ≤ l ∧ i = .int .i64 k ∧ Below w.heap.size w wr ∧ RES = vErr n (es.drop k) (prevI es k)) (fun i _ => l - (intOf i).toNat)
      case atStart => exact ⟨0, by omega, rfl, Below.refl _ _, HV.out⟩
      case round =>
        obtain ⟨k, hk, rfl, hbe, heq⟩ := hrel
        have HE := Lib.hid heq
        clear heq HV
        rcases Nat.lt_or_ge k l with hkl | hkl
        · obtain ⟨e, he⟩ := get_someE (es := es) (i := k) (by rw [HL.out]; exact hkl)
          obtain ⟨b, off, A1, n1, c1, A2, n2, c2, rfl, hlt, hcell, hm⟩ := h.elem hbe he
          obtain ⟨x0, x1, x2, x3, x4⟩ := hcell
          obtain ⟨i0, i1⟩ := HI.out k e he
          obtain ⟨W, hW, hX, hbn⟩ := box_en wr (.int .i64 e.idx) (.bool e.f.num.neg) (.slice A1 n1 c1) (.bool e.f.den.neg) (.slice A2 n2 c2)
          obtain ⟨z0, z1, z2, z3, z4⟩ := hX.five
          have hbe1 := below_then hbe hbn hbe.size
          have hm1 := hm.below hbn
          by_cases hlow : e.idx < 0
          · have HR : Hid (RES = 5) := Lib.hid (HE.out.trans (vErr_range he (.inl hlow)))
            clear he
            go_wp2
            go_ret
            exact ⟨by rw [HR.out]; rfl, hbe1⟩
          · by_cases hhi : n ≤ e.idx
            · have HR : Hid (RES = 5) := Lib.hid (HE.out.trans (vErr_range he (.inr hhi)))
              clear he
              go_wp2
              go_ret
              exact ⟨by rw [HR.out]; rfl, hbe1⟩
            · have hin : ¬ (e.idx < 0 ∨ n ≤ e.idx) := by omega
              have HIN := Lib.hid hin
              have hd1 : decide (e.idx < 0) = false := by simpa using hlow
              have hd2 : decide (n ≤ e.idx) = false := by simpa using hhi
              clear hin hlow hhi
              by_cases hk0 : k = 0
              · have HP : Hid (leP (prevI es k) e.idx = false) := Lib.hid (by rw [hk0]; rfl)
                have hg : decide ((0 : Int) < (k : Int)) = false := by simp; omega
                have hg' : decide (0 < k) = false := by simp; omega
                clear hk0
                by_cases hz : e.f.q = 0
                · have hsg : qs e.f.q = 0 := qs_zero.2 hz
                  have HR : Hid (RES = 11) := Lib.hid (HE.out.trans (vErr_zero he HIN.out HP.out hz))
                  clear he hz
                  go_wp2
                  go_quiet (fail)
                  go_wp2_with fail
                  refine (signF_any _ e.f _ (hm1.keep (Keep.drewN _ _))).mono ?_
                  rintro _ w2 ⟨rfl, hb2⟩
                  go_wp2
                  go_ret
                  exact ⟨by rw [HR.out]; rfl, below_then (below_drewN hbe1 _) hb2 hbe1.size⟩
                · have hsg : (qs e.f.q == 0) = false := by simpa using fun h => hz (qs_zero.1 h)
                  have HR : Hid (RES = vErr n (es.drop (k + 1)) (prevI es (k + 1))) := Lib.hid (HE.out.trans (vErr_next he HIN.out HP.out hz))
                  clear he hz
                  go_wp2
                  go_quiet (fail)
                  go_wp2_with fail
                  refine (signF_any _ e.f _ (hm1.keep (Keep.drewN _ _))).mono ?_
                  rintro _ w2 ⟨rfl, hb2⟩
                  go_wp2
                  go_roundw
                  case rel => exact ⟨k + 1, by omega, by go_num, below_then (below_drewN hbe1 _) hb2 hbe1.size, HR.out⟩
                  case measure => simp [intOf]; omega
              · obtain ⟨j, hj⟩ : ∃ j, k = j + 1 := ⟨k - 1, by omega⟩
                have hji : (k : Int) - 1 = (j : Int) := by omega
                have hg : (0 : Int) < (k : Int) := by omega
                have hg' : 0 < k := by omega
                have HJ := Lib.hid hj
                obtain ⟨p, hp⟩ := get_someE (es := es) (i := j) (by rw [HL.out]; omega)
                obtain ⟨b2, off2, B1, m1, d1, B2, m2, d2, hA, _, hcell, _⟩ := h.elem hbe1 hp
                injection hA with hA
                injection hA with hA1 hA2
                subst hA1 hA2
                obtain ⟨y0, _, _, _, _⟩ := hcell
                obtain ⟨j0, j1⟩ := HI.out j p hp
                have hjl : (j : Int) < l := by omega
                by_cases hle : e.idx ≤ p.idx
                · have HR : Hid (RES = 8) := Lib.hid (HE.out.trans (by rw [HJ.out] at he ⊢; exact vErr_order he hp HIN.out hle))
                  clear he hp hk0 hj
                  go_wp2
                  go_quiet (fail)
                  go_wp2
                  go_ret
                  exact ⟨by rw [HR.out]; rfl, below_drewN hbe1 _⟩
                · have HP : Hid (leP (prevI es k) e.idx = false) := Lib.hid (by rw [HJ.out]; exact leP_next hp hle)
                  have hle' : decide (e.idx ≤ p.idx) = false := by simpa using hle
                  clear hp hk0 hj hle
                  by_cases hz : e.f.q = 0
                  · have hsg : qs e.f.q = 0 := qs_zero.2 hz
                    have HR : Hid (RES = 11) := Lib.hid (HE.out.trans (vErr_zero he HIN.out HP.out hz))
                    clear he hz
                    go_wp2
                    go_quiet (fail)
                    go_wp2_with fail
                    refine (signF_any _ e.f _ (hm1.keep (Keep.drewN _ _))).mono ?_
                    rintro _ w2 ⟨rfl, hb2⟩
                    go_wp2
                    go_ret
                    exact ⟨by rw [HR.out]; rfl, below_then (below_drewN hbe1 _) hb2 hbe1.size⟩
                  · have hsg : (qs e.f.q == 0) = false := by simpa using fun h => hz (qs_zero.1 h)
                    have HR : Hid (RES = vErr n (es.drop (k + 1)) (prevI es (k + 1))) := Lib.hid (HE.out.trans (vErr_next he HIN.out HP.out hz))
                    clear he hz
                    go_wp2
                    go_quiet (fail)
                    go_wp2_with fail
                    refine (signF_any _ e.f _ (hm1.keep (Keep.drewN _ _))).mono ?_
                    rintro _ w2 ⟨rfl, hb2⟩
                    go_wp2
                    go_roundw
                    case rel => exact ⟨k + 1, by omega, by go_num, below_then (below_drewN hbe1 _) hb2 hbe1.size, HR.out⟩
                    case measure => simp [intOf]; omega
        · have HR : Hid (RES = 0) := Lib.hid (HE.out.trans (vErr_end (by rw [HL.out]; omega)))
          go_wp2
          go_ret
          exact ⟨by rw [HR.out]; rfl, hbe⟩
end Go.Proofs.YtpanffbgihhjnaaGreat

/- Walks: pairingref25.Validate, simplex.Validate. -/
namespace Go.Proofs.YtpanffbgihhjnaaGreat
open Go.RowKit Pl
attribute [local go_sem ↓] Go.wp_at_zero Go.wp_at_succ

namespace Pl
def LPd.Ok (K : Nat) (p : LPd) : Prop := RsL K p.cost ∧ RsL K p.right ∧ ∀ (j : Nat) (c : List En), p.cols[j]? = some c → EnI c ∧ ∀ (k : Nat) (e : En), c[k]? = some e → e.f.Rs K
theorem lpErr_large {p : LPd} (h : 64 < p.right.length ∨ 1200 < p.cols.length) : lpErr p = 10 := by unfold lpErr; rw [if_pos h]
theorem lpErr_shape {p : LPd} (h : ¬ (64 < p.right.length ∨ 1200 < p.cols.length)) (h2 : p.cost.length ≠ p.cols.length) : lpErr p = 12 := by unfold lpErr; rw [if_neg h, if_pos h2]
theorem lpErr_cols {p : LPd} (h : ¬ (64 < p.right.length ∨ 1200 < p.cols.length)) (h2 : p.cost.length = p.cols.length) : lpErr p = colsErr (p.right.length : Int) (p.cols.drop 0) := by unfold lpErr; rw [if_neg h, if_neg (by omega)]; rfl
theorem get_someC {cs : List (List En)} {i : Nat} (h : i < cs.length) : ∃ f, cs[i]? = some f := ⟨cs[i], List.getElem?_eq_getElem h⟩
end Pl
theorem below_drew' (w : World) : Below w.heap.size w w.drew := (Below.refl _ _).drew
theorem box_lp (w : World) (x y z : Value) : ∃ W, w.alloc (.cells #[x, y, z] 26) = W ∧ Bk W w.heap.size 26 [x, y, z] ∧ Below w.heap.size w W := ⟨_, rfl, Bk.new w _ [x, y, z], below_new w _⟩

set_option maxRecDepth 100000 in
set_option maxHeartbeats 4000000 in
theorem rvalidate_any (v : Value) (p : LPd) (K : Nat) (w : World) (h : LpM w v p) (ok : p.Ok K) (hK : K ≤ 34359738368) :
    Calls Tryz.prog 40 #[v] w fun e w' => e = .returned (.int .i64 (lpErr p)) ∧ Below w.heap.size w w' := by
  obtain ⟨A, n, c, A', n', c', A'', n'', c'', rfl, hc, hv, hr⟩ := h
  obtain ⟨W, hW, hX, hbe⟩ := box_lp w (.slice A n c) (.slice A' n' c') (.slice A'' n'' c'')
  obtain ⟨x0, x1, x2⟩ := hX.three
  obtain ⟨l1, l2, l3⟩ := hc.len
  obtain ⟨m1, m2, m3⟩ := hv.len
  obtain ⟨r1, r2, r3⟩ := hr.len
  have HL1 := Lib.hid l1
  have HM1 := Lib.hid m1
  have HR1 := Lib.hid r1
  clear l1 m1 r1
  by_cases hbig : 64 < n''
  · have HV : Hid (lpErr p = 10) := Lib.hid (lpErr_large (.inl (by rw [← HR1.out]; exact hbig)))
    have hbig' : (64 : Int) < n'' := by omega
    go_enter Tryz.func40, Tryz.ntmps40
    go_wp2
    go_ret
    exact ⟨by rw [HV.out]; rfl, hbe⟩
  · by_cases hbig2 : 1200 < n'
    · have HV : Hid (lpErr p = 10) := Lib.hid (lpErr_large (.inr (by rw [← HM1.out]; exact hbig2)))
      have hbig' : decide ((64 : Int) < n'') = false := by simp; omega
      have hbig2' : (1200 : Int) < n' := by omega
      go_enter Tryz.func40, Tryz.ntmps40
      go_wp2
      go_ret
      exact ⟨by rw [HV.out]; rfl, hbe⟩
    · have HB : Hid (¬ (64 < p.right.length ∨ 1200 < p.cols.length)) := Lib.hid (by rw [← HR1.out, ← HM1.out]; omega)
      have hbig' : decide ((64 : Int) < n'') = false := by simp; omega
      have hbig2' : decide ((1200 : Int) < n') = false := by simp; omega
      by_cases hsh : n = n'
      · have hv0 := lpErr_cols HB.out (by rw [← HL1.out, ← HM1.out]; exact hsh)
        rw [← HR1.out] at hv0
        subst hsh
        generalize lpErr p = RES at *
        have HV := Lib.hid hv0
        clear hv0
        go_enter Tryz.func40, Tryz.ntmps40
        go_wp2
        clear hW hbig' hbig2'
        go_loopw [3] (fun i wr => ∃ k : Nat, k ≤ n ∧ i = .int .i64 k ∧ Below w.heap.size w wr ∧ Bk wr w.heap.size 26 [.slice A n c, .slice A' n c', .slice A'' n'' c''] ∧ RES = colsErr (n'' : Int) (p.cols.drop k)) (fun i _ => n - (intOf i).toNat)
        case atStart => exact ⟨0, by omega, rfl, hbe, hX, HV.out⟩
        case round =>
          obtain ⟨k, hk, rfl, hbe, hX, heq⟩ := hrel
          have HE := Lib.hid heq
          clear heq HV x0 x1 x2
          obtain ⟨x0, x1, x2⟩ := hX.three
          rcases Nat.lt_or_ge k n with hkl | hkl
          · obtain ⟨es, he⟩ := get_someC (cs := p.cols) (i := k) (by rw [← HM1.out]; exact hkl)
            obtain ⟨b, off, A1, c1, rfl, hlt, hcell, hm⟩ := hv.elem hbe he
            have HO := Lib.hid (ok.2.2 k es he)
            have hn1 : (k : Int) < n := by omega
            have HST := Lib.hid (colsErr_step (n := (n'' : Int)) he)
            have hbd := vecErr_bd es (n'' : Int)
            clear he
            go_wp2_with fail
            refine wp_region_noPanic ?_
            refine region_F (S := fun w' => w'.cell? ⟨w.heap.size, 1, none⟩ = some (.slice (some ⟨b, off, none⟩) n c') ∧ w'.cell? ⟨w.heap.size, 2, none⟩ = some (.slice A'' n'' c'') ∧ w'.cell? ⟨b, off + k, none⟩ = some (.slice A1 es.length c1)) (n := 9) (by kernel_rfl) ?_ (fun hHeld => ?_)
            · exact ⟨x1, x2, hcell⟩
            refine anyF_take (i := 0) (v := ?_) rfl (by kernel_rfl) (by kernel_rfl) (by kernel_rfl) (by kernel_rfl) (fun _ _ _ h => h) (Or.inl ⟨by rfl, ?y1⟩) (by assumption) ?_
            case y1 => (intro _ hSw; (try dsimp only at hSw); go_simp; (try with_reducible rfl))
            (try simp only [Act.put, List.setIfInBounds_toArray, List.set_cons_zero, List.set_cons_succ])
            refine anyF_take (i := 1) (v := ?_) rfl (by kernel_rfl) (by kernel_rfl) (by kernel_rfl) (by kernel_rfl) (fun _ _ _ h => h) (Or.inl ⟨by rfl, ?y2⟩) (by assumption) ?_
            case y2 => (intro _ hSw; (try dsimp only at hSw); go_simp; (try with_reducible rfl))
            (try simp only [Act.put, List.setIfInBounds_toArray, List.set_cons_zero, List.set_cons_succ])
            refine anyF_take (i := 2) (v := ?_) rfl (by kernel_rfl) (by kernel_rfl) (by kernel_rfl) (by kernel_rfl) (fun _ _ _ h => h) (Or.inl ⟨by rfl, ?y3⟩) (by assumption) ?_
            case y3 => (intro _ hSw; (try dsimp only at hSw); go_simp; (try with_reducible rfl))
            (try simp only [Act.put, List.setIfInBounds_toArray, List.set_cons_zero, List.set_cons_succ])
            refine anyF_take (i := 3) (v := ?_) rfl (by kernel_rfl) (by kernel_rfl) (by kernel_rfl) (by kernel_rfl) (fun _ _ _ h => h) (Or.inl ⟨by rfl, ?y4⟩) (by assumption) ?_
            case y4 => (intro _ hSw; (try dsimp only at hSw); go_simp; (try with_reducible rfl))
            (try simp only [Act.put, List.setIfInBounds_toArray, List.set_cons_zero, List.set_cons_succ])
            refine anyF_take (i := 4) (v := ?_) rfl (by kernel_rfl) (by kernel_rfl) (by kernel_rfl) (by kernel_rfl) (fun _ _ _ h => h) (Or.inl ⟨by rfl, ?y5⟩) (by assumption) ?_
            case y5 => (intro _ hSw; (try dsimp only at hSw); go_simp; (try with_reducible rfl))
            (try simp only [Act.put, List.setIfInBounds_toArray, List.set_cons_zero, List.set_cons_succ])
            refine anyF_take (i := 5) (v := ?_) rfl (by kernel_rfl) (by kernel_rfl) (by kernel_rfl) (by kernel_rfl) (fun _ _ _ h => h) (Or.inl ⟨by rfl, ?y6⟩) (by assumption) ?_
            case y6 => (intro _ hSw; (try dsimp only at hSw); go_simp; (try with_reducible rfl))
            (try simp only [Act.put, List.setIfInBounds_toArray, List.set_cons_zero, List.set_cons_succ])
            refine anyF_take (i := 6) (v := ?_) rfl (by kernel_rfl) (by kernel_rfl) (by kernel_rfl) (by kernel_rfl) (fun _ _ _ h => h) (Or.inl ⟨by rfl, ?y7⟩) (by assumption) ?_
            case y7 => (intro _ hSw; (try dsimp only at hSw); go_simp; (try with_reducible rfl))
            (try simp only [Act.put, List.setIfInBounds_toArray, List.set_cons_zero, List.set_cons_succ])
            refine anyF_take (i := 7) (v := ?_) rfl (by kernel_rfl) (by kernel_rfl) (by kernel_rfl) (by kernel_rfl) (fun _ _ _ h => h) (Or.inl ⟨by rfl, ?y8⟩) (by assumption) ?_
            case y8 => (intro _ hSw; (try dsimp only at hSw); go_simp; (try with_reducible rfl))
            (try simp only [Act.put, List.setIfInBounds_toArray, List.set_cons_zero, List.set_cons_succ])
            refine anyF_step (i := 8) (by kernel_rfl) rfl (fun KR hKR => ?_)
            go_simp
            with_reducible refine (vector_any _ es (n'' : Int) _ (hm.below (below_drew' _)) (fun k e he => (HO.out.2 k e he).sh hK) HO.out.1 (by omega) (by omega)).mono ?_
            rintro _ w2 ⟨rfl, hb2⟩
            refine hKR.out _ _ ?_ (fun hHeld => ?_)
            · exact ⟨cell_keep hb2 x1, cell_keep hb2 x2, cell_keep hb2 hcell⟩
            clear hKR KR
            (try simp only [Act.put, List.setIfInBounds_toArray, List.set_cons_zero, List.set_cons_succ])
            refine anyF_last (i := 9) (by kernel_rfl) rfl (by decide) (fun KR hKR => ?_)
            go_simp
            refine hKR.out _ _ ?_
            clear hKR KR
            (try simp only [Act.put, List.setIfInBounds_toArray, List.set_cons_zero, List.set_cons_succ])
            refine anyF_done (by kernel_rfl) (NoPanic.normal ?_) _
            by_cases hz : vecErr es (n'' : Int) = 0
            · have HR : Hid (RES = colsErr (n'' : Int) (p.cols.drop (k + 1))) := Lib.hid (by rw [HE.out, HST.out, if_pos hz])
              go_wp2
              go_roundw
              case rel => exact ⟨k + 1, by omega, by go_num, below_then hbe.drew hb2 hbe.size, hX.drew.later hb2, HR.out⟩
              case measure => simp [intOf]; omega
            · have HR : Hid (RES = vecErr es (n'' : Int)) := Lib.hid (by rw [HE.out, HST.out, if_neg hz])
              have hz' : (vecErr es (n'' : Int) != 0) = true := by simpa using hz
              generalize vecErr es (n'' : Int) = ER at *
              clear hz
              go_wp2
              go_ret
              exact ⟨by rw [HR.out]; rfl, below_then hbe.drew hb2 hbe.size⟩
          · have HR : Hid (RES = 0) := Lib.hid (HE.out.trans (colsErr_end (by rw [← HM1.out]; omega)))
            go_wp2
            go_ret
            exact ⟨by rw [HR.out]; rfl, hbe⟩
      · have HV : Hid (lpErr p = 12) := Lib.hid (lpErr_shape HB.out (by rw [← HL1.out, ← HM1.out]; exact hsh))
        have hsh' : ((n : Int) != (n' : Int)) = true := by simp; omega
        clear hsh
        go_enter Tryz.func40, Tryz.ntmps40
        go_wp2
        go_ret
        exact ⟨by rw [HV.out]; rfl, hbe⟩

set_option maxRecDepth 100000 in
set_option maxHeartbeats 4000000 in
theorem validate_any (v : Value) (p : LPd) (K : Nat) (w : World) (h : LpM w v p) (ok : p.Ok K) :
    Calls Tryz.prog 37 #[v] w fun e w' => e = .returned (.int .i64 (lpErr p)) ∧ Below w.heap.size w w' := by
  obtain ⟨A, n, c, A', n', c', A'', n'', c'', rfl, hc, hv, hr⟩ := h
  obtain ⟨W, hW, hX, hbe⟩ := box_lp w (.slice A n c) (.slice A' n' c') (.slice A'' n'' c'')
  obtain ⟨x0, x1, x2⟩ := hX.three
  obtain ⟨l1, l2, l3⟩ := hc.len
  obtain ⟨m1, m2, m3⟩ := hv.len
  obtain ⟨r1, r2, r3⟩ := hr.len
  have HL1 := Lib.hid l1
  have HM1 := Lib.hid m1
  have HR1 := Lib.hid r1
  clear l1 m1 r1
  by_cases hbig : 64 < n''
  · have HV : Hid (lpErr p = 10) := Lib.hid (lpErr_large (.inl (by rw [← HR1.out]; exact hbig)))
    have hbig' : (64 : Int) < n'' := by omega
    go_enter Tryz.func37, Tryz.ntmps37
    go_wp2
    go_ret
    exact ⟨by rw [HV.out]; rfl, hbe⟩
  · by_cases hbig2 : 1200 < n'
    · have HV : Hid (lpErr p = 10) := Lib.hid (lpErr_large (.inr (by rw [← HM1.out]; exact hbig2)))
      have hbig' : decide ((64 : Int) < n'') = false := by simp; omega
      have hbig2' : (1200 : Int) < n' := by omega
      go_enter Tryz.func37, Tryz.ntmps37
      go_wp2
      go_ret
      exact ⟨by rw [HV.out]; rfl, hbe⟩
    · have HB : Hid (¬ (64 < p.right.length ∨ 1200 < p.cols.length)) := Lib.hid (by rw [← HR1.out, ← HM1.out]; omega)
      have hbig' : decide ((64 : Int) < n'') = false := by simp; omega
      have hbig2' : decide ((1200 : Int) < n') = false := by simp; omega
      by_cases hsh : n = n'
      · have hv0 := lpErr_cols HB.out (by rw [← HL1.out, ← HM1.out]; exact hsh)
        rw [← HR1.out] at hv0
        subst hsh
        generalize lpErr p = RES at *
        have HV := Lib.hid hv0
        clear hv0
        go_enter Tryz.func37, Tryz.ntmps37
        go_wp2
        clear hW hbig' hbig2'
        go_loopw [26] (fun i wr => ∃ k : Nat, k ≤ n ∧ i = .int .i64 k ∧ Below w.heap.size w wr ∧ Bk wr w.heap.size 26 [.slice A n c, .slice A' n c', .slice A'' n'' c''] ∧ RES = colsErr (n'' : Int) (p.cols.drop k)) (fun i _ => n - (intOf i).toNat)
        case atStart => exact ⟨0, by omega, rfl, hbe, hX, HV.out⟩
        case round =>
          obtain ⟨k, hk, rfl, hbe, hX, heq⟩ := hrel
          have HE := Lib.hid heq
          clear heq HV x0 x1 x2
          obtain ⟨x0, x1, x2⟩ := hX.three
          rcases Nat.lt_or_ge k n with hkl | hkl
          · obtain ⟨es, he⟩ := get_someC (cs := p.cols) (i := k) (by rw [← HM1.out]; exact hkl)
            obtain ⟨b, off, A1, c1, rfl, hlt, hcell, hm⟩ := hv.elem hbe he
            have HO := Lib.hid (ok.2.2 k es he)
            have hn1 : (k : Int) < n := by omega
            have HST := Lib.hid (colsErr_step (n := (n'' : Int)) he)
            have hbd := vecErr_bd es (n'' : Int)
            clear he
            go_wp2_with fail
            refine (sparseValidate_any _ es (n'' : Int) _ hm HO.out.1 (by omega) (by omega)).mono ?_
            rintro _ w2 ⟨rfl, hb2⟩
            by_cases hz : vecErr es (n'' : Int) = 0
            · have HR : Hid (RES = colsErr (n'' : Int) (p.cols.drop (k + 1))) := Lib.hid (by rw [HE.out, HST.out, if_pos hz])
              go_wp2
              go_roundw
              case rel => exact ⟨k + 1, by omega, by go_num, below_then hbe hb2 hbe.size, hX.later hb2, HR.out⟩
              case measure => simp [intOf]; omega
            · have HR : Hid (RES = vecErr es (n'' : Int)) := Lib.hid (by rw [HE.out, HST.out, if_neg hz])
              have hz' : (vecErr es (n'' : Int) != 0) = true := by simpa using hz
              generalize vecErr es (n'' : Int) = ER at *
              clear hz
              go_wp2
              go_ret
              exact ⟨by rw [HR.out]; rfl, below_then hbe hb2 hbe.size⟩
          · have HR : Hid (RES = 0) := Lib.hid (HE.out.trans (colsErr_end (by rw [← HM1.out]; omega)))
            go_wp2
            go_ret
            exact ⟨by rw [HR.out]; rfl, hbe⟩
      · have HV : Hid (lpErr p = 12) := Lib.hid (lpErr_shape HB.out (by rw [← HL1.out, ← HM1.out]; exact hsh))
        have hsh' : ((n : Int) != (n' : Int)) = true := by simp; omega
        clear hsh
        go_enter Tryz.func37, Tryz.ntmps37
        go_wp2
        go_ret
        exact ⟨by rw [HV.out]; rfl, hbe⟩
end Go.Proofs.YtpanffbgihhjnaaGreat

/- Lists of canonical fractions; walks: pairingref25.nonnegative, equal, dense, Column. -/
namespace Go.Proofs.YtpanffbgihhjnaaGreat
open Go.RowKit Pl
attribute [local go_sem ↓] Go.wp_at_zero Go.wp_at_succ

namespace Pl
def canL (m : Nat) (f : Nat → Rat) : List RF := (List.range m).map fun i => canF (f i)
theorem canL_length (m : Nat) (f : Nat → Rat) : (canL m f).length = m := by simp [canL]
theorem canL_get {m i : Nat} {f : Nat → Rat} (h : i < m) : (canL m f)[i]? = some (canF (f i)) := by simp [canL, h]
theorem canL_qAt {m i : Nat} {f : Nat → Rat} (h : i < m) : qAt (canL m f) i = f i := by rw [qAt_some (canL_get h), canF_q]
theorem canL_congr {m : Nat} {f g : Nat → Rat} (h : ∀ i, i < m → f i = g i) : canL m f = canL m g := by
  unfold canL
  apply List.map_congr_left
  intro i hi
  rw [h i (List.mem_range.1 hi)]
theorem canL_zero (m : Nat) : List.replicate m (canF 0) = canL m fun _ => 0 := by
  apply List.ext_getElem?
  intro i
  rcases Nat.lt_or_ge i m with h | h
  · rw [canL_get h, List.getElem?_replicate, if_pos h]
  · rw [List.getElem?_eq_none (by simpa using h), List.getElem?_eq_none (by rw [canL_length]; exact h)]
theorem canL_set {m k : Nat} {f : Nat → Rat} {q : Rat} (h : k < m) : (canL m f).set k (canF q) = canL m fun i => if i = k then q else f i := by
  apply List.ext_getElem?
  intro i
  rcases Nat.lt_or_ge i m with hi | hi
  · rw [canL_get hi]
    by_cases hik : i = k
    · subst hik; rw [List.getElem?_set_self (by rw [canL_length]; exact h), if_pos rfl]
    · rw [List.getElem?_set_ne (by omega), canL_get hi, if_neg hik]
  · rw [List.getElem?_eq_none (by simp [canL_length]; exact hi), List.getElem?_eq_none (by rw [canL_length]; exact hi)]
theorem canL_rs {m K : Nat} {f : Nat → Rat} (h : ∀ i, i < m → Sz K (f i)) : RsL K (canL m f) := by
  intro i g hg
  have hi : i < m := by have := (List.getElem?_eq_some_iff.1 hg).1; rw [canL_length] at this; exact this
  rw [canL_get hi] at hg
  injection hg with hg
  subst hg
  exact (h i hi).rs
theorem canL_succ (m : Nat) (f : Nat → Rat) : canL m f ++ [canF (f m)] = canL (m + 1) f := by simp [canL, List.range_succ]
def nnB (fs : List RF) : Bool := decide (∀ i, i < fs.length → 0 ≤ qs (qAt fs i))
theorem nnB_true {fs : List RF} (h : ∀ i, i < fs.length → 0 ≤ qs (qAt fs i)) : nnB fs = true := by simpa [nnB] using h
theorem nnB_false {fs : List RF} {i : Nat} (hi : i < fs.length) (h : qs (qAt fs i) < 0) : nnB fs = false := by
  unfold nnB
  rw [decide_eq_false]
  exact fun g => by have := g i hi; omega
def eqB (xs ys : List RF) : Bool := decide (xs.length = ys.length ∧ ∀ i, i < xs.length → qAt xs i = qAt ys i)
theorem qs_sub_zero {p q : Rat} : qs (p - q) = 0 ↔ p = q := by
  rw [qs_zero]
  constructor
  · intro h; rw [← Rat.sub_add_cancel (a := p) (b := q), h, Rat.zero_add]
  · intro h; rw [h, Rat.sub_self]
def dQ : List En → (Nat → Rat) → Nat → Rat
  | [], f => f
  | e :: es, f => dQ es fun i => if e.idx = (i : Int) then e.f.q else f i
theorem dQ_snoc (es : List En) (e : En) (f : Nat → Rat) : dQ (es ++ [e]) f = fun (i : Nat) => if e.idx = (i : Int) then e.f.q else dQ es f i := by
  induction es generalizing f with
  | nil => rfl
  | cons d es ih => rw [List.cons_append, dQ, ih]; rfl
theorem dQ_take {es : List En} {k : Nat} {e : En} (h : es[k]? = some e) (f : Nat → Rat) : dQ (es.take (k + 1)) f = fun (i : Nat) => if e.idx = (i : Int) then e.f.q else dQ (es.take k) f i := by
  rw [List.take_add_one, h, Option.toList_some, dQ_snoc]
def inR (n : Nat) (es : List En) : Prop := ∀ (k : Nat) (e : En), es[k]? = some e → 0 ≤ e.idx ∧ e.idx < n
def colQ (es : List En) : Nat → Rat := dQ es fun _ => 0
theorem Sz_dQ {es : List En} {f : Nat → Rat} {K : Nat} (h : ∀ (k : Nat) (e : En), es[k]? = some e → e.f.Rs K) (hK : 1 ≤ K) (hf : ∀ i, Sz K (f i)) (i : Nat) : Sz K (dQ es f i) := by
  induction es generalizing f with
  | nil => exact hf i
  | cons e es ih =>
    rw [dQ]
    refine ih (fun k d hd => h (k + 1) d (by simpa using hd)) (fun i => ?_)
    split
    · exact (h 0 e rfl).sz hK
    · exact hf i
theorem Sz_col {es : List En} {K : Nat} (h : ∀ (k : Nat) (e : En), es[k]? = some e → e.f.Rs K) (hK : 1 ≤ K) (i : Nat) : Sz K (colQ es i) := Sz_dQ h hK (fun _ => Sz_zero.mono hK) i
end Pl

theorem below_set4' {n g : Nat} {w w' : World} (h : Below n w w') (hg : n ≤ g) (i j k l : Nat) (x y z u : Value) : Below n w ((((w'.setCell ⟨g, i, none⟩ x).setCell ⟨g, j, none⟩ y).setCell ⟨g, k, none⟩ z).setCell ⟨g, l, none⟩ u) := (((h.setCell hg _).setCell hg _).setCell hg _).setCell hg _
theorem cell5_later {w w' : World} {b o : Nat} {x y z u t : Value} (hb : Below w.heap.size w w') (h : w.cell? ⟨b, o, none⟩ = some x ∧ w.cell? ⟨b, o + 1, none⟩ = some y ∧ w.cell? ⟨b, o + 2, none⟩ = some z ∧ w.cell? ⟨b, o + 3, none⟩ = some u ∧ w.cell? ⟨b, o + 4, none⟩ = some t) :
    w'.cell? ⟨b, o, none⟩ = some x ∧ w'.cell? ⟨b, o + 1, none⟩ = some y ∧ w'.cell? ⟨b, o + 2, none⟩ = some z ∧ w'.cell? ⟨b, o + 3, none⟩ = some u ∧ w'.cell? ⟨b, o + 4, none⟩ = some t :=
  ⟨cell_keep hb h.1, cell_keep hb h.2.1, cell_keep hb h.2.2.1, cell_keep hb h.2.2.2.1, cell_keep hb h.2.2.2.2⟩

set_option maxRecDepth 100000 in
set_option maxHeartbeats 4000000 in
theorem rdense_own (v : Value) (es : List En) (m : Nat) (w : World) (h : VecM w v es) (hs : ∀ (k : Nat) (e : En), es[k]? = some e → e.f.Sh) (hin : inR m es) (hm0 : m ≤ 1099511627776) :
    Calls Tryz.prog 75 #[v, .int .i64 (m : Int)] w fun e w' => ∃ v', e = .returned v' ∧ FrsO w.heap.size w' v' (canL m (colQ es)) ∧ Below w.heap.size w w' := by
  obtain ⟨A, c, rfl, hc1, hc2⟩ := h.shape
  generalize hl : es.length = l at *
  have HL := Lib.hid hl
  have HS := Lib.hid hs
  have HI := Lib.hid hin
  clear hl hs hin
  go_enter Tryz.func75, Tryz.ntmps75
  go_wp2_with fail
  refine (zeros_own m _ hm0).mono ?_
  rw [canL_zero]
  rintro _ w1 ⟨v1, rfl, hO, hbe⟩
  have ST : Hid (FrsO w.heap.size w1 v1 (canL m (dQ (es.take 0) fun _ => 0))) := Lib.hid hO
  clear hO
  go_wp2
  go_loopw [6] (fun i wr => ∃ k : Nat, k ≤ l ∧ i = .int .i64 k ∧ Below w.heap.size w wr ∧ FrsO w.heap.size wr v1 (canL m (dQ (es.take k) fun _ => 0))) (fun i _ => l - (intOf i).toNat)
  case atStart => exact ⟨0, by omega, rfl, hbe, ST.out⟩
  case round =>
    clear ST hbe
    obtain ⟨k, hk, rfl, hbe, hO⟩ := hrel
    rcases Nat.lt_or_ge k l with hkl | hkl
    · obtain ⟨e, he⟩ := get_someE (es := es) (i := k) (by rw [HL.out]; exact hkl)
      obtain ⟨b, off, A1, n1, c1, A2, n2, c2, rfl, hlt, hcell, hm⟩ := h.elem hbe he
      obtain ⟨i0, i1⟩ := HI.out k e he
      have hsh := HS.out k e he
      have HT := Lib.hid (dQ_take he fun _ => 0)
      obtain ⟨g, cg, rfl, hg1, hg2, hg3, hg4⟩ := hO.shape (by rw [canL_length]; omega)
      rw [canL_length] at hO hg3 ⊢
      obtain ⟨j, hj⟩ := Int.eq_ofNat_of_zero_le i0
      have hjm : j < m := by omega
      have hget := canL_get (f := dQ (es.take k) fun _ => 0) hjm
      have hn1 : (k : Int) < l := by omega
      have hne : b ≠ g := by omega
      have hj1 : (j : Int) < m := by omega
      rw [hj] at hcell
      clear he
      go_wp2_with fail
      refine wp_region_noPanic ?_
      refine region_F (S := fun w' => w'.cell? ⟨b, off + k * 5, none⟩ = some (.int .i64 (j : Int)) ∧ w'.cell? ⟨b, off + k * 5 + 1, none⟩ = some (.bool e.f.num.neg) ∧ w'.cell? ⟨b, off + k * 5 + 2, none⟩ = some (.slice A1 n1 c1) ∧ w'.cell? ⟨b, off + k * 5 + 3, none⟩ = some (.bool e.f.den.neg) ∧ w'.cell? ⟨b, off + k * 5 + 4, none⟩ = some (.slice A2 n2 c2)) (n := 13) (by kernel_rfl) ?_ (fun hHeld => ?_)
      · exact hcell
      refine anyF_take (i := 0) (v := ?_) rfl (by kernel_rfl) (by kernel_rfl) (by kernel_rfl) (by kernel_rfl) (fun _ _ _ h => h) (Or.inl ⟨by rfl, ?y10⟩) (by assumption) ?_
      case y10 => (intro _ hSw; (try dsimp only at hSw); go_simp; (try with_reducible rfl))
      (try simp only [Act.put, List.setIfInBounds_toArray, List.set_cons_zero, List.set_cons_succ])
      refine anyF_take (i := 1) (v := ?_) rfl (by kernel_rfl) (by kernel_rfl) (by kernel_rfl) (by kernel_rfl) (fun _ _ _ h => h) (Or.inl ⟨by rfl, ?y11⟩) (by assumption) ?_
      case y11 => (intro _ hSw; (try dsimp only at hSw); go_simp; (try with_reducible rfl))
      (try simp only [Act.put, List.setIfInBounds_toArray, List.set_cons_zero, List.set_cons_succ])
      refine anyF_take (i := 2) (v := ?_) rfl (by kernel_rfl) (by kernel_rfl) (by kernel_rfl) (by kernel_rfl) (fun _ _ _ h => h) (Or.inl ⟨by rfl, ?y12⟩) (by assumption) ?_
      case y12 => (intro _ hSw; (try dsimp only at hSw); go_simp; (try with_reducible rfl))
      (try simp only [Act.put, List.setIfInBounds_toArray, List.set_cons_zero, List.set_cons_succ])
      refine anyF_take (i := 3) (v := ?_) rfl (by kernel_rfl) (by kernel_rfl) (by kernel_rfl) (by kernel_rfl) (fun _ _ _ h => h) (Or.inl ⟨by rfl, ?y13⟩) (by assumption) ?_
      case y13 => (intro _ hSw; (try dsimp only at hSw); go_simp; (try with_reducible rfl))
      (try simp only [Act.put, List.setIfInBounds_toArray, List.set_cons_zero, List.set_cons_succ])
      refine anyF_take (i := 4) (v := ?_) rfl (by kernel_rfl) (by kernel_rfl) (by kernel_rfl) (by kernel_rfl) (fun _ _ _ h => h) (Or.inl ⟨by rfl, ?y14⟩) (by assumption) ?_
      case y14 => (intro _ hSw; (try dsimp only at hSw); go_simp; (try with_reducible rfl))
      (try simp only [Act.put, List.setIfInBounds_toArray, List.set_cons_zero, List.set_cons_succ])
      refine anyF_take (i := 5) (v := ?_) rfl (by kernel_rfl) (by kernel_rfl) (by kernel_rfl) (by kernel_rfl) (fun _ _ _ h => h) (Or.inl ⟨by rfl, ?y15⟩) (by assumption) ?_
      case y15 => (intro _ hSw; (try dsimp only at hSw); go_simp; (try with_reducible rfl))
      (try simp only [Act.put, List.setIfInBounds_toArray, List.set_cons_zero, List.set_cons_succ])
      refine anyF_take (i := 6) (v := ?_) rfl (by kernel_rfl) (by kernel_rfl) (by kernel_rfl) (by kernel_rfl) (fun _ _ _ h => h) (Or.inl ⟨by rfl, ?y16⟩) (by assumption) ?_
      case y16 => (intro _ hSw; (try dsimp only at hSw); go_simp; (try with_reducible rfl))
      (try simp only [Act.put, List.setIfInBounds_toArray, List.set_cons_zero, List.set_cons_succ])
      refine anyF_take (i := 7) (v := ?_) rfl (by kernel_rfl) (by kernel_rfl) (by kernel_rfl) (by kernel_rfl) (fun _ _ _ h => h) (Or.inl ⟨by rfl, ?y17⟩) (by assumption) ?_
      case y17 => (intro _ hSw; (try dsimp only at hSw); go_simp; (try with_reducible rfl))
      (try simp only [Act.put, List.setIfInBounds_toArray, List.set_cons_zero, List.set_cons_succ])
      refine anyF_take (i := 8) (v := ?_) rfl (by kernel_rfl) (by kernel_rfl) (by kernel_rfl) (by kernel_rfl) (fun _ _ _ h => h) (Or.inl ⟨by rfl, ?y18⟩) (by assumption) ?_
      case y18 => (intro _ hSw; (try dsimp only at hSw); go_simp; (try with_reducible rfl))
      (try simp only [Act.put, List.setIfInBounds_toArray, List.set_cons_zero, List.set_cons_succ])
      refine anyF_take (i := 9) (v := ?_) rfl (by kernel_rfl) (by kernel_rfl) (by kernel_rfl) (by kernel_rfl) (fun _ _ _ h => h) (Or.inl ⟨by rfl, ?y19⟩) (by assumption) ?_
      case y19 => (intro _ hSw; (try dsimp only at hSw); go_simp; (try with_reducible rfl))
      (try simp only [Act.put, List.setIfInBounds_toArray, List.set_cons_zero, List.set_cons_succ])
      refine anyF_take (i := 10) (v := ?_) rfl (by kernel_rfl) (by kernel_rfl) (by kernel_rfl) (by kernel_rfl) (fun _ _ _ h => h) (Or.inl ⟨by rfl, ?y20⟩) (by assumption) ?_
      case y20 => (intro _ hSw; (try dsimp only at hSw); go_simp; (try with_reducible rfl))
      (try simp only [Act.put, List.setIfInBounds_toArray, List.set_cons_zero, List.set_cons_succ])
      refine anyF_step (i := 11) (by kernel_rfl) rfl (fun KR hKR => ?_)
      go_simp
      with_reducible refine (rcanon_own _ e.f _ (hm.keep (Keep.drew _)) hsh).mono ?_
      rintro _ w2 ⟨v2, rfl, e2, hb2⟩
      obtain ⟨E, l9, k9, E', l9', k9', rfl, _, _⟩ := id e2.frac
      have hO2 := (hO.below (below_drew' _)).below hb2
      obtain ⟨_, _, _, _, ⟨c0, c1, c2, c3⟩, ⟨f0, f1, f2, f3⟩, _⟩ := hO2.at_ hget
      refine hKR.out _ _ ?_ (fun hHeld => ?_)
      · exact cell5_later hb2 hcell
      clear hKR KR
      (try simp only [Act.put, List.setIfInBounds_toArray, List.set_cons_zero, List.set_cons_succ])
      refine anyF_take (i := 12) (v := ?_) rfl (by kernel_rfl) (by kernel_rfl) (by kernel_rfl) (by kernel_rfl) (fun _ _ _ h => h) (Or.inl ⟨by rfl, ?y21⟩) (by assumption) ?_
      case y21 => (intro _ hSw; (try dsimp only at hSw); go_simp; (try with_reducible rfl))
      (try simp only [Act.put, List.setIfInBounds_toArray, List.set_cons_zero, List.set_cons_succ])
      refine anyF_last (i := 13) (by kernel_rfl) rfl (by decide) (fun KR hKR => ?_)
      go_simp
      refine hKR.out _ _ ?_
      clear hKR KR
      (try simp only [Act.put, List.setIfInBounds_toArray, List.set_cons_zero, List.set_cons_succ])
      refine anyF_done (by kernel_rfl) (NoPanic.normal ?_) _
      obtain ⟨hO3, hk3⟩ := hO2.set_ (k := j) (by rw [canL_length]; exact hjm) e2.frac
      rw [canL_set hjm] at hO3
      have hb3 := below_set4' (below_then hbe.drew hb2 hbe.size) hg1 (j * 4) (j * 4 + 1) (j * 4 + 2) (j * 4 + 3)
      go_wp2
      go_roundw
      case rel => exact ⟨k + 1, by omega, by go_num, hb3 _ _ _ _, by
        rw [HT.out]
        have : canL m (fun i => if i = j then e.f.q else dQ (es.take k) (fun _ => 0) i) = canL m (fun (i : Nat) => if e.idx = (i : Int) then e.f.q else dQ (es.take k) (fun _ => 0) i) := canL_congr fun i _ => by
          by_cases hij : i = j
          · rw [if_pos hij, if_pos (by omega)]
          · rw [if_neg hij, if_neg (by omega)]
        rw [← this]
        exact hO3⟩
      case measure => simp [intOf]; omega
    · go_wp2
      go_ret
      refine ⟨_, rfl, ?_, hbe⟩
      rw [List.take_of_length_le (by rw [HL.out]; omega)] at hO
      exact hO
end Go.Proofs.YtpanffbgihhjnaaGreat

/- Walks: pairingref25.Column, times. -/
namespace Go.Proofs.YtpanffbgihhjnaaGreat
open Go.RowKit Pl
attribute [local go_sem ↓] Go.wp_at_zero Go.wp_at_succ

theorem row_mono {w : World} {base base' : Nat} {t : TypeId} {s n : Nat} {v : Value} {xs : List Value} (h : w.ownsRow base t s v n xs) (hb : base' ≤ base) : w.ownsRow base' t s v n xs := by
  refine ⟨h.1, ?_⟩
  rcases h.2 with hn | ⟨g, cap, cur, rfl, hb', rest⟩
  · exact .inl hn
  · exact .inr ⟨g, cap, cur, rfl, Nat.le_trans hb hb', rest⟩

namespace Pl
def LPd.col (p : LPd) (j : Int) : Nat → Rat := if 0 ≤ j then (match p.cols[j.toNat]? with | some c => colQ c | none => fun _ => 0) else fun i => if (i : Int) = -1 - j then (if qs (qAt p.right i) < 0 then -1 else 1) else 0
theorem LPd.col_pos {p : LPd} {j : Nat} {c : List En} (h : p.cols[j]? = some c) : p.col (j : Int) = colQ c := by
  unfold LPd.col
  rw [if_pos (by omega), Int.toNat_natCast, h]
theorem LPd.col_neg {p : LPd} {r : Nat} : p.col (-1 - (r : Int)) = fun i => if i = r then (if qs (qAt p.right i) < 0 then -1 else 1) else 0 := by
  unfold LPd.col
  rw [if_neg (by omega)]
  funext i
  by_cases h : i = r
  · rw [if_pos h, if_pos (by omega)]
  · rw [if_neg h, if_neg (by omega)]
def LPd.In (p : LPd) : Prop := ∀ (j : Nat) (c : List En), p.cols[j]? = some c → inR p.right.length c
theorem Sz_one : Sz 1 1 := by
  unfold Sz
  exact ⟨digs_lt (by rw [show Int.natAbs (Rat.num 1) = 1 from rfl]; decide), digs_lt (by rw [show Rat.den 1 = 1 from rfl]; decide)⟩
theorem LPd.Sz_col {p : LPd} {K : Nat} (ok : p.Ok K) (hK : 1 ≤ K) (j : Int) (i : Nat) : Sz K (p.col j i) := by
  rcases Int.lt_or_le j 0 with h | h
  · obtain ⟨r, rfl⟩ : ∃ r : Nat, j = -1 - (r : Int) := ⟨(-1 - j).toNat, by omega⟩
    rw [LPd.col_neg]
    show Sz K (if i = r then (if qs (qAt p.right i) < 0 then -1 else 1) else 0)
    split
    · split
      · exact (Sz_neg Sz_one).mono hK
      · exact Sz_one.mono hK
    · exact Sz_zero.mono hK
  · obtain ⟨r, rfl⟩ := Int.eq_ofNat_of_zero_le h
    cases hc : p.cols[r]? with
    | some c => rw [LPd.col_pos hc]; exact Pl.Sz_col (ok.2.2 _ c hc).2 hK i
    | none =>
      have : p.col (r : Int) i = 0 := by unfold LPd.col; rw [if_pos (by omega), Int.toNat_natCast, hc]
      rw [this]; exact Sz_zero.mono hK
end Pl

set_option maxRecDepth 100000 in
set_option maxHeartbeats 2000000 in
theorem rcolumn_pos (v : Value) (p : LPd) (K j : Nat) (w : World) (h : LpM w v p) (ok : p.Ok K) (hK : K ≤ 34359738368) (hin : p.In) (hj : j < p.cols.length) (hm : p.right.length ≤ 64) :
    Calls Tryz.prog 43 #[v, .int .i64 (j : Int)] w fun e w' => ∃ v', e = .returned v' ∧ FrsO w.heap.size w' v' (canL p.right.length (p.col j)) ∧ Below w.heap.size w w' := by
  obtain ⟨A, n, c, A', n', c', A'', n'', c'', rfl, hc, hv, hr⟩ := h
  obtain ⟨W, hW, hX, hbe⟩ := box_lp w (.slice A n c) (.slice A' n' c') (.slice A'' n'' c'')
  obtain ⟨x0, x1, x2⟩ := hX.three
  obtain ⟨m1, m2, m3⟩ := hv.len
  obtain ⟨r1, r2, r3⟩ := hr.len
  obtain ⟨es, he⟩ := get_someC hj
  obtain ⟨b, off, A1, c1, rfl, hlt, hcell, hvm⟩ := hv.elem hbe he
  have hO := ok.2.2 j es he
  have hI := hin j es he
  rw [← r1] at hm hI ⊢
  rw [← m1] at hj
  rw [LPd.col_pos he]
  have hj1 : (j : Int) < n' := by omega
  have HS : Hid (∀ (k : Nat) (e : En), es[k]? = some e → e.f.Sh) := Lib.hid fun k e hk => (hO.2 k e hk).sh hK
  have HI := Lib.hid hI
  clear he hO hI r1 m1
  go_enter Tryz.func43, Tryz.ntmps43
  go_wp2_with fail
  clear hW
  refine (rdense_own _ es n'' _ hvm HS.out HI.out (by omega)).mono ?_
  rintro _ w1 ⟨v1, rfl, e1, hb1⟩
  obtain ⟨cs, ho, hf⟩ := e1
  go_wp2
  go_ret
  exact ⟨_, rfl, ⟨cs, row_mono ho hbe.size, hf⟩, below_then hbe hb1 hbe.size⟩

theorem FrsO.far4 {base : Nat} {w : World} {v : Value} {fs : List RF} {g i j k l : Nat} {x y z u : Value} (h : FrsO base w v fs) (hg : g < base) :
    ∀ W, W = ((((w.setCell ⟨g, i, none⟩ x).setCell ⟨g, j, none⟩ y).setCell ⟨g, k, none⟩ z).setCell ⟨g, l, none⟩ u) → KeepBut 47 w W → FrsO base W v fs := by
  rintro W rfl hk
  obtain ⟨cs, h1, h2⟩ := h
  refine ⟨cs, ⟨h1.1, ?_⟩, h2.keep (hk.keep (by decide))⟩
  rcases h1.2 with hn | ⟨g', cap, cur, rfl, hb', hgg, rest⟩
  · exact .inl hn
  · refine .inr ⟨g', cap, cur, rfl, hb', ?_, rest⟩
    have hne : g' ≠ g := by omega
    rw [heap_setCell_other _ _ _ _ hne, heap_setCell_other _ _ _ _ hne, heap_setCell_other _ _ _ _ hne, heap_setCell_other _ _ _ _ hne]
    exact hgg

namespace Pl
def timesQ (p : LPd) (xs : List RF) (k r : Nat) : Rat := sumN (fun j => qAt xs j * p.col (j : Int) r) k
theorem timesQ_succ (p : LPd) (xs : List RF) (k r : Nat) : timesQ p xs (k + 1) r = timesQ p xs k r + qAt xs k * p.col (k : Int) r := rfl
theorem Sz_times {p : LPd} {xs : List RF} {K : Nat} (ok : p.Ok K) (hx : RsL K xs) (hK : 1 ≤ K) (k r : Nat) : Sz (1 + k * (2 * K + 1)) (timesQ p xs k r) :=
  Sz_sum fun j _ => (Sz_mul (hx.qAt hK j) (LPd.Sz_col ok hK j r)).mono (by omega)
end Pl

end Go.Proofs.YtpanffbgihhjnaaGreat

/- Walks: pairingref25.IsFeasible. -/
namespace Go.Proofs.YtpanffbgihhjnaaGreat
open Go.RowKit Pl
attribute [local go_sem ↓] Go.wp_at_zero Go.wp_at_succ

namespace Pl
theorem vErr_in {n : Int} {es : List En} {p : Option Int} (h : vErr n es p = 0) : ∀ (k : Nat) (e : En), es[k]? = some e → 0 ≤ e.idx ∧ e.idx < n ∧ e.f.q ≠ 0 := by
  induction es generalizing p with
  | nil => intro k e h; simp at h
  | cons d es ih =>
    rw [vErr] at h
    split at h
    · omega
    · rename_i h1
      split at h
      · omega
      · split at h
        · omega
        · rename_i h3
          intro k e hk
          cases k with
          | zero => simp at hk; subst hk; exact ⟨by omega, by omega, h3⟩
          | succ k => exact ih h k e (by simpa using hk)
def Inc : Option Int → List En → Prop
  | _, [] => True
  | p, e :: es => leP p e.idx = false ∧ Inc (some e.idx) es
theorem vErr_inc {n : Int} {es : List En} {p : Option Int} (h : vErr n es p = 0) : Inc p es := by
  induction es generalizing p with
  | nil => trivial
  | cons d es ih =>
    rw [vErr] at h
    split at h
    · omega
    · split at h
      · omega
      · rename_i h2
        split at h
        · omega
        · exact ⟨by simpa using h2, ih h⟩
theorem vecErr_zero {es : List En} {n : Nat} (h : vecErr es n = 0) : inR n es ∧ (∀ (k : Nat) (e : En), es[k]? = some e → e.f.q ≠ 0) ∧ Inc none es := by
  unfold vecErr at h
  split at h
  · omega
  · have := vErr_in h
    exact ⟨fun k e hk => ⟨(this k e hk).1, (this k e hk).2.1⟩, fun k e hk => (this k e hk).2.2, vErr_inc h⟩
theorem colsErr_zero {n : Int} {cs : List (List En)} (h : colsErr n cs = 0) : ∀ (k : Nat) (c : List En), cs[k]? = some c → vecErr c n = 0 := by
  induction cs with
  | nil => intro k c h; simp at h
  | cons d cs ih =>
    rw [colsErr] at h
    split at h
    · rename_i h1
      intro k c hk
      cases k with
      | zero => simp at hk; subst hk; exact h1
      | succ k => exact ih h k c (by simpa using hk)
    · rename_i h1; exact absurd h h1
theorem lpErr_zero {p : LPd} (h : lpErr p = 0) : p.right.length ≤ 64 ∧ p.cols.length ≤ 1200 ∧ p.cost.length = p.cols.length ∧ p.In ∧ ∀ (j : Nat) (c : List En), p.cols[j]? = some c → (∀ (k : Nat) (e : En), c[k]? = some e → e.f.q ≠ 0) ∧ Inc none c := by
  unfold lpErr at h
  split at h
  · omega
  · split at h
    · omega
    · refine ⟨by omega, by omega, by omega, fun j c hc => (vecErr_zero (colsErr_zero h j c hc)).1, fun j c hc => (vecErr_zero (colsErr_zero h j c hc)).2⟩
def feasB (p : LPd) (xs : List RF) : Bool := decide (lpErr p = 0) && (decide (xs.length = p.cols.length) && (nnB xs && eqB (canL p.right.length (timesQ p xs p.cols.length)) p.right))
theorem feasB_1 {p : LPd} {xs : List RF} (h : lpErr p ≠ 0) : feasB p xs = false := by simp [feasB, h]
end Pl

end Go.Proofs.YtpanffbgihhjnaaGreat

/- Walks: package proof: product, along, nonnegative. -/
namespace Go.Proofs.YtpanffbgihhjnaaGreat
open Go.RowKit Pl
attribute [local go_sem ↓] Go.wp_at_zero Go.wp_at_succ

namespace Pl
def alongQ (es : List En) (ys : List RF) (k : Nat) : Rat := sumN (fun i => match es[i]? with | some e => e.f.q * qAt ys e.idx.toNat | none => 0) k
theorem alongQ_succ {es : List En} {k : Nat} {e : En} (h : es[k]? = some e) (ys : List RF) : alongQ es ys (k + 1) = alongQ es ys k + e.f.q * qAt ys e.idx.toNat := by
  unfold alongQ
  rw [sumN_succ, h]
theorem Sz_along {es : List En} {ys : List RF} {K : Nat} (he : ∀ (k : Nat) (e : En), es[k]? = some e → e.f.Rs K) (hy : RsL K ys) (hK : 1 ≤ K) (k : Nat) : Sz (1 + k * (2 * K + 1)) (alongQ es ys k) :=
  Sz_sum fun i _ => by
    split
    · rename_i e h
      exact (Sz_mul ((he i e h).sz hK) (hy.qAt hK _)).mono (by omega)
    · exact Sz_zero.mono (by omega)
end Pl
theorem fromInts_zero (w : World) : Calls Tryz.prog 82 #[.int .i64 0, .int .i64 1] w fun e w' => ∃ v', e = .returned (.tuple #[v', .int .i64 0]) ∧ FracM w' v' (canF 0) ∧ Below w.heap.size w w' := by
  refine (fromInts_any 0 1 w (by omega) (by omega) (by omega) (by omega)).mono ?_
  rintro e w' ⟨v', h1, h2, h3⟩
  rw [if_neg (by omega)] at h1 h2
  rw [Rat.zero_divInt] at h2
  exact ⟨v', h1, h2, h3⟩
def TotAt (q : Rat) (w : World) (g : Nat) (wr : World) : Prop :=
  ∃ (A A' : Option Addr) (n c n' c' : Nat), Bk wr g 47 [.bool (canF q).num.neg, .slice A n c, .bool (canF q).den.neg, .slice A' n' c'] ∧ FracM wr (.agg #[.bool (canF q).num.neg, .slice A n c, .bool (canF q).den.neg, .slice A' n' c']) (canF q) ∧
    Bk wr w.heap.size 47 [.bool false, .slice none 0 0, .bool false, .slice none 0 0] ∧ Below w.heap.size w wr ∧ w.heap.size < g

set_option maxRecDepth 100000 in
set_option maxHeartbeats 8000000 in
theorem product_any (v1 v2 : Value) (xs ys : List RF) (K : Nat) (w : World) (h1 : FrsM w v1 xs) (h2 : FrsM w v2 ys) (hlen : xs.length ≤ ys.length) (hK : 1 ≤ K) (ha : RsL K xs) (hb : RsL K ys) (hs : 1 + xs.length * (2 * K + 1) ≤ 34359738368) (hs2 : 2 * K ≤ 34359738368) :
    Calls Tryz.prog 52 #[v1, v2] w fun e w' => ∃ v', e = .returned v' ∧ FracM w' v' (canF (dotQ xs ys xs.length)) ∧ Below w.heap.size w w' := by
  obtain ⟨A, c, rfl, hc1, hc2⟩ := h1.shape
  obtain ⟨A', c', rfl, hc3, hc4⟩ := h2.shape
  generalize hn : xs.length = l at *
  generalize hm : ys.length = m at *
  have HN := Lib.hid hn
  have HM := Lib.hid hm
  have HA := Lib.hid ha
  have HB := Lib.hid hb
  have HS := Lib.hid hs
  obtain ⟨TQ, hTQ⟩ : ∃ TQ : Nat → Rat, TQ = dotQ xs ys := ⟨_, rfl⟩
  rw [← hTQ]
  have HTQ := Lib.hid hTQ
  have HT0 : Hid ((0 : Rat) = TQ 0) := Lib.hid (by rw [hTQ]; rfl)
  clear hn hm ha hb hs hTQ
  obtain ⟨W, hW, hR, hbe⟩ := boxF1 w (.bool false) (.slice none 0 0) (.bool false) (.slice none 0 0)
  go_enter Tryz.func52, Tryz.ntmps52
  go_wp2_with fail
  clear hW
  refine (fromInts_zero _).mono ?_
  rw [HT0.out]
  rintro e w1 ⟨v1, rfl, e1, hb1⟩
  obtain ⟨B, l0, d, B', l0', d', rfl, _, _⟩ := id e1
  have hX := Bk.new w1 47 [.bool (canF (TQ 0)).num.neg, .slice B l0 d, .bool (canF (TQ 0)).den.neg, .slice B' l0' d']
  have bn := below_new w1 (.cells [.bool (canF (TQ 0)).num.neg, .slice B l0 d, .bool (canF (TQ 0)).den.neg, .slice B' l0' d'].toArray 47)
  have b1 := below_then hbe hb1 hbe.size
  have start : TotAt (TQ 0) w w1.heap.size (w1.alloc (.cells #[.bool (canF (TQ 0)).num.neg, .slice B l0 d, .bool (canF (TQ 0)).den.neg, .slice B' l0' d'] 47)) :=
    ⟨B, B', l0, d, l0', d', hX, e1.below bn, (hR.later hb1).later bn, below_then b1 bn b1.size, (hR.later hb1).lt⟩
  have ST := Lib.hid start
  clear start hX bn b1 hR hbe hb1 e1
  generalize canF (TQ 0) = D0 at *
  go_wp2
  go_loopw [15] (fun i wr => ∃ k : Nat, k ≤ l ∧ i = .int .i64 k ∧ TotAt (TQ k) w w1.heap.size wr) (fun i _ => l - (intOf i).toNat)
  case atStart => exact ⟨0, by omega, rfl, ST.out⟩
  case round =>
    obtain ⟨k, hk, rfl, C, C', p, q, p', q', hX, hF, hR, hbe, hg⟩ := hrel
    rcases Nat.lt_or_ge k l with hkl | hkl
    · obtain ⟨f, hf⟩ := get_some (fs := xs) (i := k) (by rw [HN.out]; exact hkl)
      obtain ⟨f', hf'⟩ := get_some (fs := ys) (i := k) (by rw [HM.out]; omega)
      obtain ⟨b, off, A1, n1, k1, A2, n2, k2, rfl, hlt, hcA, hmf⟩ := h1.elem hbe hf
      obtain ⟨x1, x2, x3, x4⟩ := hcA
      obtain ⟨W1, hW1, hV, hbn⟩ := boxF1 wr (.bool f.num.neg) (.slice A1 n1 k1) (.bool f.den.neg) (.slice A2 n2 k2)
      have hbe1 := below_then hbe hbn hbe.size
      obtain ⟨b', off', A3, n3, k3, A4, n4, k4, rfl, hlt', hcB, hm1'⟩ := h2.elem hbe1 hf'
      have hm1 := hmf.below hbn
      have hX1 := hX.later hbn
      have hR1 := hR.later hbn
      have hF1 := hF.below hbn
      have hn1 : (k : Int) < l := by omega
      have hn2 : (k : Int) < m := by omega
      have hsf0 := HA.out k f hf
      have hsf0' := HB.out k f' hf'
      have hsf := hsf0.sm (by omega)
      have hsf' := hsf0'.sm (by omega)
      have szP : (canF (f.q * f'.q)).Sm := ((Sz_mul (hsf0.sz hK) (hsf0'.sz hK)).sh (by omega)).sm
      have szD : (canF (TQ k)).Sm := by
        rw [HTQ.out]
        refine ((Sz_dot HA.out HB.out hK).sh ?_).sm
        have := Nat.mul_le_mul_right (2 * K + 1) hk
        have := HS.out
        omega
      have HV : Hid ((canF (TQ k)).q + (canF (f.q * f'.q)).q = TQ (k + 1)) := Lib.hid (by rw [canF_q, canF_q, HTQ.out, dotQ_succ, qAt_some hf, qAt_some hf'])
      generalize canF (TQ k) = DK at *
      clear hf hf' hX hR hF hbe hmf
      go_wp2_with fail
      clear hW1
      refine wp_region_noPanic ?_
      refine region_F (S := fun w' => (w'.cell? ⟨w1.heap.size, 0, none⟩ = some (.bool DK.num.neg) ∧ w'.cell? ⟨w1.heap.size, 1, none⟩ = some (.slice C p q) ∧ w'.cell? ⟨w1.heap.size, 2, none⟩ = some (.bool DK.den.neg) ∧ w'.cell? ⟨w1.heap.size, 3, none⟩ = some (.slice C' p' q')) ∧ (w'.cell? ⟨wr.heap.size, 0, none⟩ = some (.bool f.num.neg) ∧ w'.cell? ⟨wr.heap.size, 1, none⟩ = some (.slice A1 n1 k1) ∧ w'.cell? ⟨wr.heap.size, 2, none⟩ = some (.bool f.den.neg) ∧ w'.cell? ⟨wr.heap.size, 3, none⟩ = some (.slice A2 n2 k2)) ∧ (w'.cell? ⟨b', off' + k * 4, none⟩ = some (.bool f'.num.neg) ∧ w'.cell? ⟨b', off' + k * 4 + 1, none⟩ = some (.slice A3 n3 k3) ∧ w'.cell? ⟨b', off' + k * 4 + 2, none⟩ = some (.bool f'.den.neg) ∧ w'.cell? ⟨b', off' + k * 4 + 3, none⟩ = some (.slice A4 n4 k4))) (n := 8) (by kernel_rfl) ?_ (fun hHeld => ?_)
      · exact ⟨hX1.drew.four, hV.drew.four, hcB⟩
      refine anyF_take (i := 0) (v := ?_) rfl (by kernel_rfl) (by kernel_rfl) (by kernel_rfl) (by kernel_rfl) (fun _ _ _ h => h) (Or.inl ⟨by rfl, ?y1⟩) (by assumption) ?_
      case y1 => (intro _ hSw; (try dsimp only at hSw); go_simp; (try with_reducible rfl))
      (try simp only [Act.put, pu1, pu2, pu3, pu4, pu5, pu6])
      refine anyF_take (i := 1) (v := ?_) rfl (by kernel_rfl) (by kernel_rfl) (by kernel_rfl) (by kernel_rfl) (fun _ _ _ h => h) (Or.inl ⟨by rfl, ?y2⟩) (by assumption) ?_
      case y2 => (intro _ hSw; (try dsimp only at hSw); go_simp; (try with_reducible rfl))
      (try simp only [Act.put, pu1, pu2, pu3, pu4, pu5, pu6])
      refine anyF_take (i := 2) (v := ?_) rfl (by kernel_rfl) (by kernel_rfl) (by kernel_rfl) (by kernel_rfl) (fun _ _ _ h => h) (Or.inl ⟨by rfl, ?y3⟩) (by assumption) ?_
      case y3 => (intro _ hSw; (try dsimp only at hSw); go_simp; (try with_reducible rfl))
      (try simp only [Act.put, pu1, pu2, pu3, pu4, pu5, pu6])
      refine anyF_take (i := 3) (v := ?_) rfl (by kernel_rfl) (by kernel_rfl) (by kernel_rfl) (by kernel_rfl) (fun _ _ _ h => h) (Or.inl ⟨by rfl, ?y4⟩) (by assumption) ?_
      case y4 => (intro _ hSw; (try dsimp only at hSw); go_simp; (try with_reducible rfl))
      (try simp only [Act.put, pu1, pu2, pu3, pu4, pu5, pu6])
      refine anyF_take (i := 4) (v := ?_) rfl (by kernel_rfl) (by kernel_rfl) (by kernel_rfl) (by kernel_rfl) (fun _ _ _ h => h) (Or.inl ⟨by rfl, ?y5⟩) (by assumption) ?_
      case y5 => (intro _ hSw; (try dsimp only at hSw); go_simp; (try with_reducible rfl))
      (try simp only [Act.put, pu1, pu2, pu3, pu4, pu5, pu6])
      refine anyF_take (i := 5) (v := ?_) rfl (by kernel_rfl) (by kernel_rfl) (by kernel_rfl) (by kernel_rfl) (fun _ _ _ h => h) (Or.inl ⟨by rfl, ?y6⟩) (by assumption) ?_
      case y6 => (intro _ hSw; (try dsimp only at hSw); go_simp; (try with_reducible rfl))
      (try simp only [Act.put, pu1, pu2, pu3, pu4, pu5, pu6])
      refine anyF_step (i := 6) (by kernel_rfl) rfl (fun KR hKR => ?_)
      go_simp
      with_reducible refine (mulF_any _ _ f f' _ (hm1.keep (Keep.drew _)) (hm1'.keep (Keep.drew _)) hsf hsf').mono ?_
      rintro e w8 ⟨v8, rfl, e8, hb8⟩
      refine hKR.out _ _ ?_ (fun hHeld => ?_)
      · exact ⟨(hX1.drew.later hb8).four, (hV.drew.later hb8).four, cell4_later hb8 hcB⟩
      clear hKR KR
      (try simp only [Act.put, pu1, pu2, pu3, pu4, pu5, pu6])
      refine anyF_step (i := 7) (by kernel_rfl) rfl (fun KR hKR => ?_)
      go_simp
      with_reducible refine (addF_any _ _ DK (canF (f.q * f'.q)) _ ((hF1.keep (Keep.drew _)).below hb8) e8 szD szP).mono ?_
      rw [HV.out]
      rintro e w9 ⟨v9, rfl, e9, hb9⟩
      obtain ⟨E, l9, k9, E', l9', k9', rfl, _, _⟩ := id e9
      obtain ⟨c0, c1, c2, c3⟩ := ((hX1.drew.later hb8).later hb9).four
      obtain ⟨f0, f1, f2, f3⟩ := ((hX1.drew.later hb8).later hb9).fourF
      refine hKR.out _ _ ?_ (fun hHeld => ?_)
      · exact ⟨((hX1.drew.later hb8).later hb9).four, ((hV.drew.later hb8).later hb9).four, cell4_later hb9 (cell4_later hb8 hcB)⟩
      clear hKR KR
      (try simp only [Act.put, pu1, pu2, pu3, pu4, pu5, pu6])
      refine anyF_last (i := 8) (by kernel_rfl) rfl (by decide) (fun KR hKR => ?_)
      go_simp
      refine hKR.out _ _ ?_
      clear hKR KR
      (try simp only [Act.put, pu1, pu2, pu3, pu4, pu5, pu6])
      refine anyF_done (by kernel_rfl) (NoPanic.normal ?_) _
      have hX9 := (hX1.drew.later hb8).later hb9
      have bb1 := below_then hbe1.drew hb8 hbe1.size
      have bb2 := below_then bb1 hb9 bb1.size
      have hR9 := ((hR1.drew.later hb8).later hb9).far4 (show w.heap.size ≠ w1.heap.size by omega)
      go_wp2
      go_roundw
      case rel => exact ⟨k + 1, by omega, by go_num, E, E', l9, k9, l9', k9', hX9.set4 _ _ _ _, e9.keep (hX9.keep4 (by decide) _ _ _ _), hR9 _ _ _ _, below_set4 bb2 (by omega) _ _ _ _, hg⟩
      case measure => simp [intOf]; omega
    · obtain rfl : k = l := by omega
      obtain ⟨x1, x2, x3, x4⟩ := hX.four
      obtain ⟨c0, c1, c2, c3⟩ := hR.four
      obtain ⟨f0, f1, f2, f3⟩ := hR.fourF
      generalize hDK : canF (TQ k) = DK at *
      have HDK := Lib.hid hDK
      clear hDK
      go_wp2
      refine ret_cell Tryz.results52 Tryz.underlying47 (by kernel_rfl) rfl (hR.set4 _ _ _ _) rfl ?_
      rw [HDK.out]
      exact fin_frac hR hF hbe (Nat.le_refl _)

set_option maxRecDepth 100000 in
set_option maxHeartbeats 8000000 in
theorem along_any (v1 v2 : Value) (es : List En) (ys : List RF) (K : Nat) (w : World) (h1 : VecM w v1 es) (h2 : FrsM w v2 ys) (hin : inR ys.length es) (hK : 1 ≤ K) (ha : ∀ (k : Nat) (e : En), es[k]? = some e → e.f.Rs K) (hb : RsL K ys) (hs : 1 + es.length * (2 * K + 1) ≤ 34359738368) (hs2 : 2 * K ≤ 34359738368) :
    Calls Tryz.prog 51 #[v1, v2] w fun e w' => ∃ v', e = .returned v' ∧ FracM w' v' (canF (alongQ es ys es.length)) ∧ Below w.heap.size w w' := by
  obtain ⟨A, c, rfl, hc1, hc2⟩ := h1.shape
  obtain ⟨A', c', rfl, hc3, hc4⟩ := h2.shape
  generalize hn : es.length = l at *
  generalize hm : ys.length = m at *
  have HN := Lib.hid hn
  have HM := Lib.hid hm
  have HA := Lib.hid ha
  have HB := Lib.hid hb
  have HS := Lib.hid hs
  have HI := Lib.hid hin
  obtain ⟨TQ, hTQ⟩ : ∃ TQ : Nat → Rat, TQ = alongQ es ys := ⟨_, rfl⟩
  rw [← hTQ]
  have HTQ := Lib.hid hTQ
  have HT0 : Hid ((0 : Rat) = TQ 0) := Lib.hid (by rw [hTQ]; rfl)
  clear hn hm ha hb hs hTQ hin
  obtain ⟨W, hW, hR, hbe⟩ := boxF1 w (.bool false) (.slice none 0 0) (.bool false) (.slice none 0 0)
  go_enter Tryz.func51, Tryz.ntmps51
  go_wp2_with fail
  clear hW
  refine (fromInts_zero _).mono ?_
  rw [HT0.out]
  rintro e w1 ⟨v1, rfl, e1, hb1⟩
  obtain ⟨B, l0, d, B', l0', d', rfl, _, _⟩ := id e1
  have hX := Bk.new w1 47 [.bool (canF (TQ 0)).num.neg, .slice B l0 d, .bool (canF (TQ 0)).den.neg, .slice B' l0' d']
  have bn := below_new w1 (.cells [.bool (canF (TQ 0)).num.neg, .slice B l0 d, .bool (canF (TQ 0)).den.neg, .slice B' l0' d'].toArray 47)
  have b1 := below_then hbe hb1 hbe.size
  have start : TotAt (TQ 0) w w1.heap.size (w1.alloc (.cells #[.bool (canF (TQ 0)).num.neg, .slice B l0 d, .bool (canF (TQ 0)).den.neg, .slice B' l0' d'] 47)) :=
    ⟨B, B', l0, d, l0', d', hX, e1.below bn, (hR.later hb1).later bn, below_then b1 bn b1.size, (hR.later hb1).lt⟩
  have ST := Lib.hid start
  clear start hX bn b1 hR hbe hb1 e1
  generalize canF (TQ 0) = D0 at *
  go_wp2
  go_loopw [15] (fun i wr => ∃ k : Nat, k ≤ l ∧ i = .int .i64 k ∧ TotAt (TQ k) w w1.heap.size wr) (fun i _ => l - (intOf i).toNat)
  case atStart => exact ⟨0, by omega, rfl, ST.out⟩
  case round =>
    obtain ⟨k, hk, rfl, C, C', p, q, p', q', hX, hF, hR, hbe, hg⟩ := hrel
    rcases Nat.lt_or_ge k l with hkl | hkl
    · obtain ⟨e, he⟩ := get_someE (es := es) (i := k) (by rw [HN.out]; exact hkl)
      obtain ⟨b, off, A1, n1, k1, A2, n2, k2, rfl, hlt, hcA, hmf⟩ := h1.elem hbe he
      obtain ⟨i0, i1⟩ := HI.out k e he
      obtain ⟨j, hj⟩ := Int.eq_ofNat_of_zero_le i0
      obtain ⟨f', hf'⟩ := get_some (fs := ys) (i := j) (by rw [HM.out]; omega)
      have HS1 := Lib.hid (alongQ_succ he ys)
      have hsf0 := HA.out k e he
      obtain ⟨ei, f⟩ := e
      simp only at *
      subst hj
      obtain ⟨x0, x1, x2, x3, x4⟩ := hcA
      obtain ⟨W1, hW1, hV, hbn⟩ := box_en wr (.int .i64 (j : Int)) (.bool f.num.neg) (.slice A1 n1 k1) (.bool f.den.neg) (.slice A2 n2 k2)
      have hbe1 := below_then hbe hbn hbe.size
      obtain ⟨b', off', A3, n3, k3, A4, n4, k4, rfl, hlt', hcB, hm1'⟩ := h2.elem hbe1 hf'
      have hm1 := hmf.below hbn
      have hX1 := hX.later hbn
      have hR1 := hR.later hbn
      have hF1 := hF.below hbn
      have hn1 : (k : Int) < l := by omega
      have hn2 : (j : Int) < m := by omega
      have hsf0' := HB.out j f' hf'
      have hsf := hsf0.sm (by omega)
      have hsf' := hsf0'.sm (by omega)
      have szP : (canF (f.q * f'.q)).Sm := ((Sz_mul (hsf0.sz hK) (hsf0'.sz hK)).sh (by omega)).sm
      have szD : (canF (TQ k)).Sm := by
        rw [HTQ.out]
        refine ((Sz_along HA.out HB.out hK k).sh ?_).sm
        have := Nat.mul_le_mul_right (2 * K + 1) hk
        have := HS.out
        omega
      have HV : Hid ((canF (TQ k)).q + (canF (f.q * f'.q)).q = TQ (k + 1)) := Lib.hid (by rw [canF_q, canF_q, HTQ.out, HS1.out, Int.toNat_natCast, qAt_some hf'])
      generalize canF (TQ k) = DK at *
      clear he hf' hX hR hF hbe hmf
      go_wp2_with fail
      clear hW1
      refine wp_region_noPanic ?_
      refine region_F (S := fun w' => (w'.cell? ⟨w1.heap.size, 0, none⟩ = some (.bool DK.num.neg) ∧ w'.cell? ⟨w1.heap.size, 1, none⟩ = some (.slice C p q) ∧ w'.cell? ⟨w1.heap.size, 2, none⟩ = some (.bool DK.den.neg) ∧ w'.cell? ⟨w1.heap.size, 3, none⟩ = some (.slice C' p' q')) ∧ (w'.cell? ⟨wr.heap.size, 0, none⟩ = some (.int .i64 (j : Int)) ∧ w'.cell? ⟨wr.heap.size, 1, none⟩ = some (.bool f.num.neg) ∧ w'.cell? ⟨wr.heap.size, 2, none⟩ = some (.slice A1 n1 k1) ∧ w'.cell? ⟨wr.heap.size, 3, none⟩ = some (.bool f.den.neg) ∧ w'.cell? ⟨wr.heap.size, 4, none⟩ = some (.slice A2 n2 k2)) ∧ (w'.cell? ⟨b', off' + j * 4, none⟩ = some (.bool f'.num.neg) ∧ w'.cell? ⟨b', off' + j * 4 + 1, none⟩ = some (.slice A3 n3 k3) ∧ w'.cell? ⟨b', off' + j * 4 + 2, none⟩ = some (.bool f'.den.neg) ∧ w'.cell? ⟨b', off' + j * 4 + 3, none⟩ = some (.slice A4 n4 k4))) (n := 10) (by kernel_rfl) ?_ (fun hHeld => ?_)
      · exact ⟨hX1.drew.four, hV.drew.five, hcB⟩
      refine anyF_take (i := 0) (v := ?_) rfl (by kernel_rfl) (by kernel_rfl) (by kernel_rfl) (by kernel_rfl) (fun _ _ _ h => h) (Or.inl ⟨by rfl, ?y7⟩) (by assumption) ?_
      case y7 => (intro _ hSw; (try dsimp only at hSw); go_simp; (try with_reducible rfl))
      (try simp only [Act.put, pu1, pu2, pu3, pu4, pu5, pu6])
      refine anyF_take (i := 1) (v := ?_) rfl (by kernel_rfl) (by kernel_rfl) (by kernel_rfl) (by kernel_rfl) (fun _ _ _ h => h) (Or.inl ⟨by rfl, ?y8⟩) (by assumption) ?_
      case y8 => (intro _ hSw; (try dsimp only at hSw); go_simp; (try with_reducible rfl))
      (try simp only [Act.put, pu1, pu2, pu3, pu4, pu5, pu6])
      refine anyF_take (i := 2) (v := ?_) rfl (by kernel_rfl) (by kernel_rfl) (by kernel_rfl) (by kernel_rfl) (fun _ _ _ h => h) (Or.inl ⟨by rfl, ?y9⟩) (by assumption) ?_
      case y9 => (intro _ hSw; (try dsimp only at hSw); go_simp; (try with_reducible rfl))
      (try simp only [Act.put, pu1, pu2, pu3, pu4, pu5, pu6])
      refine anyF_take (i := 3) (v := ?_) rfl (by kernel_rfl) (by kernel_rfl) (by kernel_rfl) (by kernel_rfl) (fun _ _ _ h => h) (Or.inl ⟨by rfl, ?y10⟩) (by assumption) ?_
      case y10 => (intro _ hSw; (try dsimp only at hSw); go_simp; (try with_reducible rfl))
      (try simp only [Act.put, pu1, pu2, pu3, pu4, pu5, pu6])
      refine anyF_take (i := 4) (v := ?_) rfl (by kernel_rfl) (by kernel_rfl) (by kernel_rfl) (by kernel_rfl) (fun _ _ _ h => h) (Or.inl ⟨by rfl, ?y11⟩) (by assumption) ?_
      case y11 => (intro _ hSw; (try dsimp only at hSw); go_simp; (try with_reducible rfl))
      (try simp only [Act.put, pu1, pu2, pu3, pu4, pu5, pu6])
      refine anyF_take (i := 5) (v := ?_) rfl (by kernel_rfl) (by kernel_rfl) (by kernel_rfl) (by kernel_rfl) (fun _ _ _ h => h) (Or.inl ⟨by rfl, ?y12⟩) (by assumption) ?_
      case y12 => (intro _ hSw; (try dsimp only at hSw); go_simp; (try with_reducible rfl))
      (try simp only [Act.put, pu1, pu2, pu3, pu4, pu5, pu6])
      refine anyF_take (i := 6) (v := ?_) rfl (by kernel_rfl) (by kernel_rfl) (by kernel_rfl) (by kernel_rfl) (fun _ _ _ h => h) (Or.inl ⟨by rfl, ?y13⟩) (by assumption) ?_
      case y13 => (intro _ hSw; (try dsimp only at hSw); go_simp; (try with_reducible rfl))
      (try simp only [Act.put, pu1, pu2, pu3, pu4, pu5, pu6])
      refine anyF_take (i := 7) (v := ?_) rfl (by kernel_rfl) (by kernel_rfl) (by kernel_rfl) (by kernel_rfl) (fun _ _ _ h => h) (Or.inl ⟨by rfl, ?y14⟩) (by assumption) ?_
      case y14 => (intro _ hSw; (try dsimp only at hSw); go_simp; (try with_reducible rfl))
      (try simp only [Act.put, pu1, pu2, pu3, pu4, pu5, pu6])
      refine anyF_step (i := 8) (by kernel_rfl) rfl (fun KR hKR => ?_)
      go_simp
      with_reducible refine (mulF_any _ _ f f' _ (hm1.keep (Keep.drew _)) (hm1'.keep (Keep.drew _)) hsf hsf').mono ?_
      rintro e w8 ⟨v8, rfl, e8, hb8⟩
      refine hKR.out _ _ ?_ (fun hHeld => ?_)
      · exact ⟨(hX1.drew.later hb8).four, (hV.drew.later hb8).five, cell4_later hb8 hcB⟩
      clear hKR KR
      (try simp only [Act.put, pu1, pu2, pu3, pu4, pu5, pu6])
      refine anyF_step (i := 9) (by kernel_rfl) rfl (fun KR hKR => ?_)
      go_simp
      with_reducible refine (addF_any _ _ DK (canF (f.q * f'.q)) _ ((hF1.keep (Keep.drew _)).below hb8) e8 szD szP).mono ?_
      rw [HV.out]
      rintro e w9 ⟨v9, rfl, e9, hb9⟩
      obtain ⟨E, l9, k9, E', l9', k9', rfl, _, _⟩ := id e9
      obtain ⟨c0, c1, c2, c3⟩ := ((hX1.drew.later hb8).later hb9).four
      obtain ⟨f0, f1, f2, f3⟩ := ((hX1.drew.later hb8).later hb9).fourF
      refine hKR.out _ _ ?_ (fun hHeld => ?_)
      · exact ⟨((hX1.drew.later hb8).later hb9).four, ((hV.drew.later hb8).later hb9).five, cell4_later hb9 (cell4_later hb8 hcB)⟩
      clear hKR KR
      (try simp only [Act.put, pu1, pu2, pu3, pu4, pu5, pu6])
      refine anyF_last (i := 10) (by kernel_rfl) rfl (by decide) (fun KR hKR => ?_)
      go_simp
      refine hKR.out _ _ ?_
      clear hKR KR
      (try simp only [Act.put, pu1, pu2, pu3, pu4, pu5, pu6])
      refine anyF_done (by kernel_rfl) (NoPanic.normal ?_) _
      have hX9 := (hX1.drew.later hb8).later hb9
      have bb1 := below_then hbe1.drew hb8 hbe1.size
      have bb2 := below_then bb1 hb9 bb1.size
      have hR9 := ((hR1.drew.later hb8).later hb9).far4 (show w.heap.size ≠ w1.heap.size by omega)
      go_wp2
      go_roundw
      case rel => exact ⟨k + 1, by omega, by go_num, E, E', l9, k9, l9', k9', hX9.set4 _ _ _ _, e9.keep (hX9.keep4 (by decide) _ _ _ _), hR9 _ _ _ _, below_set4 bb2 (by omega) _ _ _ _, hg⟩
      case measure => simp [intOf]; omega
    · obtain rfl : k = l := by omega
      obtain ⟨x1, x2, x3, x4⟩ := hX.four
      obtain ⟨c0, c1, c2, c3⟩ := hR.four
      obtain ⟨f0, f1, f2, f3⟩ := hR.fourF
      generalize hDK : canF (TQ k) = DK at *
      have HDK := Lib.hid hDK
      clear hDK
      go_wp2
      refine ret_cell Tryz.results51 Tryz.underlying47 (by kernel_rfl) rfl (hR.set4 _ _ _ _) rfl ?_
      rw [HDK.out]
      exact fin_frac hR hF hbe (Nat.le_refl _)
end Go.Proofs.YtpanffbgihhjnaaGreat

/- make of a list of fractions; entries that grow; walks: package proof: nonnegative. -/
namespace Go.Proofs.YtpanffbgihhjnaaGreat
open Go.RowKit Pl
attribute [local go_sem ↓] Go.wp_at_zero Go.wp_at_succ

def zfc (n : Nat) : Array Value := madeCells (Value.cells (.agg #[.bool false, .slice none 0 0, .bool false, .slice none 0 0])) (n * 4)
theorem zfc_at {n k j : Nat} (hk : k < n) (hj : j < 4) : (zfc n)[k * 4 + j]? = ([.bool false, .slice none 0 0, .bool false, .slice none 0 0] : List Value)[j]? := by
  have hlt : k * 4 + j < n * 4 := by omega
  have hm : (k * 4 + j) % 4 = j := by omega
  unfold zfc madeCells
  simp [hlt, Value.cells, hm]
  match j, hj with
  | 0, _ => rfl
  | 1, _ => rfl
  | 2, _ => rfl
  | 3, _ => rfl
theorem FrsO.zeros (w : World) (n : Nat) (hn : n ≤ maxLen) : FrsO w.heap.size (w.alloc (.cells (zfc n) 47)) (.slice (some ⟨w.heap.size, 0, none⟩) n n) (List.replicate n zeroF) := by
  have hsz : (zfc n).size = n * 4 := size_madeCells _ _
  refine ⟨(zfc n).toList, ⟨by simp [hsz], .inr ⟨w.heap.size, n, zfc n, by simp, Nat.le_refl _, heap_alloc_new w _, by simp, hn, hsz, ?_⟩⟩, by simp [hsz], fun k f hf => ?_⟩
  · rw [List.take_of_length_le (by simp [hsz])]
  · rw [List.getElem?_replicate] at hf
    split at hf
    · rename_i hk
      injection hf with hf
      subst hf
      refine ⟨_, _, _, _, ?_, ?_, ?_, ?_, FracM.zero _⟩
      · have := zfc_at (j := 0) hk (by decide); simpa using this
      · have := zfc_at (j := 1) hk (by decide); simpa using this
      · have := zfc_at (j := 2) hk (by decide); simpa using this
      · have := zfc_at (j := 3) hk (by decide); simpa using this
    · cases hf
theorem make_frac (n : Nat) (hn : n ≤ 1099511627776) (w : World) :
    (Instr.makeSlice 23 (.int .i64 (n : Int)) (.int .i64 (n : Int))).run Tryz.prog w = .ok (.slice (some ⟨w.heap.size, 0, none⟩) n n) (w.alloc (.cells (zfc n) 47)) := by
  obtain ⟨i0, hi, hz0, hz1, hz2⟩ := info_parts info_frac
  have hb : (i0.bytes : Int) * (n : Int) ≤ 281474976710656 := by rw [hz2]; omega
  have hr := run_make (P := Tryz.prog) w 23 47 i0 _ Tryz.underlying23 hi hz0 .i64 .i64 n n (by omega) (by omega) hb (by omega)
  simp only [Int.toNat_natCast, hz1] at hr
  exact hr
namespace Pl
theorem zeroF_q : zeroF.q = 0 := by unfold RF.q zeroF; rw [canI_z, Rat.divInt_zero]
theorem zeroF_rs (K : Nat) : zeroF.Rs K := by unfold RF.Rs zeroF; simp [val_canI, digs_zero]
theorem qAt_zeros (n i : Nat) : qAt (List.replicate n zeroF) i = 0 := by
  unfold qAt
  rw [List.getElem?_replicate]
  split
  · rename_i f hf
    split at hf
    · injection hf with hf; rw [← hf, zeroF_q]
    · cases hf
  · rfl
theorem RsL_zeros (K n : Nat) : RsL K (List.replicate n zeroF) := fun i f hf => by
  rw [List.getElem?_replicate] at hf
  split at hf
  · injection hf with hf; rw [← hf]; exact zeroF_rs K
  · cases hf
theorem Inc_gt {es : List En} {p : Option Int} (h : Inc p es) : ∀ (k : Nat) (e : En), es[k]? = some e → ∀ i, p = some i → i < e.idx := by
  induction es generalizing p with
  | nil => intro k e hk; simp at hk
  | cons d es ih =>
    intro k e hk i hp
    have h1 : i < d.idx := by
      have := h.1
      subst hp
      simp [leP] at this
      exact this
    cases k with
    | zero => simp at hk; subst hk; exact h1
    | succ k =>
      have := ih h.2 k e (by simpa using hk) d.idx rfl
      omega
theorem Inc_lt {es : List En} {p : Option Int} (h : Inc p es) : ∀ (i j : Nat) (d e : En), i < j → es[i]? = some d → es[j]? = some e → d.idx < e.idx := by
  induction es generalizing p with
  | nil => intro i j d e _ hi; simp at hi
  | cons c es ih =>
    intro i j d e hij hi hj
    cases i with
    | zero =>
      simp at hi
      subst hi
      cases j with
      | zero => omega
      | succ j => exact Inc_gt h.2 j e (by simpa using hj) c.idx rfl
    | succ i =>
      cases j with
      | zero => omega
      | succ j => exact ih h.2 i j d e (by omega) (by simpa using hi) (by simpa using hj)
theorem dQ_off {es : List En} {f : Nat → Rat} {i : Nat} (h : ∀ (k : Nat) (e : En), es[k]? = some e → e.idx ≠ (i : Int)) : dQ es f i = f i := by
  induction es generalizing f with
  | nil => rfl
  | cons e es ih =>
    rw [dQ, ih fun k d hd => h (k + 1) d (by simpa using hd), if_neg (h 0 e rfl)]
theorem dQ_fresh {es : List En} {k : Nat} {e : En} (hinc : Inc none es) (he : es[k]? = some e) {f : Nat → Rat} {i : Nat} (hi : e.idx = (i : Int)) : dQ (es.take k) f i = f i := by
  apply dQ_off
  intro j d hd
  rw [List.getElem?_take] at hd
  split at hd
  · rename_i hj
    have := Inc_lt hinc j k d e hj hd he
    omega
  · cases hd
end Pl

set_option maxRecDepth 100000 in
set_option maxHeartbeats 2000000 in
theorem nonneg_any (v : Value) (fs : List RF) (n : Nat) (w : World) (h : FrsM w v fs) (hn : n ≤ 9223372036854775807) :
    Calls Tryz.prog 70 #[v, .int .i64 (n : Int)] w fun e w' => e = .returned (.bool (decide (fs.length = n) && nnB fs)) ∧ Below w.heap.size w w' := by
  obtain ⟨A, c, rfl, hc1, hc2⟩ := h.shape
  generalize hl : fs.length = l at *
  have HL := Lib.hid hl
  clear hl
  by_cases hln : l = n
  · have hln' : ((l : Int) != (n : Int)) = false := by simp; omega
    rw [decide_eq_true hln, Bool.true_and]
    clear hln
    go_enter Tryz.func70, Tryz.ntmps70
    go_wp2
    clear hln'
    go_loopw [13] (fun i wr => ∃ k : Nat, k ≤ l ∧ i = .int .i64 k ∧ Below w.heap.size w wr ∧ ∀ i, i < k → 0 ≤ qs (qAt fs i)) (fun i _ => l - (intOf i).toNat)
    case atStart => exact ⟨0, by omega, rfl, Below.refl _ _, fun i hi => by omega⟩
    case round =>
      obtain ⟨k, hk, rfl, hbe, hz⟩ := hrel
      have HZ := Lib.hid hz
      clear hz
      rcases Nat.lt_or_ge k l with hkl | hkl
      · obtain ⟨f, hf⟩ := get_some (fs := fs) (i := k) (by rw [HL.out]; exact hkl)
        obtain ⟨b, off, A1, n1, k1, A2, n2, k2, rfl, hlt, hcell, hm⟩ := h.elem hbe hf
        obtain ⟨x1, x2, x3, x4⟩ := hcell
        obtain ⟨W1, hW1, hV, hbn⟩ := boxF1 wr (.bool f.num.neg) (.slice A1 n1 k1) (.bool f.den.neg) (.slice A2 n2 k2)
        obtain ⟨z1, z2, z3, z4⟩ := hV.four
        have hbe1 := below_then hbe hbn hbe.size
        have hn1 : (k : Int) < l := by omega
        have HQ := Lib.hid (qAt_some hf)
        clear hf
        go_wp2_with fail
        clear hW1
        refine (signF_any _ f _ (hm.below hbn)).mono ?_
        rintro _ w2 ⟨rfl, hb2⟩
        by_cases hneg : qs f.q < 0
        · have HR : Hid (nnB fs = false) := Lib.hid (nnB_false (i := k) (by rw [HL.out]; exact hkl) (by rw [HQ.out]; exact hneg))
          go_wp2
          go_ret
          exact ⟨ret_bool HR.out, below_then hbe1 hb2 hbe1.size⟩
        · have HN := Lib.hid hneg
          have hneg' : decide (qs f.q < 0) = false := by simpa using hneg
          clear hneg
          go_wp2
          go_roundw
          case rel => exact ⟨k + 1, by omega, by go_num, below_then hbe1 hb2 hbe1.size, fun i hi => by
            rcases Nat.eq_or_lt_of_le (Nat.le_of_lt_succ hi) with e | e
            · subst e; rw [HQ.out]; have := HN.out; omega
            · exact HZ.out i e⟩
          case measure => simp [intOf]; omega
      · go_wp2
        go_ret
        exact ⟨ret_bool (nnB_true fun i hi => HZ.out i (by rw [HL.out] at hi; omega)), hbe⟩
  · have hln' : ((l : Int) != (n : Int)) = true := by simp; omega
    rw [decide_eq_false hln, Bool.false_and]
    clear hln
    go_enter Tryz.func70, Tryz.ntmps70
    go_wp2
    go_ret
    exact ⟨rfl, Below.refl _ _⟩
end Go.Proofs.YtpanffbgihhjnaaGreat

/- Walks: package proof: combines. -/
namespace Go.Proofs.YtpanffbgihhjnaaGreat
open Go.RowKit Pl
attribute [local go_sem ↓] Go.wp_at_zero Go.wp_at_succ

namespace Pl
def combB (m : Nat) (f : Nat → Rat) (rs : List RF) : Bool := decide (∀ i, i < m → f i = qAt rs i)
theorem combB_true {m : Nat} {f : Nat → Rat} {rs : List RF} (h : ∀ i, i < m → f i = qAt rs i) : combB m f rs = true := by
  unfold combB; rw [decide_eq_true]; exact h
theorem combB_false {m i : Nat} {f : Nat → Rat} {rs : List RF} (hi : i < m) (h : f i ≠ qAt rs i) : combB m f rs = false := by
  unfold combB; rw [decide_eq_false]; exact fun g => h (g i hi)
def partQ (p : LPd) (xs : List RF) (j : Nat) (es : List En) (k i : Nat) : Rat := timesQ p xs j i + qAt xs j * dQ (es.take k) (fun _ => 0) i
theorem partQ_zero (p : LPd) (xs : List RF) (j : Nat) (es : List En) (i : Nat) : partQ p xs j es 0 i = timesQ p xs j i := by
  unfold partQ
  simp [dQ, Rat.mul_zero, Rat.add_zero]
theorem partQ_next {p : LPd} {xs : List RF} {j : Nat} {es : List En} {k : Nat} {e : En} (he : es[k]? = some e) (hinc : Inc none es) (i : Nat) :
    partQ p xs j es (k + 1) i = if e.idx = (i : Int) then partQ p xs j es k i + qAt xs j * e.f.q else partQ p xs j es k i := by
  unfold partQ
  rw [dQ_take he]
  simp only
  by_cases h : e.idx = (i : Int)
  · rw [if_pos h, if_pos h, dQ_fresh hinc he h, Rat.mul_zero, Rat.add_zero]
  · rw [if_neg h, if_neg h]
theorem partQ_end {p : LPd} {xs : List RF} {j : Nat} {es : List En} (hc : p.cols[j]? = some es) {k : Nat} (hk : es.length ≤ k) (i : Nat) : partQ p xs j es k i = timesQ p xs (j + 1) i := by
  unfold partQ
  rw [List.take_of_length_le hk, timesQ_succ, LPd.col_pos hc]
  rfl
theorem Sz_part {p : LPd} {xs : List RF} {K : Nat} (ok : p.Ok K) (hx : RsL K xs) (hK : 1 ≤ K) {j : Nat} {es : List En} (hc : p.cols[j]? = some es) (k i : Nat) : Sz (1 + (j + 1) * (2 * K + 1)) (partQ p xs j es k i) := by
  unfold partQ
  have h1 := Sz_times ok hx hK j i
  have h2 : Sz K (dQ (es.take k) (fun _ => 0) i) := Sz_dQ (fun a e he => (ok.2.2 j es hc).2 a e (by rw [List.getElem?_take] at he; split at he; exact he; cases he)) hK (fun _ => Sz_zero.mono hK) i
  exact (Sz_add h1 (Sz_mul (hx.qAt hK j) h2)).mono (by rw [Nat.add_mul j 1]; omega)
theorem timesQ_skip {p : LPd} {xs : List RF} {j : Nat} (h : qAt xs j = 0) (i : Nat) : timesQ p xs (j + 1) i = timesQ p xs j i := by
  rw [timesQ_succ, h, Rat.zero_mul, Rat.add_zero]
end Pl

def SumsAt (base : Nat) (m K : Nat) (f : Nat → Rat) (wr : World) (v : Value) : Prop :=
  ∃ fs, FrsO base wr v fs ∧ fs.length = m ∧ (∀ i, i < m → qAt fs i = f i) ∧ RsL K fs
theorem SumsAt.below {base m K : Nat} {f : Nat → Rat} {w w' : World} {v : Value} (h : SumsAt base m K f w v) (hb : Below w.heap.size w w') : SumsAt base m K f w' v := by
  obtain ⟨fs, h1, h2, h3, h4⟩ := h
  exact ⟨fs, h1.below hb, h2, h3, h4⟩
theorem SumsAt.to {base m K K' : Nat} {f g : Nat → Rat} {w : World} {v : Value} (h : SumsAt base m K f w v) (hK : K ≤ K') (hfg : ∀ i, i < m → f i = g i) : SumsAt base m K' g w v := by
  obtain ⟨fs, h1, h2, h3, h4⟩ := h
  exact ⟨fs, h1, h2, fun i hi => (h3 i hi).trans (hfg i hi), fun i e he => (h4 i e he).mono hK⟩
theorem SumsAt.at_ {base m K : Nat} {f : Nat → Rat} {w : World} {g n c : Nat} (h : SumsAt base m K f w (.slice (some ⟨g, 0, none⟩) n c)) {k : Nat} (hk : k < m) :
    ∃ a A n c A' n' c', (w.cell? ⟨g, k * 4, none⟩ = some (.bool (RF.num a).neg) ∧ w.cell? ⟨g, k * 4 + 1, none⟩ = some (.slice A n c) ∧ w.cell? ⟨g, k * 4 + 2, none⟩ = some (.bool (RF.den a).neg) ∧ w.cell? ⟨g, k * 4 + 3, none⟩ = some (.slice A' n' c')) ∧ (w.frozen? ⟨g, k * 4, none⟩ = false ∧ w.frozen? ⟨g, k * 4 + 1, none⟩ = false ∧ w.frozen? ⟨g, k * 4 + 2, none⟩ = false ∧ w.frozen? ⟨g, k * 4 + 3, none⟩ = false) ∧ FracM w (.agg #[.bool a.num.neg, .slice A n c, .bool a.den.neg, .slice A' n' c']) a ∧ a.q = f k ∧ a.Rs K := by
  obtain ⟨fs, h1, h2, h3, h4⟩ := h
  obtain ⟨a, ha⟩ := get_some (fs := fs) (i := k) (by omega)
  obtain ⟨x, y, z, u, hc, hf, hm⟩ := h1.at_ ha
  obtain ⟨A1, n1, k1, A2, n2, k2, hv, d1, d2⟩ := id hm
  simp at hv
  obtain ⟨rfl, rfl, rfl, rfl⟩ := hv
  exact ⟨a, A1, n1, k1, A2, n2, k2, hc, hf, hm, by rw [← h3 k hk, qAt_some ha], h4 k a ha⟩
theorem SumsAt.set_ {base m K : Nat} {f f' : Nat → Rat} {w : World} {g n c : Nat} (h : SumsAt base m K f w (.slice (some ⟨g, 0, none⟩) n c)) {k : Nat} (hk : k < m) {x y z u : Value} {q : Rat} (hm : FracM w (.agg #[x, y, z, u]) (canF q)) (hq : Sz K q) (h1 : f' k = q) (h2 : ∀ i, i < m → i ≠ k → f' i = f i) :
    ∀ W, W = ((((w.setCell ⟨g, k * 4, none⟩ x).setCell ⟨g, k * 4 + 1, none⟩ y).setCell ⟨g, k * 4 + 2, none⟩ z).setCell ⟨g, k * 4 + 3, none⟩ u) → SumsAt base m K f' W (.slice (some ⟨g, 0, none⟩) n c) ∧ KeepBut 47 w W := by
  rintro W rfl
  obtain ⟨fs, g1, g2, g3, g4⟩ := h
  obtain ⟨hO, hkp⟩ := g1.set_ (k := k) (by omega) hm
  refine ⟨⟨_, hO, by simpa using g2, fun i hi => ?_, fun i e he => ?_⟩, hkp⟩
  · by_cases hik : i = k
    · subst hik
      rw [qAt_some (List.getElem?_set_self (by omega)), canF_q, h1]
    · rw [h2 i hi hik, ← g3 i hi]
      unfold qAt
      rw [List.getElem?_set_ne (by omega)]
  · by_cases hik : i = k
    · subst hik
      rw [List.getElem?_set_self (by omega)] at he
      injection he with he
      rw [← he]
      exact hq.rs
    · rw [List.getElem?_set_ne (by omega)] at he
      exact g4 i e he
end Go.Proofs.YtpanffbgihhjnaaGreat

/- Walks: package proof: combines. -/
namespace Go.Proofs.YtpanffbgihhjnaaGreat
open Go.RowKit Pl
attribute [local go_sem ↓] Go.wp_at_zero Go.wp_at_succ

set_option maxRecDepth 100000 in
set_option maxHeartbeats 16000000 in
theorem combines_any (v1 v2 v3 : Value) (p : LPd) (xs rs : List RF) (K : Nat) (w : World) (h : LpM w v1 p) (h2 : FrsM w v2 xs) (h3 : FrsM w v3 rs) (ok : p.Ok K) (hx : RsL K xs) (hrs : RsL K rs) (hK : 1 ≤ K) (hz : lpErr p = 0) (hl : xs.length = p.cols.length) (hrl : p.right.length ≤ rs.length) (hs : 1 + (p.cols.length + 1) * (2 * K + 1) ≤ 34359738368) (hs2 : 2 * K ≤ 34359738368) :
    Calls Tryz.prog 71 #[v1, v2, v3] w fun e w' => e = .returned (.bool (combB p.right.length (timesQ p xs p.cols.length) rs)) ∧ Below w.heap.size w w' := by
  obtain ⟨z1, z2, z3, z4, z5⟩ := lpErr_zero hz
  obtain ⟨A, n, c, A', N, c', A'', m, c'', rfl, hc, hv, hr⟩ := id h
  obtain ⟨W, hW, hX, hbe⟩ := box_lp w (.slice A n c) (.slice A' N c') (.slice A'' m c'')
  obtain ⟨x0, x1, x2⟩ := hX.three
  obtain ⟨m1, m2, m3⟩ := hv.len
  obtain ⟨r1, r2, r3⟩ := hr.len
  obtain ⟨Ax, cx, rfl, hx1, hx2⟩ := h2.shape
  obtain ⟨Ar, cr, rfl, hr1, hr2⟩ := h3.shape
  rw [← r1] at z1 hrl ⊢
  rw [← m1] at hl hs ⊢
  have hmk := make_frac m (by omega)
  have HIN := Lib.hid z4
  have HZ5 := Lib.hid z5
  have HOK := Lib.hid ok
  have HX := Lib.hid hx
  have HRS := Lib.hid hrs
  have HXL := Lib.hid hl
  have HM1 := Lib.hid m1
  have HR1 := Lib.hid r1
  have HSN := Lib.hid hs
  rw [hl] at hx1
  generalize hrn : rs.length = RL at *
  have HRL := Lib.hid hrn
  rw [hl]
  have hNb : N ≤ 1200 := by rw [m1]; exact z2
  have hsz : W.heap.size = w.heap.size + 1 := by rw [← hW]; simp
  have hb1 := below_new W (.cells (zfc m) 47)
  have hS0 := FrsO.zeros W m (by unfold maxLen; omega)
  rw [hsz] at hS0
  have hST : SumsAt w.heap.size m (1 + (N + 1) * (2 * K + 1)) (timesQ p xs 0) (W.alloc (.cells (zfc m) 47)) (.slice (some ⟨w.heap.size + 1, 0, none⟩) m m) := by
    obtain ⟨cs, o1, o2⟩ := hS0
    exact ⟨_, ⟨cs, row_mono o1 (by omega), o2⟩, by simp, fun i _ => by rw [qAt_zeros]; rfl, RsL_zeros _ _⟩
  have HST := Lib.hid hST
  have hX2 := hX.later hb1
  have hbe2 := below_then hbe hb1 hbe.size
  clear hz z2 z3 z4 z5 ok hx hrs m1 r1 hrn hc hr hs hS0 hST hb1 hbe hX hl
  go_enter Tryz.func71, Tryz.ntmps71
  go_wp2
  clear hW hmk x0 x1 x2
  generalize W.alloc (.cells (zfc m) 47) = W2 at *
  go_loopw [21] (fun i wr => ∃ j : Nat, j ≤ N ∧ i = .int .i64 j ∧ Below w.heap.size w wr ∧ Bk wr w.heap.size 26 [.slice A n c, .slice A' N c', .slice A'' m c''] ∧ SumsAt w.heap.size m (1 + (N + 1) * (2 * K + 1)) (timesQ p xs j) wr (.slice (some ⟨w.heap.size + 1, 0, none⟩) m m)) (fun i _ => N - (intOf i).toNat)
  case atStart => exact ⟨0, by omega, rfl, hbe2, hX2, HST.out⟩
  case round =>
    clear hbe2 hX2 HST
    obtain ⟨j, hj, rfl, hbe, hX, hS⟩ := hrel
    rcases Nat.lt_or_ge j N with hjl | hjl
    · obtain ⟨es, hes⟩ := get_someC (cs := p.cols) (i := j) (by rw [← HM1.out]; exact hjl)
      obtain ⟨bc, offc, Ac, cc, rfl, hltc, hcell0, hvm0⟩ := hv.elem (Below.refl _ _) hes
      have hcellc := cell_keep hbe hcell0
      obtain ⟨f, hf⟩ := get_some (fs := xs) (i := j) (by rw [HXL.out]; exact hjl)
      obtain ⟨b, off, A1, n1, k1, A2, n2, k2, rfl, hlt, hcA, hmf⟩ := h2.elem hbe hf
      have HQ := Lib.hid (qAt_some hf)
      have hsf0 := HX.out j f hf
      have HES := Lib.hid hes
      have hj1 : (j : Int) < N := by omega
      obtain ⟨x1, x2, x3, x4⟩ := hcA
      clear hes
      go_wp2_with fail
      refine (signF_any _ f _ hmf).mono ?_
      rintro _ w2 ⟨rfl, hb2⟩
      have hX2 := hX.later hb2
      have hbe2 := below_then hbe hb2 hbe.size
      have hS2 := hS.below hb2
      clear hX hbe hS hmf hcell0 x1 x2 x3 x4 hcellc hb2
      by_cases hq : f.q = 0
      · have hsg : qs f.q = 0 := qs_zero.2 hq
        have HSK : Hid (∀ i, i < m → timesQ p xs j i = timesQ p xs (j + 1) i) := Lib.hid fun i _ => (timesQ_skip (by rw [HQ.out]; exact hq) i).symm
        clear hq
        go_wp2
        go_roundw
        case rel => exact ⟨j + 1, by omega, by go_num, hbe2, hX2, hS2.to (Nat.le_refl _) HSK.out⟩
        case measure => simp [intOf]; omega
      · have hsg : (qs f.q == 0) = false := by simpa using fun h => hq (qs_zero.1 h)
        have hS2' : SumsAt w.heap.size m (1 + (N + 1) * (2 * K + 1)) (partQ p xs j es 0) w2 (.slice (some ⟨w.heap.size + 1, 0, none⟩) m m) := hS2.to (Nat.le_refl _) fun i _ => (partQ_zero p xs j es i).symm
        obtain ⟨v1, v2, v3⟩ := hvm0.len
        clear hq hS2
        generalize hel : es.length = L at *
        have HEL := Lib.hid hel
        clear hel v1
        go_wp2
        go_loopw [34] (fun i wr => ∃ k : Nat, k ≤ L ∧ i = .int .i64 k ∧ Below w.heap.size w wr ∧ Bk wr w.heap.size 26 [.slice A n c, .slice (some ⟨bc, offc, none⟩) N c', .slice A'' m c''] ∧ SumsAt w.heap.size m (1 + (N + 1) * (2 * K + 1)) (partQ p xs j es k) wr (.slice (some ⟨w.heap.size + 1, 0, none⟩) m m)) (fun i _ => L - (intOf i).toNat)
        case atStart => exact ⟨0, by omega, rfl, hbe2, hX2, hS2'⟩
        case round =>
          clear hbe2 hX2 hS2'
          obtain ⟨k, hk, rfl, hbe, hX, hS⟩ := hrel
          rcases Nat.lt_or_ge k L with hkl | hkl
          · obtain ⟨e, he⟩ := get_someE (es := es) (i := k) (by rw [HEL.out]; exact hkl)
            obtain ⟨be, offe, A3, n3, k3, A4, n4, k4, rfl, hlte, hcE, hme⟩ := hvm0.elem hbe he
            obtain ⟨i0, i1⟩ := HIN.out j es HES.out k e he
            obtain ⟨d, hd⟩ := Int.eq_ofNat_of_zero_le i0
            have HPN := Lib.hid (partQ_next (p := p) (xs := xs) (j := j) he (HZ5.out j es HES.out).2)
            have hse0 := (HOK.out.2.2 j es HES.out).2 k e he
            have szN := Lib.hid fun i => Sz_part HOK.out HX.out hK HES.out (k + 1) i
            obtain ⟨ei, ef⟩ := e
            simp only at *
            subst hd
            have hdm : d < m := by rw [HR1.out]; omega
            obtain ⟨y0, y1, y2, y3, y4⟩ := hcE
            obtain ⟨W1, hW1, hV, hbn⟩ := box_en wr (.int .i64 (d : Int)) (.bool ef.num.neg) (.slice A3 n3 k3) (.bool ef.den.neg) (.slice A4 n4 k4)
            have hbe1 := below_then hbe hbn hbe.size
            have hS1 := hS.below hbn
            have hX1 := hX.later hbn
            obtain ⟨b2, off2, A1, n1, k1, A2, n2, k2, hA, _, hcA1, hmf1⟩ := h2.elem hbe1 hf
            injection hA with hA
            injection hA with hA1 hA2
            subst hA1 hA2
            obtain ⟨a, B1, m1, d1, B2, m2, d2, hcO, hfO, hma, haq, hsa0⟩ := hS1.at_ hdm
            have hme1 := hme.below hbn
            have hsN := HSN.out
            have hsf := hsf0.sm (by omega)
            have hse := hse0.sm (by omega)
            have hsa := hsa0.sm (by omega)
            have szP : (canF (f.q * ef.q)).Sm := ((Sz_mul (hsf0.sz hK) (hse0.sz hK)).sh (by omega)).sm
            have HV : Hid (a.q + (canF (f.q * ef.q)).q = partQ p xs j es (k + 1) d) := Lib.hid (by rw [canF_q, haq, HPN.out d, if_pos rfl, HQ.out])
            have hd1 : (d : Int) < m := by omega
            have hk1 : (k : Int) < L := by omega
            clear hX hbe hS hme haq he hsN
            go_wp2_with fail
            clear hW1
            refine wp_region_noPanic ?_
            refine region_F (S := fun w' => (w'.cell? ⟨w.heap.size + 1, d * 4, none⟩ = some (.bool a.num.neg) ∧ w'.cell? ⟨w.heap.size + 1, d * 4 + 1, none⟩ = some (.slice B1 m1 d1) ∧ w'.cell? ⟨w.heap.size + 1, d * 4 + 2, none⟩ = some (.bool a.den.neg) ∧ w'.cell? ⟨w.heap.size + 1, d * 4 + 3, none⟩ = some (.slice B2 m2 d2)) ∧ (w'.cell? ⟨wr.heap.size, 0, none⟩ = some (.int .i64 (d : Int)) ∧ w'.cell? ⟨wr.heap.size, 1, none⟩ = some (.bool ef.num.neg) ∧ w'.cell? ⟨wr.heap.size, 2, none⟩ = some (.slice A3 n3 k3) ∧ w'.cell? ⟨wr.heap.size, 3, none⟩ = some (.bool ef.den.neg) ∧ w'.cell? ⟨wr.heap.size, 4, none⟩ = some (.slice A4 n4 k4)) ∧ (w'.cell? ⟨b, off + j * 4, none⟩ = some (.bool f.num.neg) ∧ w'.cell? ⟨b, off + j * 4 + 1, none⟩ = some (.slice A1 n1 k1) ∧ w'.cell? ⟨b, off + j * 4 + 2, none⟩ = some (.bool f.den.neg) ∧ w'.cell? ⟨b, off + j * 4 + 3, none⟩ = some (.slice A2 n2 k2))) (n := 17) (by kernel_rfl) ?_ (fun hHeld => ?_)
            · exact ⟨hcO, hV.drew.five, hcA1⟩
            refine anyF_take (i := 0) (v := ?_) rfl (by kernel_rfl) (by kernel_rfl) (by kernel_rfl) (by kernel_rfl) (fun _ _ _ h => h) (Or.inl ⟨by rfl, ?y1⟩) (by assumption) ?_
            case y1 => (intro _ hSw; (try dsimp only at hSw); go_simp; (try with_reducible rfl))
            (try simp only [Act.put, pu1, pu2, pu3, pu4, pu5, pu6])
            refine anyF_take (i := 1) (v := ?_) rfl (by kernel_rfl) (by kernel_rfl) (by kernel_rfl) (by kernel_rfl) (fun _ _ _ h => h) (Or.inl ⟨by rfl, ?y2⟩) (by assumption) ?_
            case y2 => (intro _ hSw; (try dsimp only at hSw); go_simp; (try with_reducible rfl))
            (try simp only [Act.put, pu1, pu2, pu3, pu4, pu5, pu6])
            refine anyF_take (i := 2) (v := ?_) rfl (by kernel_rfl) (by kernel_rfl) (by kernel_rfl) (by kernel_rfl) (fun _ _ _ h => h) (Or.inl ⟨by rfl, ?y3⟩) (by assumption) ?_
            case y3 => (intro _ hSw; (try dsimp only at hSw); go_simp; (try with_reducible rfl))
            (try simp only [Act.put, pu1, pu2, pu3, pu4, pu5, pu6])
            refine anyF_take (i := 3) (v := ?_) rfl (by kernel_rfl) (by kernel_rfl) (by kernel_rfl) (by kernel_rfl) (fun _ _ _ h => h) (Or.inl ⟨by rfl, ?y4⟩) (by assumption) ?_
            case y4 => (intro _ hSw; (try dsimp only at hSw); go_simp; (try with_reducible rfl))
            (try simp only [Act.put, pu1, pu2, pu3, pu4, pu5, pu6])
            refine anyF_take (i := 4) (v := ?_) rfl (by kernel_rfl) (by kernel_rfl) (by kernel_rfl) (by kernel_rfl) (fun _ _ _ h => h) (Or.inl ⟨by rfl, ?y5⟩) (by assumption) ?_
            case y5 => (intro _ hSw; (try dsimp only at hSw); go_simp; (try with_reducible rfl))
            (try simp only [Act.put, pu1, pu2, pu3, pu4, pu5, pu6])
            refine anyF_take (i := 5) (v := ?_) rfl (by kernel_rfl) (by kernel_rfl) (by kernel_rfl) (by kernel_rfl) (fun _ _ _ h => h) (Or.inl ⟨by rfl, ?y6⟩) (by assumption) ?_
            case y6 => (intro _ hSw; (try dsimp only at hSw); go_simp; (try with_reducible rfl))
            (try simp only [Act.put, pu1, pu2, pu3, pu4, pu5, pu6])
            refine anyF_take (i := 6) (v := ?_) rfl (by kernel_rfl) (by kernel_rfl) (by kernel_rfl) (by kernel_rfl) (fun _ _ _ h => h) (Or.inl ⟨by rfl, ?y7⟩) (by assumption) ?_
            case y7 => (intro _ hSw; (try dsimp only at hSw); go_simp; (try with_reducible rfl))
            (try simp only [Act.put, pu1, pu2, pu3, pu4, pu5, pu6])
            refine anyF_take (i := 7) (v := ?_) rfl (by kernel_rfl) (by kernel_rfl) (by kernel_rfl) (by kernel_rfl) (fun _ _ _ h => h) (Or.inl ⟨by rfl, ?y8⟩) (by assumption) ?_
            case y8 => (intro _ hSw; (try dsimp only at hSw); go_simp; (try with_reducible rfl))
            (try simp only [Act.put, pu1, pu2, pu3, pu4, pu5, pu6])
            refine anyF_take (i := 8) (v := ?_) rfl (by kernel_rfl) (by kernel_rfl) (by kernel_rfl) (by kernel_rfl) (fun _ _ _ h => h) (Or.inl ⟨by rfl, ?y9⟩) (by assumption) ?_
            case y9 => (intro _ hSw; (try dsimp only at hSw); go_simp; (try with_reducible rfl))
            (try simp only [Act.put, pu1, pu2, pu3, pu4, pu5, pu6])
            refine anyF_take (i := 9) (v := ?_) rfl (by kernel_rfl) (by kernel_rfl) (by kernel_rfl) (by kernel_rfl) (fun _ _ _ h => h) (Or.inl ⟨by rfl, ?y10⟩) (by assumption) ?_
            case y10 => (intro _ hSw; (try dsimp only at hSw); go_simp; (try with_reducible rfl))
            (try simp only [Act.put, pu1, pu2, pu3, pu4, pu5, pu6])
            refine anyF_take (i := 10) (v := ?_) rfl (by kernel_rfl) (by kernel_rfl) (by kernel_rfl) (by kernel_rfl) (fun _ _ _ h => h) (Or.inl ⟨by rfl, ?y11⟩) (by assumption) ?_
            case y11 => (intro _ hSw; (try dsimp only at hSw); go_simp; (try with_reducible rfl))
            (try simp only [Act.put, pu1, pu2, pu3, pu4, pu5, pu6])
            refine anyF_take (i := 11) (v := ?_) rfl (by kernel_rfl) (by kernel_rfl) (by kernel_rfl) (by kernel_rfl) (fun _ _ _ h => h) (Or.inl ⟨by rfl, ?y12⟩) (by assumption) ?_
            case y12 => (intro _ hSw; (try dsimp only at hSw); go_simp; (try with_reducible rfl))
            (try simp only [Act.put, pu1, pu2, pu3, pu4, pu5, pu6])
            refine anyF_take (i := 12) (v := ?_) rfl (by kernel_rfl) (by kernel_rfl) (by kernel_rfl) (by kernel_rfl) (fun _ _ _ h => h) (Or.inl ⟨by rfl, ?y13⟩) (by assumption) ?_
            case y13 => (intro _ hSw; (try dsimp only at hSw); go_simp; (try with_reducible rfl))
            (try simp only [Act.put, pu1, pu2, pu3, pu4, pu5, pu6])
            refine anyF_take (i := 13) (v := ?_) rfl (by kernel_rfl) (by kernel_rfl) (by kernel_rfl) (by kernel_rfl) (fun _ _ _ h => h) (Or.inl ⟨by rfl, ?y14⟩) (by assumption) ?_
            case y14 => (intro _ hSw; (try dsimp only at hSw); go_simp; (try with_reducible rfl))
            (try simp only [Act.put, pu1, pu2, pu3, pu4, pu5, pu6])
            refine anyF_step (i := 14) (by kernel_rfl) rfl (fun KR hKR => ?_)
            go_simp
            with_reducible refine (mulF_any _ _ f ef _ (hmf1.keep (Keep.drew _)) (hme1.keep (Keep.drew _)) hsf hse).mono ?_
            rintro _ w8 ⟨v8, rfl, e8, hb8⟩
            refine hKR.out _ _ ?_ (fun hHeld => ?_)
            · exact ⟨cell4_later hb8 hcO, (hV.drew.later hb8).five, cell4_later hb8 hcA1⟩
            clear hKR KR
            (try simp only [Act.put, pu1, pu2, pu3, pu4, pu5, pu6])
            refine anyF_step (i := 15) (by kernel_rfl) rfl (fun KR hKR => ?_)
            go_simp
            with_reducible refine (addF_any _ _ a (canF (f.q * ef.q)) _ ((hma.keep (Keep.drew _)).below hb8) e8 hsa szP).mono ?_
            rw [HV.out]
            rintro _ w9 ⟨v9, rfl, e9, hb9⟩
            obtain ⟨E, l9, k9, E', l9', k9', rfl, _, _⟩ := id e9
            have hS9 := ((hS1.below (below_drew' _)).below hb8).below hb9
            obtain ⟨_, _, _, _, _, _, _, ⟨c0, c1, c2, c3⟩, ⟨f0, f1, f2, f3⟩, _⟩ := hS9.at_ hdm
            refine hKR.out _ _ ?_ (fun hHeld => ?_)
            · exact ⟨cell4_later hb9 (cell4_later hb8 hcO), ((hV.drew.later hb8).later hb9).five, cell4_later hb9 (cell4_later hb8 hcA1)⟩
            clear hKR KR
            (try simp only [Act.put, pu1, pu2, pu3, pu4, pu5, pu6])
            refine anyF_take (i := 16) (v := ?_) rfl (by kernel_rfl) (by kernel_rfl) (by kernel_rfl) (by kernel_rfl) (fun _ _ _ h => h) (Or.inl ⟨by rfl, ?y15⟩) (by assumption) ?_
            case y15 => (intro _ hSw; (try dsimp only at hSw); go_simp; (try with_reducible rfl))
            (try simp only [Act.put, pu1, pu2, pu3, pu4, pu5, pu6])
            refine anyF_last (i := 17) (by kernel_rfl) rfl (by decide) (fun KR hKR => ?_)
            go_simp
            refine hKR.out _ _ ?_
            clear hKR KR
            (try simp only [Act.put, pu1, pu2, pu3, pu4, pu5, pu6])
            refine anyF_done (by kernel_rfl) (NoPanic.normal ?_) _
            obtain ⟨hS3, hk3⟩ := hS9.set_ (f' := partQ p xs j es (k + 1)) hdm e9 ((szN.out d).mono (by have := Nat.mul_le_mul_right (2 * K + 1) (show j + 1 ≤ N + 1 by omega); omega)) rfl (fun i _ hi => by rw [HPN.out i, if_neg (by omega)]) _ rfl
            have hb3 := below_then hbe1.drew hb8 hbe1.size
            have hb4 := below_set4' (below_then hb3 hb9 hb3.size) (show w.heap.size ≤ w.heap.size + 1 by omega) (d * 4) (d * 4 + 1) (d * 4 + 2) (d * 4 + 3)
            have hX4 := hk3.bk (((hX1.drew).later hb8).later hb9) (by decide)
            go_wp2
            go_roundw
            case rel => exact ⟨k + 1, by omega, by go_num, hb4 _ _ _ _, hX4, hS3⟩
            case measure => simp [intOf]; omega
          · have HPE : Hid (∀ i, i < m → partQ p xs j es k i = timesQ p xs (j + 1) i) := Lib.hid fun i _ => partQ_end HES.out (by rw [HEL.out]; exact hkl) i
            go_wp2
            go_roundw
            case rel => exact ⟨j + 1, by omega, by go_num, hbe, hX, hS.to (Nat.le_refl _) HPE.out⟩
            case measure => simp [intOf]; omega
    · obtain rfl : j = N := by omega
      clear hj hjl
      go_wp2
      go_loopw [59] (fun i wr => ∃ k : Nat, k ≤ m ∧ i = .int .i64 k ∧ Below w.heap.size w wr ∧ SumsAt w.heap.size m (1 + (j + 1) * (2 * K + 1)) (timesQ p xs j) wr (.slice (some ⟨w.heap.size + 1, 0, none⟩) m m) ∧ ∀ i, i < k → timesQ p xs j i = qAt rs i) (fun i _ => m - (intOf i).toNat)
      case atStart => exact ⟨0, by omega, rfl, hbe, hS, fun i hi => by omega⟩
      case round =>
        clear hbe hX hS
        obtain ⟨k, hk, rfl, hbe, hS, hz⟩ := hrel
        have HZ := Lib.hid hz
        clear hz
        rcases Nat.lt_or_ge k m with hkl | hkl
        · obtain ⟨f, hf⟩ := get_some (fs := rs) (i := k) (by rw [HRL.out]; omega)
          obtain ⟨a, B1, m1, d1, B2, m2, d2, hcO, hfO, hma, haq, hsa0⟩ := hS.at_ hkl
          obtain ⟨o1, o2, o3, o4⟩ := hcO
          obtain ⟨W1, hW1, hV, hbn⟩ := boxF1 wr (.bool a.num.neg) (.slice B1 m1 d1) (.bool a.den.neg) (.slice B2 m2 d2)
          have hbe1 := below_then hbe hbn hbe.size
          have hS1 := hS.below hbn
          have hma1 := hma.below hbn
          obtain ⟨b, off, A1, n1, k1, A2, n2, k2, rfl, hlt, hcA1, hmf1⟩ := h3.elem hbe1 hf
          have hsN := HSN.out
          have hsa := hsa0.sm (by omega)
          have hsf := (HRS.out k f hf).sm (by omega)
          have HQ := Lib.hid (qAt_some hf)
          have HAQ := Lib.hid haq
          have hk1 : (k : Int) < m := by omega
          have hk2 : (k : Int) < RL := by omega
          clear hf haq hS hbe hma hsN
          go_wp2_with fail
          clear hW1
          refine wp_region_noPanic ?_
          refine region_F (S := fun w' => (w'.cell? ⟨wr.heap.size, 0, none⟩ = some (.bool a.num.neg) ∧ w'.cell? ⟨wr.heap.size, 1, none⟩ = some (.slice B1 m1 d1) ∧ w'.cell? ⟨wr.heap.size, 2, none⟩ = some (.bool a.den.neg) ∧ w'.cell? ⟨wr.heap.size, 3, none⟩ = some (.slice B2 m2 d2)) ∧ (w'.cell? ⟨b, off + k * 4, none⟩ = some (.bool f.num.neg) ∧ w'.cell? ⟨b, off + k * 4 + 1, none⟩ = some (.slice A1 n1 k1) ∧ w'.cell? ⟨b, off + k * 4 + 2, none⟩ = some (.bool f.den.neg) ∧ w'.cell? ⟨b, off + k * 4 + 3, none⟩ = some (.slice A2 n2 k2))) (n := 7) (by kernel_rfl) ?_ (fun hHeld => ?_)
          · exact ⟨hV.drew.four, hcA1⟩
          refine anyF_take (i := 0) (v := ?_) rfl (by kernel_rfl) (by kernel_rfl) (by kernel_rfl) (by kernel_rfl) (fun _ _ _ h => h) (Or.inl ⟨by rfl, ?y16⟩) (by assumption) ?_
          case y16 => (intro _ hSw; (try dsimp only at hSw); go_simp; (try with_reducible rfl))
          (try simp only [Act.put, pu1, pu2, pu3, pu4, pu5, pu6])
          refine anyF_take (i := 1) (v := ?_) rfl (by kernel_rfl) (by kernel_rfl) (by kernel_rfl) (by kernel_rfl) (fun _ _ _ h => h) (Or.inl ⟨by rfl, ?y17⟩) (by assumption) ?_
          case y17 => (intro _ hSw; (try dsimp only at hSw); go_simp; (try with_reducible rfl))
          (try simp only [Act.put, pu1, pu2, pu3, pu4, pu5, pu6])
          refine anyF_take (i := 2) (v := ?_) rfl (by kernel_rfl) (by kernel_rfl) (by kernel_rfl) (by kernel_rfl) (fun _ _ _ h => h) (Or.inl ⟨by rfl, ?y18⟩) (by assumption) ?_
          case y18 => (intro _ hSw; (try dsimp only at hSw); go_simp; (try with_reducible rfl))
          (try simp only [Act.put, pu1, pu2, pu3, pu4, pu5, pu6])
          refine anyF_take (i := 3) (v := ?_) rfl (by kernel_rfl) (by kernel_rfl) (by kernel_rfl) (by kernel_rfl) (fun _ _ _ h => h) (Or.inl ⟨by rfl, ?y19⟩) (by assumption) ?_
          case y19 => (intro _ hSw; (try dsimp only at hSw); go_simp; (try with_reducible rfl))
          (try simp only [Act.put, pu1, pu2, pu3, pu4, pu5, pu6])
          refine anyF_take (i := 4) (v := ?_) rfl (by kernel_rfl) (by kernel_rfl) (by kernel_rfl) (by kernel_rfl) (fun _ _ _ h => h) (Or.inl ⟨by rfl, ?y20⟩) (by assumption) ?_
          case y20 => (intro _ hSw; (try dsimp only at hSw); go_simp; (try with_reducible rfl))
          (try simp only [Act.put, pu1, pu2, pu3, pu4, pu5, pu6])
          refine anyF_step (i := 5) (by kernel_rfl) rfl (fun KR hKR => ?_)
          go_simp
          with_reducible refine (compareF_any _ _ a f _ (hma1.keep (Keep.drew _)) (hmf1.keep (Keep.drew _)) hsa hsf).mono ?_
          rintro _ w8 ⟨rfl, hb8⟩
          refine hKR.out _ _ ?_ (fun hHeld => ?_)
          · exact ⟨(hV.drew.later hb8).four, cell4_later hb8 hcA1⟩
          clear hKR KR
          (try simp only [Act.put, pu1, pu2, pu3, pu4, pu5, pu6])
          refine anyF_take (i := 6) (v := ?_) rfl (by kernel_rfl) (by kernel_rfl) (by kernel_rfl) (by kernel_rfl) (fun _ _ _ h => h) (Or.inl ⟨by rfl, ?y21⟩) (by assumption) ?_
          case y21 => (intro _ hSw; (try dsimp only at hSw); go_simp; (try with_reducible rfl))
          (try simp only [Act.put, pu1, pu2, pu3, pu4, pu5, pu6])
          refine anyF_done (by kernel_rfl) (NoPanic.normal ?_) _
          have hbe8 := below_then hbe1.drew hb8 hbe1.size
          by_cases hne : a.q = f.q
          · have hsg : qs (a.q - f.q) = 0 := qs_sub_zero.2 hne
            have HE : Hid (timesQ p xs j k = qAt rs k) := Lib.hid (by rw [← HAQ.out, HQ.out, hne])
            clear hne
            go_wp2
            go_roundw
            case rel => exact ⟨k + 1, by omega, by go_num, hbe8, (hS1.below (below_drew' _)).below hb8, fun i hi => by
              rcases Nat.eq_or_lt_of_le (Nat.le_of_lt_succ hi) with e | e
              · subst e; exact HE.out
              · exact HZ.out i e⟩
            case measure => simp [intOf]; omega
          · have hsg : (qs (a.q - f.q) != 0) = true := by simpa using fun h => hne (qs_sub_zero.1 h)
            have HE : Hid (combB m (timesQ p xs j) rs = false) := Lib.hid (combB_false hkl (by rw [← HAQ.out, HQ.out]; exact hne))
            clear hne
            go_wp2
            go_ret
            exact ⟨ret_bool HE.out, hbe8⟩
        · go_wp2
          go_ret
          exact ⟨ret_bool (combB_true fun i hi => HZ.out i (by omega)), hbe⟩
end Go.Proofs.YtpanffbgihhjnaaGreat

/- Plain: sums; the bound that dual values prove. -/
namespace Go.Proofs.YtpanffbgihhjnaaGreat
open Go.RowKit Pl
namespace Pl
theorem sumN_add (f g : Nat → Rat) (n : Nat) : sumN (fun i => f i + g i) n = sumN f n + sumN g n := by
  induction n with
  | zero => simp [sumN_zero, Rat.add_zero]
  | succ n ih => rw [sumN_succ, sumN_succ, sumN_succ, ih]; grind
theorem sumN_mul (c : Rat) (f : Nat → Rat) (n : Nat) : sumN (fun i => c * f i) n = c * sumN f n := by
  induction n with
  | zero => simp [sumN_zero, Rat.mul_zero]
  | succ n ih => rw [sumN_succ, sumN_succ, ih]; grind
theorem sumN_const0 (n : Nat) : sumN (fun _ => 0) n = 0 := by
  induction n with
  | zero => rfl
  | succ n ih => rw [sumN_succ, ih, Rat.add_zero]
theorem sumN_swap (f : Nat → Nat → Rat) (n m : Nat) : sumN (fun i => sumN (fun j => f i j) m) n = sumN (fun j => sumN (fun i => f i j) n) m := by
  induction n with
  | zero => simp only [sumN_zero]; rw [sumN_const0]
  | succ n ih =>
    rw [sumN_succ, ih, ← sumN_add]
    rfl
theorem sumN_le {f g : Nat → Rat} {n : Nat} (h : ∀ i, i < n → f i ≤ g i) : sumN f n ≤ sumN g n := by
  induction n with
  | zero => exact Rat.le_refl
  | succ n ih =>
    have h1 := ih fun i hi => h i (by omega)
    have h2 := h n (by omega)
    rw [sumN_succ, sumN_succ]
    grind
theorem sumN_one {n k : Nat} (hk : k < n) (c : Rat) : sumN (fun i => if i = k then c else 0) n = c := by
  induction n with
  | zero => omega
  | succ n ih =>
    rw [sumN_succ]
    by_cases h : n = k
    · subst h
      rw [if_pos rfl, sumN_congr (g := fun _ => 0) (fun i hi => if_neg (by omega)), sumN_const0, Rat.zero_add]
    · rw [if_neg h, ih (by omega), Rat.add_zero]
def dotC (ys : List RF) (f : Nat → Rat) (m : Nat) : Rat := sumN (fun i => qAt ys i * f i) m
theorem alongQ_part {es : List En} {ys : List RF} {m : Nat} (hin : inR m es) (hinc : Inc none es) : ∀ k, k ≤ es.length → alongQ es ys k = dotC ys (dQ (es.take k) fun _ => 0) m := by
  intro k
  induction k with
  | zero =>
    intro _
    show 0 = _
    unfold dotC
    rw [sumN_congr (g := fun _ => 0) (fun i _ => by simp [dQ, Rat.mul_zero]), sumN_const0]
  | succ k ih =>
    intro hk
    obtain ⟨e, he⟩ : ∃ e, es[k]? = some e := ⟨es[k], List.getElem?_eq_getElem (by omega)⟩
    obtain ⟨h0, h1⟩ := hin k e he
    obtain ⟨d, hd⟩ := Int.eq_ofNat_of_zero_le h0
    have hdm : d < m := by omega
    rw [alongQ_succ he, ih (by omega), dQ_take he]
    have hf : dQ (es.take k) (fun _ => 0) d = 0 := dQ_fresh hinc he hd
    have : dotC ys (fun i => if e.idx = (i : Int) then e.f.q else dQ (es.take k) (fun _ => 0) i) m = sumN (fun i => qAt ys i * dQ (es.take k) (fun _ => 0) i + if i = d then qAt ys d * e.f.q else 0) m := sumN_congr fun i _ => by
      show qAt ys i * (if e.idx = (i : Int) then e.f.q else dQ (es.take k) (fun _ => 0) i) = _
      by_cases hi : i = d
      · subst hi; rw [if_pos hd, if_pos rfl, hf]; grind
      · rw [if_neg (show ¬ e.idx = (i : Int) by omega), if_neg hi, Rat.add_zero]
    rw [this, sumN_add, sumN_one hdm]
    unfold dotC
    rw [hd, Int.toNat_natCast, Rat.mul_comm e.f.q]
theorem alongQ_all {es : List En} {ys : List RF} {m : Nat} (hin : inR m es) (hinc : Inc none es) : alongQ es ys es.length = dotC ys (colQ es) m := by
  rw [alongQ_part hin hinc _ (Nat.le_refl _), List.take_length]; rfl
def lowTo (p : LPd) (ys : List RF) (k : Nat) : Prop := ∀ j, j < k → dotC ys (p.col (j : Int)) p.right.length ≤ qAt p.cost j
instance (p : LPd) (ys : List RF) (k : Nat) : Decidable (lowTo p ys k) := by unfold lowTo; infer_instance
def lowB (p : LPd) (ys : List RF) : Bool := decide (lpErr p = 0) && (decide (ys.length = p.right.length) && decide (lowTo p ys p.cols.length))
theorem lowB_1 {p : LPd} {ys : List RF} (h : lpErr p ≠ 0) : lowB p ys = false := by simp [lowB, h]
theorem lowB_2 {p : LPd} {ys : List RF} (h : ys.length ≠ p.right.length) : lowB p ys = false := by simp [lowB, h]
theorem lowB_3 {p : LPd} {ys : List RF} {j : Nat} (hj : j < p.cols.length) (h : ¬ dotC ys (p.col (j : Int)) p.right.length ≤ qAt p.cost j) : lowB p ys = false := by
  have : ¬ lowTo p ys p.cols.length := fun g => h (g j hj)
  simp [lowB, this]
theorem lowB_4 {p : LPd} {ys : List RF} (h1 : lpErr p = 0) (h2 : ys.length = p.right.length) (h : lowTo p ys p.cols.length) : lowB p ys = true := by
  unfold lowB
  rw [decide_eq_true h1, decide_eq_true h2, decide_eq_true h]; rfl
theorem lowB_true {p : LPd} {ys : List RF} (h : lowB p ys = true) : lpErr p = 0 ∧ ys.length = p.right.length ∧ lowTo p ys p.cols.length := by
  simpa [lowB] using h
theorem lowTo_zero (p : LPd) (ys : List RF) : lowTo p ys 0 := fun j h => by omega
theorem lowTo_next {p : LPd} {ys : List RF} {k : Nat} (h : lowTo p ys k) (h1 : dotC ys (p.col (k : Int)) p.right.length ≤ qAt p.cost k) : lowTo p ys (k + 1) := fun j hj => by
  rcases Nat.eq_or_lt_of_le (Nat.le_of_lt_succ hj) with e | e
  · subst e; exact h1
  · exact h j e
theorem qs_neg {q : Rat} : qs q < 0 ↔ q < 0 := by
  have h : qs q < 0 ↔ q.num < 0 := by unfold qs sgn; split <;> rename_i h <;> (try split) <;> omega
  rw [h, ← Rat.not_le, ← Rat.num_nonneg]; omega
theorem qs_pos {q : Rat} : 0 < qs q ↔ 0 < q := by
  have h : 0 < qs q ↔ 0 < q.num := by unfold qs sgn; split <;> rename_i h <;> (try split) <;> omega
  have h2 : q.num = 0 ↔ q = 0 := Rat.num_eq_zero
  have h3 : 0 ≤ q.num ↔ 0 ≤ q := Rat.num_nonneg
  rw [h]
  constructor
  · intro g
    have : q ≠ 0 := fun e => by have := h2.2 e; omega
    have := h3.1 (by omega)
    grind
  · intro g
    have h4 : q.num ≠ 0 := fun e => by have := h2.1 e; grind
    have := h3.2 (by grind)
    omega
theorem qs_le {q : Rat} : qs q ≤ 0 ↔ q ≤ 0 := by
  have := @qs_pos q
  rw [← Rat.not_lt, ← this]; omega
theorem qs_sub_pos {a b : Rat} : 0 < qs (a - b) ↔ ¬ a ≤ b := by rw [qs_pos]; grind
theorem weak {p : LPd} {xs ys : List RF} (hlow : lowTo p ys p.cols.length) (hx : ∀ j, j < p.cols.length → 0 ≤ qAt xs j) (hr : ∀ i, i < p.right.length → timesQ p xs p.cols.length i = qAt p.right i) :
    dotQ ys p.right p.right.length ≤ dotQ p.cost xs p.cols.length := by
  have h1 : dotQ ys p.right p.right.length = sumN (fun i => sumN (fun j => qAt ys i * (qAt xs j * p.col (j : Int) i)) p.cols.length) p.right.length := sumN_congr fun i hi => by
    show qAt ys i * qAt p.right i = _
    rw [← hr i hi, sumN_mul]; rfl
  rw [h1, sumN_swap]
  refine sumN_le fun j hj => ?_
  have h2 : sumN (fun i => qAt ys i * (qAt xs j * p.col (j : Int) i)) p.right.length = qAt xs j * dotC ys (p.col (j : Int)) p.right.length := by
    unfold dotC
    rw [← sumN_mul]
    exact sumN_congr fun i _ => by grind
  rw [h2, Rat.mul_comm (qAt p.cost j)]
  exact Rat.mul_le_mul_of_nonneg_left (hlow j hj) (hx j hj)
end Pl
end Go.Proofs.YtpanffbgihhjnaaGreat

/- A region that draws its order, walked in one order: what only reads and yields may float, all else must come up alone. While it runs nothing older than the region changes, but by its last operations. -/
namespace Go.Proofs.YtpanffbgihhjnaaGreat
open Go.RowKit Pl

def floats (o : Oper) : Bool := match o.op with
  | .move .. => true
  | .assign .. => true
  | .pick .. => true
  | .load .. => true
  | .binOp .. => true
  | .unOp .. => true
  | .convert .. => true
  | .fieldAddr .. => true
  | .field .. => true
  | .indexAddr .. => true
  | .index .. => true
  | .extract .. => true
  | .slice .. => true
  | .nilCheck .. => true
  | .build .. => true
  | .call c => match c.callee with | .builtin .len => true | _ => false
  | _ => false
def pures (o : Oper) : Bool := match o.op with
  | .move .. => true
  | .assign .. => true
  | .pick .. => true
  | .binOp .. => true
  | .unOp .. => true
  | .fieldAddr .. => true
  | .field .. => true
  | .indexAddr .. => true
  | .extract .. => true
  | .build .. => true
  | _ => false
def pureI (ops : Array Oper) (i : Nat) : Bool := ((ops[i]?).map pures).getD false
section
variable {P : Program} {ops : Array Oper} {Q : Exit → Act → World → Prop} {md : Region.Mode} {S : World → Prop} {n : Nat}
def AnyG (P : Program) (md : Region.Mode) (ops : Array Oper) (Q : Exit → Act → World → Prop) (S : World → Prop) (n : Nat) : Nat → Array Bool → Act → World → Prop
  | 0, listed, a, w => Region.ready md ops listed = [] ∧ Q .normal a w
  | fuel + 1, listed, a, w => (Region.ready md ops listed = [] → Q .normal a w) ∧
      ∀ i ∈ Region.ready md ops listed, wpOp P ops Q i (fun a' w' => (n ≤ i ∨ (S w → S w')) ∧ AnyG P md ops Q S n fuel (listed.setIfInBounds i true) a' w') a w
theorem AnyG.any : ∀ (fuel : Nat) (listed : Array Bool) (a : Act) (w : World), AnyG P md ops Q S n fuel listed a w → wpAny P md ops Q fuel listed a w
  | 0, _, _, _, h => h
  | fuel + 1, _, _, _, h => ⟨h.1, fun i hi => wpOp_mono (fun a' w' h' => AnyG.any fuel _ a' w' h'.2) (h.2 i hi)⟩
theorem notl (listed : Array Bool) (k : Nat) (h0 : listed.getD k true = false) (h1 : listed.getD k false = true) : False := by
  rcases Nat.lt_or_ge k listed.size with h' | h'
  · simp [h'] at h0 h1; rw [h0] at h1; cases h1
  · simp [Array.getElem?_eq_none h'] at h1
theorem anyG_firstP {i : Nat} {oi : Oper} {v : Value} (hi : ops[i]? = some oi) (hsel : ∀ (j : Nat) (o : Oper) cs b, ops[j]? = some o → o.op ≠ .select cs b)
    (hQ : ∀ c a w, Q (.panic c) (a.put oi.dst v) w → Q (.panic c) a w) :
    ∀ (fuel : Nat) (listed : Array Bool) (a : Act) (w : World),
      (∀ j oj, ops[j]? = some oj → j ≠ i → listed.getD j true = false → (∀ e ∈ oj.after, Region.binds md e = true → e.on ≠ i) → oi.apart ops oj = true) →
      i ∈ Region.ready md ops listed → YieldsIf P ops (fun _ => True) oi v a →
      AnyG P md ops Q S n fuel (listed.setIfInBounds i true) (a.put oi.dst v) w → AnyG P md ops Q S n (fuel + 1) listed a w := by
  intro fuel
  induction fuel with
  | zero =>
    intro listed a w _ hr hy H
    refine ⟨fun h => (by rw [h] at hr; cases hr), fun j hj => ?_⟩
    by_cases hji : j = i
    · subst hji; exact hy.wpOp hi trivial ⟨.inr fun h => h, H⟩
    · have := ready_mono hj hji
      rw [H.1] at this
      cases this
  | succ fuel ih =>
    intro listed a w hfree hr hy H
    refine ⟨fun h => (by rw [h] at hr; cases hr), fun j hj => ?_⟩
    by_cases hji : j = i
    · subst hji; exact hy.wpOp hi trivial ⟨.inr fun h => h, H⟩
    · have h1 := H.2 j (ready_mono hj hji)
      obtain ⟨hjun, oj, hoj, hall⟩ := mem_ready.1 hj
      have hnot : ∀ e ∈ oj.after, Region.binds md e = true → e.on ≠ i := fun e he hb heq => by
        have h1 := hall e he hb
        rw [heq] at h1
        exact notl listed i (mem_ready.1 hr).1 h1
      have h2 := wpOp_putIf hoj (hfree j oj hoj hji hjun hnot) (fun cs b => hsel i oi cs b hi) (fun cs b => hsel j oj cs b hoj) hQ hy h1
      have hfree' : ∀ k ok, ops[k]? = some ok → k ≠ i → (listed.setIfInBounds j true).getD k true = false →
          (∀ e ∈ ok.after, Region.binds md e = true → e.on ≠ i) → oi.apart ops ok = true := fun k ok hk hki hun hno => by
        refine hfree k ok hk hki ?_ hno
        by_cases hjk : j = k
        · subst hjk; exact hjun
        · rw [getD_set_ne true hjk] at hun; exact hun
      refine wpOp_mono (fun a' w' h3 => ⟨h3.2.1, ih (listed.setIfInBounds j true) a' w' hfree' (ready_mono hr (Ne.symm hji)) h3.1 ?_⟩) h2
      rw [Array.setIfInBounds_comm _ _ hji]
      exact h3.2.2
theorem anyG_takeP {i : Nat} {oi : Oper} {v : Value} {fuel : Nat} {listed : Array Bool} {a : Act} {w : World} (hi : ops[i]? = some oi)
    (hs : Region.noSelect ops = true) (hf : Region.free md ops listed i = true) (hr : (Region.ready md ops listed).contains i = true)
    (hQ : ∀ c a w, Q (.panic c) (a.put oi.dst v) w → Q (.panic c) a w) (hy : YieldsIf P ops (fun _ => True) oi v a)
    (h : AnyG P md ops Q S n fuel (listed.setIfInBounds i true) (a.put oi.dst v) w) : AnyG P md ops Q S n (fuel + 1) listed a w :=
  anyG_firstP hi (Region.noSelect_spec hs) hQ fuel listed a w (Region.free_spec hi hf) (by simpa using hr) hy h
end
def depD (md : Region.Mode) (ops : Array Oper) (i : Nat) : Array Bool := (List.range ops.size).foldl (fun d j => d.push (((ops[j]?).map fun o => o.after.any fun e => Region.binds md e && (e.on == i || d.getD e.on false)).getD false)) #[]
def depOK (md : Region.Mode) (ops : Array Oper) (i : Nat) (d : Array Bool) (j : Nat) : Bool := !d.getD j false || ((ops[j]?).map fun o => o.after.any fun e => Region.binds md e && (e.on == i || d.getD e.on false)).getD false
def lastWaitT (md : Region.Mode) (ops : Array Oper) (n : Nat) (listed : Array Bool) (i : Nat) : Bool :=
  (List.range ops.size).all fun j => (decide (j < n) || (depD md ops i).getD j false) && (depOK md ops i (depD md ops i) j && (!(depD md ops i).getD j false || !listed.getD j true))
def floatI (ops : Array Oper) (n i : Nat) : Bool := decide (i < n) && ((ops[i]?).map floats).getD false
def seqAt (md : Region.Mode) (ops : Array Oper) (n : Nat) (listed : Array Bool) (i : Nat) : Bool :=
  if floatI ops n i = true then Region.free md ops listed i && ((Region.ready md ops listed).contains i && (pureI ops i || lastWaitT md ops n listed i)) else Region.ready md ops listed == [i]
def seqGo (md : Region.Mode) (ops : Array Oper) (n : Nat) : Bool → List Nat → Array Bool → Bool
  | _, [], listed => Region.ready md ops listed == []
  | d, i :: is, listed => seqAt md ops n listed i && (!(d && (floatI ops n i && !pureI ops i)) && seqGo md ops n (d || decide (n ≤ i)) is (listed.setIfInBounds i true))
def seqOK (md : Region.Mode) (ops : Array Oper) (n : Nat) (is : List Nat) : Bool := Region.noSelect ops && (seqGo md ops n false is (Array.replicate ops.size false) && decide (is.length = ops.size))

section
variable {P : Program} {ops : Array Oper} {Q : Exit → Act → World → Prop} {md : Region.Mode} {S : World → Prop} {n : Nat}
def wpSeq (P : Program) (ops : Array Oper) (Q : Exit → Act → World → Prop) (S : World → Prop) (n : Nat) : List Nat → Act → World → Prop
  | [], a, w => Q .normal a w
  | i :: is, a, w => match ops[i]? with
    | none => True
    | some o => if floatI ops n i = true then ∃ v, (if pureI ops i = true then YieldsIf P ops (fun _ => True) o v a else YieldsIf P ops S o v a) ∧ wpSeq P ops Q S n is (a.put o.dst v) w
      else if Region.wanted o (yielded ops a.tmps) = true then Oper.wp P o a w (fun a' w' => (n ≤ i ∨ S w') ∧ wpSeq P ops Q S n is a' w') Q
      else (n ≤ i ∨ S w) ∧ wpSeq P ops Q S n is (a.put o.dst undef) w
theorem anyG_firstT {i : Nat} {oi : Oper} {v : Value} {d : Array Bool} (hi : ops[i]? = some oi) (hsel : ∀ (j : Nat) (o : Oper) cs b, ops[j]? = some o → o.op ≠ .select cs b)
    (hd1 : ∀ j, n ≤ j → j < ops.size → d.getD j false = true) (hd2 : ∀ j o, ops[j]? = some o → d.getD j false = true → ∃ e ∈ o.after, Region.binds md e = true ∧ (e.on = i ∨ (e.on < ops.size ∧ d.getD e.on false = true)))
    (hQ : ∀ c a w, Q (.panic c) (a.put oi.dst v) w → Q (.panic c) a w) :
    ∀ (fuel : Nat) (listed : Array Bool) (a : Act) (w : World),
      (∀ j oj, ops[j]? = some oj → j ≠ i → listed.getD j true = false → (∀ e ∈ oj.after, Region.binds md e = true → e.on ≠ i) → oi.apart ops oj = true) →
      (∀ j, j < ops.size → d.getD j false = true → listed.getD j true = false) →
      i ∈ Region.ready md ops listed → YieldsIf P ops S oi v a → S w →
      AnyG P md ops Q S n fuel (listed.setIfInBounds i true) (a.put oi.dst v) w → AnyG P md ops Q S n (fuel + 1) listed a w := by
  intro fuel
  induction fuel with
  | zero =>
    intro listed a w _ _ hr hy hS H
    refine ⟨fun h => (by rw [h] at hr; cases hr), fun j hj => ?_⟩
    by_cases hji : j = i
    · subst hji; exact hy.wpOp hi hS ⟨.inr fun h => h, H⟩
    · have := ready_mono hj hji
      rw [H.1] at this
      cases this
  | succ fuel ih =>
    intro listed a w hfree hun hr hy hS H
    refine ⟨fun h => (by rw [h] at hr; cases hr), fun j hj => ?_⟩
    by_cases hji : j = i
    · subst hji; exact hy.wpOp hi hS ⟨.inr fun h => h, H⟩
    · have h1 := H.2 j (ready_mono hj hji)
      obtain ⟨hjun, oj, hoj, hall⟩ := mem_ready.1 hj
      have hiun := (mem_ready.1 hr).1
      have hnot : ∀ e ∈ oj.after, Region.binds md e = true → e.on ≠ i := fun e he hb heq => by
        have h1 := hall e he hb
        rw [heq] at h1
        exact notl listed i hiun h1
      have hjd : d.getD j false = false := by
        cases hc : d.getD j false with
        | false => rfl
        | true =>
          obtain ⟨e, he, hb, hor⟩ := hd2 j oj hoj hc
          rcases hor with h2 | ⟨h2, h3⟩
          · exact absurd h2 (hnot e he hb)
          · exact (notl listed e.on (hun e.on h2 h3) (hall e he hb)).elim
      have hjn : ¬ n ≤ j := fun hle => by
        have := hd1 j hle (Array.getElem?_eq_some_iff.1 hoj).1
        rw [hjd] at this; cases this
      have h2 := wpOp_putIf hoj (hfree j oj hoj hji hjun hnot) (fun cs b => hsel i oi cs b hi) (fun cs b => hsel j oj cs b hoj) hQ hy h1
      have hfree' : ∀ k ok, ops[k]? = some ok → k ≠ i → (listed.setIfInBounds j true).getD k true = false →
          (∀ e ∈ ok.after, Region.binds md e = true → e.on ≠ i) → oi.apart ops ok = true := fun k ok hk hki hun hno => by
        refine hfree k ok hk hki ?_ hno
        by_cases hjk : j = k
        · subst hjk; exact hjun
        · rw [getD_set_ne true hjk] at hun; exact hun
      have hun' : ∀ k, k < ops.size → d.getD k false = true → (listed.setIfInBounds j true).getD k true = false := fun k hk hdk => by
        have hjk : j ≠ k := fun e => by subst e; rw [hjd] at hdk; cases hdk
        rw [getD_set_ne true hjk]
        exact hun k hk hdk
      refine wpOp_mono (fun a' w' h3 => ⟨h3.2.1, ih (listed.setIfInBounds j true) a' w' hfree' hun' (ready_mono hr (Ne.symm hji)) h3.1 ((h3.2.1.resolve_left hjn) hS) ?_⟩) h2
      rw [Array.setIfInBounds_comm _ _ hji]
      exact h3.2.2
theorem anyG_takeT {i : Nat} {oi : Oper} {v : Value} {fuel : Nat} {listed : Array Bool} {a : Act} {w : World} (hi : ops[i]? = some oi)
    (hs : Region.noSelect ops = true) (hf : Region.free md ops listed i = true) (hr : (Region.ready md ops listed).contains i = true) (hw : lastWaitT md ops n listed i = true)
    (hQ : ∀ c a w, Q (.panic c) (a.put oi.dst v) w → Q (.panic c) a w) (hy : YieldsIf P ops S oi v a) (hS : S w)
    (h : AnyG P md ops Q S n fuel (listed.setIfInBounds i true) (a.put oi.dst v) w) : AnyG P md ops Q S n (fuel + 1) listed a w := by
  simp only [lastWaitT, List.all_eq_true, List.mem_range, Bool.and_eq_true, Bool.or_eq_true, decide_eq_true_eq] at hw
  refine anyG_firstT (d := depD md ops i) hi (Region.noSelect_spec hs) ?_ ?_ hQ fuel listed a w (Region.free_spec hi hf) ?_ (by simpa using hr) hy hS h
  · intro j hj hjs
    rcases (hw j hjs).1 with h1 | h1
    · omega
    · exact h1
  · intro j o ho hdj
    have hjs := (Array.getElem?_eq_some_iff.1 ho).1
    have h1 := (hw j hjs).2.1
    unfold depOK at h1
    rw [hdj, ho] at h1
    simp only [Bool.not_true, Bool.false_or, Option.map_some, Option.getD_some] at h1
    obtain ⟨e, he, hb⟩ := Array.any_eq_true'.1 h1
    simp only [Bool.and_eq_true, Bool.or_eq_true, beq_iff_eq] at hb
    refine ⟨e, he, hb.1, hb.2.imp id fun h3 => ⟨?_, h3⟩⟩
    rcases Nat.lt_or_ge e.on ops.size with h4 | h4
    · exact h4
    · exfalso
      have hsz : (depD md ops i).size ≤ ops.size := by
        unfold depD
        have : ∀ (l : List Nat) (d : Array Bool) (f : Array Bool → Nat → Bool), (l.foldl (fun d j => d.push (f d j)) d).size = d.size + l.length := by
          intro l
          induction l with
          | nil => intro d f; simp
          | cons x l ih => intro d f; simp [ih]; omega
        have h5 := this (List.range ops.size) #[] (fun d j => ((ops[j]?).map fun o => o.after.any fun e => Region.binds md e && (e.on == i || d.getD e.on false)).getD false)
        simp only [List.size_toArray, List.length_nil, List.length_range, Nat.zero_add] at h5
        exact Nat.le_of_eq h5
      have : (depD md ops i).getD e.on false = false := by
        simp [Array.getElem?_eq_none (show (depD md ops i).size ≤ e.on by omega)]
      rw [this] at h3; cases h3
  · intro j hj hdj
    have h1 := (hw j hj).2.2
    rw [hdj] at h1
    simpa using h1
theorem AnyG.of_seq (hQ : ∀ c a d v w, Q (.panic c) (a.put d v) w → Q (.panic c) a w) (hs : Region.noSelect ops = true) :
    ∀ (is : List Nat) (listed : Array Bool) (a : Act) (w : World) (d : Bool), seqGo md ops n d is listed = true → (d = false → S w) → wpSeq P ops Q S n is a w → AnyG P md ops Q S n is.length listed a w := by
  intro is
  induction is with
  | nil =>
    intro listed a w d hgo _ h
    exact ⟨by simpa [seqGo] using hgo, h⟩
  | cons i is ih =>
    intro listed a w d hgo hS h
    simp only [seqGo, Bool.and_eq_true] at hgo
    obtain ⟨hat, hd, hgo⟩ := hgo
    unfold wpSeq at h
    unfold seqAt at hat
    split at hat
    · rename_i hf
      simp only [Bool.and_eq_true] at hat
      obtain ⟨h1, h2, h3⟩ := hat
      have hf' := hf
      simp only [floatI, Bool.and_eq_true, decide_eq_true_eq] at hf'
      obtain ⟨o, ho⟩ : ∃ o, ops[i]? = some o := by
        cases hc : ops[i]? with
        | none => rw [hc] at hf'; simp at hf'
        | some o => exact ⟨o, rfl⟩
      simp only [ho] at h
      rw [if_pos hf] at h
      obtain ⟨v, hy, hr⟩ := h
      by_cases hp : pureI ops i = true
      · rw [if_pos hp] at hy
        exact anyG_takeP ho hs h1 h2 (fun c a w => hQ c a o.dst v w) hy (ih _ _ w _ hgo (fun hd' => hS (by simp at hd'; exact hd'.1)) hr)
      · rw [if_neg hp] at hy
        have hdf : d = false := by rw [hf] at hd; simpa [hp] using hd
        have hw := hS hdf
        exact anyG_takeT ho hs h1 h2 (by simpa [hp] using h3) (fun c a w => hQ c a o.dst v w) hy hw (ih _ _ w _ hgo (fun _ => hw) hr)
    · rename_i hf
      have hr : Region.ready md ops listed = [i] := by simpa using hat
      have hi : i ∈ Region.ready md ops listed := by rw [hr]; exact List.mem_singleton.2 rfl
      obtain ⟨_, o, ho, _⟩ := mem_ready.1 hi
      simp only [ho] at h
      rw [if_neg hf] at h
      refine ⟨fun h0 => (by rw [hr] at h0; cases h0), fun j hj => ?_⟩
      rw [hr] at hj
      obtain rfl : j = i := by simpa using hj
      have h : wpOp P ops Q j (fun a' w' => (n ≤ j ∨ S w') ∧ wpSeq P ops Q S n is a' w') a w := by
        unfold wpOp
        rw [ho]
        show if Region.wanted o (yielded ops a.tmps) = true then _ else _
        split
        · rename_i hw; rw [if_pos hw] at h; exact .inl h
        · rename_i hw; rw [if_neg hw] at h; exact h
      exact wpOp_mono (fun a' w' h' => ⟨h'.1.imp id (fun h _ => h), ih _ a' w' _ hgo (fun hle => h'.1.resolve_left (by simp at hle; omega)) h'.2⟩) h
theorem region_seq {id : Nat} {l : List Oper} {a : Act} {w : World} (n : Nat) (is : List Nat) (hm : P.follows .mixedOrders = true) (hok : seqOK .any l.toArray n is = true)
    (h : wpSeq P l.toArray (NoPanic Q) (fun w' => Below w.heap.size w w') n is a w.drew) : (Code.region id l.toArray true).wp P Q a w := by
  simp only [seqOK, Bool.and_eq_true, decide_eq_true_eq] at hok
  obtain ⟨hs, hgo, hl⟩ := hok
  refine wp_region_noPanic (wp_region_any hm (AnyG.any _ _ _ _ (S := fun w' => Below w.heap.size w w') (n := n) ?_))
  rw [← hl]
  have := AnyG.of_seq (P := P) (Q := NoPanic Q) (S := fun w' => Below w.heap.size w w') (fun c a d v w h => h) hs is _ a w.drew false hgo (fun _ => (Below.refl _ _).drew) h
  rwa [hl] at this ⊢
theorem seq_done {a : Act} {w : World} (h : Q .normal a w) : wpSeq P ops (NoPanic Q) S n [] a w := h
theorem seq_take {o : Oper} {i : Nat} {is : List Nat} {a : Act} {w : World} {v : Value} (ho : ops[i]? = some o) (hf : (floatI ops n i && !pureI ops i) = true) (hw : Region.wanted o (yielded ops a.tmps) = true) (hy : ∀ w', S w' → (execOp a.eval o).run P w' = .ok (.value v) w') (h : wpSeq P ops Q S n is (a.put o.dst v) w) : wpSeq P ops Q S n (i :: is) a w := by
  simp only [Bool.and_eq_true, Bool.not_eq_true'] at hf
  unfold wpSeq
  rw [ho]
  show if _ then _ else _
  rw [if_pos hf.1]
  exact ⟨v, by rw [if_neg (by simp [hf.2])]; exact .inl ⟨hw, hy⟩, h⟩
theorem seq_takeP {o : Oper} {i : Nat} {is : List Nat} {a : Act} {w : World} {v : Value} (ho : ops[i]? = some o) (hf : (floatI ops n i && pureI ops i) = true) (hw : Region.wanted o (yielded ops a.tmps) = true) (hy : ∀ w', True → (execOp a.eval o).run P w' = .ok (.value v) w') (h : wpSeq P ops Q S n is (a.put o.dst v) w) : wpSeq P ops Q S n (i :: is) a w := by
  simp only [Bool.and_eq_true] at hf
  unfold wpSeq
  rw [ho]
  show if _ then _ else _
  rw [if_pos hf.1]
  exact ⟨v, by rw [if_pos hf.2]; exact .inl ⟨hw, hy⟩, h⟩
theorem seq_skip {o : Oper} {i : Nat} {is : List Nat} {a : Act} {w : World} (ho : ops[i]? = some o) (hf : floatI ops n i = true) (hw : Region.wanted o (yielded ops a.tmps) = false) (h : wpSeq P ops Q S n is (a.put o.dst undef) w) : wpSeq P ops Q S n (i :: is) a w := by
  unfold wpSeq
  rw [ho]
  show if _ then _ else _
  rw [if_pos hf]
  exact ⟨undef, by split <;> exact .inr ⟨hw, rfl⟩, h⟩
theorem seq_step {o : Oper} {i : Nat} {is : List Nat} {a : Act} {w : World} (ho : ops[i]? = some o) (hf : floatI ops n i = false)
    (h : ∀ K' : Act → World → Prop, Shut (∀ a w, (n ≤ i ∨ S w) → wpSeq P ops Q S n is a w → K' a w) → if Region.wanted o (yielded ops a.tmps) = true then Oper.wp P o a w K' Q else K' (a.put o.dst undef) w) : wpSeq P ops Q S n (i :: is) a w := by
  have h1 := h (fun a' w' => (n ≤ i ∨ S w') ∧ wpSeq P ops Q S n is a' w') (fun a w h1 h2 => ⟨h1, h2⟩)
  unfold wpSeq
  rw [ho]
  show if _ then _ else _
  rw [if_neg (by simp [hf])]
  exact h1
end
theorem stab {w : World} {p : Addr} {v : Value} (h : w.cell? p = some v) : ∀ w', Below w.heap.size w w' → w'.cell? p = some v := fun _ hb => cell_keep hb h
end Go.Proofs.YtpanffbgihhjnaaGreat

/- Walks: package proof: LowerBound. -/
namespace Go.Proofs.YtpanffbgihhjnaaGreat
open Go.RowKit Pl
attribute [local go_sem ↓] Go.wp_at_zero Go.wp_at_succ

namespace Pl
def lowF (p : LPd) (ys : List RF) : RF := if lowB p ys = true then canF (dotQ ys p.right p.right.length) else zeroF
theorem lowF_no {p : LPd} {ys : List RF} (h : lowB p ys = false) : lowF p ys = zeroF := by simp [lowF, h]
theorem lowF_yes {p : LPd} {ys : List RF} (h : lowB p ys = true) : lowF p ys = canF (dotQ ys p.right p.right.length) := by simp [lowF, h]
end Pl
def LowPost (p : LPd) (ys : List RF) (w : World) (e : Ending) (w' : World) : Prop :=
  ∃ v', e = .returned (.tuple #[v', .bool (lowB p ys)]) ∧ FracM w' v' (lowF p ys) ∧ Below w.heap.size w w'
theorem fin_low {w w2 : World} {g : Nat} {x y z u b s b' s' : Value} {a : RF} {p : LPd} {ys : List RF} {ok : Bool} (hR : Bk w2 g 47 [x, y, z, u]) (d : FracM w2 (.agg #[b, s, b', s']) a) (hbe : Below w.heap.size w w2) (hg : w.heap.size ≤ g) (h : lowB p ys = ok ∧ lowF p ys = a) :
    LowPost p ys w (.returned (.tuple #[.agg [b, s, b', s'].toArray, .bool ok])) ((((w2.setCell ⟨g, 0, none⟩ b).setCell ⟨g, 1, none⟩ s).setCell ⟨g, 2, none⟩ b').setCell ⟨g, 3, none⟩ s') := by
  obtain ⟨v', q1, q2, q3⟩ := fin_frac hR d hbe hg
  injection q1 with q1
  subst q1
  rw [← h.2] at q2
  exact ⟨_, by rw [h.1], q2, q3⟩

set_option maxRecDepth 100000 in
set_option maxHeartbeats 4000000 in
theorem lowerBound_any (v1 v2 : Value) (p : LPd) (ys : List RF) (K : Nat) (w : World) (h : LpM w v1 p) (h2 : FrsM w v2 ys) (ok : p.Ok K) (hy : RsL K ys) (hK : 1 ≤ K) (hlen : ∀ (j : Nat) (c : List En), p.cols[j]? = some c → c.length ≤ 64) (hs : 1 + 64 * (2 * K + 1) ≤ 34359738368) :
    Calls Tryz.prog 19 #[v1, v2] w (LowPost p ys w) := by
  have hs2 : 2 * K ≤ 34359738368 := by omega
  obtain ⟨A, n, c, A', N, c', A'', m, c'', rfl, hc, hv, hr⟩ := id h
  obtain ⟨W, hW, hX, hbe0⟩ := box_lp w (.slice A n c) (.slice A' N c') (.slice A'' m c'')
  obtain ⟨W1, hW1, hR, hbe1⟩ := boxF1 W (.bool false) (.slice none 0 0) (.bool false) (.slice none 0 0)
  have hX := hX.later hbe1
  have hbe := below_then hbe0 hbe1 hbe0.size
  have hsz : W.heap.size = w.heap.size + 1 := by rw [← hW]; simp
  rw [hsz] at hR
  obtain ⟨x0, x1, x2⟩ := hX.three
  obtain ⟨m1, m2, m3⟩ := hv.len
  obtain ⟨r1, r2, r3⟩ := hr.len
  obtain ⟨k1, k2, k3⟩ := hc.len
  obtain ⟨Ay, cy, rfl, hy1, hy2⟩ := h2.shape
  have HM1 := Lib.hid m1
  have HR1 := Lib.hid r1
  have HK1 := Lib.hid k1
  have HOK := Lib.hid ok
  have HLEN := Lib.hid hlen
  generalize hyl : ys.length = L at *
  have HYL := Lib.hid hyl
  clear m1 r1 k1 hyl ok hlen hbe0 hbe1
  go_enter Tryz.func19, Tryz.ntmps19
  go_wp2_with fail
  clear hW hW1 hsz x0 x1 x2
  refine (validate_any _ p K _ (h.below hbe) HOK.out).mono ?_
  rintro _ w1 ⟨rfl, hb1⟩
  have hX1 := hX.later hb1
  have hR1 := hR.later hb1
  have hbe1 := below_then hbe hb1 hbe.size
  clear hX hR hbe hb1
  by_cases hz : lpErr p = 0
  rotate_left
  · have hz' : (lpErr p != 0) = true := by simpa using hz
    have HLB := Lib.hid (lowB_1 (ys := ys) hz)
    clear hz
    obtain ⟨c0, c1, c2, c3⟩ := hR1.four
    obtain ⟨f0, f1, f2, f3⟩ := hR1.fourF
    go_wp2
    refine ret_ct Tryz.results19 Tryz.underlying47 (by kernel_rfl) rfl (g := w.heap.size + 1) (hR1.set4 _ _ _ _) rfl ?_
    exact fin_low hR1 (FracM.zero w1) hbe1 (by omega) ⟨HLB.out, lowF_no HLB.out⟩
  have hz' : (lpErr p != 0) = false := by simpa using hz
  have HZ := Lib.hid hz
  clear hz
  by_cases hl : L = m
  rotate_left
  · have hl' : ((L : Int) != (m : Int)) = true := by simp; omega
    have HLB : Hid (lowB p ys = false) := Lib.hid (lowB_2 (by rw [HYL.out, ← HR1.out]; exact hl))
    clear hl
    obtain ⟨x0, x1, x2⟩ := hX1.three
    obtain ⟨c0, c1, c2, c3⟩ := hR1.four
    obtain ⟨f0, f1, f2, f3⟩ := hR1.fourF
    go_wp2
    refine ret_ct Tryz.results19 Tryz.underlying47 (by kernel_rfl) rfl (g := w.heap.size + 1) (hR1.set4 _ _ _ _) rfl ?_
    exact fin_low hR1 (FracM.zero w1) hbe1 (by omega) ⟨HLB.out, lowF_no HLB.out⟩
  have hl' : ((L : Int) != (m : Int)) = false := by simp; omega
  have HLM : Hid (ys.length = p.right.length) := Lib.hid (by rw [HYL.out, ← HR1.out]; exact hl)
  clear hl
  obtain ⟨x0, x1, x2⟩ := hX1.three
  go_wp2
  clear x0 x1 x2 hl' hz'
  go_loopw [23] (fun i wr => ∃ j : Nat, j ≤ N ∧ i = .int .i64 j ∧ Below w.heap.size w wr ∧ Bk wr w.heap.size 26 [.slice A n c, .slice A' N c', .slice A'' m c''] ∧ Bk wr (w.heap.size + 1) 47 [.bool false, .slice none 0 0, .bool false, .slice none 0 0] ∧ lowTo p ys j) (fun i _ => N - (intOf i).toNat)
  case atStart => exact ⟨0, by omega, rfl, hbe1, hX1, hR1, lowTo_zero _ _⟩
  case round =>
    clear hbe1 hX1 hR1
    obtain ⟨j, hj, rfl, hbe, hX, hR, hlow⟩ := hrel
    have HLOW := Lib.hid hlow
    clear hlow
    rcases Nat.lt_or_ge j N with hjl | hjl
    · obtain ⟨es, hes⟩ := get_someC (cs := p.cols) (i := j) (by rw [← HM1.out]; exact hjl)
      obtain ⟨z1, z2, z3, z4, z5⟩ := lpErr_zero HZ.out
      obtain ⟨bc, offc, Ac, cc, rfl, hltc, hcellc, hvm⟩ := hv.elem (Below.refl _ _) hes
      have hcell1 := cell_keep hbe hcellc
      obtain ⟨f, hf⟩ := get_some (fs := p.cost) (i := j) (by rw [z3, ← HM1.out]; exact hjl)
      obtain ⟨b, off, A1, n1, k1, A2, n2, k2, rfl, hlt, hcA, hmf⟩ := hc.elem hbe hf
      have hin : inR ys.length es := by rw [HLM.out]; exact z4 j es hes
      have hse := (HOK.out.2.2 j es hes).2
      have hsE : 1 + es.length * (2 * K + 1) ≤ 34359738368 := by
        have := Nat.mul_le_mul_right (2 * K + 1) (HLEN.out j es hes); omega
      have hsf : f.Sm := (HOK.out.1 j f hf).sm (by omega)
      have szA : (canF (alongQ es ys es.length)).Sm := ((Sz_along hse hy hK es.length).mono hsE).rs.sm (Nat.le_refl _)
      have HAL : Hid (alongQ es ys es.length = dotC ys (p.col (j : Int)) p.right.length) := Lib.hid (by rw [LPd.col_pos hes]; exact alongQ_all (z4 j es hes) (z5 j es hes).2)
      have HQ := Lib.hid (qAt_some hf)
      have hj1 : (j : Int) < N := by omega
      have hj2 : (j : Int) < n := by rw [HK1.out, z3, ← HM1.out]; exact hj1
      clear z1 z2 z3 z4 z5 hes hf hltc
      obtain ⟨x0, x1, x2⟩ := hX.three
      obtain ⟨b0, b1, b2, b3⟩ := hcA
      go_wp2_with fail
      have C1 := stab x0
      have C2 := stab b0
      have C3 := stab b1
      have C4 := stab b2
      have C5 := stab b3
      have hS0 := below_drew' wr
      clear x0 x1 x2 b0 b1 b2 b3 hcellc hcell1
      refine region_seq 10 [0, 1, 3, 4, 5, 6, 7, 2, 8, 9] (by kernel_rfl) (by kernel_rfl) ?_
      repeat ((first | (refine seq_takeP (v := ?_) rfl rfl rfl ?_ ?_; rotate_left; (· (intro _ hSw; go_simp; (try go_bits); (try with_reducible rfl)))) | (refine seq_take (v := ?_) rfl rfl rfl ?_ ?_; rotate_left; (· (intro _ hSw; go_simp; (try go_bits); (try with_reducible rfl)))) | refine seq_skip rfl rfl rfl ?_); (try simp only [Act.put, pu1, pu2, pu3, pu4, pu5, pu6]))
      refine seq_step rfl rfl (fun KR hKR => ?_)
      go_simp
      with_reducible refine (along_any _ _ es ys K _ ((hvm.below hbe).below hS0) ((h2.below hbe).below hS0) hin hK hse hy hsE hs2).mono ?_
      rintro _ w8 ⟨v8, rfl, e8, hb8⟩
      have hS8 := below_then hS0 hb8 hS0.size
      refine hKR.out _ _ (Or.inr hS8) ?_
      clear hKR KR
      (try simp only [Act.put, pu1, pu2, pu3, pu4, pu5, pu6])
      repeat ((first | (refine seq_takeP (v := ?_) rfl rfl rfl ?_ ?_; rotate_left; (· (intro _ hSw; go_simp; (try go_bits); (try with_reducible rfl)))) | (refine seq_take (v := ?_) rfl rfl rfl ?_ ?_; rotate_left; (· (intro _ hSw; go_simp; (try go_bits); (try with_reducible rfl)))) | refine seq_skip rfl rfl rfl ?_); (try simp only [Act.put, pu1, pu2, pu3, pu4, pu5, pu6]))
      refine seq_step rfl rfl (fun KR hKR => ?_)
      go_simp
      with_reducible refine (compareF_any _ _ _ f _ e8 (hmf.below hS8) szA hsf).mono ?_
      rw [canF_q, HAL.out]
      rintro _ w9 ⟨rfl, hb9⟩
      have hS9 := below_then hS8 hb9 hS8.size
      refine hKR.out _ _ (Or.inr hS9) ?_
      clear hKR KR
      (try simp only [Act.put, pu1, pu2, pu3, pu4, pu5, pu6])
      repeat ((first | (refine seq_takeP (v := ?_) rfl rfl rfl ?_ ?_; rotate_left; (· (intro _ hSw; go_simp; (try go_bits); (try with_reducible rfl)))) | (refine seq_take (v := ?_) rfl rfl rfl ?_ ?_; rotate_left; (· (intro _ hSw; go_simp; (try go_bits); (try with_reducible rfl)))) | refine seq_skip rfl rfl rfl ?_); (try simp only [Act.put, pu1, pu2, pu3, pu4, pu5, pu6]))
      refine seq_done ?_
      have hX9 := hX.later hS9
      have hR9 := hR.later hS9
      have hbe9 := below_then hbe hS9 hbe.size
      clear C1 C2 C3 C4 C5
      by_cases hgt : dotC ys (p.col (j : Int)) p.right.length ≤ f.q
      · have hsg : qs (dotC ys (p.col (j : Int)) p.right.length - f.q) ≤ 0 := Int.not_lt.1 fun h => (qs_sub_pos.1 h) hgt
        have HL2 := Lib.hid (lowTo_next HLOW.out (by rw [HQ.out]; exact hgt))
        clear hgt
        go_wp2
        go_roundw
        case rel => exact ⟨j + 1, by omega, by go_num, hbe9, hX9, hR9, HL2.out⟩
        case measure => simp [intOf]; omega
      · have hsg : 0 < qs (dotC ys (p.col (j : Int)) p.right.length - f.q) := qs_sub_pos.2 hgt
        have HLB : Hid (lowB p ys = false) := Lib.hid (lowB_3 (by rw [← HM1.out]; exact hjl) (by rw [HQ.out]; exact hgt))
        clear hgt
        obtain ⟨c0, c1, c2, c3⟩ := hR9.four
        obtain ⟨f0, f1, f2, f3⟩ := hR9.fourF
        go_wp2
        refine ret_ct Tryz.results19 Tryz.underlying47 (by kernel_rfl) rfl (g := w.heap.size + 1) (hR9.set4 _ _ _ _) rfl ?_
        exact fin_low hR9 (FracM.zero w9) hbe9 (by omega) ⟨HLB.out, lowF_no HLB.out⟩
    · obtain rfl : j = N := by omega
      have HLB : Hid (lowB p ys = true) := Lib.hid (lowB_4 HZ.out HLM.out (by rw [← HM1.out]; exact HLOW.out))
      obtain ⟨x0, x1, x2⟩ := hX.three
      obtain ⟨z1, _, _, _, _⟩ := lpErr_zero HZ.out
      have hsD : 1 + ys.length * (2 * K + 1) ≤ 34359738368 := by
        have := Nat.mul_le_mul_right (2 * K + 1) (show ys.length ≤ 64 by rw [HLM.out]; exact z1); omega
      clear z1
      go_wp2_with fail
      refine (product_any _ _ ys p.right K _ (h2.below hbe) (hr.below hbe) (by rw [HLM.out]; exact Nat.le_refl _) hK hy HOK.out.2.1 hsD hs2).mono ?_
      rintro _ w2 ⟨v2, rfl, e2, hb2⟩
      rw [HLM.out] at e2
      have hR2 := hR.later hb2
      have hbe2 := below_then hbe hb2 hbe.size
      clear hX hR hbe hb2 x0 x1 x2
      obtain ⟨B, q, d, B', q', d', rfl, _, _⟩ := id e2
      have HE := Lib.hid e2
      have HLF := Lib.hid (lowF_yes HLB.out)
      clear e2
      generalize canF (dotQ ys p.right p.right.length) = DF at *
      obtain ⟨c0, c1, c2, c3⟩ := hR2.four
      obtain ⟨f0, f1, f2, f3⟩ := hR2.fourF
      go_wp2
      refine ret_ct Tryz.results19 Tryz.underlying47 (by kernel_rfl) rfl (g := w.heap.size + 1) (hR2.set4 _ _ _ _) rfl ?_
      exact fin_low hR2 HE.out hbe2 (by omega) ⟨HLB.out, HLF.out⟩
end Go.Proofs.YtpanffbgihhjnaaGreat

/- Walks: package pairingref25: LowerBound. -/
namespace Go.Proofs.YtpanffbgihhjnaaGreat
open Go.RowKit Pl
attribute [local go_sem ↓] Go.wp_at_zero Go.wp_at_succ

end Go.Proofs.YtpanffbgihhjnaaGreat

/- Walks: package proof: feasible, IsFeasible. -/
namespace Go.Proofs.YtpanffbgihhjnaaGreat
open Go.RowKit Pl
attribute [local go_sem ↓] Go.wp_at_zero Go.wp_at_succ

namespace Pl
theorem feasB_eq {p : LPd} {xs : List RF} (h : lpErr p = 0) : feasB p xs = ((decide (xs.length = p.cols.length) && nnB xs) && combB p.right.length (timesQ p xs p.cols.length) p.right) := by
  unfold feasB
  rw [decide_eq_true h, Bool.true_and, Bool.and_assoc]
  congr 2
  unfold eqB combB
  apply decide_eq_decide.2
  rw [canL_length]
  constructor
  · intro g i hi; rw [← g.2 i hi, canL_qAt hi]
  · intro g; exact ⟨rfl, fun i hi => by rw [canL_qAt hi]; exact g i hi⟩
end Pl

set_option maxHeartbeats 2000000 in
theorem feasible_any (v1 v2 : Value) (p : LPd) (xs : List RF) (K : Nat) (w : World) (h : LpM w v1 p) (h2 : FrsM w v2 xs) (ok : p.Ok K) (hx : RsL K xs) (hK : 1 ≤ K) (hz : lpErr p = 0) (hs : 1 + 1201 * (2 * K + 1) ≤ 34359738368) :
    Calls Tryz.prog 55 #[v1, v2] w fun e w' => e = .returned (.bool (feasB p xs)) ∧ Below w.heap.size w w' := by
  obtain ⟨A, n, c, A', N, c', A'', m, c'', rfl, hc, hv, hr⟩ := id h
  obtain ⟨W, hW, hX, hbe⟩ := box_lp w (.slice A n c) (.slice A' N c') (.slice A'' m c'')
  obtain ⟨x0, x1, x2⟩ := hX.three
  obtain ⟨m1, m2, m3⟩ := hv.len
  obtain ⟨Ax, cx, rfl, hx1, hx2⟩ := h2.shape
  obtain ⟨z1, z2, z3, z4, z5⟩ := lpErr_zero hz
  have hsN : 1 + (p.cols.length + 1) * (2 * K + 1) ≤ 34359738368 := by
    have := Nat.mul_le_mul_right (2 * K + 1) (show p.cols.length + 1 ≤ 1201 by omega); omega
  have HFE := Lib.hid (feasB_eq (xs := xs) hz)
  have HOK := Lib.hid ok
  have HX := Lib.hid hx
  have HM1 := Lib.hid m1
  have HZ := Lib.hid hz
  have h' := h.below hbe
  have h2' := h2.below hbe
  have hr' := hr.below hbe
  clear ok hx m1 hz z1 z2 z3 z4 z5 h h2 hr hc hv
  generalize hxl : xs.length = L at *
  have HXL := Lib.hid hxl
  clear hxl
  go_enter Tryz.func55, Tryz.ntmps55
  go_wp2_with fail
  clear hW x0 x1 x2
  refine (nonneg_any _ xs N _ h2' (by omega)).mono ?_
  rw [HXL.out, HM1.out]
  rintro _ w1 ⟨rfl, hb1⟩
  have hX1 := hX.later hb1
  have hbe1 := below_then hbe hb1 hbe.size
  obtain ⟨x0, x1, x2⟩ := hX1.three
  cases hnn : (decide (L = p.cols.length) && nnB xs)
  · have HR : Hid (feasB p xs = false) := Lib.hid (by rw [HFE.out, hnn]; rfl)
    clear hnn
    go_wp2
    go_ret
    exact ⟨ret_bool HR.out, hbe1⟩
  · have HR : Hid (feasB p xs = combB p.right.length (timesQ p xs p.cols.length) p.right) := Lib.hid (by rw [HFE.out, hnn]; rfl)
    have HXN : Hid (xs.length = p.cols.length) := Lib.hid (by rw [HXL.out]; simpa using (Bool.and_eq_true_iff.1 hnn).1)
    clear hnn
    go_wp2_with fail
    refine (combines_any _ _ _ p xs p.right K _ (h'.below hb1) (h2'.below hb1) (hr'.below hb1) HOK.out HX.out HOK.out.2.1 hK HZ.out HXN.out (Nat.le_refl _) hsN (by omega)).mono ?_
    rintro _ w2 ⟨rfl, hb2⟩
    have hbe2 := below_then hbe1 hb2 hbe1.size
    clear hX1 hX hbe1 hbe hb1 hb2 x0 x1 x2
    go_wp2
    go_ret
    exact ⟨ret_bool HR.out, hbe2⟩

set_option maxHeartbeats 2000000 in
theorem isFeasible_any (v1 v2 : Value) (p : LPd) (xs : List RF) (K : Nat) (w : World) (h : LpM w v1 p) (h2 : FrsM w v2 xs) (ok : p.Ok K) (hx : RsL K xs) (hK : 1 ≤ K) (hs : 1 + 1201 * (2 * K + 1) ≤ 34359738368) :
    Calls Tryz.prog 23 #[v1, v2] w fun e w' => e = .returned (.bool (feasB p xs)) ∧ Below w.heap.size w w' := by
  obtain ⟨A, n, c, A', N, c', A'', m, c'', rfl, hc, hv, hr⟩ := id h
  obtain ⟨W, hW, hX, hbe⟩ := box_lp w (.slice A n c) (.slice A' N c') (.slice A'' m c'')
  obtain ⟨x0, x1, x2⟩ := hX.three
  obtain ⟨Ax, cx, rfl, hx1, hx2⟩ := h2.shape
  have HOK := Lib.hid ok
  have HX := Lib.hid hx
  have h' := h.below hbe
  have h2' := h2.below hbe
  clear ok hx h h2 hr hc hv
  generalize hxl : xs.length = L at *
  clear hxl
  go_enter Tryz.func23, Tryz.ntmps23
  go_wp2_with fail
  clear hW x0 x1 x2
  refine (validate_any _ p K _ h' HOK.out).mono ?_
  rintro _ w1 ⟨rfl, hb1⟩
  have hX1 := hX.later hb1
  have hbe1 := below_then hbe hb1 hbe.size
  obtain ⟨x0, x1, x2⟩ := hX1.three
  by_cases hz : lpErr p = 0
  · have HZ := Lib.hid hz
    have hz' : (lpErr p == 0) = true := by simpa using hz
    clear hz
    go_wp2_with fail
    refine (feasible_any _ _ p xs K _ (h'.below hb1) (h2'.below hb1) HOK.out HX.out hK HZ.out hs).mono ?_
    rintro _ w2 ⟨rfl, hb2⟩
    have hbe2 := below_then hbe1 hb2 hbe1.size
    clear hX1 hX hbe1 hbe hb1 hb2 x0 x1 x2
    go_wp2
    go_ret
    exact ⟨rfl, hbe2⟩
  · have HR := Lib.hid (feasB_1 (xs := xs) hz)
    have hz' : (lpErr p == 0) = false := by simpa using hz
    clear hz
    go_wp2
    go_ret
    exact ⟨ret_bool HR.out, hbe1⟩
end Go.Proofs.YtpanffbgihhjnaaGreat

/- Memory: slices of ints. Walks: package pairingdata: At. -/
namespace Go.Proofs.YtpanffbgihhjnaaGreat
open Go.RowKit Pl
attribute [local go_sem ↓] Go.wp_at_zero Go.wp_at_succ

theorem i64_and3 (n : Int) : bits .and .i64 n 3 = n % 4 := by
  have hc : (BitVec.ofInt 64 3).toNat = 2 ^ 2 - 1 := by decide
  have key : (BitVec.ofInt 64 n &&& BitVec.ofInt 64 3).toNat = (n % ((2 ^ 64 : Nat) : Int)).toNat % 2 ^ 2 := by
    rw [BitVec.toNat_and, BitVec.toNat_ofInt, hc, Nat.and_two_pow_sub_one_eq_mod]
  show IntKind.i64.wrap ((BitVec.ofInt 64 n &&& BitVec.ofInt 64 3).toNat : Nat) = n % 4
  rw [key, IntKind.wrap_i64]
  omega
theorem i64_and15 (n : Int) : bits .and .i64 n 15 = n % 16 := by
  have hc : (BitVec.ofInt 64 15).toNat = 2 ^ 4 - 1 := by decide
  have key : (BitVec.ofInt 64 n &&& BitVec.ofInt 64 15).toNat = (n % ((2 ^ 64 : Nat) : Int)).toNat % 2 ^ 4 := by
    rw [BitVec.toNat_and, BitVec.toNat_ofInt, hc, Nat.and_two_pow_sub_one_eq_mod]
  show IntKind.i64.wrap ((BitVec.ofInt 64 n &&& BitVec.ofInt 64 15).toNat : Nat) = n % 16
  rw [key, IntKind.wrap_i64]
  omega
theorem i64_and65535 (n : Int) : bits .and .i64 n 65535 = n % 65536 := by
  have hc : (BitVec.ofInt 64 65535).toNat = 2 ^ 16 - 1 := by decide
  have key : (BitVec.ofInt 64 n &&& BitVec.ofInt 64 65535).toNat = (n % ((2 ^ 64 : Nat) : Int)).toNat % 2 ^ 16 := by
    rw [BitVec.toNat_and, BitVec.toNat_ofInt, hc, Nat.and_two_pow_sub_one_eq_mod]
  show IntKind.i64.wrap ((BitVec.ofInt 64 n &&& BitVec.ofInt 64 65535).toNat : Nat) = n % 65536
  rw [key, IntKind.wrap_i64]
  omega
def IntsM (w : World) (v : Value) (zs : List Int) : Prop :=
  ∃ a cap, v = .slice a zs.length cap ∧ zs.length ≤ cap ∧ cap ≤ maxLen ∧ (0 < zs.length → ∃ b off, a = some ⟨b, off, none⟩ ∧ ∀ i, i < zs.length → w.cell? ⟨b, off + i, none⟩ = some (.int .i64 (zs.getD i 0))) ∧ ∀ z ∈ zs, -9223372036854775808 ≤ z ∧ z ≤ 9223372036854775807
theorem IntsM.below {w w' : World} {v : Value} {zs : List Int} (h : IntsM w v zs) (hb : Below w.heap.size w w') : IntsM w' v zs := by
  obtain ⟨a, cap, h1, h2, h3, h4, h5⟩ := h
  refine ⟨a, cap, h1, h2, h3, fun hp => ?_, h5⟩
  obtain ⟨b, off, g1, g2⟩ := h4 hp
  exact ⟨b, off, g1, fun i hi => cell_keep hb (g2 i hi)⟩
theorem IntsM.shape {w : World} {v : Value} {zs : List Int} (h : IntsM w v zs) : ∃ a cap, v = .slice a zs.length cap ∧ zs.length ≤ cap ∧ cap ≤ 9223372036854775807 := by
  obtain ⟨a, cap, h1, h2, h3, h4, h5⟩ := h
  unfold maxLen at h3
  exact ⟨a, cap, h1, h2, by omega⟩
theorem IntsM.at_ {w : World} {a : Option Addr} {n cap : Nat} {zs : List Int} (h : IntsM w (.slice a n cap) zs) {i : Nat} (hi : i < n) :
    ∃ b off z, a = some ⟨b, off, none⟩ ∧ w.cell? ⟨b, off + i, none⟩ = some (.int .i64 z) ∧ zs[i]? = some z ∧ -9223372036854775808 ≤ z ∧ z ≤ 9223372036854775807 := by
  obtain ⟨a', cap', h1, h2, h3, h4, h5⟩ := h
  injection h1 with e1 e2 e3
  subst e1
  obtain ⟨b, off, g1, g2⟩ := h4 (by omega)
  have hg : zs[i]? = some (zs.getD i 0) := by simp [List.getD, List.getElem?_eq_getElem (show i < zs.length by omega)]
  have hm := h5 _ (List.mem_of_getElem? hg)
  exact ⟨b, off, _, g1, g2 i (by omega), hg, hm⟩

set_option maxHeartbeats 2000000 in
theorem at_any (v : Value) (zs : List Int) (i : Nat) (w : World) (h : IntsM w v zs) (hi : i ≤ 1099511627776) :
    Calls Tryz.prog 18 #[v, .int .i64 (i : Int)] w fun e w' => ∃ z : Int, e = .returned (.int .i64 z) ∧ 0 ≤ z ∧ z ≤ 65535 + i ∧ Below w.heap.size w w' := by
  obtain ⟨a, cap, rfl, hc1, hc2⟩ := h.shape
  generalize hn : zs.length = n at *
  clear hn
  have hm := i64_and65535
  rcases Nat.eq_zero_or_pos n with h0 | h0
  · subst h0
    go_enter Tryz.func18, Tryz.ntmps18
    go_wp2
    go_ret
    exact ⟨_, rfl, by omega, by omega, Below.refl _ _⟩
  · have hlt : i % n < n := Nat.mod_lt _ h0
    obtain ⟨b, off, z, rfl, hcell, _, hz1, hz2⟩ := h.at_ hlt
    have hne : ((n : Int) == 0) = false := by simp; omega
    have hq : i / n ≤ i := Nat.div_le_self _ _
    have hn0 : ¬ n = 0 := by omega
    have hr1 : (i : Int) % n < n := by omega
    have hr2 : 0 ≤ (i : Int) % n := by omega
    have hq1 : (i : Int) / n ≤ i := Int.ediv_le_self _ (by omega)
    have hq2 : 0 ≤ (i : Int) / n := Int.ediv_nonneg (by omega) (by omega)
    go_enter Tryz.func18, Tryz.ntmps18
    go_wp2_with fail
    have C1 := stab hcell
    refine region_seq 14 [0, 1, 2, 3, 4, 5, 6, 7, 8, 9, 10, 11, 12, 13] (by kernel_rfl) (by kernel_rfl) ?_
    repeat ((first | (refine seq_takeP (v := ?_) rfl rfl rfl ?_ ?_; rotate_left; (· (intro _ hSw; go_simp; (try go_bits); (try with_reducible rfl)))) | (refine seq_take (v := ?_) rfl rfl rfl ?_ ?_; rotate_left; (· (intro _ hSw; go_simp; (try go_bits); (try with_reducible rfl)))) | refine seq_skip rfl rfl rfl ?_); (try simp only [Act.put, pu1, pu2, pu3, pu4, pu5, pu6]))
    refine seq_done ?_
    clear C1
    go_wp2
    go_ret
    exact ⟨_, rfl, by omega, by omega, below_drew' _⟩
end Go.Proofs.YtpanffbgihhjnaaGreat

/- Walks: package pairingdata: Frac, times. -/
namespace Go.Proofs.YtpanffbgihhjnaaGreat
open Go.RowKit Pl
attribute [local go_sem ↓] Go.wp_at_zero Go.wp_at_succ

namespace Pl
theorem divInt_1 (z : Int) : Rat.divInt z 1 = (z : Rat) := by
  rw [Rat.divInt_eq_div, Rat.intCast_one]; grind
theorem Sz_int {z : Int} (h : -4294967296 < z) (h2 : z < 4294967296) : Sz 1 (z : Rat) := by
  unfold Sz
  exact ⟨digs_lt (by rw [Rat.num_intCast]; unfold B32; omega), digs_lt (by rw [Rat.den_intCast]; decide)⟩
end Pl
theorem FracO.numO {base : Nat} {w : World} {b s b' s' : Value} {f : RF} (h : FracO base w (.agg #[b, s, b', s']) f) : IntO base w (.agg #[b, s]) f.num := by
  obtain ⟨⟨A, n, c, A', n', c', e, d1, _⟩, x, t, x', t', e2, o⟩ := h
  simp at e e2
  obtain ⟨rfl, rfl, rfl, rfl⟩ := e
  obtain ⟨_, rfl, _, _⟩ := e2
  exact ⟨_, rfl, o, d1.ok⟩

set_option maxHeartbeats 1000000 in
theorem frac_own (n : Int) (w : World) :
    Calls Tryz.prog 27 #[.int .i64 n] w fun e w' => ∃ v' q, e = .returned v' ∧ FracO w.heap.size w' v' (canF q) ∧ Sz 2 q ∧ Below w.heap.size w w' := by
  obtain ⟨W, hW, hR, hbe⟩ := boxF1 w (.bool false) (.slice none 0 0) (.bool false) (.slice none 0 0)
  have m1 := i64_and15
  have m2 := i64_and3
  have r1 : 0 ≤ n % 16 := by omega
  have r2 : n % 16 ≤ 15 := by omega
  go_enter Tryz.func27, Tryz.ntmps27
  go_wp2_with fail
  clear hW
  refine (rint_own (n % 16 - 5) _ (by omega) (by omega)).mono ?_
  rintro _ w1 ⟨v1, rfl, e1, hb1⟩
  have r3 : 0 ≤ n / 16 % 4 := by omega
  have r4 : n / 16 % 4 ≤ 3 := by omega
  go_wp2_with fail
  refine (rint_own (1 + n / 16 % 4) _ (by omega) (by omega)).mono ?_
  rintro _ w2 ⟨v2, rfl, e2, hb2⟩
  have hb12 := below_then hb1 hb2 hb1.size
  have s1 : Sz 1 (((n % 16 - 5 : Int)) : Rat) := Sz_int (by omega) (by omega)
  have s2 : Sz 1 (((1 + n / 16 % 4 : Int)) : Rat) := Sz_int (by omega) (by omega)
  go_wp2_with fail
  refine (rdivF_own _ _ _ _ _ (e1.frac.below hb2) e2.frac (s1.sh (by decide)) (s2.sh (by decide))).mono ?_
  rw [canF_q, canF_q]
  rintro _ w3 ⟨v3, rfl, e3, hb3⟩
  have SQ := Lib.hid (Sz_div s1 s2)
  clear s1 s2
  generalize (((n % 16 - 5 : Int)) : Rat) / (((1 + n / 16 % 4 : Int)) : Rat) = q at *
  have hb13 := below_then hb12 hb3 hb12.size
  have hR3 := hR.later hb13
  have hbe3 := below_then hbe hb13 hbe.size
  have hE3 := e3.mono (show w.heap.size ≤ w2.heap.size from by have := hbe.size; have := hb12.size; omega)
  obtain ⟨B, l, d, B', l', d', rfl, _, _⟩ := id e3.frac
  obtain ⟨c0, c1, c2, c3⟩ := hR3.four
  obtain ⟨f0, f1, f2, f3⟩ := hR3.fourF
  clear e1 e2 e3 hR hb1 hb2 hb3 hb12
  generalize hQ : canF q = Q at *
  have HQ := Lib.hid hQ
  clear hQ
  go_wp2
  refine ret_cell Tryz.results27 Tryz.underlying47 (by kernel_rfl) rfl (hR3.set4 _ _ _ _) rfl ?_
  obtain ⟨v', q1, q2, q3⟩ := fin_fracO hR3 hE3 hbe3 (Nat.le_refl _)
  exact ⟨v', q, q1, by rw [HQ.out]; exact q2, SQ.out, q3⟩

set_option maxRecDepth 100000 in
set_option maxHeartbeats 2000000 in
theorem ptimes_own (v1 v2 : Value) (a b : RI) (w : World) (ha : IntM w v1 a) (hb : IntM w v2 b) (hs1 : (digs (val a.ds)).length ≤ 1000) (hs2 : (digs (val b.ds)).length ≤ 1000) :
    Calls Tryz.prog 54 #[v1, v2] w fun e w' => ∃ v', e = .returned v' ∧ IntO w.heap.size w' v' (canI (a.z * b.z)) ∧ Below w.heap.size w w' := by
  obtain ⟨A, n, c, rfl, hd⟩ := ha.shape
  obtain ⟨A', n', c', rfl, hd'⟩ := hb.shape
  obtain ⟨W, hW, hX, hX', hR, hbe⟩ := box2 w (.bool a.neg) (.slice A n c) (.bool b.neg) (.slice A' n' c')
  have ha := ha.below hbe
  have hb := hb.below hbe
  clear hd hd'
  obtain ⟨x0, x1, _, _⟩ := hX.two
  obtain ⟨y0, y1, _, _⟩ := hX'.two
  obtain ⟨Q, hQ⟩ : ∃ Q : Rat, ((a.z * b.z : Int) : Rat) = Q := ⟨_, rfl⟩
  have HQ : Hid ((⟨a, canI 1⟩ : RF).q * (⟨b, canI 1⟩ : RF).q = Q) := Lib.hid (by unfold RF.q; simp only [canI_z]; rw [divInt_1, divInt_1, ← hQ, Rat.intCast_mul])
  have l1 : (digs (val (canI 1).ds)).length ≤ 34359738368 := by rw [val_canI]; exact Nat.le_trans (digs_lt (k := 1) (by decide)) (by decide)
  have sh1 : (⟨a, canI 1⟩ : RF).Sh := ⟨by simp only; omega, l1⟩
  have sh2 : (⟨b, canI 1⟩ : RF).Sh := ⟨by simp only; omega, l1⟩
  have HN : Hid ((canF Q).num = canI (a.z * b.z)) := Lib.hid (by rw [← hQ]; unfold canF; rw [Rat.num_intCast])
  clear l1 hQ
  go_enter Tryz.func54, Tryz.ntmps54
  go_wp2_with fail
  clear hW
  have C1 := stab x0
  have C2 := stab x1
  have C3 := stab y0
  have C4 := stab y1
  have hS0 := below_drew' W
  have hf0 := fun b s b' s' (w : World) => run_num b s b' s' w
  clear x0 x1 y0 y1
  refine region_seq 10 [0, 4, 1, 2, 3, 5, 6, 7, 8, 9, 10] (by kernel_rfl) (by kernel_rfl) ?_
  repeat ((first | (refine seq_takeP (v := ?_) rfl rfl rfl ?_ ?_; rotate_left; (· (intro _ hSw; go_simp; (try go_bits); (try with_reducible rfl)))) | (refine seq_take (v := ?_) rfl rfl rfl ?_ ?_; rotate_left; (· (intro _ hSw; go_simp; (try go_bits); (try with_reducible rfl)))) | refine seq_skip rfl rfl rfl ?_); (try simp only [Act.put, pu1, pu2, pu3, pu4, pu5, pu6]))
  refine seq_step rfl rfl (fun KR hKR => ?_)
  go_simp
  with_reducible refine (rint_own 1 _ (by omega) (by omega)).mono ?_
  rintro _ w1 ⟨v1, rfl, e1, hb1⟩
  have hS1 := below_then hS0 hb1 hS0.size
  obtain ⟨B, l, d, B', l', d', rfl, _, _⟩ := id e1.frac
  refine hKR.out _ _ (Or.inr hS1) ?_
  clear hKR KR
  (try simp only [Act.put, pu1, pu2, pu3, pu4, pu5, pu6])
  repeat ((first | (refine seq_takeP (v := ?_) rfl rfl rfl ?_ ?_; rotate_left; (· (intro _ hSw; go_simp; (try go_bits); (try with_reducible rfl)))) | (refine seq_take (v := ?_) rfl rfl rfl ?_ ?_; rotate_left; (· (intro _ hSw; go_simp; (try go_bits); (try with_reducible rfl)))) | refine seq_skip rfl rfl rfl ?_); (try simp only [Act.put, pu1, pu2, pu3, pu4, pu5, pu6]))
  refine seq_step rfl rfl (fun KR hKR => ?_)
  go_simp
  with_reducible refine (rint_own 1 _ (by omega) (by omega)).mono ?_
  rintro _ w2 ⟨v2, rfl, e2, hb2⟩
  have hS2 := below_then hS1 hb2 hS1.size
  obtain ⟨D, k, f, D', k', f', rfl, _, _⟩ := id e2.frac
  have hm1 := (FracM.mk (ha.below hS2) (e1.frac.below hb2).num.1)
  have hm2 := (FracM.mk (hb.below hS2) e2.frac.num.1)
  refine hKR.out _ _ (Or.inr hS2) ?_
  clear hKR KR
  (try simp only [Act.put, pu1, pu2, pu3, pu4, pu5, pu6])
  repeat ((first | (refine seq_takeP (v := ?_) rfl rfl rfl ?_ ?_; rotate_left; (· (intro _ hSw; go_simp; (try go_bits); (try with_reducible rfl)))) | (refine seq_take (v := ?_) rfl rfl rfl ?_ ?_; rotate_left; (· (intro _ hSw; go_simp; (try go_bits); (try with_reducible rfl)))) | refine seq_skip rfl rfl rfl ?_); (try simp only [Act.put, pu1, pu2, pu3, pu4, pu5, pu6]))
  refine seq_step rfl rfl (fun KR hKR => ?_)
  go_simp
  with_reducible refine (rmulF_own _ _ ⟨a, canI 1⟩ ⟨b, canI 1⟩ _ hm1 hm2 sh1 sh2).mono ?_
  rw [HQ.out]
  rintro _ w3 ⟨v3, rfl, e3, hb3⟩
  have hS3 := below_then hS2 hb3 hS2.size
  obtain ⟨E, k3, f3, E', k3', f3', rfl, _, _⟩ := id e3.frac
  have hR3 := hR.later hS3
  obtain ⟨c0, c1, f0, f1⟩ := hR3.two
  refine hKR.out _ _ (Or.inr hS3) ?_
  clear hKR KR
  (try simp only [Act.put, pu1, pu2, pu3, pu4, pu5, pu6])
  repeat ((first | (refine seq_takeP (v := ?_) rfl rfl rfl ?_ ?_; rotate_left; (· (intro _ hSw; go_simp; (try go_bits); (try with_reducible rfl)))) | (refine seq_take (v := ?_) rfl rfl rfl ?_ ?_; rotate_left; (· (intro _ hSw; go_simp; (try go_bits); (try with_reducible rfl)))) | refine seq_skip rfl rfl rfl ?_); (try simp only [Act.put, pu1, pu2, pu3, pu4, pu5, pu6]))
  refine seq_step rfl rfl (fun KR hKR => ?_)
  go_simp
  refine hKR.out _ _ (Or.inl (by decide)) ?_
  clear hKR KR
  (try simp only [Act.put, pu1, pu2, pu3, pu4, pu5, pu6])
  refine seq_done ?_
  clear C1 C2 C3 C4
  have hbe3 := below_then hbe hS3 hbe.size
  have eN := (e3.numO).mono (show w.heap.size ≤ w2.heap.size from by have := hbe.size; have := hS2.size; omega)
  rw [HN.out] at eN
  have HE := Lib.hid eN
  clear e1 e2 e3 hm1 hm2 eN hb1 hb2 hb3 hS0 hS1 hS2 hS3 ha hb hX hX' hR
  go_wp2
  refine ret_cell Tryz.results54 Tryz.underlying45 (by kernel_rfl) rfl (hR3.set2 _ _) rfl ?_
  have HE := HE.out
  rw [← HN.out] at HE ⊢
  exact fin_intO hR3 HE hbe3 (by omega)
end Go.Proofs.YtpanffbgihhjnaaGreat

/- Memory: vectors and lists of vectors in rows of the call's own; append in a region that draws its order. -/
namespace Go.Proofs.YtpanffbgihhjnaaGreat
open Go.RowKit Pl

theorem seq_append_one {ops : Array Oper} {Q : Exit → Act → World → Prop} {S : World → Prop} {m : Nat} {i : Nat} {is : List Nat} {o : Oper} {a : Act} (hoi : ops[i]? = some o) (hf : floatI ops m i = false) (hgd : o.guard = none) (hl0 : m ≤ i) (s x : Operand) (t : TypeId)
    (ho : o.op = .call { callee := .builtin .append, args := #[s, x], argTypes := #[t, t] })
    (e : TypeId) (inf : TypeInfo) (z : Value) (size bytes : Nat) (ht : Tryz.prog.underlying t = some (.slice e)) (hi : Tryz.prog.info? e = some inf) (hz : inf.zero = some z)
    (hsize : inf.size = size) (hby : inf.bytes = bytes) (hzs : z.cells.size = size) (hsz : 0 < size) (W : World) (base : Nat) (v : Value) (n : Nat) (xs news : List Value) (hs : a.eval s = v) (hown : W.ownsRow base e size v n xs)
    (hx : a.eval x = .slice (some ⟨W.heap.size, 0, none⟩) 1 1) (hl : news.length = size) (h1 : ∀ u ∈ news, u.oneCell' = true) (hn : n + 1 ≤ maxLen) (hb : (n + 1) * bytes ≤ 140737488355328) (hbase : base ≤ W.heap.size)
    (h : ∀ v' w', w'.ownsRow base e size v' (n + 1) (xs ++ news) → KeepBut e W w' → Below base W w' → wpSeq Tryz.prog ops Q S m is (a.put o.dst v') w') :
    wpSeq Tryz.prog ops Q S m (i :: is) a (W.alloc (.cells news.toArray e)) := by
  refine seq_step hoi hf fun K hK => ?_
  obtain ⟨v', w', hr, h2, h3, h4⟩ := run_append_one o.type t e inf z size bytes ht hi hz hsize hby hzs hsz W base v n xs news hown hl h1 hn hb hbase
  rw [if_pos (by simp [Region.wanted, hgd])]
  unfold Oper.wp execOp
  simp only [ho, resolve, invoke, builtin, Sem.run_bind, Sem.run_pure, Result.andThen_ok, List.map_toArray, List.map_cons, List.map_nil, hs, hx, hr]
  exact hK _ _ (.inl hl0) (h v' w' h2 h3 h4)
theorem seq_append_frac {ops : Array Oper} {Q : Exit → Act → World → Prop} {S : World → Prop} {m : Nat} {i : Nat} {is : List Nat} {o : Oper} {a : Act} (hoi : ops[i]? = some o) (hfl : floatI ops m i = false) (hgd : o.guard = none) (hl0 : m ≤ i) (s x : Operand)
    (ho : o.op = .call { callee := .builtin .append, args := #[s, x], argTypes := #[23, 23] })
    (W : World) (base : Nat) (v : Value) (fs : List RF) (hs : a.eval s = v) (hown : FrsO base W v fs) (b b' : Bool) (A A' : Option Addr) (n c n' c' : Nat) (f : RF) (hf : FracM W (.agg #[.bool b, .slice A n c, .bool b', .slice A' n' c']) f)
    (hx : a.eval x = .slice (some ⟨W.heap.size, 0, none⟩) 1 1) (hn : fs.length + 1 ≤ 1099511627776) (hbase : base ≤ W.heap.size)
    (h : ∀ v' w', FrsO base w' v' (fs ++ [f]) → KeepBut 47 W w' → Below base W w' → wpSeq Tryz.prog ops Q S m is (a.put o.dst v') w') :
    wpSeq Tryz.prog ops Q S m (i :: is) a (W.alloc (.cells #[.bool b, .slice A n c, .bool b', .slice A' n' c'] 47)) := by
  obtain ⟨cs, h1, h2⟩ := hown
  obtain ⟨i0, hi, hz0, hz1, hz2⟩ := info_parts info_frac
  refine seq_append_one hoi hfl hgd hl0 s x 23 ho 47 i0 _ 4 64 Tryz.underlying23 hi hz0 hz1 hz2 rfl (by decide) W base v fs.length cs [.bool b, .slice A n c, .bool b', .slice A' n' c'] hs h1 hx rfl frac_oneCell (by unfold maxLen; omega) (by omega) hbase ?_
  intro v' w' g1 g2 g3
  refine h v' w' ⟨_, by simpa using g1, ?_⟩ g2 g3
  have hk := g2.keep (by decide)
  exact (h2.keep hk).snoc (hf.keep hk)

def VecO (base : Nat) (w : World) (v : Value) (es : List En) : Prop := ∃ cs, w.ownsRow base 80 5 v es.length cs ∧ EnC w cs es
theorem VecO.vec {base : Nat} {w : World} {v : Value} {es : List En} (h : VecO base w v es) : VecM w v es := by
  obtain ⟨cs, h1, h2⟩ := h
  exact ⟨cs, RowM.of_own h1, h2⟩
theorem VecO.below {base : Nat} {w w' : World} {v : Value} {es : List En} (h : VecO base w v es) (hb : Below w.heap.size w w') : VecO base w' v es := by
  obtain ⟨cs, h1, h2⟩ := h
  exact ⟨cs, own_below h1 hb, h2.keep (Keep.of_below hb)⟩
theorem VecO.nil (base : Nat) (w : World) : VecO base w (.slice none 0 0) [] := ⟨[], World.ownsRow_nil _ _ _ _, EnC.nil _⟩
theorem info_entry : (Tryz.prog.info? 80).map (fun i => (i.zero, i.size, i.bytes)) = some (some (.agg #[.int .i64 0, .bool false, .slice none 0 0, .bool false, .slice none 0 0]), 5, 72) := by kernel_rfl
theorem entry_oneCell {k : Int} {x y : Bool} {A A' : Option Addr} {n c n' c' : Nat} : ∀ u ∈ [Value.int .i64 k, .bool x, .slice A n c, .bool y, .slice A' n' c'], u.oneCell' = true := by
  intro u hu
  simp at hu
  rcases hu with rfl | rfl | rfl | rfl | rfl <;> rfl
theorem wpList_append_entry {ops : Array Oper} {rest : List Oper} {o : Oper} {a : Act} {Q : Exit → Act → World → Prop} (hgd : o.guard = none) (s x : Operand)
    (ho : o.op = .call { callee := .builtin .append, args := #[s, x], argTypes := #[59, 59] })
    (W : World) (base : Nat) (v : Value) (es : List En) (hs : a.eval s = v) (hown : VecO base W v es) (b b' : Bool) (A A' : Option Addr) (n c n' c' : Nat) (k : Int) (f : RF) (hf : FracM W (.agg #[.bool b, .slice A n c, .bool b', .slice A' n' c']) f)
    (hx : a.eval x = .slice (some ⟨W.heap.size, 0, none⟩) 1 1) (hn : es.length + 1 ≤ 1099511627776) (hbase : base ≤ W.heap.size)
    (h : ∀ v' w', VecO base w' v' (es ++ [⟨k, f⟩]) → KeepBut 80 W w' → Below base W w' → wpList Tryz.prog ops Q rest (a.put o.dst v') w') :
    wpList Tryz.prog ops Q (o :: rest) a (W.alloc (.cells #[.int .i64 k, .bool b, .slice A n c, .bool b', .slice A' n' c'] 80)) := by
  obtain ⟨cs, h1, h2⟩ := hown
  obtain ⟨i0, hi, hz0, hz1, hz2⟩ := info_parts info_entry
  refine wpList_append_one hgd s x 59 ho 80 i0 _ 5 72 Tryz.underlying59 hi hz0 hz1 hz2 rfl (by decide) W base v es.length cs [.int .i64 k, .bool b, .slice A n c, .bool b', .slice A' n' c'] hs h1 hx rfl entry_oneCell (by unfold maxLen; omega) (by omega) hbase ?_
  intro v' w' g1 g2 g3
  refine h v' w' ⟨_, by simpa using g1, ?_⟩ g2 g3
  have hk := g2.keep (by decide)
  exact (h2.keep hk).snoc (e := ⟨k, f⟩) (hf.keep hk)

def VecsO (base : Nat) (w : World) (v : Value) (cols : List (List En)) : Prop := ∃ cs, w.ownsRow base 59 1 v cols.length cs ∧ ∀ (k : Nat) (c : List En), cols[k]? = some c → ∃ u, cs[k]? = some u ∧ VecM w u c
theorem VecsO.vecs {base : Nat} {w : World} {v : Value} {cols : List (List En)} (h : VecsO base w v cols) : VecsM w v cols := by
  obtain ⟨cs, h1, h2⟩ := h
  exact ⟨cs, RowM.of_own h1, h2⟩
theorem VecsO.below {base : Nat} {w w' : World} {v : Value} {cols : List (List En)} (h : VecsO base w v cols) (hb : Below w.heap.size w w') : VecsO base w' v cols := by
  obtain ⟨cs, h1, h2⟩ := h
  exact ⟨cs, own_below h1 hb, fun k c hc => by obtain ⟨u, g1, g2⟩ := h2 k c hc; exact ⟨u, g1, g2.below hb⟩⟩
theorem VecsO.but {base : Nat} {w w' : World} {e : TypeId} {v : Value} {cols : List (List En)} (h : VecsO base w v cols) (hk : KeepBut e w w') (h0 : 59 ≠ e) (h1 : 80 ≠ e) (h2 : 85 ≠ e) : VecsO base w' v cols := by
  obtain ⟨cs, g1, g2⟩ := h
  exact ⟨cs, hk.own g1 h0, fun k c hc => by obtain ⟨u, q1, q2⟩ := g2 k c hc; exact ⟨u, q1, q2.but hk h1 h2⟩⟩
theorem VecsM.but {w w' : World} {e : TypeId} {v : Value} {cols : List (List En)} (h : VecsM w v cols) (hk : KeepBut e w w') (h0 : 59 ≠ e) (h1 : 80 ≠ e) (h2 : 85 ≠ e) : VecsM w' v cols := by
  obtain ⟨cs, g1, g2⟩ := h
  exact ⟨cs, hk.row g1 h0, fun k c hc => by obtain ⟨u, q1, q2⟩ := g2 k c hc; exact ⟨u, q1, q2.but hk h1 h2⟩⟩
theorem VecsO.nil (base : Nat) (w : World) : VecsO base w (.slice none 0 0) [] := ⟨[], World.ownsRow_nil _ _ _ _, fun k c h => by simp at h⟩
theorem info_vector : (Tryz.prog.info? 59).map (fun i => (i.zero, i.size, i.bytes)) = some (some (.slice none 0 0), 1, 24) := by kernel_rfl
theorem seq_append_vec {ops : Array Oper} {Q : Exit → Act → World → Prop} {S : World → Prop} {m : Nat} {i : Nat} {is : List Nat} {o : Oper} {a : Act} (hoi : ops[i]? = some o) (hfl : floatI ops m i = false) (hgd : o.guard = none) (hl0 : m ≤ i) (s x : Operand)
    (ho : o.op = .call { callee := .builtin .append, args := #[s, x], argTypes := #[24, 24] })
    (W : World) (base : Nat) (v : Value) (cols : List (List En)) (hs : a.eval s = v) (hown : VecsO base W v cols) (A : Option Addr) (n c : Nat) (es : List En) (hf : VecM W (.slice A n c) es)
    (hx : a.eval x = .slice (some ⟨W.heap.size, 0, none⟩) 1 1) (hn : cols.length + 1 ≤ 1099511627776) (hbase : base ≤ W.heap.size)
    (h : ∀ v' w', VecsO base w' v' (cols ++ [es]) → KeepBut 59 W w' → Below base W w' → wpSeq Tryz.prog ops Q S m is (a.put o.dst v') w') :
    wpSeq Tryz.prog ops Q S m (i :: is) a (W.alloc (.cells #[.slice A n c] 59)) := by
  obtain ⟨cs, h1, h2⟩ := hown
  obtain ⟨i0, hi, hz0, hz1, hz2⟩ := info_parts info_vector
  refine seq_append_one hoi hfl hgd hl0 s x 24 ho 59 i0 _ 1 24 Tryz.underlying24 hi hz0 hz1 hz2 rfl (by decide) W base v cols.length cs [.slice A n c] hs h1 hx rfl (fun u hu => by simp at hu; subst hu; rfl) (by unfold maxLen; omega) (by omega) hbase ?_
  intro v' w' g1 g2 g3
  refine h v' w' ⟨_, by simpa using g1, fun k d hd => ?_⟩ g2 g3
  have hlen : cs.length = cols.length := by simpa using h1.1
  rcases Nat.lt_or_ge k cols.length with hk | hk
  · rw [List.getElem?_append_left hk] at hd
    obtain ⟨u, q1, q2⟩ := h2 k d hd
    exact ⟨u, by rw [List.getElem?_append_left (by omega)]; exact q1, q2.but g2 (by decide) (by decide)⟩
  · rw [List.getElem?_append_right hk] at hd
    have hk0 : k - cols.length = 0 := by
      rcases Nat.eq_zero_or_pos (k - cols.length) with e | e
      · exact e
      · rw [List.getElem?_eq_none (by simp; omega)] at hd; cases hd
    rw [hk0] at hd
    simp at hd
    subst hd
    refine ⟨.slice A n c, ?_, hf.but g2 (by decide) (by decide)⟩
    rw [List.getElem?_append_right (by omega), show k - cs.length = 0 by omega]; rfl
theorem KeepBut.of_below {e : TypeId} {w w' : World} (hb : Below w.heap.size w w') : KeepBut e w w' := fun b _ _ _ _ h => (hb.block b (lt_heap h)).trans h
theorem KeepBut.then {e : TypeId} {w W w' : World} (h : KeepBut e w W) (hb : Below w.heap.size W w') : KeepBut e w w' := fun b cs t fz ht hc => (hb.block b (lt_heap hc)).trans (h b cs t fz ht hc)
theorem KeepBut.refl (e : TypeId) (w : World) : KeepBut e w w := fun _ _ _ _ _ h => h
end Go.Proofs.YtpanffbgihhjnaaGreat

/- Walks: package pairingdata: column. -/
namespace Go.Proofs.YtpanffbgihhjnaaGreat
open Go.RowKit Pl
attribute [local go_sem ↓] Go.wp_at_zero Go.wp_at_succ

namespace Pl
theorem Inc_snoc {es : List En} {p : Option Int} {e : En} (h : Inc p es) (hp : es = [] → leP p e.idx = false) (hlt : ∀ (k : Nat) (d : En), es[k]? = some d → d.idx < e.idx) : Inc p (es ++ [e]) := by
  induction es generalizing p with
  | nil => exact ⟨hp rfl, trivial⟩
  | cons d es ih =>
    refine ⟨h.1, ih h.2 (fun _ => ?_) (fun k c hc => hlt (k + 1) c (by simpa using hc))⟩
    have := hlt 0 d rfl
    simp [leP]; omega
def ColOK (m : Nat) (es : List En) : Prop := Inc none es ∧ es.length ≤ m ∧ ∀ (k : Nat) (e : En), es[k]? = some e → 0 ≤ e.idx ∧ e.idx < m ∧ e.f.q ≠ 0 ∧ e.f.Rs 1
theorem ColOK.nil : ColOK 0 [] := ⟨trivial, Nat.le_refl _, fun k e h => by simp at h⟩
theorem ColOK.next {m : Nat} {es : List En} (h : ColOK m es) : ColOK (m + 1) es := ⟨h.1, by have := h.2.1; omega, fun k e he => by have := h.2.2 k e he; exact ⟨this.1, by omega, this.2.2⟩⟩
theorem ColOK.snoc {m : Nat} {es : List En} (h : ColOK m es) {z : Int} (h0 : z ≠ 0) (h1 : -4294967296 < z) (h2 : z < 4294967296) : ColOK (m + 1) (es ++ [⟨(m : Int), canF (z : Rat)⟩]) := by
  refine ⟨Inc_snoc h.1 (fun _ => rfl) (fun k d hd => (h.2.2 k d hd).2.1), by simp; exact h.2.1, fun k e he => ?_⟩
  rcases Nat.lt_or_ge k es.length with hk | hk
  · rw [List.getElem?_append_left hk] at he
    have := h.2.2 k e he
    exact ⟨this.1, by omega, this.2.2⟩
  · rw [List.getElem?_append_right hk] at he
    have hk0 : k - es.length = 0 := by
      rcases Nat.eq_zero_or_pos (k - es.length) with e | e
      · exact e
      · rw [List.getElem?_eq_none (by simp; omega)] at he; cases he
    rw [hk0] at he
    simp at he
    subst he
    refine ⟨by simp only; omega, by simp only; omega, ?_, (Sz_int h1 h2).rs⟩
    simp only [canF_q]
    exact fun e => h0 (by simpa using congrArg Rat.num e)
theorem vErr_of {n : Int} {es : List En} {p : Option Int} (h : Inc p es) (hr : ∀ (k : Nat) (e : En), es[k]? = some e → 0 ≤ e.idx ∧ e.idx < n ∧ e.f.q ≠ 0) : vErr n es p = 0 := by
  induction es generalizing p with
  | nil => rfl
  | cons d es ih =>
    have := hr 0 d rfl
    rw [vErr, if_neg (by omega), if_neg (by rw [h.1]; simp), if_neg this.2.2]
    exact ih h.2 fun k e he => hr (k + 1) e (by simpa using he)
theorem ColOK.err {m : Nat} {es : List En} (h : ColOK m es) (hm : m ≤ 4096) : vecErr es m = 0 := by
  unfold vecErr
  rw [if_neg (by omega)]
  exact vErr_of h.1 fun k e he => by have := h.2.2 k e he; exact ⟨this.1, this.2.1, this.2.2.1⟩
end Pl

def ColPost (m : Nat) (w : World) (e : Ending) (w' : World) : Prop := ∃ v' es, e = .returned v' ∧ VecO w.heap.size w' v' es ∧ ColOK m es ∧ Below w.heap.size w w'

set_option maxRecDepth 100000 in
set_option maxHeartbeats 2000000 in
theorem column_own (v : Value) (zs : List Int) (t m : Nat) (w : World) (h : IntsM w v zs) (ht : t ≤ 1000000) (hm : m ≤ 1000) :
    Calls Tryz.prog 26 #[v, .int .i64 (t : Int), .int .i64 (m : Int)] w (ColPost m w) := by
  obtain ⟨a, cap, rfl, hc1, hc2⟩ := h.shape
  generalize hn : zs.length = n at *
  clear hn
  go_enter Tryz.func26, Tryz.ntmps26
  go_wp2
  go_loopw [7, 8] (fun s i wr => ∃ (k : Nat) (es : List En), k ≤ m ∧ i = .int .i64 k ∧ VecO w.heap.size wr s es ∧ ColOK k es ∧ Below w.heap.size w wr) (fun _ i _ => m - (intOf i).toNat)
  case atStart => exact ⟨0, [], by omega, rfl, VecO.nil _ _, ColOK.nil, Below.refl _ _⟩
  case round =>
    obtain ⟨k, es, hk, rfl, hown, hcol, hbe⟩ := hrel
    have HC := Lib.hid hcol
    clear hcol
    rcases Nat.lt_or_ge k m with hkl | hkl
    · go_wp2_with fail
      refine (at_any _ zs (t + k) _ (h.below hbe) (by omega)).mono ?_
      rintro _ w1 ⟨z, rfl, z0, z1, hb1⟩
      have hown1 := hown.below hb1
      have hbe1 := below_then hbe hb1 hbe.size
      clear hown hbe hb1
      by_cases hz : z % 6 = 2
      · have hz' : (z % 6 - 2 != 0) = false := by simp; omega
        clear hz
        go_wp2
        go_roundw
        case rel => exact ⟨k + 1, es, by omega, by go_num, hown1, HC.out.next, hbe1⟩
        case measure => simp [intOf]; omega
      · have hz' : (z % 6 - 2 != 0) = true := by simp; omega
        have HZ : Hid (z % 6 - 2 ≠ 0) := Lib.hid (by omega)
        have r1 : -2 ≤ z % 6 - 2 := by omega
        have r2 : z % 6 - 2 ≤ 3 := by omega
        clear hz
        go_wp2_with fail
        refine (at_any _ zs (t + k) _ (h.below hbe1) (by omega)).mono ?_
        rintro _ w2 ⟨z', rfl, _, _, hb2⟩
        have hown2 := hown1.below hb2
        have hbe2 := below_then hbe1 hb2 hbe1.size
        clear hown1 hbe1 hb2
        rcases Int.lt_or_le z' 60000 with hlt | hlt
        · go_wp2_with fail
          refine (rint_own (z % 6 - 2) _ (by omega) (by omega)).mono ?_
          rintro _ w3 ⟨v3, rfl, e3, hb3⟩
          have hown3 := hown2.below hb3
          have hbe3 := below_then hbe2 hb3 hbe2.size
          obtain ⟨B, l, d, B', l', d', rfl, _, _⟩ := id e3.frac
          have HF := Lib.hid e3.frac
          have HO := Lib.hid hown3
          have hlen : es.length + 1 ≤ 1099511627776 := by have := HC.out.2.1; omega
          have hbs := hbe3.size
          have HS := Lib.hid (HC.out.snoc (z := z % 6 - 2) HZ.out (by omega) (by omega))
          clear hown2 hown3 hbe2 hb3 e3
          generalize hQ : canF ((z % 6 - 2 : Int) : Rat) = Q at *
          have HQ := Lib.hid hQ
          clear hQ
          go_wp2_with (at_builtin; refine wpList_append_entry rfl (.tmp 32) (.tmp 37) rfl w3 w.heap.size u7 es rfl HO.out _ _ B B' l d l' d' (k : Int) Q HF.out rfl hlen hbs ?_)
          intro v' w4 hown4 hk4 hb4
          go_wp2
          go_roundw
          case rel => exact ⟨k + 1, es ++ [⟨(k : Int), Q⟩], by omega, by go_num, hown4, HS.out, hbe3.trans hb4⟩
          case measure => simp [intOf]; omega
        · go_wp2
          go_roundw
          case rel => exact ⟨k + 1, es, by omega, by go_num, hown2, HC.out.next, hbe2⟩
          case measure => simp [intOf]; omega
    · obtain rfl : k = m := by omega
      go_wp2
      go_ret
      exact ⟨_, es, rfl, hown, HC.out, hbe⟩
end Go.Proofs.YtpanffbgihhjnaaGreat
