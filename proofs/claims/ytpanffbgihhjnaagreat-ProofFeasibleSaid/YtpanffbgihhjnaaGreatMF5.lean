/- Contracts and plain facts that the claim is built on, joined out of smaller texts. -/
import Derived.Test.YtpanffbgihhjnaaGreatM4
set_option linter.unusedVariables false
set_option linter.unusedSimpArgs false
/- Walks: package pairingdata: Wild. -/
namespace Go.Proofs.YtpanffbgihhjnaaGreat
open Go.RowKit Pl
attribute [local go_sem ↓] Go.wp_at_zero Go.wp_at_succ

/-- a region with forks, under a condition of one's own -/
theorem region_planS {P : Program} {Q : Exit → Act → World → Prop} {id : Nat} {l : List Oper} {a : Act} {w : World} (S : World → Prop) (n : Nat) (p : Plan) (hm : P.follows .mixedOrders = true) (hok : planOK .any l.toArray n p = true) (hS : S w.drew)
    (h : wpPlan P l.toArray (NoPanic Q) S n p a w.drew) : (Code.region id l.toArray true).wp P Q a w := by
  simp only [planOK, Bool.and_eq_true, decide_eq_true_eq] at hok
  obtain ⟨hs, hgo, hev, hl⟩ := hok
  refine wp_region_noPanic (wp_region_any hm (AnyG.any _ _ _ _ (S := S) (n := n) ?_))
  have := AnyG.of_plan (P := P) (Q := NoPanic Q) (S := S) (fun c a d v w h => h) hs p _ a w.drew false hev hgo (fun _ => hS) h
  rwa [hl] at this
theorem info_u32' : (Tryz.prog.info? 85).map (fun i => (i.zero, i.size, i.bytes)) = some (some (.int .u32 0), 1, 4) := info_u32
/-- append of a digit 0 to digits of the call's own; the digit lies in block b -/
theorem run_append_digit (ty : TypeId) (W : World) (base b : Nat) (v : Value) (ds : List Nat) (hown : W.ownsRow base 85 1 v ds.length (ds.map uc)) (hz : Bk W b 85 [.int .u32 0]) (hn : ds.length ≤ 1099511627776) (hbase : base ≤ W.heap.size) :
    ∃ v' w', (Builtin.append_ #[43, 43] ty #[v, .slice (some ⟨b, 0, none⟩) 1 1]).run Tryz.prog W = .ok v' w' ∧ w'.ownsRow base 85 1 v' (ds ++ [0]).length ((ds ++ [0]).map uc) ∧ Others v.ownBlock W w' ∧ Below base W w' ∧ (v'.ownBlock = v.ownBlock ∨ ∀ g, v'.ownBlock = some g → W.heap.size ≤ g) := by
  obtain ⟨i0, hi, hz0, hz1, hz2⟩ := info_parts info_u32
  obtain ⟨v', w', hrun, h2, h3, _, h5⟩ := run_append_own_at (P := Tryz.prog) W base 43 ty 85 i0 (.int .u32 0) 1 4 Tryz.underlying43 hi hz0 hz1 hz2 rfl (by decide) v ds.length (ds.map uc) hown ⟨b, 0, none⟩ 1 1 [.int .u32 0] rfl (fun j u hj => by
    match j, hj with
    | 0, hj => simp at hj; subst hj; simpa [Addr.add] using hz.cellAt 0 rfl) (fun u hu => by simp at hu; subst hu; rfl) (by unfold maxLen; omega) (by omega) hbase
  refine ⟨v', w', hrun, by simpa [uc] using h2, ⟨h3.size, fun k hk hne => h3.block k hk hne⟩, (Below.refl _ _).grown h3 hbase (fun k hk => (hown.lt k hk).1), ?_⟩
  rcases h5 with h5 | h5
  · exact .inl h5
  · right; intro g hg; rw [h5] at hg; injection hg with hg; omega

theorem wp_append_run {P : Program} {o : Oper} {a : Act} {w w' : World} {K : Act → World → Prop} {Q : Exit → Act → World → Prop} {y : Nat → Option Bool} {s x : Operand} {t ty : TypeId} {v u v' : Value} (hr : (Builtin.append_ #[t, t] ty #[v, u]).run P w = .ok v' w') (hty : o.type = ty) (hgd : o.guard = none) (ho : o.op = .call { callee := .builtin .append, args := #[s, x], argTypes := #[t, t] })
    (hs : a.eval s = v) (hx : a.eval x = u) (h : K (a.put o.dst v') w') : if Region.wanted o y = true then Oper.wp P o a w K Q else K (a.put o.dst undef) w := by
  subst hty
  rw [if_pos (by simp [Region.wanted, hgd])]
  unfold Oper.wp execOp
  simp only [ho, resolve, invoke, builtin, Sem.run_bind, Sem.run_pure, Result.andThen_ok, List.map_toArray, List.map_cons, List.map_nil, hs, hx, hr]
  exact h
theorem box_i4 (w : World) (x y z u : Value) : ∃ W, w.alloc (.cells #[x, y, z, u] 3) = W ∧ Bk W w.heap.size 3 [x, y, z, u] ∧ Below w.heap.size w W := ⟨_, rfl, Bk.new w _ [x, y, z, u], below_new w _⟩
theorem box_int (w : World) (x y : Value) : ∃ W, w.alloc (.cells #[x, y] 45) = W ∧ Bk W w.heap.size 45 [x, y] ∧ Below w.heap.size w W := ⟨_, rfl, Bk.new w _ [x, y], below_new w _⟩
theorem pick4 (i : Nat) (hi : i < 4) : ∃ z : Int, [Value.int .i64 1, .int .i64 (-1), .int .i64 2, .int .i64 0][i]? = some (.int .i64 z) ∧ -1 ≤ z ∧ z ≤ 2 := by
  match i, hi with
  | 0, _ => exact ⟨1, rfl, by decide, by decide⟩
  | 1, _ => exact ⟨-1, rfl, by decide, by decide⟩
  | 2, _ => exact ⟨2, rfl, by decide, by decide⟩
  | 3, _ => exact ⟨0, rfl, by decide, by decide⟩
theorem IntO.own_lt {base : Nat} {w : World} {b s : Value} {a : RI} (h : IntO base w (.agg #[b, s]) a) : ∀ g, s.ownBlock = some g → g < w.heap.size := by
  obtain ⟨t, e, o, _⟩ := h
  simp at e
  obtain ⟨_, rfl⟩ := e
  intro g hg
  rcases o.2 with ⟨rfl, _⟩ | ⟨g', cap, cur, rfl, _, hgg, _⟩
  · simp [Value.ownBlock] at hg
  · simp [Value.ownBlock] at hg
    subst hg
    exact lt_heap hgg
theorem IntO.own_ge {base : Nat} {w : World} {b s : Value} {a : RI} (h : IntO base w (.agg #[b, s]) a) : ∀ g, s.ownBlock = some g → base ≤ g := by
  obtain ⟨t, e, o, _⟩ := h
  simp at e
  obtain ⟨_, rfl⟩ := e
  intro g hg
  exact (o.lt g hg).1
theorem IntO.row {base : Nat} {w : World} {b s : Value} {a : RI} (h : IntO base w (.agg #[b, s]) a) : w.ownsRow base 85 1 s a.ds.length (a.ds.map uc) ∧ okD a.ds := by
  obtain ⟨t, e, o, ok⟩ := h
  simp at e
  obtain ⟨_, rfl⟩ := e
  exact ⟨o, ok⟩
theorem own_others {base : Nat} {w w' : World} {g : Option Nat} {t : TypeId} {s n : Nat} {v : Value} {xs : List Value} (h : w.ownsRow base t s v n xs) (ho : Others g w w') (hne : ∀ b, v.ownBlock = some b → some b ≠ g) : w'.ownsRow base t s v n xs := by
  refine ⟨h.1, ?_⟩
  rcases h.2 with hn | ⟨g', cap, cur, rfl, hb', hgg, rest⟩
  · exact .inl hn
  · exact .inr ⟨g', cap, cur, rfl, hb', (ho.2 g' (lt_heap hgg) (hne g' (by simp [Value.ownBlock]))).trans hgg, rest⟩
theorem own_lt' {base : Nat} {w : World} {t : TypeId} {s n : Nat} {v : Value} {xs : List Value} (h : w.ownsRow base t s v n xs) : ∀ g, v.ownBlock = some g → g < w.heap.size := by
  intro g hg
  rcases h.2 with ⟨rfl, _⟩ | ⟨g', cap, cur, rfl, _, hgg, _⟩
  · simp [Value.ownBlock] at hg
  · simp [Value.ownBlock] at hg
    subst hg
    exact lt_heap hgg
theorem own_ne_bk {base : Nat} {w : World} {t t' : TypeId} {s n g : Nat} {v : Value} {xs cs : List Value} (h : w.ownsRow base t s v n xs) (hb : Bk w g t' cs) (ht : t ≠ t') : some g ≠ v.ownBlock := by
  intro e
  rcases h.2 with ⟨rfl, _⟩ | ⟨g', cap, cur, rfl, _, hgg, _⟩
  · simp [Value.ownBlock] at e
  · simp [Value.ownBlock] at e
    subst e
    unfold Bk at hb
    rw [hb] at hgg
    injection hgg with hgg
    injection hgg with _ h2 _
    exact ht h2.symm
theorem box_u (w : World) : ∃ W, w.alloc (.cells #[.int .u32 0] 85) = W ∧ Bk W w.heap.size 85 [.int .u32 0] ∧ Below w.heap.size w W := ⟨_, rfl, Bk.new w _ [.int .u32 0], below_new w _⟩
theorem intM_row {base : Nat} {w : World} {neg : Bool} {A : Option Addr} {l c : Nat} {ds : List Nat} (hl : (ds ++ [0]).length = l) (h : w.ownsRow base 85 1 (.slice A l c) l ((ds ++ [0]).map uc)) (ok : okD ds) : IntM w (.agg #[.bool neg, .slice A l c]) ⟨neg, ds ++ [0]⟩ := by
  subst hl
  exact (IntO.int ⟨_, rfl, h, okD_append.2 ⟨ok, okD_cons.2 ⟨by decide, okD_nil⟩⟩⟩ : IntM w (.agg #[.bool neg, .slice A _ c]) ⟨neg, ds ++ [0]⟩)
theorem Pl.val_zero_end (ds : List Nat) : val (ds ++ [0]) = val ds := by rw [val_append]; simp [val]
def WildPost (w : World) (e : Ending) (w' : World) : Prop := ∃ v' f, e = .returned v' ∧ FracM w' v' f ∧ f.Rs 8 ∧ Below w.heap.size w w'

set_option maxRecDepth 100000 in
set_option maxHeartbeats 8000000 in
theorem wild_any (n : Int) (w : World) : Calls Tryz.prog 22 #[.int .i64 n] w (WildPost w) := by
  have m2 := i64_and3
  obtain ⟨W, hW, hR, hbe0⟩ := boxF1 w (.bool false) (.slice none 0 0) (.bool false) (.slice none 0 0)
  obtain ⟨i, hi, hi4⟩ : ∃ i : Nat, n / 64 % 4 = (i : Int) ∧ i < 4 := ⟨(n / 64 % 4).toNat, by omega, by omega⟩
  obtain ⟨z, hz, z1, z2⟩ := pick4 i hi4
  have HZ := Lib.hid hz
  clear hz
  go_enter Tryz.func22, Tryz.ntmps22
  go_wp2_with fail
  clear hW
  refine (frac_own n _).mono ?_
  rintro _ w1 ⟨v1, q, rfl, e1, sq, hb1⟩
  have HF1 := Lib.hid e1.frac
  have HSQ := Lib.hid sq.rs
  clear e1 sq
  generalize canF q = fq at *
  obtain ⟨Bn, ln, dn, Bd, ld, dd, rfl, _, _⟩ := id HF1.out
  obtain ⟨W1, hW1, hX1, hbn1⟩ := boxF1 w1 (.bool fq.num.neg) (.slice Bn ln dn) (.bool fq.den.neg) (.slice Bd ld dd)
  obtain ⟨U1, hU1, hL1, hbu1⟩ := box_i4 W1 (.int .i64 1) (.int .i64 (-1)) (.int .i64 2) (.int .i64 0)
  have hc1 := hL1.cellAt i HZ.out
  have hb11 := below_then hbn1 hbu1 hbn1.size
  have hb1u := below_then hb1 hb11 hb1.size
  have hiI : (i : Int) < 4 := by omega
  go_wp2_with fail
  clear hW1 hU1
  refine (rint_own z _ (by omega) (by omega)).mono ?_
  rintro _ w2 ⟨v2, rfl, e2, hb2⟩
  have HSKA1 : Hid ((digs (val (canF (z : Rat)).num.ds)).length ≤ 1) := Lib.hid (Sz_int (z := z) (by omega) (by omega)).rs.1
  have HSK : Hid ((digs (val (canF (z : Rat)).num.ds)).length ≤ 1000) := Lib.hid (Nat.le_trans HSKA1.out (by decide))
  obtain ⟨B2, l2, d2, B2', l2', d2', rfl, _, _⟩ := id e2.frac
  have HE2 := Lib.hid e2.frac.num.1
  clear e2
  generalize hkA : (canF (z : Rat)) = fA at *
  clear hkA
  obtain ⟨kA, hkA⟩ : ∃ kA, fA.num = kA := ⟨_, rfl⟩
  rw [hkA] at HSK HSKA1 HE2 ⊢
  clear hkA
  have hfA := fun b s b' s' (w : World) => run_num b s b' s' w
  obtain ⟨U2, hU2, hA2, hbu2⟩ := box_int w2 (.bool kA.neg) (.slice B2 l2 d2)
  obtain ⟨U3, hU3, hL3, hbu3⟩ := box_i4 U2 (.int .i64 1) (.int .i64 (-1)) (.int .i64 2) (.int .i64 0)
  have hc3 := hL3.cellAt i HZ.out
  go_wp2_with fail
  clear hU2 hU3 hc1
  refine (rint_own z _ (by omega) (by omega)).mono ?_
  rintro _ w3 ⟨v3, rfl, e3, hb3⟩
  obtain ⟨B3, l3, d3, B3', l3', d3', rfl, _, _⟩ := id e3.frac
  have HE3 := Lib.hid e3.frac.num.1
  have HSKB1 : Hid ((digs (val (canF (z : Rat)).num.ds)).length ≤ 1) := Lib.hid (Sz_int (z := z) (by omega) (by omega)).rs.1
  have HSK3 : Hid ((digs (val (canF (z : Rat)).num.ds)).length ≤ 1000) := Lib.hid (Nat.le_trans HSKB1.out (by decide))
  clear e3
  generalize hkB : (canF (z : Rat)) = fB at *
  clear hkB
  obtain ⟨kB, hkB⟩ : ∃ kB, fB.num = kB := ⟨_, rfl⟩
  rw [hkB] at HSK3 HSKB1 HE3 ⊢
  clear hkB
  obtain ⟨U4, hU4, hA4, hbu4⟩ := box_int w3 (.bool kB.neg) (.slice B3 l3 d3)
  go_wp2_with fail
  clear hU4 hc3 hfA m2 hi
  have m2 := i64_and3
  have c3 := below_then hb3 hbu4 hb3.size
  have c2 := below_then hbu3 c3 hbu3.size
  have c1 := below_then hbu2 c2 hbu2.size
  have c0 := below_then hb2 c1 hb2.size
  have cU := below_then hbu1 c0 hbu1.size
  have hX := hX1.later cU
  have hFq := HF1.out.below (below_then hbn1 cU hbn1.size)
  have hNum := hFq.num.1
  have hDen := hFq.num.2
  have hKA := HE2.out.below c1
  have hKB := HE3.out.below hbu4
  have hA := hA2.later c2
  have hR4 := hR.later (below_then hb1u c0 hb1u.size)
  have hbe4 := below_then hbe0 (below_then hb1u c0 hb1u.size) hbe0.size
  have HSN : Hid ((digs (val fq.num.ds)).length ≤ 1000) := Lib.hid (Nat.le_trans HSQ.out.1 (by decide))
  have HSD : Hid ((digs (val fq.den.ds)).length ≤ 1000) := Lib.hid (Nat.le_trans HSQ.out.2 (by decide))
  have HSKA := HSK
  have HSKB := HSK3
  have hgf : w.heap.size < w1.heap.size := by have := hR.lt; have := hb1.size; omega
  clear hX1 hFq hA2 hR hbe0 hb1u c0 c1 c2 c3 cU hbn1 hbu1 hbu2 hbu3 hbu4 hb1 hb11 hb2 hb3 HF1 HE2 HE3 hL1 hL3 HSK HSK3 hi4 hiI HZ
  generalize hg1 : w1.heap.size = gf at *
  generalize hg2 : w2.heap.size = ga at *
  generalize hg3 : w3.heap.size = gb at *
  clear hg1 hg2 hg3
  obtain ⟨NN, hNN⟩ : ∃ NN, canI (fq.num.z * kA.z) = NN := ⟨_, rfl⟩
  obtain ⟨DD, hDD⟩ : ∃ DD, canI (fq.den.z * kB.z) = DD := ⟨_, rfl⟩
  have HNN := Lib.hid hNN
  have HDD := Lib.hid hDD
  have HRS : Hid ((digs (val NN.ds)).length ≤ 8 ∧ (digs (val DD.ds)).length ≤ 8) := Lib.hid (by
    rw [← hNN, ← hDD, val_canI, val_canI, Int.natAbs_mul, Int.natAbs_mul, z_natAbs, z_natAbs, z_natAbs, z_natAbs]
    exact ⟨Nat.le_trans (mul_len _ _) (by have := HSQ.out.1; have := HSKA1.out; omega), Nat.le_trans (mul_len _ _) (by have := HSQ.out.2; have := HSKB1.out; omega)⟩)
  have HCN : Hid (NN.ds.length = (digs (val NN.ds)).length) := Lib.hid (by rw [← hNN, val_canI]; rfl)
  have HCD : Hid (DD.ds.length = (digs (val DD.ds)).length) := Lib.hid (by rw [← hDD, val_canI]; rfl)
  clear hNN hDD
  obtain ⟨x0, x1, x2, x3⟩ := hX.four
  obtain ⟨y0, y1, _, _⟩ := hA.two
  obtain ⟨p0, p1, _, _⟩ := hA4.two
  have C0 := stab x0
  have C1 := stab x1
  have C2 := stab x2
  have C3 := stab x3
  have C4 := stab y0
  have C5 := stab y1
  have C6 := stab p0
  have C7 := stab p1
  have hS0 := below_drew' U4
  clear x0 x1 x2 x3 y0 y1 p0 p1
  refine region_seq 9 [0, 1, 2, 4, 5, 6, 3, 8, 7, 9, 10, 11] (by kernel_rfl) (by kernel_rfl) ?_
  repeat (first | (refine seq_takeP (v := ?_) rfl rfl rfl ?_ ?_; rotate_left; (· (intro _ hSw; go_simp; (try go_bits); (try with_reducible rfl))); (try simp only [Act.put, List.setIfInBounds_toArray, List.set_cons_zero, List.set_cons_succ, List.getElem_toArray, List.getElem_cons_zero, List.getElem_cons_succ])) | (refine seq_take (v := ?_) rfl rfl rfl ?_ ?_; rotate_left; (· (intro _ hSw; go_simp; (try go_bits); (try with_reducible rfl))); (try simp only [Act.put, List.setIfInBounds_toArray, List.set_cons_zero, List.set_cons_succ, List.getElem_toArray, List.getElem_cons_zero, List.getElem_cons_succ])) | (refine seq_skip rfl rfl rfl ?_; (try simp only [Act.put, List.setIfInBounds_toArray, List.set_cons_zero, List.set_cons_succ, List.getElem_toArray, List.getElem_cons_zero, List.getElem_cons_succ])))
  refine seq_step rfl rfl (fun KR hKR => ?_)
  go_simp
  with_reducible refine (ptimes_own _ _ fq.num kA _ (hNum.below hS0) (hKA.below hS0) HSN.out HSKA.out).mono ?_
  rw [HNN.out]
  rintro _ w5 ⟨v5, rfl, e5, hb5⟩
  have hS5 := below_then hS0 hb5 hS0.size
  obtain ⟨A5, n5, c5, rfl⟩ := e5.shape
  refine hKR.out _ _ (Or.inr hS5) ?_
  clear hKR KR
  (try simp only [Act.put, List.setIfInBounds_toArray, List.set_cons_zero, List.set_cons_succ, List.getElem_toArray, List.getElem_cons_zero, List.getElem_cons_succ])
  repeat (first | (refine seq_takeP (v := ?_) rfl rfl rfl ?_ ?_; rotate_left; (· (intro _ hSw; go_simp; (try go_bits); (try with_reducible rfl))); (try simp only [Act.put, List.setIfInBounds_toArray, List.set_cons_zero, List.set_cons_succ, List.getElem_toArray, List.getElem_cons_zero, List.getElem_cons_succ])) | (refine seq_take (v := ?_) rfl rfl rfl ?_ ?_; rotate_left; (· (intro _ hSw; go_simp; (try go_bits); (try with_reducible rfl))); (try simp only [Act.put, List.setIfInBounds_toArray, List.set_cons_zero, List.set_cons_succ, List.getElem_toArray, List.getElem_cons_zero, List.getElem_cons_succ])) | (refine seq_skip rfl rfl rfl ?_; (try simp only [Act.put, List.setIfInBounds_toArray, List.set_cons_zero, List.set_cons_succ, List.getElem_toArray, List.getElem_cons_zero, List.getElem_cons_succ])))
  refine seq_step rfl rfl (fun KR hKR => ?_)
  go_simp
  with_reducible refine (ptimes_own _ _ fq.den kB _ (hDen.below hS5) (hKB.below hS5) HSD.out HSKB.out).mono ?_
  rw [HDD.out]
  rintro _ w6 ⟨v6, rfl, e6, hb6⟩
  have hS6 := below_then hS5 hb6 hS5.size
  obtain ⟨A6, n6, c6, rfl⟩ := e6.shape
  have hX6 := hX.later hS6
  obtain ⟨t0, t1, t2, t3⟩ := hX6.four
  obtain ⟨f0, f1, f2, f3⟩ := hX6.fourF
  refine hKR.out _ _ (Or.inr hS6) ?_
  clear hKR KR
  (try simp only [Act.put, List.setIfInBounds_toArray, List.set_cons_zero, List.set_cons_succ, List.getElem_toArray, List.getElem_cons_zero, List.getElem_cons_succ])
  repeat (first | (refine seq_takeP (v := ?_) rfl rfl rfl ?_ ?_; rotate_left; (· (intro _ hSw; go_simp; (try go_bits); (try with_reducible rfl))); (try simp only [Act.put, List.setIfInBounds_toArray, List.set_cons_zero, List.set_cons_succ, List.getElem_toArray, List.getElem_cons_zero, List.getElem_cons_succ])) | (refine seq_take (v := ?_) rfl rfl rfl ?_ ?_; rotate_left; (· (intro _ hSw; go_simp; (try go_bits); (try with_reducible rfl))); (try simp only [Act.put, List.setIfInBounds_toArray, List.set_cons_zero, List.set_cons_succ, List.getElem_toArray, List.getElem_cons_zero, List.getElem_cons_succ])) | (refine seq_skip rfl rfl rfl ?_; (try simp only [Act.put, List.setIfInBounds_toArray, List.set_cons_zero, List.set_cons_succ, List.getElem_toArray, List.getElem_cons_zero, List.getElem_cons_succ])))
  refine seq_step rfl rfl (fun KR hKR => ?_)
  go_simp
  refine hKR.out _ _ (Or.inl (by decide)) ?_
  clear hKR KR
  (try simp only [Act.put, List.setIfInBounds_toArray, List.set_cons_zero, List.set_cons_succ, List.getElem_toArray, List.getElem_cons_zero, List.getElem_cons_succ])
  have hX7 := (hX6.set_ 0 (.bool NN.neg)).set_ 1 (.slice A5 n5 c5)
  simp only [List.set_cons_zero, List.set_cons_succ] at hX7
  clear t0 t1 t2 t3 f0 f1 f2 f3
  obtain ⟨t0, t1, t2, t3⟩ := hX7.four
  obtain ⟨f0, f1, f2, f3⟩ := hX7.fourF
  refine seq_step rfl rfl (fun KR hKR => ?_)
  go_simp
  refine hKR.out _ _ (Or.inl (by decide)) ?_
  clear hKR KR
  (try simp only [Act.put, List.setIfInBounds_toArray, List.set_cons_zero, List.set_cons_succ, List.getElem_toArray, List.getElem_cons_zero, List.getElem_cons_succ])
  refine seq_step rfl rfl (fun KR hKR => ?_)
  go_simp
  refine hKR.out _ _ (Or.inl (by decide)) ?_
  clear hKR KR
  (try simp only [Act.put, List.setIfInBounds_toArray, List.set_cons_zero, List.set_cons_succ, List.getElem_toArray, List.getElem_cons_zero, List.getElem_cons_succ])
  refine seq_done ?_
  clear C0 C1 C2 C3 C4 C5 C6 C7
  have hX8 := (hX7.set_ 2 (.bool DD.neg)).set_ 3 (.slice A6 n6 c6)
  simp only [List.set_cons_zero, List.set_cons_succ] at hX8
  have k4 := hX6.keep4 (by decide) (.bool NN.neg) (.slice A5 n5 c5) (.bool DD.neg) (.slice A6 n6 c6)
  have hN8 := (e5.below hb6).keep k4
  have hD8 := e6.keep k4
  have hb8 := below_set4 (below_then hbe4 hS6 hbe4.size) (show w.heap.size ≤ gf by omega) (.bool NN.neg) (.slice A5 n5 c5) (.bool DD.neg) (.slice A6 n6 c6)
  have hR8 := (hR4.later hS6).far4 (show w.heap.size ≠ gf by omega) (.bool NN.neg) (.slice A5 n5 c5) (.bool DD.neg) (.slice A6 n6 c6)
  have hs56 : U4.heap.size ≤ w5.heap.size := hS5.size
  have hs6 : w6.heap.size ≤ ((((w6.setCell ⟨gf, 0, none⟩ (.bool NN.neg)).setCell ⟨gf, 1, none⟩ (.slice A5 n5 c5)).setCell ⟨gf, 2, none⟩ (.bool DD.neg)).setCell ⟨gf, 3, none⟩ (.slice A6 n6 c6)).heap.size := by simp
  have hs67 := hb6.size
  have hnlt : ∀ g, (Value.slice A5 n5 c5).ownBlock = some g → g < w5.heap.size := e5.own_lt
  have hdge : ∀ g, (Value.slice A6 n6 c6).ownBlock = some g → w5.heap.size ≤ g := e6.own_ge
  have HNLT := Lib.hid hnlt
  have HDGE := Lib.hid hdge
  have hw0 : w.heap.size ≤ U4.heap.size := hbe4.size
  generalize (((w6.setCell ⟨gf, 0, none⟩ (.bool NN.neg)).setCell ⟨gf, 1, none⟩ (.slice A5 n5 c5)).setCell ⟨gf, 2, none⟩ (.bool DD.neg)).setCell ⟨gf, 3, none⟩ (.slice A6 n6 c6) = W8 at *
  clear hnlt hdge e5 e6 k4 hX hX6 hX7 hA hA4 hR4 hbe4 hNum hDen hKA hKB hS0 hS5 hS6 hb5 hb6 t0 t1 t2 t3 f0 f1 f2 f3 HNN HDD HSN HSD HSKA HSKB HSKA1 HSKB1 HSQ
  obtain ⟨x0, x1, x2, x3⟩ := hX8.four
  by_cases h3 : n / 256 % 4 = 3
  rotate_left
  · have h3' : (n / 256 % 4 == 3) = false := by simpa using h3
    clear h3
    have hF := FracM.mk hN8.int hD8.int
    obtain ⟨r0, r1, r2, r3⟩ := hR8.four
    obtain ⟨f0, f1, f2, f3⟩ := hR8.fourF
    go_wp2
    refine ret_cell Tryz.results22 Tryz.underlying47 (by kernel_rfl) rfl (hR8.set4 _ _ _ _) rfl ?_
    obtain ⟨v', q1, q2, q3⟩ := fin_frac hR8 hF hb8 (Nat.le_refl _)
    exact ⟨v', _, q1, q2, HRS.out, q3⟩
  · have h3' : (n / 256 % 4 == 3) = true := by simpa using h3
    clear h3
    obtain ⟨N1, okN⟩ := hN8.row
    obtain ⟨D1, okD'⟩ := hD8.row
    have HOKN := Lib.hid okN
    have HOKD := Lib.hid okD'
    have HRZ : Hid ((⟨⟨NN.neg, NN.ds ++ [0]⟩, ⟨DD.neg, DD.ds ++ [0]⟩⟩ : RF).Rs 8) := Lib.hid (by unfold RF.Rs; simp only [val_zero_end]; exact HRS.out)
    have hlN : NN.ds.length ≤ 1099511627776 := by rw [HCN.out]; exact Nat.le_trans HRS.out.1 (by decide)
    have hlD : DD.ds.length ≤ 1099511627776 := by rw [HCD.out]; exact Nat.le_trans HRS.out.2 (by decide)
    have hX9 := hX8.drew
    have hR9 := hR8.drew
    have hN9 := own_below N1 (below_drew' W8)
    have hD9 := own_below D1 (below_drew' W8)
    have hb9 := hb8.drew
    have hsz9 : w6.heap.size ≤ W8.drew.heap.size := hs6
    have hbsN : U4.drew.heap.size ≤ w6.heap.size := by show U4.heap.size ≤ _; omega
    have hbsD : w5.heap.size ≤ w6.heap.size := by omega
    have hU0 : w.heap.size ≤ U4.drew.heap.size := hw0
    have hU5 : w.heap.size ≤ w5.heap.size := by omega
    go_wp2_with fail
    clear hN8 hD8 N1 D1 okN okD' hX8 hR8 hb8 x0 x2
    refine region_planS (fun w' => w'.cell? ⟨gf, 1, none⟩ = some (.slice A5 n5 c5) ∧ w'.cell? ⟨gf, 3, none⟩ = some (.slice A6 n6 c6)) 12 (.go 0 (.go 1 (.go 2 (.go 5 (.go 6 (.go 7 (.fork 3 (.fork 4 (.go 10 (.go 11 (.go 8 (.go 9 (.go 12 (.go 13 (.go 14 (.go 15 .done)))))))) 8 (.go 4 (.go 10 (.go 11 (.go 9 (.go 12 (.go 13 (.go 14 (.go 15 .done))))))))) 8 (.go 3 (.go 4 (.go 10 (.go 11 (.go 9 (.go 12 (.go 13 (.go 14 (.go 15 .done)))))))))))))))) (by kernel_rfl) (by kernel_rfl) ⟨x1, x3⟩ ?_
    repeat (first | (refine plan_takeP (v := ?_) rfl rfl rfl ?_ ?_; rotate_left; (· (intro _ hSw; go_simp; (try go_bits); (try with_reducible rfl))); (try simp only [Act.put, List.setIfInBounds_toArray, List.set_cons_zero, List.set_cons_succ, List.getElem_toArray, List.getElem_cons_zero, List.getElem_cons_succ])) | (refine plan_take (v := ?_) rfl rfl rfl ?_ ?_; rotate_left; (· (intro _ hSw; go_simp; (try go_bits); (try with_reducible rfl))); (try simp only [Act.put, List.setIfInBounds_toArray, List.set_cons_zero, List.set_cons_succ, List.getElem_toArray, List.getElem_cons_zero, List.getElem_cons_succ])) | (refine plan_skip rfl rfl rfl ?_; (try simp only [Act.put, List.setIfInBounds_toArray, List.set_cons_zero, List.set_cons_succ, List.getElem_toArray, List.getElem_cons_zero, List.getElem_cons_succ])) | (refine plan_skipc rfl rfl rfl (by assumption) ?_; (try simp only [Act.put, List.setIfInBounds_toArray, List.set_cons_zero, List.set_cons_succ, List.getElem_toArray, List.getElem_cons_zero, List.getElem_cons_succ])))
    refine plan_fork rfl rfl (fun KR hKR => ?_) (fun KR hKR => ?_)
    · obtain ⟨WZ1, hWZ1, hz1, hbz1⟩ := box_u W8.drew
      go_simp
      clear hWZ1
      have X2 := hX9.later hbz1
      have R2 := hR9.later hbz1
      have N2 := own_below hN9 hbz1
      have D2 := own_below hD9 hbz1
      have be2 := below_then hb9 hbz1 hb9.size
      have sz2 := Nat.le_trans hsz9 hbz1.size
      have gz1 := hsz9
      refine hKR.out _ _ (Or.inr ⟨X2.cellAt 1 rfl, X2.cellAt 3 rfl⟩) ?_
      clear hKR KR
      (try simp only [Act.put, List.setIfInBounds_toArray, List.set_cons_zero, List.set_cons_succ, List.getElem_toArray, List.getElem_cons_zero, List.getElem_cons_succ])
      refine plan_fork rfl rfl (fun KR hKR => ?_) (fun KR hKR => ?_)
      · obtain ⟨va3, wa3, hr3, ho3, hot3, hba3, hbl3⟩ := run_append_digit 43 WZ1 _ _ (.slice A5 n5 c5) NN.ds N2 hz1 (by omega) (Nat.le_trans hbsN sz2)
        obtain ⟨Aa3, ca3, rfl, _, _⟩ := (RowM.of_own ho3).shape
        generalize hle3 : (NN.ds ++ [0]).length = la3 at *
        have HLE3 := Lib.hid hle3
        clear hle3
        refine wp_append_run hr3 rfl rfl rfl rfl rfl ?_
        clear hr3
        have X3 := hot3.bk X2 (own_ne_bk N2 X2 (by decide))
        have R3 := hot3.bk R2 (own_ne_bk N2 R2 (by decide))
        have D3 := own_others D2 hot3 (fun b hb e => by have h1 := HNLT.out b e.symm; have h2 := HDGE.out b hb; omega)
        have NB3 : ∀ g, (Value.slice Aa3 la3 ca3).ownBlock = some g → g < w5.heap.size ∨ WZ1.heap.size ≤ g := fun g hg => by
          rcases hbl3 with e | e
          · rw [e] at hg; exact .inl (HNLT.out g hg)
          · exact .inr (e g hg)
        have DL3 := own_lt' D2
        have be3 := be2.trans (hba3.mono (by omega))
        have sz3 := Nat.le_trans sz2 hot3.1
        refine hKR.out _ _ (Or.inr ⟨X3.cellAt 1 rfl, X3.cellAt 3 rfl⟩) ?_
        clear hKR KR
        (try simp only [Act.put, List.setIfInBounds_toArray, List.set_cons_zero, List.set_cons_succ, List.getElem_toArray, List.getElem_cons_zero, List.getElem_cons_succ])
        repeat (first | (refine plan_takeP (v := ?_) rfl rfl rfl ?_ ?_; rotate_left; (· (intro _ hSw; go_simp; (try go_bits); (try with_reducible rfl))); (try simp only [Act.put, List.setIfInBounds_toArray, List.set_cons_zero, List.set_cons_succ, List.getElem_toArray, List.getElem_cons_zero, List.getElem_cons_succ])) | (refine plan_take (v := ?_) rfl rfl rfl ?_ ?_; rotate_left; (· (intro _ hSw; go_simp; (try go_bits); (try with_reducible rfl))); (try simp only [Act.put, List.setIfInBounds_toArray, List.set_cons_zero, List.set_cons_succ, List.getElem_toArray, List.getElem_cons_zero, List.getElem_cons_succ])) | (refine plan_skip rfl rfl rfl ?_; (try simp only [Act.put, List.setIfInBounds_toArray, List.set_cons_zero, List.set_cons_succ, List.getElem_toArray, List.getElem_cons_zero, List.getElem_cons_succ])) | (refine plan_skipc rfl rfl rfl (by assumption) ?_; (try simp only [Act.put, List.setIfInBounds_toArray, List.set_cons_zero, List.set_cons_succ, List.getElem_toArray, List.getElem_cons_zero, List.getElem_cons_succ])))
        obtain ⟨WZ4, hWZ4, hz4, hbz4⟩ := box_u wa3
        refine plan_step rfl rfl (fun KR hKR => ?_)
        go_simp
        clear hWZ4
        have X5 := X3.later hbz4
        have R5 := R3.later hbz4
        have N5 := own_below ho3 hbz4
        have D5 := own_below D3 hbz4
        have be5 := below_then be3 hbz4 be3.size
        have sz5 := Nat.le_trans sz3 hbz4.size
        have gz4 := sz3
        refine hKR.out _ _ (Or.inr ⟨X5.cellAt 1 rfl, X5.cellAt 3 rfl⟩) ?_
        clear hKR KR
        (try simp only [Act.put, List.setIfInBounds_toArray, List.set_cons_zero, List.set_cons_succ, List.getElem_toArray, List.getElem_cons_zero, List.getElem_cons_succ])
        obtain ⟨va6, wa6, hr6, ho6, hot6, hba6, hbl6⟩ := run_append_digit 43 WZ4 _ _ (.slice A6 n6 c6) DD.ds D5 hz4 (by omega) (Nat.le_trans hbsD sz5)
        obtain ⟨Aa6, ca6, rfl, _, _⟩ := (RowM.of_own ho6).shape
        generalize hle6 : (DD.ds ++ [0]).length = la6 at *
        have HLE6 := Lib.hid hle6
        clear hle6
        refine plan_step rfl rfl (fun KR hKR => ?_)
        refine wp_append_run hr6 rfl rfl rfl rfl rfl ?_
        clear hr6
        have X6 := hot6.bk X5 (own_ne_bk D5 X5 (by decide))
        have R6 := hot6.bk R5 (own_ne_bk D5 R5 (by decide))
        have N6 := own_others N5 hot6 (fun b hb e => by have h2 := HDGE.out b e.symm; exact (NB3 b hb).elim (fun h1 => by omega) (fun h1 => by have := DL3 b e.symm; omega))
        have be6 := be5.trans (hba6.mono (by omega))
        have sz6 := Nat.le_trans sz5 hot6.1
        refine hKR.out _ _ (Or.inr ⟨X6.cellAt 1 rfl, X6.cellAt 3 rfl⟩) ?_
        clear hKR KR
        (try simp only [Act.put, List.setIfInBounds_toArray, List.set_cons_zero, List.set_cons_succ, List.getElem_toArray, List.getElem_cons_zero, List.getElem_cons_succ])
        obtain ⟨t0, t1, t2, t3⟩ := X6.four
        obtain ⟨f0, f1, f2, f3⟩ := X6.fourF
        refine plan_step rfl rfl (fun KR hKR => ?_)
        go_simp
        refine hKR.out _ _ (Or.inl (by decide)) ?_
        clear hKR KR
        (try simp only [Act.put, List.setIfInBounds_toArray, List.set_cons_zero, List.set_cons_succ, List.getElem_toArray, List.getElem_cons_zero, List.getElem_cons_succ])
        have X7 := X6.set_ 1 (.slice Aa3 la3 ca3)
        simp only [List.set_cons_zero, List.set_cons_succ] at X7
        have kb7 := KeepBut.setCell X6 1 (.slice Aa3 la3 ca3)
        have R7 := R6.far (p := ⟨gf, 1, none⟩) (show w.heap.size ≠ gf by omega) (.slice Aa3 la3 ca3)
        have N7 := kb7.own N6 (by decide)
        have D7 := kb7.own ho6 (by decide)
        have be7 := be6.setCell (p := ⟨gf, 1, none⟩) (show w.heap.size ≤ gf by omega) (.slice Aa3 la3 ca3)
        clear t0 t1 t2 t3 f0 f1 f2 f3
        refine plan_step rfl rfl (fun KR hKR => ?_)
        go_simp
        refine hKR.out _ _ (Or.inl (by decide)) ?_
        clear hKR KR
        (try simp only [Act.put, List.setIfInBounds_toArray, List.set_cons_zero, List.set_cons_succ, List.getElem_toArray, List.getElem_cons_zero, List.getElem_cons_succ])
        refine plan_step rfl rfl (fun KR hKR => ?_)
        go_simp
        refine hKR.out _ _ (Or.inl (by decide)) ?_
        clear hKR KR
        (try simp only [Act.put, List.setIfInBounds_toArray, List.set_cons_zero, List.set_cons_succ, List.getElem_toArray, List.getElem_cons_zero, List.getElem_cons_succ])
        obtain ⟨t0, t1, t2, t3⟩ := X7.four
        obtain ⟨f0, f1, f2, f3⟩ := X7.fourF
        refine plan_step rfl rfl (fun KR hKR => ?_)
        go_simp
        refine hKR.out _ _ (Or.inl (by decide)) ?_
        clear hKR KR
        (try simp only [Act.put, List.setIfInBounds_toArray, List.set_cons_zero, List.set_cons_succ, List.getElem_toArray, List.getElem_cons_zero, List.getElem_cons_succ])
        have X8 := X7.set_ 3 (.slice Aa6 la6 ca6)
        simp only [List.set_cons_zero, List.set_cons_succ] at X8
        have kb8 := KeepBut.setCell X7 3 (.slice Aa6 la6 ca6)
        have R8 := R7.far (p := ⟨gf, 3, none⟩) (show w.heap.size ≠ gf by omega) (.slice Aa6 la6 ca6)
        have N8 := kb8.own N7 (by decide)
        have D8 := kb8.own D7 (by decide)
        have be8 := be7.setCell (p := ⟨gf, 3, none⟩) (show w.heap.size ≤ gf by omega) (.slice Aa6 la6 ca6)
        clear t0 t1 t2 t3 f0 f1 f2 f3
        refine plan_done ?_
        have hFn : FracM _ (.agg #[.bool NN.neg, .slice Aa3 la3 ca3, .bool DD.neg, .slice Aa6 la6 ca6]) ⟨⟨NN.neg, NN.ds ++ [0]⟩, ⟨DD.neg, DD.ds ++ [0]⟩⟩ := FracM.mk (x := ⟨NN.neg, NN.ds ++ [0]⟩) (y := ⟨DD.neg, DD.ds ++ [0]⟩) (intM_row HLE3.out N8 HOKN.out) (intM_row HLE6.out D8 HOKD.out)
        obtain ⟨t0, t1, t2, t3⟩ := X8.four
        obtain ⟨r0, r1, r2, r3⟩ := R8.four
        obtain ⟨f0, f1, f2, f3⟩ := R8.fourF
        go_wp2
        refine ret_cell Tryz.results22 Tryz.underlying47 (by kernel_rfl) rfl (R8.set4 _ _ _ _) rfl ?_
        obtain ⟨v', q1, q2, q3⟩ := fin_frac R8 hFn be8 (Nat.le_refl _)
        exact ⟨v', _, q1, q2, HRZ.out, q3⟩
      · obtain ⟨WZ9, hWZ9, hz9, hbz9⟩ := box_u WZ1
        go_simp
        clear hWZ9
        have X10 := X2.later hbz9
        have R10 := R2.later hbz9
        have Z110 := hz1.later hbz9
        have N10 := own_below N2 hbz9
        have D10 := own_below D2 hbz9
        have be10 := below_then be2 hbz9 be2.size
        have sz10 := Nat.le_trans sz2 hbz9.size
        have gz9 := sz2
        refine hKR.out _ _ (Or.inr ⟨X10.cellAt 1 rfl, X10.cellAt 3 rfl⟩) ?_
        clear hKR KR
        (try simp only [Act.put, List.setIfInBounds_toArray, List.set_cons_zero, List.set_cons_succ, List.getElem_toArray, List.getElem_cons_zero, List.getElem_cons_succ])
        obtain ⟨va11, wa11, hr11, ho11, hot11, hba11, hbl11⟩ := run_append_digit 43 WZ9 _ _ (.slice A5 n5 c5) NN.ds N10 Z110 (by omega) (Nat.le_trans hbsN sz10)
        obtain ⟨Aa11, ca11, rfl, _, _⟩ := (RowM.of_own ho11).shape
        generalize hle11 : (NN.ds ++ [0]).length = la11 at *
        have HLE11 := Lib.hid hle11
        clear hle11
        refine plan_step rfl rfl (fun KR hKR => ?_)
        refine wp_append_run hr11 rfl rfl rfl rfl rfl ?_
        clear hr11
        have X11 := hot11.bk X10 (own_ne_bk N10 X10 (by decide))
        have R11 := hot11.bk R10 (own_ne_bk N10 R10 (by decide))
        have Z211 := hot11.bk hz9 (fun e => by have := HNLT.out _ e.symm; have := gz9; omega)
        have D11 := own_others D10 hot11 (fun b hb e => by have h1 := HNLT.out b e.symm; have h2 := HDGE.out b hb; omega)
        have NB11 : ∀ g, (Value.slice Aa11 la11 ca11).ownBlock = some g → g < w5.heap.size ∨ WZ9.heap.size ≤ g := fun g hg => by
          rcases hbl11 with e | e
          · rw [e] at hg; exact .inl (HNLT.out g hg)
          · exact .inr (e g hg)
        have DL11 := own_lt' D10
        have be11 := be10.trans (hba11.mono (by omega))
        have sz11 := Nat.le_trans sz10 hot11.1
        refine hKR.out _ _ (Or.inr ⟨X11.cellAt 1 rfl, X11.cellAt 3 rfl⟩) ?_
        clear hKR KR
        (try simp only [Act.put, List.setIfInBounds_toArray, List.set_cons_zero, List.set_cons_succ, List.getElem_toArray, List.getElem_cons_zero, List.getElem_cons_succ])
        repeat (first | (refine plan_takeP (v := ?_) rfl rfl rfl ?_ ?_; rotate_left; (· (intro _ hSw; go_simp; (try go_bits); (try with_reducible rfl))); (try simp only [Act.put, List.setIfInBounds_toArray, List.set_cons_zero, List.set_cons_succ, List.getElem_toArray, List.getElem_cons_zero, List.getElem_cons_succ])) | (refine plan_take (v := ?_) rfl rfl rfl ?_ ?_; rotate_left; (· (intro _ hSw; go_simp; (try go_bits); (try with_reducible rfl))); (try simp only [Act.put, List.setIfInBounds_toArray, List.set_cons_zero, List.set_cons_succ, List.getElem_toArray, List.getElem_cons_zero, List.getElem_cons_succ])) | (refine plan_skip rfl rfl rfl ?_; (try simp only [Act.put, List.setIfInBounds_toArray, List.set_cons_zero, List.set_cons_succ, List.getElem_toArray, List.getElem_cons_zero, List.getElem_cons_succ])) | (refine plan_skipc rfl rfl rfl (by assumption) ?_; (try simp only [Act.put, List.setIfInBounds_toArray, List.set_cons_zero, List.set_cons_succ, List.getElem_toArray, List.getElem_cons_zero, List.getElem_cons_succ])))
        obtain ⟨va12, wa12, hr12, ho12, hot12, hba12, hbl12⟩ := run_append_digit 43 wa11 _ _ (.slice A6 n6 c6) DD.ds D11 Z211 (by omega) (Nat.le_trans hbsD sz11)
        obtain ⟨Aa12, ca12, rfl, _, _⟩ := (RowM.of_own ho12).shape
        generalize hle12 : (DD.ds ++ [0]).length = la12 at *
        have HLE12 := Lib.hid hle12
        clear hle12
        refine plan_step rfl rfl (fun KR hKR => ?_)
        refine wp_append_run hr12 rfl rfl rfl rfl rfl ?_
        clear hr12
        have X12 := hot12.bk X11 (own_ne_bk D11 X11 (by decide))
        have R12 := hot12.bk R11 (own_ne_bk D11 R11 (by decide))
        have N12 := own_others ho11 hot12 (fun b hb e => by have h2 := HDGE.out b e.symm; exact (NB11 b hb).elim (fun h1 => by omega) (fun h1 => by have := DL11 b e.symm; omega))
        have be12 := be11.trans (hba12.mono (by omega))
        have sz12 := Nat.le_trans sz11 hot12.1
        refine hKR.out _ _ (Or.inr ⟨X12.cellAt 1 rfl, X12.cellAt 3 rfl⟩) ?_
        clear hKR KR
        (try simp only [Act.put, List.setIfInBounds_toArray, List.set_cons_zero, List.set_cons_succ, List.getElem_toArray, List.getElem_cons_zero, List.getElem_cons_succ])
        obtain ⟨t0, t1, t2, t3⟩ := X12.four
        obtain ⟨f0, f1, f2, f3⟩ := X12.fourF
        refine plan_step rfl rfl (fun KR hKR => ?_)
        go_simp
        refine hKR.out _ _ (Or.inl (by decide)) ?_
        clear hKR KR
        (try simp only [Act.put, List.setIfInBounds_toArray, List.set_cons_zero, List.set_cons_succ, List.getElem_toArray, List.getElem_cons_zero, List.getElem_cons_succ])
        have X13 := X12.set_ 1 (.slice Aa11 la11 ca11)
        simp only [List.set_cons_zero, List.set_cons_succ] at X13
        have kb13 := KeepBut.setCell X12 1 (.slice Aa11 la11 ca11)
        have R13 := R12.far (p := ⟨gf, 1, none⟩) (show w.heap.size ≠ gf by omega) (.slice Aa11 la11 ca11)
        have N13 := kb13.own N12 (by decide)
        have D13 := kb13.own ho12 (by decide)
        have be13 := be12.setCell (p := ⟨gf, 1, none⟩) (show w.heap.size ≤ gf by omega) (.slice Aa11 la11 ca11)
        clear t0 t1 t2 t3 f0 f1 f2 f3
        refine plan_step rfl rfl (fun KR hKR => ?_)
        go_simp
        refine hKR.out _ _ (Or.inl (by decide)) ?_
        clear hKR KR
        (try simp only [Act.put, List.setIfInBounds_toArray, List.set_cons_zero, List.set_cons_succ, List.getElem_toArray, List.getElem_cons_zero, List.getElem_cons_succ])
        refine plan_step rfl rfl (fun KR hKR => ?_)
        go_simp
        refine hKR.out _ _ (Or.inl (by decide)) ?_
        clear hKR KR
        (try simp only [Act.put, List.setIfInBounds_toArray, List.set_cons_zero, List.set_cons_succ, List.getElem_toArray, List.getElem_cons_zero, List.getElem_cons_succ])
        obtain ⟨t0, t1, t2, t3⟩ := X13.four
        obtain ⟨f0, f1, f2, f3⟩ := X13.fourF
        refine plan_step rfl rfl (fun KR hKR => ?_)
        go_simp
        refine hKR.out _ _ (Or.inl (by decide)) ?_
        clear hKR KR
        (try simp only [Act.put, List.setIfInBounds_toArray, List.set_cons_zero, List.set_cons_succ, List.getElem_toArray, List.getElem_cons_zero, List.getElem_cons_succ])
        have X14 := X13.set_ 3 (.slice Aa12 la12 ca12)
        simp only [List.set_cons_zero, List.set_cons_succ] at X14
        have kb14 := KeepBut.setCell X13 3 (.slice Aa12 la12 ca12)
        have R14 := R13.far (p := ⟨gf, 3, none⟩) (show w.heap.size ≠ gf by omega) (.slice Aa12 la12 ca12)
        have N14 := kb14.own N13 (by decide)
        have D14 := kb14.own D13 (by decide)
        have be14 := be13.setCell (p := ⟨gf, 3, none⟩) (show w.heap.size ≤ gf by omega) (.slice Aa12 la12 ca12)
        clear t0 t1 t2 t3 f0 f1 f2 f3
        refine plan_done ?_
        have hFn : FracM _ (.agg #[.bool NN.neg, .slice Aa11 la11 ca11, .bool DD.neg, .slice Aa12 la12 ca12]) ⟨⟨NN.neg, NN.ds ++ [0]⟩, ⟨DD.neg, DD.ds ++ [0]⟩⟩ := FracM.mk (x := ⟨NN.neg, NN.ds ++ [0]⟩) (y := ⟨DD.neg, DD.ds ++ [0]⟩) (intM_row HLE11.out N14 HOKN.out) (intM_row HLE12.out D14 HOKD.out)
        obtain ⟨t0, t1, t2, t3⟩ := X14.four
        obtain ⟨r0, r1, r2, r3⟩ := R14.four
        obtain ⟨f0, f1, f2, f3⟩ := R14.fourF
        go_wp2
        refine ret_cell Tryz.results22 Tryz.underlying47 (by kernel_rfl) rfl (R14.set4 _ _ _ _) rfl ?_
        obtain ⟨v', q1, q2, q3⟩ := fin_frac R14 hFn be14 (Nat.le_refl _)
        exact ⟨v', _, q1, q2, HRZ.out, q3⟩
    · obtain ⟨WZ15, hWZ15, hz15, hbz15⟩ := box_u W8.drew
      go_simp
      clear hWZ15
      have X16 := hX9.later hbz15
      have R16 := hR9.later hbz15
      have N16 := own_below hN9 hbz15
      have D16 := own_below hD9 hbz15
      have be16 := below_then hb9 hbz15 hb9.size
      have sz16 := Nat.le_trans hsz9 hbz15.size
      have gz15 := hsz9
      refine hKR.out _ _ (Or.inr ⟨X16.cellAt 1 rfl, X16.cellAt 3 rfl⟩) ?_
      clear hKR KR
      (try simp only [Act.put, List.setIfInBounds_toArray, List.set_cons_zero, List.set_cons_succ, List.getElem_toArray, List.getElem_cons_zero, List.getElem_cons_succ])
      obtain ⟨WZ17, hWZ17, hz17, hbz17⟩ := box_u WZ15
      refine plan_step rfl rfl (fun KR hKR => ?_)
      go_simp
      clear hWZ17
      have X18 := X16.later hbz17
      have R18 := R16.later hbz17
      have Z218 := hz15.later hbz17
      have N18 := own_below N16 hbz17
      have D18 := own_below D16 hbz17
      have be18 := below_then be16 hbz17 be16.size
      have sz18 := Nat.le_trans sz16 hbz17.size
      have gz17 := sz16
      refine hKR.out _ _ (Or.inr ⟨X18.cellAt 1 rfl, X18.cellAt 3 rfl⟩) ?_
      clear hKR KR
      (try simp only [Act.put, List.setIfInBounds_toArray, List.set_cons_zero, List.set_cons_succ, List.getElem_toArray, List.getElem_cons_zero, List.getElem_cons_succ])
      obtain ⟨va19, wa19, hr19, ho19, hot19, hba19, hbl19⟩ := run_append_digit 43 WZ17 _ _ (.slice A5 n5 c5) NN.ds N18 hz17 (by omega) (Nat.le_trans hbsN sz18)
      obtain ⟨Aa19, ca19, rfl, _, _⟩ := (RowM.of_own ho19).shape
      generalize hle19 : (NN.ds ++ [0]).length = la19 at *
      have HLE19 := Lib.hid hle19
      clear hle19
      refine plan_step rfl rfl (fun KR hKR => ?_)
      refine wp_append_run hr19 rfl rfl rfl rfl rfl ?_
      clear hr19
      have X19 := hot19.bk X18 (own_ne_bk N18 X18 (by decide))
      have R19 := hot19.bk R18 (own_ne_bk N18 R18 (by decide))
      have Z219 := hot19.bk Z218 (fun e => by have := HNLT.out _ e.symm; have := gz15; omega)
      have D19 := own_others D18 hot19 (fun b hb e => by have h1 := HNLT.out b e.symm; have h2 := HDGE.out b hb; omega)
      have NB19 : ∀ g, (Value.slice Aa19 la19 ca19).ownBlock = some g → g < w5.heap.size ∨ WZ17.heap.size ≤ g := fun g hg => by
        rcases hbl19 with e | e
        · rw [e] at hg; exact .inl (HNLT.out g hg)
        · exact .inr (e g hg)
      have DL19 := own_lt' D18
      have be19 := be18.trans (hba19.mono (by omega))
      have sz19 := Nat.le_trans sz18 hot19.1
      refine hKR.out _ _ (Or.inr ⟨X19.cellAt 1 rfl, X19.cellAt 3 rfl⟩) ?_
      clear hKR KR
      (try simp only [Act.put, List.setIfInBounds_toArray, List.set_cons_zero, List.set_cons_succ, List.getElem_toArray, List.getElem_cons_zero, List.getElem_cons_succ])
      repeat (first | (refine plan_takeP (v := ?_) rfl rfl rfl ?_ ?_; rotate_left; (· (intro _ hSw; go_simp; (try go_bits); (try with_reducible rfl))); (try simp only [Act.put, List.setIfInBounds_toArray, List.set_cons_zero, List.set_cons_succ, List.getElem_toArray, List.getElem_cons_zero, List.getElem_cons_succ])) | (refine plan_take (v := ?_) rfl rfl rfl ?_ ?_; rotate_left; (· (intro _ hSw; go_simp; (try go_bits); (try with_reducible rfl))); (try simp only [Act.put, List.setIfInBounds_toArray, List.set_cons_zero, List.set_cons_succ, List.getElem_toArray, List.getElem_cons_zero, List.getElem_cons_succ])) | (refine plan_skip rfl rfl rfl ?_; (try simp only [Act.put, List.setIfInBounds_toArray, List.set_cons_zero, List.set_cons_succ, List.getElem_toArray, List.getElem_cons_zero, List.getElem_cons_succ])) | (refine plan_skipc rfl rfl rfl (by assumption) ?_; (try simp only [Act.put, List.setIfInBounds_toArray, List.set_cons_zero, List.set_cons_succ, List.getElem_toArray, List.getElem_cons_zero, List.getElem_cons_succ])))
      obtain ⟨va20, wa20, hr20, ho20, hot20, hba20, hbl20⟩ := run_append_digit 43 wa19 _ _ (.slice A6 n6 c6) DD.ds D19 Z219 (by omega) (Nat.le_trans hbsD sz19)
      obtain ⟨Aa20, ca20, rfl, _, _⟩ := (RowM.of_own ho20).shape
      generalize hle20 : (DD.ds ++ [0]).length = la20 at *
      have HLE20 := Lib.hid hle20
      clear hle20
      refine plan_step rfl rfl (fun KR hKR => ?_)
      refine wp_append_run hr20 rfl rfl rfl rfl rfl ?_
      clear hr20
      have X20 := hot20.bk X19 (own_ne_bk D19 X19 (by decide))
      have R20 := hot20.bk R19 (own_ne_bk D19 R19 (by decide))
      have N20 := own_others ho19 hot20 (fun b hb e => by have h2 := HDGE.out b e.symm; exact (NB19 b hb).elim (fun h1 => by omega) (fun h1 => by have := DL19 b e.symm; omega))
      have be20 := be19.trans (hba20.mono (by omega))
      have sz20 := Nat.le_trans sz19 hot20.1
      refine hKR.out _ _ (Or.inr ⟨X20.cellAt 1 rfl, X20.cellAt 3 rfl⟩) ?_
      clear hKR KR
      (try simp only [Act.put, List.setIfInBounds_toArray, List.set_cons_zero, List.set_cons_succ, List.getElem_toArray, List.getElem_cons_zero, List.getElem_cons_succ])
      obtain ⟨t0, t1, t2, t3⟩ := X20.four
      obtain ⟨f0, f1, f2, f3⟩ := X20.fourF
      refine plan_step rfl rfl (fun KR hKR => ?_)
      go_simp
      refine hKR.out _ _ (Or.inl (by decide)) ?_
      clear hKR KR
      (try simp only [Act.put, List.setIfInBounds_toArray, List.set_cons_zero, List.set_cons_succ, List.getElem_toArray, List.getElem_cons_zero, List.getElem_cons_succ])
      have X21 := X20.set_ 1 (.slice Aa19 la19 ca19)
      simp only [List.set_cons_zero, List.set_cons_succ] at X21
      have kb21 := KeepBut.setCell X20 1 (.slice Aa19 la19 ca19)
      have R21 := R20.far (p := ⟨gf, 1, none⟩) (show w.heap.size ≠ gf by omega) (.slice Aa19 la19 ca19)
      have N21 := kb21.own N20 (by decide)
      have D21 := kb21.own ho20 (by decide)
      have be21 := be20.setCell (p := ⟨gf, 1, none⟩) (show w.heap.size ≤ gf by omega) (.slice Aa19 la19 ca19)
      clear t0 t1 t2 t3 f0 f1 f2 f3
      refine plan_step rfl rfl (fun KR hKR => ?_)
      go_simp
      refine hKR.out _ _ (Or.inl (by decide)) ?_
      clear hKR KR
      (try simp only [Act.put, List.setIfInBounds_toArray, List.set_cons_zero, List.set_cons_succ, List.getElem_toArray, List.getElem_cons_zero, List.getElem_cons_succ])
      refine plan_step rfl rfl (fun KR hKR => ?_)
      go_simp
      refine hKR.out _ _ (Or.inl (by decide)) ?_
      clear hKR KR
      (try simp only [Act.put, List.setIfInBounds_toArray, List.set_cons_zero, List.set_cons_succ, List.getElem_toArray, List.getElem_cons_zero, List.getElem_cons_succ])
      obtain ⟨t0, t1, t2, t3⟩ := X21.four
      obtain ⟨f0, f1, f2, f3⟩ := X21.fourF
      refine plan_step rfl rfl (fun KR hKR => ?_)
      go_simp
      refine hKR.out _ _ (Or.inl (by decide)) ?_
      clear hKR KR
      (try simp only [Act.put, List.setIfInBounds_toArray, List.set_cons_zero, List.set_cons_succ, List.getElem_toArray, List.getElem_cons_zero, List.getElem_cons_succ])
      have X22 := X21.set_ 3 (.slice Aa20 la20 ca20)
      simp only [List.set_cons_zero, List.set_cons_succ] at X22
      have kb22 := KeepBut.setCell X21 3 (.slice Aa20 la20 ca20)
      have R22 := R21.far (p := ⟨gf, 3, none⟩) (show w.heap.size ≠ gf by omega) (.slice Aa20 la20 ca20)
      have N22 := kb22.own N21 (by decide)
      have D22 := kb22.own D21 (by decide)
      have be22 := be21.setCell (p := ⟨gf, 3, none⟩) (show w.heap.size ≤ gf by omega) (.slice Aa20 la20 ca20)
      clear t0 t1 t2 t3 f0 f1 f2 f3
      refine plan_done ?_
      have hFn : FracM _ (.agg #[.bool NN.neg, .slice Aa19 la19 ca19, .bool DD.neg, .slice Aa20 la20 ca20]) ⟨⟨NN.neg, NN.ds ++ [0]⟩, ⟨DD.neg, DD.ds ++ [0]⟩⟩ := FracM.mk (x := ⟨NN.neg, NN.ds ++ [0]⟩) (y := ⟨DD.neg, DD.ds ++ [0]⟩) (intM_row HLE19.out N22 HOKN.out) (intM_row HLE20.out D22 HOKD.out)
      obtain ⟨t0, t1, t2, t3⟩ := X22.four
      obtain ⟨r0, r1, r2, r3⟩ := R22.four
      obtain ⟨f0, f1, f2, f3⟩ := R22.fourF
      go_wp2
      refine ret_cell Tryz.results22 Tryz.underlying47 (by kernel_rfl) rfl (R22.set4 _ _ _ _) rfl ?_
      obtain ⟨v', q1, q2, q3⟩ := fin_frac R22 hFn be22 (Nat.le_refl _)
      exact ⟨v', _, q1, q2, HRZ.out, q3⟩

end Go.Proofs.YtpanffbgihhjnaaGreat

/- Memory: a list of fractions copied by append to nil; append of one fraction behind a guard. -/
namespace Go.Proofs.YtpanffbgihhjnaaGreat
open Go.RowKit Pl

theorem FracM.cells {w : World} {x y z u : Value} {f : RF} (h : FracM w (.agg #[x, y, z, u]) f) : x.oneCell' = true ∧ y.oneCell' = true ∧ z.oneCell' = true ∧ u.oneCell' = true := by
  obtain ⟨A, n, c, A', n', c', e, _, _⟩ := h
  simp at e
  obtain ⟨rfl, rfl, rfl, rfl⟩ := e
  exact ⟨rfl, rfl, rfl, rfl⟩
theorem FrC.one {w : World} {cs : List Value} {fs : List RF} (h : FrC w cs fs) : ∀ u ∈ cs, u.oneCell' = true := by
  intro u hu
  obtain ⟨j, hj⟩ := List.mem_iff_getElem?.1 hu
  have hjl : j < cs.length := (List.getElem?_eq_some_iff.1 hj).1
  have hk : j / 4 < fs.length := by have := h.1; omega
  obtain ⟨f, hf⟩ : ∃ f, fs[j / 4]? = some f := ⟨fs[j / 4], List.getElem?_eq_getElem hk⟩
  obtain ⟨x, y, z, v, c0, c1, c2, c3, hm⟩ := h.2 _ f hf
  obtain ⟨o0, o1, o2, o3⟩ := hm.cells
  have h4 : j % 4 = 0 ∨ j % 4 = 1 ∨ j % 4 = 2 ∨ j % 4 = 3 := by omega
  rcases h4 with e | e | e | e
  · rw [show j / 4 * 4 = j by omega, hj] at c0; injection c0 with c0; subst c0; exact o0
  · rw [show j / 4 * 4 + 1 = j by omega, hj] at c1; injection c1 with c1; subst c1; exact o1
  · rw [show j / 4 * 4 + 2 = j by omega, hj] at c2; injection c2 with c2; subst c2; exact o2
  · rw [show j / 4 * 4 + 3 = j by omega, hj] at c3; injection c3 with c3; subst c3; exact o3
theorem addr_add0 (b off j : Nat) : (⟨b, off, none⟩ : Addr).add j = ⟨b, off + j, none⟩ := by
  unfold Addr.add
  split
  · rename_i h; subst h; rfl
  · rfl
theorem run_append_none (ty : TypeId) (c : Nat) (w : World) : (Builtin.append_ #[23, 23] ty #[.slice none 0 0, .slice none 0 c]).run Tryz.prog w = .ok (.slice none 0 0) w := by
  obtain ⟨i0, hi, hz0, hz1, hz2⟩ := info_parts info_frac
  simp [Builtin.append_, run_underlying Tryz.underlying23, sizeOf, typeInfo, zeroValue, hi, hz0, Builtin.lenOf, run_firstCells_none]
/-- append(nil, x...) -/
theorem run_append_copy (ty : TypeId) (W : World) (v : Value) (fs : List RF) (h : FrsM W v fs) (hn : fs.length ≤ 1099511627776) :
    ∃ v' w', (Builtin.append_ #[23, 23] ty #[.slice none 0 0, v]).run Tryz.prog W = .ok v' w' ∧ FrsO W.heap.size w' v' fs ∧ Below W.heap.size W w' := by
  obtain ⟨cs, h1, h2⟩ := h
  obtain ⟨A, c, rfl, hl, hc, hm, hrow⟩ := h1
  obtain ⟨i0, hi, hz0, hz1, hz2⟩ := info_parts info_frac
  have hlen := h2.1
  cases A with
  | none =>
    have h0 : fs.length = 0 := by
      rcases Nat.eq_zero_or_pos fs.length with e | e
      · exact e
      · obtain ⟨b, off, _, _, e1, _⟩ := hrow e; cases e1
    have hfs : fs = [] := List.eq_nil_of_length_eq_zero h0
    subst hfs
    exact ⟨_, _, run_append_none ty c W, FrsO.nil _ _, Below.refl _ _⟩
  | some ad =>
    obtain ⟨v', w', hr, g1, g2, _, _⟩ := run_append_own_at (P := Tryz.prog) W W.heap.size 23 ty 47 i0 _ 4 64 Tryz.underlying23 hi hz0 hz1 hz2 rfl (by decide) (.slice none 0 0) 0 [] (World.ownsRow_nil _ _ _ _) ad fs.length c cs hl (fun j u hj => by
      have hp : 0 < fs.length := by
        have h9 := (List.getElem?_eq_some_iff.1 hj).1
        rw [hlen] at h9
        omega
      obtain ⟨b, off, cs', fz, e, hb, hx⟩ := hrow hp
      have e := Option.some.inj e
      rw [e, addr_add0, cell_of_row W b (off + j) cs' _ fz hb, hx j u hj]) h2.one (by unfold maxLen; omega) (by omega) (Nat.le_refl _)
    refine ⟨v', w', hr, ⟨cs, by simpa using g1, h2.keep (Keep.of_below ?_)⟩, ?_⟩
    all_goals exact (Below.refl _ _).grown g2 (Nat.le_refl _) (fun k hk => by simp [Value.ownBlock] at hk)
end Go.Proofs.YtpanffbgihhjnaaGreat

/- The law ProofFeasible, walked: the exact result of IsFeasible. -/
namespace Go.Proofs.YtpanffbgihhjnaaGreat
open Go.RowKit Pl
attribute [local go_sem ↓] Go.wp_at_zero Go.wp_at_succ

theorem seq_append_fracW {ops : Array Oper} {Q : Exit → Act → World → Prop} {S : World → Prop} {m : Nat} {i : Nat} {is : List Nat} {o : Oper} {a : Act} (hoi : ops[i]? = some o) (hfl : floatI ops m i = false) (hw : Region.wanted o (yielded ops a.tmps) = true) (s x : Operand)
    (ho : o.op = .call { callee := .builtin .append, args := #[s, x], argTypes := #[23, 23] })
    (W : World) (base : Nat) (v : Value) (fs : List RF) (hown : FrsO base W v fs) (hs : a.eval s = v) (b b' : Bool) (A A' : Option Addr) (n c n' c' : Nat) (f : RF) (hf : FracM W (.agg #[.bool b, .slice A n c, .bool b', .slice A' n' c']) f)
    (hx : a.eval x = .slice (some ⟨W.heap.size, 0, none⟩) 1 1) (hn : fs.length + 1 ≤ 1099511627776) (hbase : base ≤ W.heap.size)
    (h : ∀ v' w', FrsO base w' v' (fs ++ [f]) → KeepBut 47 W w' → Below base W w' → (m ≤ i ∨ S w') ∧ wpSeq Tryz.prog ops Q S m is (a.put o.dst v') w') :
    wpSeq Tryz.prog ops Q S m (i :: is) a (W.alloc (.cells #[.bool b, .slice A n c, .bool b', .slice A' n' c'] 47)) := by
  obtain ⟨cs, h1, h2⟩ := hown
  obtain ⟨i0, hi, hz0, hz1, hz2⟩ := info_parts info_frac
  refine seq_step hoi hfl fun K hK => ?_
  obtain ⟨v', w', hr, g1, g2, g3⟩ := run_append_one o.type 23 47 i0 _ 4 64 Tryz.underlying23 hi hz0 hz1 hz2 rfl (by decide) W base v fs.length cs [.bool b, .slice A n c, .bool b', .slice A' n' c'] h1 rfl frac_oneCell (by unfold maxLen; omega) (by omega) hbase
  rw [if_pos hw]
  unfold Oper.wp execOp
  simp only [ho, resolve, invoke, builtin, Sem.run_bind, Sem.run_pure, Result.andThen_ok, List.map_toArray, List.map_cons, List.map_nil, hs, hx]
  rw [show (Obj.cells #[.bool b, .slice A n c, .bool b', .slice A' n' c'] 47) = (Obj.cells [.bool b, .slice A n c, .bool b', .slice A' n' c'].toArray 47) from rfl]
  simp only [hr, Result.andThen_ok]
  have hk := g2.keep (by decide)
  obtain ⟨q1, q2⟩ := h v' w' ⟨_, by simpa using g1, (h2.keep hk).snoc (hf.keep hk)⟩ g2 g3
  exact hK _ _ q1 q2
theorem region_seqS {P : Program} {Q : Exit → Act → World → Prop} {id : Nat} {l : List Oper} {a : Act} {w : World} (S : World → Prop) (n : Nat) (is : List Nat) (hm : P.follows .mixedOrders = true) (hok : seqOK .any l.toArray n is = true) (hS : S w.drew)
    (h : wpSeq P l.toArray (NoPanic Q) S n is a w.drew) : (Code.region id l.toArray true).wp P Q a w := by
  simp only [seqOK, Bool.and_eq_true, decide_eq_true_eq] at hok
  obtain ⟨hs, hgo, hl⟩ := hok
  refine wp_region_noPanic (wp_region_any hm (AnyG.any _ _ _ _ (S := S) (n := n) ?_))
  rw [← hl]
  have := AnyG.of_seq (P := P) (Q := NoPanic Q) (S := S) (fun c a d v w h => h) hs is _ a w.drew false hgo (fun _ => hS) h
  rwa [hl] at this ⊢
theorem wpList_append_run {ops : Array Oper} {rest : List Oper} {o : Oper} {a : Act} {Q : Exit → Act → World → Prop} {w w' : World} {s x : Operand} {t ty : TypeId} {v u v' : Value} (hr : (Builtin.append_ #[t, t] ty #[v, u]).run Tryz.prog w = .ok v' w') (hty : o.type = ty) (hgd : o.guard = none) (ho : o.op = .call { callee := .builtin .append, args := #[s, x], argTypes := #[t, t] })
    (hs : a.eval s = v) (hx : a.eval x = u) (h : wpList Tryz.prog ops Q rest (a.put o.dst v') w') : wpList Tryz.prog ops Q (o :: rest) a w :=
  wpList_step fun _ hK => wp_append_run hr hty hgd ho hs hx (hK _ _ h)
namespace Pl
theorem feasB_yes {p : LPd} {xs : List RF} (hok : LpOK p) (hl : xs.length = p.cols.length) (hn : NN xs) (he : ∀ i, i < p.right.length → qAt p.right i = timesQ p xs p.cols.length i) : feasB p xs = true := by
  rw [feasB_eq hok.err, Bool.and_eq_true, Bool.and_eq_true]
  refine ⟨⟨decide_eq_true hl, nnB_true fun i hi => ?_⟩, combB_true fun i hi => (he i hi).symm⟩
  obtain ⟨f, hf⟩ := get_some hi
  rw [qAt_some hf]
  exact Int.not_lt.1 fun g => by have := qs_neg.1 g; have := hn i f hf; grind
theorem RsL.set {k i : Nat} {fs : List RF} (h : RsL k fs) {f : RF} (hf : f.Rs k) : RsL k (fs.set i f) := fun j g hg => by
  rcases Nat.lt_or_ge i fs.length with hi | hi
  · by_cases hji : i = j
    · subst hji; rw [List.getElem?_set_self hi] at hg; injection hg with hg; subst hg; exact hf
    · rw [List.getElem?_set_ne hji] at hg; exact h j g hg
  · rw [List.set_eq_of_length_le hi] at hg; exact h j g hg
end Pl

set_option maxRecDepth 100000 in
set_option maxHeartbeats 16000000 in
theorem proofFeasible_any (v1 v2 : Value) (n : Int) (zl zm : List Int) (w : World) (h1 : IntsM w v1 zl) (h2 : IntsM w v2 zm) (hn0 : -9223372036854775808 ≤ n) (hn1 : n ≤ 9223372036854775807) :
    Calls Tryz.prog 6 #[v1, v2, .int .i64 n] w fun e w' => e = .returned (.bool true) ∧ Below w.heap.size w w' := by
  obtain ⟨a, cap, rfl, _, _⟩ := h1.shape
  obtain ⟨a', cap', rfl, _, _⟩ := h2.shape
  generalize hn : zl.length = nl at *
  generalize hn' : zm.length = nm at *
  clear hn hn'
  go_enter Tryz.func6, Tryz.ntmps6
  go_wp2_with fail
  refine (feasibleData_own _ zl _ h1).mono ?_
  rintro _ w1 ⟨vp, vx, p, xs, rfl, hp, hx, hok, hrr, hrx, hxl, hnn, heq, hb1⟩
  have HOK := Lib.hid hok
  have HF1 := Lib.hid (feasB_yes hok hxl hnn heq)
  have hlp0 := hp.lp
  obtain ⟨A0, n0, c0, A1, n1, c1, A2, m, c2, rfl, hcst, hcols, hrt⟩ := id hlp0
  obtain ⟨N1, N2, N3⟩ := hcols.len
  have nN : n1 ≤ 5 := by rw [N1]; exact hok.2.2.1
  have HN1 := Lib.hid N1
  obtain ⟨Ax, nx, cx, rfl⟩ := hx.sliceN
  have HXL := Lib.hid hxl
  have HKX := Lib.hid (hrx.mono (show 2 ≤ 32 by decide))
  have HOKP := Lib.hid (hok.ok (K := 32) (by decide) hrr)
  have HSC : Hid (1 + p.cols.length * (2 * 32 + 1) ≤ 8589934592) := Lib.hid (by have := hok.2.2.1; omega)
  obtain ⟨W2, hW2, hX, hbn⟩ := box_lp w1 (.slice A0 n0 c0) (.slice A1 n1 c1) (.slice A2 m c2)
  have hb2 := below_then hb1 hbn hb1.size
  have hm2 := h2.below hb2
  have hlp2 := hlp0.below hbn
  have hx2 := hx.frs.below hbn
  obtain ⟨x0, x1, x2⟩ := hX.three
  clear hok hp hlp0 hcols hrt hcst N1 hxl hnn heq hrx hrr hb1 hbn hx h1 h2
  go_wp2_with fail
  clear hW2 x0 x1 x2
  refine (fracs_own _ zm n1 _ hm2 (by omega)).mono ?_
  rintro _ w4 ⟨vy, ys, rfl, hy, hyl, hyr, hb4⟩
  obtain ⟨Ay, ny, cy, rfl⟩ := hy.sliceN
  have hys4 := hy.frs
  have HKY := Lib.hid (hyr.mono (show 2 ≤ 32 by decide))
  have hlp4 := hlp2.below hb4
  have hxs4 := hx2.below hb4
  have hX4 := hX.later hb4
  have hbe4 := below_then hb2 hb4 hb2.size
  obtain ⟨vz, w5, hrun, hZ5, hb5⟩ := run_append_copy 23 w4 (.slice Ax nx cx) xs hxs4 (by rw [HXL.out, ← HN1.out]; omega)
  have hlen5 := hZ5.frs.shape
  obtain ⟨Az, cz, rfl, hz1, hz2⟩ := hlen5
  generalize hzl : xs.length = nz at *
  have HXZ := Lib.hid hzl
  have HZL0 : Hid (nz = n1) := Lib.hid (by rw [HXL.out, ← HN1.out])
  clear hzl
  have hnz1 : nz ≤ n1 := by rw [HZL0.out]; exact Nat.le_refl _
  have hnz2 : n1 ≤ nz := by rw [HZL0.out]; exact Nat.le_refl _
  clear hX hlp2 hx2 hy hyl hyr hb2 hb4 hm2
  go_upto_region 4 with (at_builtin; refine wpList_append_run hrun rfl rfl rfl rfl rfl ?_)
  have hX5 := hX4.later hb5
  have m7 := i64_and7
  have HZR : Hid (∀ zs : List RF, zs.length = nz → zs.length = p.cols.length) := Lib.hid (fun zs h => by rw [h, HZL0.out, HN1.out])
  by_cases hz0 : nz = 0
  case' pos =>
    have hz0' : ((nz : Int)) ≤ 0 := by omega
    clear hz0 hrun
    go_upto_region 6 with (fail)
    have hzs := hZ5
    have HKZ := HKX
    have HZL := Lib.hid (HZR.out xs HXZ.out)
    have hb4W := hb5
    have hX6 := hX5
    obtain ⟨zs, hzse⟩ : ∃ zs, zs = xs := ⟨_, rfl⟩
    rw [← hzse] at hzs HKZ HZL
    clear hzse hZ5 hb5 hX5
    obtain ⟨W6, hW6⟩ : ∃ W6, W6 = w5 := ⟨_, rfl⟩
    subst hW6
  case' neg =>
    have hzp : 0 < nz := by omega
    obtain ⟨r, hr, hrl⟩ : ∃ r : Nat, n % 8 % (nz : Int) = (r : Int) ∧ r < nz := ⟨(n % 8 % (nz : Int)).toNat, by rw [Int.toNat_of_nonneg (Int.emod_nonneg _ (by omega))], by have := Int.emod_lt_of_pos (n % 8) (show (0 : Int) < nz by omega); have := Int.emod_nonneg (n % 8) (show (nz : Int) ≠ 0 by omega); omega⟩
    obtain ⟨gz, czz, hzsh, hgz1, hgz2, _, _⟩ := hZ5.shape (by rw [HXZ.out]; exact hzp)
    injection hzsh with e1 e2 e3
    subst e1
    have hnz0 : ¬ nz = 0 := hz0
    have hzI : 0 < (nz : Int) := by omega
    have hrI : (r : Int) < nz := by omega
    clear hz0 hrun e2 e3
    go_wp2_with fail
    have hS0 := below_drew' w5
    refine region_seq 10 [0, 1, 2, 3, 4, 5, 6, 7, 8, 9, 10] (by kernel_rfl) (by kernel_rfl) ?_
    repeat (first | (refine seq_takeP (v := ?_) rfl rfl rfl ?_ ?_; rotate_left; (· (intro _ hSw; go_simp; (try go_bits); (try with_reducible rfl))); (try simp only [Act.put, List.setIfInBounds_toArray, List.set_cons_zero, List.set_cons_succ, List.getElem_toArray, List.getElem_cons_zero, List.getElem_cons_succ])) | (refine seq_take (v := ?_) rfl rfl rfl ?_ ?_; rotate_left; (· (intro _ hSw; go_simp; (try go_bits); (try with_reducible rfl))); (try simp only [Act.put, List.setIfInBounds_toArray, List.set_cons_zero, List.set_cons_succ, List.getElem_toArray, List.getElem_cons_zero, List.getElem_cons_succ])) | (refine seq_skip rfl rfl rfl ?_; (try simp only [Act.put, List.setIfInBounds_toArray, List.set_cons_zero, List.set_cons_succ, List.getElem_toArray, List.getElem_cons_zero, List.getElem_cons_succ])))
    refine seq_step rfl rfl (fun KR hKR => ?_)
    go_simp
    with_reducible refine (wild_any (n / 8) _).mono ?_
    rintro _ w6 ⟨v6, f, rfl, e6, hf8, hb6⟩
    have hS6 := below_then hS0 hb6 hS0.size
    obtain ⟨B6, l6, d6, B6', l6', d6', rfl, _, _⟩ := id e6
    have hZ6 := hZ5.below hS6
    obtain ⟨f0', hf0'⟩ := get_some (fs := xs) (i := r) (by rw [HXZ.out]; exact hrl)
    obtain ⟨_, _, _, _, ⟨t0, t1, t2, t3⟩, ⟨g0, g1, g2, g3⟩, _⟩ := hZ6.at_ hf0'
    refine hKR.out _ _ (Or.inr hS6) ?_
    clear hKR KR
    (try simp only [Act.put, List.setIfInBounds_toArray, List.set_cons_zero, List.set_cons_succ, List.getElem_toArray, List.getElem_cons_zero, List.getElem_cons_succ])
    repeat (first | (refine seq_takeP (v := ?_) rfl rfl rfl ?_ ?_; rotate_left; (· (intro _ hSw; go_simp; (try go_bits); (try with_reducible rfl))); (try simp only [Act.put, List.setIfInBounds_toArray, List.set_cons_zero, List.set_cons_succ, List.getElem_toArray, List.getElem_cons_zero, List.getElem_cons_succ])) | (refine seq_take (v := ?_) rfl rfl rfl ?_ ?_; rotate_left; (· (intro _ hSw; go_simp; (try go_bits); (try with_reducible rfl))); (try simp only [Act.put, List.setIfInBounds_toArray, List.set_cons_zero, List.set_cons_succ, List.getElem_toArray, List.getElem_cons_zero, List.getElem_cons_succ])) | (refine seq_skip rfl rfl rfl ?_; (try simp only [Act.put, List.setIfInBounds_toArray, List.set_cons_zero, List.set_cons_succ, List.getElem_toArray, List.getElem_cons_zero, List.getElem_cons_succ])))
    refine seq_step rfl rfl (fun KR hKR => ?_)
    go_simp
    refine hKR.out _ _ (Or.inl (by decide)) ?_
    clear hKR KR
    (try simp only [Act.put, List.setIfInBounds_toArray, List.set_cons_zero, List.set_cons_succ, List.getElem_toArray, List.getElem_cons_zero, List.getElem_cons_succ])
    refine seq_done ?_
    obtain ⟨hZ7, hk7⟩ := hZ6.set_ (by rw [HXZ.out]; exact hrl) e6
    have hX7 := hk7.bk (hX5.later hS6) (by decide)
    have hb7 := below_set4' (below_then hb5 hS6 hb5.size) hgz1 (r * 4) (r * 4 + 1) (r * 4 + 2) (r * 4 + 3)
    go_upto_region 6 with (fail)
    have hzs := hZ7
    have HKZ := Lib.hid (HKX.out.set (i := r) (hf8.mono (show 8 ≤ 32 by decide)))
    have HZL := Lib.hid (HZR.out (xs.set r f) (by rw [List.length_set]; exact HXZ.out))
    have hb4W := hb7 (.bool f.num.neg) (.slice B6 l6 d6) (.bool f.den.neg) (.slice B6' l6' d6')
    have hX6 := hX7
    generalize xs.set r f = zs at *
    generalize (((w6.setCell ⟨gz, r * 4, none⟩ (.bool f.num.neg)).setCell ⟨gz, r * 4 + 1, none⟩ (.slice B6 l6 d6)).setCell ⟨gz, r * 4 + 2, none⟩ (.bool f.den.neg)).setCell ⟨gz, r * 4 + 3, none⟩ (.slice B6' l6' d6') = W6 at *
    clear hZ7 hX7 hb7 hk7 hZ6 hS0 hS6 hb6 e6 t0 t1 t2 t3 g0 g1 g2 g3 hr hZ5 hb5 hX5
  all_goals
    have hlp := hlp4.below hb4W
    have hxs := hxs4.below hb4W
    have hys := hys4.below hb4W
    have HFN : Hid (feasB p (zs ++ [kI 0]) = false) := Lib.hid (feasB_2 (by rw [List.length_append, HZL.out]; simp))
    obtain ⟨x0, x1, x2⟩ := hX6.three
    have hS0 := below_drew' W6
    refine region_seqS (fun w' => w'.cell? ⟨w1.heap.size, 0, none⟩ = some (.slice A0 n0 c0) ∧ w'.cell? ⟨w1.heap.size, 1, none⟩ = some (.slice A1 n1 c1) ∧ w'.cell? ⟨w1.heap.size, 2, none⟩ = some (.slice A2 m c2)) 34 [0, 1, 2, 3, 4, 5, 7, 8, 6, 9, 10, 11, 12, 13, 14, 16, 17, 15, 18, 19, 20, 21, 22, 23, 24, 25, 26, 27, 28, 29, 30, 31, 32, 33] (by kernel_rfl) (by kernel_rfl) ⟨x0, x1, x2⟩ ?_
    clear x0 x1 x2
    repeat (first | (refine seq_takeP (v := ?_) rfl rfl rfl ?_ ?_; rotate_left; (· (intro _ hSw; go_simp; (try go_bits); (try with_reducible rfl))); (try simp only [Act.put, List.setIfInBounds_toArray, List.set_cons_zero, List.set_cons_succ, List.getElem_toArray, List.getElem_cons_zero, List.getElem_cons_succ])) | (refine seq_take (v := ?_) rfl rfl rfl ?_ ?_; rotate_left; (· (intro _ hSw; go_simp; (try go_bits); (try with_reducible rfl))); (try simp only [Act.put, List.setIfInBounds_toArray, List.set_cons_zero, List.set_cons_succ, List.getElem_toArray, List.getElem_cons_zero, List.getElem_cons_succ])) | (refine seq_skip rfl rfl rfl ?_; (try simp only [Act.put, List.setIfInBounds_toArray, List.set_cons_zero, List.set_cons_succ, List.getElem_toArray, List.getElem_cons_zero, List.getElem_cons_succ])) | (refine seq_skipc rfl rfl rfl (by assumption) ?_; (try simp only [Act.put, List.setIfInBounds_toArray, List.set_cons_zero, List.set_cons_succ, List.getElem_toArray, List.getElem_cons_zero, List.getElem_cons_succ])))
    refine seq_step rfl rfl (fun KR hKR => ?_)
    go_simp
    with_reducible refine (isFeasible_any _ _ p xs 32 _ (hlp.below hS0) (hxs.below hS0) HOKP.out HKX.out (by decide) (by decide)).mono ?_
    rw [HF1.out]
    rintro _ y1 ⟨rfl, hb1⟩
    have hS1 := below_then hS0 hb1 hS0.size
    refine hKR.out _ _ (Or.inr (hX6.later hS1).three) ?_
    clear hKR KR
    (try simp only [Act.put, List.setIfInBounds_toArray, List.set_cons_zero, List.set_cons_succ, List.getElem_toArray, List.getElem_cons_zero, List.getElem_cons_succ])
    repeat (first | (refine seq_takeP (v := ?_) rfl rfl rfl ?_ ?_; rotate_left; (· (intro _ hSw; go_simp; (try go_bits); (try with_reducible rfl))); (try simp only [Act.put, List.setIfInBounds_toArray, List.set_cons_zero, List.set_cons_succ, List.getElem_toArray, List.getElem_cons_zero, List.getElem_cons_succ])) | (refine seq_take (v := ?_) rfl rfl rfl ?_ ?_; rotate_left; (· (intro _ hSw; go_simp; (try go_bits); (try with_reducible rfl))); (try simp only [Act.put, List.setIfInBounds_toArray, List.set_cons_zero, List.set_cons_succ, List.getElem_toArray, List.getElem_cons_zero, List.getElem_cons_succ])) | (refine seq_skip rfl rfl rfl ?_; (try simp only [Act.put, List.setIfInBounds_toArray, List.set_cons_zero, List.set_cons_succ, List.getElem_toArray, List.getElem_cons_zero, List.getElem_cons_succ])) | (refine seq_skipc rfl rfl rfl (by assumption) ?_; (try simp only [Act.put, List.setIfInBounds_toArray, List.set_cons_zero, List.set_cons_succ, List.getElem_toArray, List.getElem_cons_zero, List.getElem_cons_succ])))
    refine seq_step rfl rfl (fun KR hKR => ?_)
    go_simp
    with_reducible refine (isFeasible_any _ _ p ys 32 _ (hlp.below hS1) (hys.below hS1) HOKP.out HKY.out (by decide) (by decide)).mono ?_
    generalize hfy : feasB p ys = fy
    have HFY := Lib.hid hfy
    clear hfy
    rintro _ y2 ⟨rfl, hb2⟩
    have hS2 := below_then hS1 hb2 hS1.size
    refine hKR.out _ _ (Or.inr (hX6.later hS2).three) ?_
    clear hKR KR
    (try simp only [Act.put, List.setIfInBounds_toArray, List.set_cons_zero, List.set_cons_succ, List.getElem_toArray, List.getElem_cons_zero, List.getElem_cons_succ])
    repeat (first | (refine seq_takeP (v := ?_) rfl rfl rfl ?_ ?_; rotate_left; (· (intro _ hSw; go_simp; (try go_bits); (try with_reducible rfl))); (try simp only [Act.put, List.setIfInBounds_toArray, List.set_cons_zero, List.set_cons_succ, List.getElem_toArray, List.getElem_cons_zero, List.getElem_cons_succ])) | (refine seq_take (v := ?_) rfl rfl rfl ?_ ?_; rotate_left; (· (intro _ hSw; go_simp; (try go_bits); (try with_reducible rfl))); (try simp only [Act.put, List.setIfInBounds_toArray, List.set_cons_zero, List.set_cons_succ, List.getElem_toArray, List.getElem_cons_zero, List.getElem_cons_succ])) | (refine seq_skip rfl rfl rfl ?_; (try simp only [Act.put, List.setIfInBounds_toArray, List.set_cons_zero, List.set_cons_succ, List.getElem_toArray, List.getElem_cons_zero, List.getElem_cons_succ])) | (refine seq_skipc rfl rfl rfl (by assumption) ?_; (try simp only [Act.put, List.setIfInBounds_toArray, List.set_cons_zero, List.set_cons_succ, List.getElem_toArray, List.getElem_cons_zero, List.getElem_cons_succ])))
    refine seq_step rfl rfl (fun KR hKR => ?_)
    go_simp
    with_reducible refine (risFeasible_any _ _ p ys 32 _ (hlp.below hS2) (hys.below hS2) HOKP.out HKY.out (by decide) HSC.out (by decide)).mono ?_
    rw [HFY.out]
    rintro _ y3 ⟨rfl, hb3⟩
    have hS3 := below_then hS2 hb3 hS2.size
    have heq1 : (fy == fy) = true := by cases fy <;> rfl
    refine hKR.out _ _ (Or.inr (hX6.later hS3).three) ?_
    clear hKR KR
    (try simp only [Act.put, List.setIfInBounds_toArray, List.set_cons_zero, List.set_cons_succ, List.getElem_toArray, List.getElem_cons_zero, List.getElem_cons_succ])
    repeat (first | (refine seq_takeP (v := ?_) rfl rfl rfl ?_ ?_; rotate_left; (· (intro _ hSw; go_simp; (try go_bits); (try with_reducible rfl))); (try simp only [Act.put, List.setIfInBounds_toArray, List.set_cons_zero, List.set_cons_succ, List.getElem_toArray, List.getElem_cons_zero, List.getElem_cons_succ])) | (refine seq_take (v := ?_) rfl rfl rfl ?_ ?_; rotate_left; (· (intro _ hSw; go_simp; (try go_bits); (try with_reducible rfl))); (try simp only [Act.put, List.setIfInBounds_toArray, List.set_cons_zero, List.set_cons_succ, List.getElem_toArray, List.getElem_cons_zero, List.getElem_cons_succ])) | (refine seq_skip rfl rfl rfl ?_; (try simp only [Act.put, List.setIfInBounds_toArray, List.set_cons_zero, List.set_cons_succ, List.getElem_toArray, List.getElem_cons_zero, List.getElem_cons_succ])) | (refine seq_skipc rfl rfl rfl (by assumption) ?_; (try simp only [Act.put, List.setIfInBounds_toArray, List.set_cons_zero, List.set_cons_succ, List.getElem_toArray, List.getElem_cons_zero, List.getElem_cons_succ])))
    refine seq_step rfl rfl (fun KR hKR => ?_)
    go_simp
    with_reducible refine (isFeasible_any _ _ p zs 32 _ (hlp.below hS3) (hzs.frs.below hS3) HOKP.out HKZ.out (by decide) (by decide)).mono ?_
    generalize hfz : feasB p zs = fz
    have HFZ := Lib.hid hfz
    clear hfz
    rintro _ y4 ⟨rfl, hb4⟩
    have hS4 := below_then hS3 hb4 hS3.size
    refine hKR.out _ _ (Or.inr (hX6.later hS4).three) ?_
    clear hKR KR
    (try simp only [Act.put, List.setIfInBounds_toArray, List.set_cons_zero, List.set_cons_succ, List.getElem_toArray, List.getElem_cons_zero, List.getElem_cons_succ])
    repeat (first | (refine seq_takeP (v := ?_) rfl rfl rfl ?_ ?_; rotate_left; (· (intro _ hSw; go_simp; (try go_bits); (try with_reducible rfl))); (try simp only [Act.put, List.setIfInBounds_toArray, List.set_cons_zero, List.set_cons_succ, List.getElem_toArray, List.getElem_cons_zero, List.getElem_cons_succ])) | (refine seq_take (v := ?_) rfl rfl rfl ?_ ?_; rotate_left; (· (intro _ hSw; go_simp; (try go_bits); (try with_reducible rfl))); (try simp only [Act.put, List.setIfInBounds_toArray, List.set_cons_zero, List.set_cons_succ, List.getElem_toArray, List.getElem_cons_zero, List.getElem_cons_succ])) | (refine seq_skip rfl rfl rfl ?_; (try simp only [Act.put, List.setIfInBounds_toArray, List.set_cons_zero, List.set_cons_succ, List.getElem_toArray, List.getElem_cons_zero, List.getElem_cons_succ])) | (refine seq_skipc rfl rfl rfl (by assumption) ?_; (try simp only [Act.put, List.setIfInBounds_toArray, List.set_cons_zero, List.set_cons_succ, List.getElem_toArray, List.getElem_cons_zero, List.getElem_cons_succ])))
    refine seq_step rfl rfl (fun KR hKR => ?_)
    go_simp
    with_reducible refine (risFeasible_any _ _ p zs 32 _ (hlp.below hS4) (hzs.frs.below hS4) HOKP.out HKZ.out (by decide) HSC.out (by decide)).mono ?_
    rw [HFZ.out]
    rintro _ y5 ⟨rfl, hb5⟩
    have hS5 := below_then hS4 hb5 hS4.size
    have heq2 : (fz == fz) = true := by cases fz <;> rfl
    refine hKR.out _ _ (Or.inr (hX6.later hS5).three) ?_
    clear hKR KR
    (try simp only [Act.put, List.setIfInBounds_toArray, List.set_cons_zero, List.set_cons_succ, List.getElem_toArray, List.getElem_cons_zero, List.getElem_cons_succ])
    repeat (first | (refine seq_takeP (v := ?_) rfl rfl rfl ?_ ?_; rotate_left; (· (intro _ hSw; go_simp; (try go_bits); (try with_reducible rfl))); (try simp only [Act.put, List.setIfInBounds_toArray, List.set_cons_zero, List.set_cons_succ, List.getElem_toArray, List.getElem_cons_zero, List.getElem_cons_succ])) | (refine seq_take (v := ?_) rfl rfl rfl ?_ ?_; rotate_left; (· (intro _ hSw; go_simp; (try go_bits); (try with_reducible rfl))); (try simp only [Act.put, List.setIfInBounds_toArray, List.set_cons_zero, List.set_cons_succ, List.getElem_toArray, List.getElem_cons_zero, List.getElem_cons_succ])) | (refine seq_skip rfl rfl rfl ?_; (try simp only [Act.put, List.setIfInBounds_toArray, List.set_cons_zero, List.set_cons_succ, List.getElem_toArray, List.getElem_cons_zero, List.getElem_cons_succ])) | (refine seq_skipc rfl rfl rfl (by assumption) ?_; (try simp only [Act.put, List.setIfInBounds_toArray, List.set_cons_zero, List.set_cons_succ, List.getElem_toArray, List.getElem_cons_zero, List.getElem_cons_succ])))
    refine seq_step rfl rfl (fun KR hKR => ?_)
    go_simp
    with_reducible refine (rint_own 0 _ (by omega) (by omega)).mono ?_
    rw [show canF ((0 : Int) : Rat) = kI 0 from rfl]
    rintro _ y6 ⟨v6, rfl, e6, hb6⟩
    have hS6 := below_then hS5 hb6 hS5.size
    obtain ⟨A8, n8, c8, B8, m8, d8, rfl, _, _⟩ := id e6.frac
    refine hKR.out _ _ (Or.inr (hX6.later hS6).three) ?_
    clear hKR KR
    (try simp only [Act.put, List.setIfInBounds_toArray, List.set_cons_zero, List.set_cons_succ, List.getElem_toArray, List.getElem_cons_zero, List.getElem_cons_succ])
    repeat (first | (refine seq_takeP (v := ?_) rfl rfl rfl ?_ ?_; rotate_left; (· (intro _ hSw; go_simp; (try go_bits); (try with_reducible rfl))); (try simp only [Act.put, List.setIfInBounds_toArray, List.set_cons_zero, List.set_cons_succ, List.getElem_toArray, List.getElem_cons_zero, List.getElem_cons_succ])) | (refine seq_take (v := ?_) rfl rfl rfl ?_ ?_; rotate_left; (· (intro _ hSw; go_simp; (try go_bits); (try with_reducible rfl))); (try simp only [Act.put, List.setIfInBounds_toArray, List.set_cons_zero, List.set_cons_succ, List.getElem_toArray, List.getElem_cons_zero, List.getElem_cons_succ])) | (refine seq_skip rfl rfl rfl ?_; (try simp only [Act.put, List.setIfInBounds_toArray, List.set_cons_zero, List.set_cons_succ, List.getElem_toArray, List.getElem_cons_zero, List.getElem_cons_succ])) | (refine seq_skipc rfl rfl rfl (by assumption) ?_; (try simp only [Act.put, List.setIfInBounds_toArray, List.set_cons_zero, List.set_cons_succ, List.getElem_toArray, List.getElem_cons_zero, List.getElem_cons_succ])))
    refine seq_step rfl rfl (fun KR hKR => ?_)
    go_simp
    refine hKR.out _ _ (Or.inr (hX6.later (below_then hS6 (below_new _ _) hS6.size)).three) ?_
    clear hKR KR
    (try simp only [Act.put, List.setIfInBounds_toArray, List.set_cons_zero, List.set_cons_succ, List.getElem_toArray, List.getElem_cons_zero, List.getElem_cons_succ])
    have hlenz : zs.length + 1 ≤ 1099511627776 := by rw [HZL.out]; have := HOK.out.2.2.1; omega
    have HOZ := Lib.hid (hzs.below hS6)
    have hbsz : w4.heap.size ≤ y6.heap.size := by have := hb4W.size; have := hS6.size; omega
    refine seq_append_fracW rfl rfl rfl (.tmp 59) (.tmp 61) rfl y6 w4.heap.size _ zs HOZ.out rfl _ _ A8 B8 n8 c8 m8 d8 (kI 0) e6.frac rfl hlenz hbsz ?_
    intro v7 y7 hO7 hk7 hb7
    have hX7 := hk7.bk (hX6.later hS6) (by decide)
    refine ⟨Or.inr hX7.three, ?_⟩
    obtain ⟨A9, n9, c9, rfl⟩ := hO7.sliceN
    (try simp only [Act.put, List.setIfInBounds_toArray, List.set_cons_zero, List.set_cons_succ, List.getElem_toArray, List.getElem_cons_zero, List.getElem_cons_succ])
    have hb47 := (below_then hb4W hS6 hb4W.size).trans hb7
    have hlp7 := hlp4.below hb47
    refine seq_step rfl rfl (fun KR hKR => ?_)
    go_simp
    with_reducible refine (isFeasible_any _ _ p (zs ++ [kI 0]) 32 _ hlp7 hO7.frs HOKP.out (HKZ.out.snoc ((kI_rs (by decide) (by decide)).mono (by decide))) (by decide) (by decide)).mono ?_
    rw [HFN.out]
    rintro _ y8 ⟨rfl, hb8⟩
    have hX8x := hX7.later hb8
    refine hKR.out _ _ (Or.inr hX8x.three) ?_
    clear hKR KR
    (try simp only [Act.put, List.setIfInBounds_toArray, List.set_cons_zero, List.set_cons_succ, List.getElem_toArray, List.getElem_cons_zero, List.getElem_cons_succ])
    repeat (first | (refine seq_takeP (v := ?_) rfl rfl rfl ?_ ?_; rotate_left; (· (intro _ hSw; go_simp; (try go_bits); (try with_reducible rfl))); (try simp only [Act.put, List.setIfInBounds_toArray, List.set_cons_zero, List.set_cons_succ, List.getElem_toArray, List.getElem_cons_zero, List.getElem_cons_succ])) | (refine seq_take (v := ?_) rfl rfl rfl ?_ ?_; rotate_left; (· (intro _ hSw; go_simp; (try go_bits); (try with_reducible rfl))); (try simp only [Act.put, List.setIfInBounds_toArray, List.set_cons_zero, List.set_cons_succ, List.getElem_toArray, List.getElem_cons_zero, List.getElem_cons_succ])) | (refine seq_skip rfl rfl rfl ?_; (try simp only [Act.put, List.setIfInBounds_toArray, List.set_cons_zero, List.set_cons_succ, List.getElem_toArray, List.getElem_cons_zero, List.getElem_cons_succ])) | (refine seq_skipc rfl rfl rfl (by assumption) ?_; (try simp only [Act.put, List.setIfInBounds_toArray, List.set_cons_zero, List.set_cons_succ, List.getElem_toArray, List.getElem_cons_zero, List.getElem_cons_succ])))
    refine seq_step rfl rfl (fun KR hKR => ?_)
    go_simp
    with_reducible refine (known_any _).mono ?_
    rintro _ y9 ⟨rfl, hb9⟩
    have hX9x := hX8x.later hb9
    refine hKR.out _ _ (Or.inr hX9x.three) ?_
    clear hKR KR
    (try simp only [Act.put, List.setIfInBounds_toArray, List.set_cons_zero, List.set_cons_succ, List.getElem_toArray, List.getElem_cons_zero, List.getElem_cons_succ])
    repeat (first | (refine seq_takeP (v := ?_) rfl rfl rfl ?_ ?_; rotate_left; (· (intro _ hSw; go_simp; (try go_bits); (try with_reducible rfl))); (try simp only [Act.put, List.setIfInBounds_toArray, List.set_cons_zero, List.set_cons_succ, List.getElem_toArray, List.getElem_cons_zero, List.getElem_cons_succ])) | (refine seq_take (v := ?_) rfl rfl rfl ?_ ?_; rotate_left; (· (intro _ hSw; go_simp; (try go_bits); (try with_reducible rfl))); (try simp only [Act.put, List.setIfInBounds_toArray, List.set_cons_zero, List.set_cons_succ, List.getElem_toArray, List.getElem_cons_zero, List.getElem_cons_succ])) | (refine seq_skip rfl rfl rfl ?_; (try simp only [Act.put, List.setIfInBounds_toArray, List.set_cons_zero, List.set_cons_succ, List.getElem_toArray, List.getElem_cons_zero, List.getElem_cons_succ])) | (refine seq_skipc rfl rfl rfl (by assumption) ?_; (try simp only [Act.put, List.setIfInBounds_toArray, List.set_cons_zero, List.set_cons_succ, List.getElem_toArray, List.getElem_cons_zero, List.getElem_cons_succ])))
    refine seq_done ?_
    have bfin := ((below_then hbe4 hb47 hbe4.size).trans (hb8.mono (by have := hbe4.size; have := hb47.size; omega))).trans (hb9.mono (by have := hbe4.size; have := hb47.size; have := hb8.size; omega))
    go_wp2
    go_ret
    exact ⟨rfl, bfin⟩
end Go.Proofs.YtpanffbgihhjnaaGreat
