/- Contracts and plain facts that the claim is built on, joined out of smaller texts. -/
import Derived.Test.YtpanffbgihhjnaaGreatProg
import Derived.WalkKit
import Derived.WalkSpells
import Derived.WalkLawsBesides
import Derived.Lib.Hide
import Derived.Deep.QuietTactic
import Derived.BigQuiet
import Derived.Laws.BitsAllLaws
import Derived.Deep.RegionHeld3
import Derived.Deep.DrawnRows
import Derived.Maps.AppendAt
import Derived.Lib.SliceRun
import Derived.Deep.DeepCutAuto
import Derived.Deep.CutBlock
import Derived.Deep.AppendLies
import Derived.Deep.LoopGhost
set_option linter.unusedVariables false
set_option linter.unusedSimpArgs false
namespace Go.Proofs.YtpanffbgihhjnaaGreat
theorem pu1 {α : Type _} (l : List α) (i : Nat) (a : α) : l.toArray.setIfInBounds i a = (l.set i a).toArray := List.setIfInBounds_toArray l i a
theorem pu2 {α : Type _} {a : α} {xs : List α} {b : α} : (a :: xs).set 0 b = b :: xs := List.set_cons_zero
theorem pu3 {α : Type _} {a : α} {xs : List α} {n : Nat} {b : α} : (a :: xs).set (n + 1) b = a :: xs.set n b := List.set_cons_succ
theorem pu4 {α : Type _} {l : List α} {i : Nat} (h : i < l.toArray.size) : l.toArray[i] = l[i]'(by simpa using h) := List.getElem_toArray h
theorem pu5 {α : Type _} (a : α) (xs : List α) (h : 0 < (a :: xs).length) : (a :: xs)[0] = a := List.getElem_cons_zero a xs h
theorem pu6 {α : Type _} (a : α) (xs : List α) (i : Nat) (h : i + 1 < (a :: xs).length) : (a :: xs)[i + 1] = xs[i]'(by simpa using h) := List.getElem_cons_succ a xs i h
end Go.Proofs.YtpanffbgihhjnaaGreat
/- Plain facts on lists of base-2^32 digits (no program in sight): value, canonical digits, prefixes. -/
namespace Go.Proofs.YtpanffbgihhjnaaGreat.Pl

def B32 : Nat := 4294967296
theorem B32_pos : 0 < B32 := by decide
theorem B32_eq : B32 = 4294967296 := rfl

def val : List Nat → Nat
  | [] => 0
  | d :: ds => d + B32 * val ds

def okD (ds : List Nat) : Prop := ∀ d ∈ ds, d < B32

theorem okD_nil : okD [] := by intro d h; cases h
theorem okD_cons {d : Nat} {ds : List Nat} : okD (d :: ds) ↔ d < B32 ∧ okD ds := by simp [okD]
theorem okD_append {a b : List Nat} : okD (a ++ b) ↔ okD a ∧ okD b := by
  simp only [okD, List.mem_append]
  exact ⟨fun h => ⟨fun d hd => h d (.inl hd), fun d hd => h d (.inr hd)⟩, fun h d hd => hd.elim (h.1 d) (h.2 d)⟩
theorem okD_take {a : List Nat} (h : okD a) (n : Nat) : okD (a.take n) := fun d hd => h d (List.mem_of_mem_take hd)
theorem okD_drop {a : List Nat} (h : okD a) (n : Nat) : okD (a.drop n) := fun d hd => h d (List.mem_of_mem_drop hd)
theorem okD_set {a : List Nat} (h : okD a) (i : Nat) {d : Nat} (hd : d < B32) : okD (a.set i d) := fun x hx => by
  rcases List.mem_or_eq_of_mem_set hx with h1 | h1
  · exact h x h1
  · exact h1 ▸ hd
theorem okD_replicate (n : Nat) : okD (List.replicate n 0) := fun d hd => by
  have := List.eq_of_mem_replicate hd; subst this; exact B32_pos

def dg (ds : List Nat) (i : Nat) : Nat := ds.getD i 0
theorem dg_lt {ds : List Nat} (h : okD ds) (i : Nat) : dg ds i < B32 := by
  unfold dg
  rw [List.getD_eq_getElem?_getD]
  cases hi : ds[i]? with
  | none => exact B32_pos
  | some d => exact h d (List.mem_of_getElem? hi)
theorem dg_le {ds : List Nat} (h : okD ds) (i : Nat) : dg ds i ≤ 4294967295 := by have := dg_lt h i; unfold B32 at this; omega
theorem getElem?_dg {ds : List Nat} {i : Nat} (h : i < ds.length) : ds[i]? = some (dg ds i) := by
  simp [dg, List.getElem?_eq_getElem h]
theorem dg_ge {ds : List Nat} {i : Nat} (h : ds.length ≤ i) : dg ds i = 0 := by simp [dg, List.getElem?_eq_none h]
theorem dg_set_eq {ds : List Nat} {i d : Nat} (h : i < ds.length) : dg (ds.set i d) i = d := by simp [dg, h]
theorem dg_set_ne {ds : List Nat} {i j d : Nat} (h : i ≠ j) : dg (ds.set i d) j = dg ds j := by simp [dg, h]
theorem dg_take {ds : List Nat} {i n : Nat} (h : i < n) : dg (ds.take n) i = dg ds i := by simp [dg, h]
theorem dg_drop {ds : List Nat} {i n : Nat} : dg (ds.drop n) i = dg ds (n + i) := by simp [dg]

def di (ds : List Nat) (i : Nat) : Int := (dg ds i : Nat)
theorem di_eq (ds : List Nat) (i : Nat) : di ds i = ((dg ds i : Nat) : Int) := rfl
theorem di_nonneg (ds : List Nat) (i : Nat) : 0 ≤ di ds i := by unfold di; omega
theorem di_le {ds : List Nat} (h : okD ds) (i : Nat) : di ds i ≤ 4294967295 := by have := dg_le h i; unfold di; omega
theorem di_beq_true {ds : List Nat} {i : Nat} (h : dg ds i = 0) : (di ds i == 0) = true := by simp [di, h]
theorem di_beq_false {ds : List Nat} {i : Nat} (h : dg ds i ≠ 0) : (di ds i == 0) = false := by simp [di, h]

def vt (ds : List Nat) (i : Nat) : Nat := val (ds.take i)

theorem val_append (a b : List Nat) : val (a ++ b) = val a + B32 ^ a.length * val b := by
  induction a with
  | nil => simp [val]
  | cons d a ih =>
    simp only [List.cons_append, val, ih, List.length_cons, Nat.pow_succ]
    rw [Nat.mul_add, ← Nat.mul_assoc, Nat.mul_comm B32 (B32 ^ a.length), Nat.add_assoc]

theorem vt_zero (ds : List Nat) : vt ds 0 = 0 := by simp [vt, val]
theorem vt_succ {ds : List Nat} {i : Nat} (h : i < ds.length) : vt ds (i + 1) = vt ds i + dg ds i * B32 ^ i := by
  unfold vt
  rw [List.take_succ_eq_append_getElem h, val_append, List.length_take, Nat.min_eq_left (Nat.le_of_lt h)]
  have : ds[i] = dg ds i := by simp [dg, h]
  rw [this]
  simp [val, Nat.mul_comm]
theorem vt_ge {ds : List Nat} {i : Nat} (h : ds.length ≤ i) : vt ds i = val ds := by unfold vt; rw [List.take_of_length_le h]
theorem vt_len (ds : List Nat) : vt ds ds.length = val ds := vt_ge (Nat.le_refl _)
theorem vt_succ' (ds : List Nat) (i : Nat) : vt ds (i + 1) = vt ds i + dg ds i * B32 ^ i := by
  rcases Nat.lt_or_ge i ds.length with h | h
  · exact vt_succ h
  · rw [vt_ge h, vt_ge (by omega), dg_ge h]; simp

theorem val_lt {ds : List Nat} (h : okD ds) : val ds < B32 ^ ds.length := by
  induction ds with
  | nil => simp [val]
  | cons d ds ih =>
    obtain ⟨h1, h2⟩ := okD_cons.1 h
    have := ih h2
    simp only [val, List.length_cons, Nat.pow_succ]
    have h3 : B32 * (val ds + 1) ≤ B32 * B32 ^ ds.length := Nat.mul_le_mul_left _ this
    rw [Nat.mul_comm (B32 ^ ds.length)]
    rw [Nat.mul_add] at h3
    omega
theorem vt_lt {ds : List Nat} (h : okD ds) (i : Nat) : vt ds i < B32 ^ i := by
  have h1 := val_lt (okD_take h i)
  exact Nat.lt_of_lt_of_le h1 (Nat.pow_le_pow_right B32_pos (List.length_take_le _ _))

theorem vt_set_le {ds : List Nat} {i j d : Nat} (h : j ≤ i) : vt (ds.set i d) j = vt ds j := by
  unfold vt
  rw [List.take_set_of_le h]
theorem vt_set_succ {ds : List Nat} {i d : Nat} (h : i < ds.length) : vt (ds.set i d) (i + 1) = vt ds i + d * B32 ^ i := by
  rw [vt_succ (by simpa using h), vt_set_le (Nat.le_refl _), dg_set_eq h]

theorem vt_congr {a b : List Nat} {n : Nat} (h : ∀ i, i < n → dg a i = dg b i) : vt a n = vt b n := by
  induction n with
  | zero => simp [vt_zero]
  | succ n ih => rw [vt_succ', vt_succ', ih (fun i hi => h i (by omega)), h n (by omega)]

theorem val_replicate (n : Nat) : val (List.replicate n 0) = 0 := by
  induction n with
  | zero => rfl
  | succ n ih => simp [List.replicate_succ, val, ih]
theorem dg_replicate (n i : Nat) : dg (List.replicate n 0) i = 0 := by
  unfold dg
  rw [List.getD_eq_getElem?_getD, List.getElem?_replicate]
  split <;> rfl

def digs (n : Nat) : List Nat := if _h : n = 0 then [] else (n % B32) :: digs (n / B32)
 termination_by n
 decreasing_by exact Nat.div_lt_self (by omega) (by decide)

theorem digs_zero : digs 0 = [] := by rw [digs]; simp
theorem digs_pos {n : Nat} (h : 0 < n) : digs n = (n % B32) :: digs (n / B32) := by
  rw [digs, dif_neg (by omega)]
theorem digs_eq_nil {n : Nat} : digs n = [] ↔ n = 0 := by
  rcases Nat.eq_zero_or_pos n with h | h
  · subst h; simp [digs_zero]
  · rw [digs_pos h]; simp; omega
theorem val_digs (n : Nat) : val (digs n) = n := by
  induction n using Nat.strongRecOn with
  | ind n ih =>
    rcases Nat.eq_zero_or_pos n with h | h
    · subst h; simp [digs_zero, val]
    · rw [digs_pos h]
      simp only [val]
      rw [ih _ (Nat.div_lt_self h (by decide))]
      exact Nat.mod_add_div n B32
theorem okD_digs (n : Nat) : okD (digs n) := by
  induction n using Nat.strongRecOn with
  | ind n ih =>
    rcases Nat.eq_zero_or_pos n with h | h
    · subst h; simp [digs_zero, okD]
    · rw [digs_pos h, okD_cons]
      exact ⟨Nat.mod_lt _ B32_pos, ih _ (Nat.div_lt_self h (by decide))⟩
theorem digs_lt {n k : Nat} (h : n < B32 ^ k) : (digs n).length ≤ k := by
  induction k generalizing n with
  | zero =>
    have : n = 0 := by simpa using h
    subst this; simp [digs_zero]
  | succ k ih =>
    rcases Nat.eq_zero_or_pos n with h0 | h0
    · subst h0; simp [digs_zero]
    · rw [digs_pos h0, List.length_cons]
      have : n / B32 < B32 ^ k := by
        rw [Nat.div_lt_iff_lt_mul B32_pos]; rw [Nat.pow_succ] at h; exact h
      have := ih this
      omega
theorem digs_lt_pow (n : Nat) : n < B32 ^ (digs n).length := by
  have := val_lt (okD_digs n); rwa [val_digs] at this
theorem digs_ge {n k : Nat} (h : k < (digs n).length) : B32 ^ k ≤ n := by
  rcases Nat.lt_or_ge n (B32 ^ k) with h1 | h1
  · have := digs_lt h1; omega
  · exact h1
theorem digs_len_mono {m n : Nat} (h : m ≤ n) : (digs m).length ≤ (digs n).length :=
  digs_lt (Nat.lt_of_le_of_lt h (digs_lt_pow n))
theorem digs_len_pos {n : Nat} (h : 0 < n) : 0 < (digs n).length := by
  rw [digs_pos h]; simp

theorem digs_of_last {ds : List Nat} (ok : okD ds) (h : ds = [] ∨ dg ds (ds.length - 1) ≠ 0) : digs (val ds) = ds := by
  induction ds with
  | nil => simp [val, digs_zero]
  | cons d ds ih =>
    obtain ⟨h1, h2⟩ := okD_cons.1 ok
    have hl : dg (d :: ds) ((d :: ds).length - 1) ≠ 0 := by
      rcases h with h | h
      · cases h
      · exact h
    have hpos : 0 < val (d :: ds) := by
      rcases Nat.eq_zero_or_pos (val (d :: ds)) with h0 | h0
      · exfalso
        have hall : ∀ (l : List Nat), val l = 0 → ∀ i, dg l i = 0 := by
          intro l
          induction l with
          | nil => intro _ i; simp [dg]
          | cons x l ih' =>
            intro hv i
            simp only [val] at hv
            have hx : x = 0 := by omega
            have hm : B32 * val l = 0 := by omega
            have hv' : val l = 0 := by
              rcases Nat.mul_eq_zero.1 hm with h | h
              · exact absurd h (by decide)
              · exact h
            cases i with
            | zero => simpa [dg] using hx
            | succ i => have := ih' hv' i; simpa [dg] using this
        exact hl (hall _ h0 _)
      · exact h0
    rw [digs_pos hpos]
    have e1 : val (d :: ds) % B32 = d := by
      simp only [val]; rw [Nat.add_mul_mod_self_left]; exact Nat.mod_eq_of_lt h1
    have e2 : val (d :: ds) / B32 = val ds := by
      simp only [val]; rw [Nat.add_mul_div_left _ _ B32_pos, Nat.div_eq_of_lt h1]; simp
    rw [e1, e2, ih h2]
    cases ds with
    | nil => exact .inl rfl
    | cons x ds => right; simpa [dg] using hl

theorem digs_take {ds : List Nat} (ok : okD ds) {n : Nat} (hn : n ≤ ds.length) (hz : ∀ i, n ≤ i → dg ds i = 0) (hl : n = 0 ∨ dg ds (n - 1) ≠ 0) : digs (val ds) = ds.take n := by
  have hv : val ds = val (ds.take n) := by
    rw [← vt_len ds]
    show vt ds ds.length = vt ds n
    clear hl
    have : ∀ k, vt ds (n + k) = vt ds n := by
      intro k
      induction k with
      | zero => rfl
      | succ k ih => rw [← Nat.add_assoc, vt_succ', hz (n + k) (by omega), ih]; simp
    have h := this (ds.length - n)
    rwa [show n + (ds.length - n) = ds.length from by omega] at h
  rw [hv]
  refine digs_of_last (okD_take ok n) ?_
  rcases hl with h | h
  · left; subst h; simp
  · right
    have hlen : (ds.take n).length = n := by rw [List.length_take]; omega
    rw [hlen]
    rcases Nat.eq_zero_or_pos n with h0 | h0
    · subst h0
      intro hh
      exact h (hz _ (by omega))
    · rw [dg_take (by omega)]; exact h
theorem digs_len_le {ds : List Nat} (ok : okD ds) : (digs (val ds)).length ≤ ds.length := digs_lt (val_lt ok)
theorem dg_digs_last {n : Nat} (h : 0 < n) : dg (digs n) ((digs n).length - 1) ≠ 0 := by
  induction n using Nat.strongRecOn with
  | ind n ih =>
    rw [digs_pos h]
    rcases Nat.eq_zero_or_pos (n / B32) with h0 | h0
    · rw [h0, digs_zero]
      have : n % B32 = n := Nat.mod_eq_of_lt (by
        rcases Nat.lt_or_ge n B32 with h1 | h1
        · exact h1
        · have := Nat.div_pos h1 B32_pos; omega)
      simp [dg, this]; omega
    · have := ih _ (Nat.div_lt_self h (by decide)) h0
      have hp := digs_len_pos h0
      have e : ((n % B32) :: digs (n / B32)).length - 1 = (digs (n / B32)).length - 1 + 1 := by simp; omega
      rw [e]
      simpa [dg] using this

theorem digs_one {n : Nat} (h0 : 0 < n) (h : n < B32) : digs n = [n] := by
  rw [digs_pos h0, Nat.div_eq_of_lt h, digs_zero, Nat.mod_eq_of_lt h]
theorem digs_two {n : Nat} (h : B32 ≤ n) (h2 : n < B32 * B32) : digs n = [n % B32, n / B32] := by
  have := B32_pos
  have h1 : 0 < n / B32 := Nat.div_pos h B32_pos
  have h3 : n / B32 < B32 := by rw [Nat.div_lt_iff_lt_mul B32_pos]; exact h2
  rw [digs_pos (by omega), digs_one h1 h3]

theorem pow_cast_succ (k : Nat) : ((B32 ^ (k + 1) : Nat) : Int) = ((B32 ^ k : Nat) : Int) * 4294967296 := by
  rw [Nat.pow_succ, Int.natCast_mul]; rfl
theorem vt_cast_succ (ds : List Nat) (k : Nat) : ((vt ds (k + 1) : Nat) : Int) = vt ds k + di ds k * ((B32 ^ k : Nat) : Int) := by
  rw [vt_succ', Int.natCast_add, Int.natCast_mul]; rfl
theorem vt_cast_set {ds : List Nat} {k : Nat} {z : Int} (h : k < ds.length) (hz : 0 ≤ z) : ((vt (ds.set k z.toNat) (k + 1) : Nat) : Int) = vt ds k + z * ((B32 ^ k : Nat) : Int) := by
  rw [vt_set_succ h, Int.natCast_add, Int.natCast_mul, Int.toNat_of_nonneg hz]
theorem ring_add (O x y z p r q a b : Int) (h : O + z * p = a + b) (e : z + x + y = r + 4294967296 * q) : O + r * p + q * (p * 4294967296) = a + x * p + (b + y * p) := by grind

theorem add_step {O xs ys : List Nat} {k : Nat} {z y : Int} (hk : k < O.length) (hz : 0 ≤ z) (hy : y = di ys k)
    (h : (vt O k : Int) + z * ((B32 ^ k : Nat) : Int) = vt xs k + vt ys k) :
    (vt (O.set k ((z + di xs k + y) % 4294967296).toNat) (k + 1) : Int) + ((z + di xs k + y) / 4294967296) * ((B32 ^ (k + 1) : Nat) : Int) = vt xs (k + 1) + vt ys (k + 1) := by
  subst hy
  rw [vt_cast_set hk (by omega), vt_cast_succ, vt_cast_succ, pow_cast_succ]
  exact ring_add _ _ _ _ _ _ _ _ _ h (by omega)

theorem ring_sub (O x y z p r q a b : Int) (h : O - z * p = a - b) (e : x - z - y = r - 4294967296 * q) : O + r * p - q * (p * 4294967296) = a + x * p - (b + y * p) := by grind
theorem sub_step {O xs ys : List Nat} {k : Nat} {z y r q : Int} (hk : k < O.length) (hy : y = di ys k) (hr : 0 ≤ r) (hq : r - 4294967296 * q = di xs k - z - y)
    (h : (vt O k : Int) - z * ((B32 ^ k : Nat) : Int) = vt xs k - vt ys k) :
    (vt (O.set k r.toNat) (k + 1) : Int) - q * ((B32 ^ (k + 1) : Nat) : Int) = vt xs (k + 1) - vt ys (k + 1) := by
  subst hy
  rw [vt_cast_set hk hr, vt_cast_succ, vt_cast_succ, pow_cast_succ]
  exact ring_sub _ _ _ _ _ _ _ _ _ h (by omega)
theorem sub_fin {O xs ys : List Nat} {k : Nat} {z : Int} (hO : O.length = k) (ok : okD O) (hz : 0 ≤ z) (hx : xs.length ≤ k) (hy : ys.length ≤ k) (hle : val ys ≤ val xs)
    (h : (vt O k : Int) - z * ((B32 ^ k : Nat) : Int) = vt xs k - vt ys k) : val O = val xs - val ys := by
  rw [vt_ge hx, vt_ge hy, vt_ge (by omega)] at h
  have hlt := val_lt ok
  rw [hO] at hlt
  have hz0 : z = 0 := by
    rcases Int.lt_or_eq_of_le hz with h1 | h1
    · exfalso
      have : ((B32 ^ k : Nat) : Int) * 1 ≤ ((B32 ^ k : Nat) : Int) * z := Int.mul_le_mul_of_nonneg_left (by omega) (by omega)
      rw [Int.mul_comm z] at h
      omega
    · exact h1.symm
  subst hz0
  omega

theorem lt_of_len {a b : Nat} (h : (digs a).length < (digs b).length) : a < b := by
  have h1 := digs_lt_pow a
  have h2 := digs_ge h
  omega
theorem val_split (ds : List Nat) (i : Nat) : val ds = vt ds i + B32 ^ i * (dg ds i + B32 * val (ds.drop (i + 1))) := by
  rcases Nat.lt_or_ge i ds.length with h | h
  · have e : ds = ds.take i ++ (dg ds i :: ds.drop (i + 1)) := by
      have hd : ds[i] = dg ds i := by simp [dg, h]
      rw [← hd, ← List.drop_eq_getElem_cons h, List.take_append_drop]
    have hl : (ds.take i).length = i := by rw [List.length_take]; omega
    calc val ds = val (ds.take i ++ (dg ds i :: ds.drop (i + 1))) := by rw [← e]
      _ = _ := by rw [val_append, hl]; rfl
  · rw [vt_ge h, dg_ge h, List.drop_eq_nil_of_le (by omega)]; simp [val]
theorem drop_congr {a b : List Nat} {n : Nat} (hl : a.length = b.length) (h : ∀ i, n ≤ i → dg a i = dg b i) : a.drop n = b.drop n := by
  apply List.ext_getElem?
  intro i
  rw [List.getElem?_drop, List.getElem?_drop]
  rcases Nat.lt_or_ge (n + i) a.length with h1 | h1
  · rw [getElem?_dg h1, getElem?_dg (by omega), h _ (by omega)]
  · rw [List.getElem?_eq_none h1, List.getElem?_eq_none (by omega)]
theorem val_lt_of_top {a b : List Nat} (ha : okD a) (hl : a.length = b.length) {i : Nat} (h : ∀ j, i < j → dg a j = dg b j) (hi : dg a i < dg b i) : val a < val b := by
  rw [val_split a i, val_split b i, drop_congr hl (fun j hj => h j (by omega))]
  have h1 := vt_lt ha i
  have h2 : B32 ^ i * (dg a i + B32 * val (b.drop (i + 1)) + 1) ≤ B32 ^ i * (dg b i + B32 * val (b.drop (i + 1))) := Nat.mul_le_mul_left _ (by omega)
  rw [Nat.mul_add, Nat.mul_one] at h2
  omega
theorem val_eq_of_all {a b : List Nat} (hl : a.length = b.length) (h : ∀ j, dg a j = dg b j) : a = b := by
  have := drop_congr (n := 0) hl (fun i _ => h i)
  simpa using this
theorem digs_inj {a b : Nat} (h : digs a = digs b) : a = b := by rw [← val_digs a, h, val_digs]

def cmpN (a b : Nat) : Int := if a < b then -1 else if a = b then 0 else 1
theorem cmpN_lt {a b : Nat} (h : a < b) : cmpN a b = -1 := by simp [cmpN, h]
theorem cmpN_eq {a b : Nat} (h : a = b) : cmpN a b = 0 := by simp [cmpN, h]
theorem cmpN_gt {a b : Nat} (h : b < a) : cmpN a b = 1 := by
  unfold cmpN; rw [if_neg (by omega), if_neg (by omega)]
theorem cmpN_bd (a b : Nat) : -1 ≤ cmpN a b ∧ cmpN a b ≤ 1 := by
  unfold cmpN; split
  · decide
  · split <;> decide

end Go.Proofs.YtpanffbgihhjnaaGreat.Pl

/- Memory: what it means that a value reads, in a world, as a list of base-2^32 digits; and that such a reading is kept. -/
namespace Go.Proofs.YtpanffbgihhjnaaGreat
open Go.RowKit Pl

def uc (d : Nat) : Value := .int .u32 (d : Int)

def DigM (w : World) (v : Value) (ds : List Nat) : Prop :=
  ∃ A c, v = .slice A ds.length c ∧ ds.length ≤ c ∧ c ≤ maxLen ∧ okD ds ∧
    (0 < ds.length → ∃ b off cs fz, A = some ⟨b, off, none⟩ ∧ w.heap[b]? = some (.cells cs 85 fz) ∧ ∀ k d, ds[k]? = some d → cs[off + k]? = some (uc d))

def Keep (w w' : World) : Prop := ∀ (b : Nat) (cs : Array Value) (fz : Nat × Nat), w.heap[b]? = some (.cells cs 85 fz) → w'.heap[b]? = some (.cells cs 85 fz)

theorem Keep.refl (w : World) : Keep w w := fun _ _ _ h => h
theorem Keep.trans {a b c : World} (h : Keep a b) (k : Keep b c) : Keep a c := fun x cs fz hx => k x cs fz (h x cs fz hx)
theorem lt_heap {w : World} {b : Nat} {o : Obj} (h : w.heap[b]? = some o) : b < w.heap.size := (Array.getElem?_eq_some_iff.1 h).1
theorem Keep.of_below {w w' : World} (h : Below w.heap.size w w') : Keep w w' := fun b _ _ hb => (h.block b (lt_heap hb)).trans hb
theorem Keep.drew (w : World) : Keep w w.drew := fun _ _ _ h => h
theorem Keep.drewN (w : World) (n : Nat) : Keep w (w.drewN n) := fun _ _ _ h => h
theorem Keep.alloc (w : World) (o : Obj) : Keep w (w.alloc o) := Keep.of_below ((Below.refl _ _).alloc (Nat.le_refl _) o)
theorem Keep.setCell {w : World} {g : Nat} {cs : Array Value} {t : TypeId} {fz : Nat × Nat} (h : w.heap[g]? = some (.cells cs t fz)) (ht : t ≠ 85) (i : Nat) (u : Value) : Keep w (w.setCell ⟨g, i, none⟩ u) := by
  intro b cs' fz' hb
  have hne : b ≠ g := by
    rintro rfl
    rw [h] at hb
    injection hb with hb
    injection hb with _ h2 _
    exact ht h2
  rw [heap_setCell_other w _ _ _ hne]
  exact hb

theorem DigM.keep {w w' : World} {v : Value} {ds : List Nat} (h : DigM w v ds) (hk : Keep w w') : DigM w' v ds := by
  obtain ⟨A, c, hv, h1, h2, h3, h4⟩ := h
  refine ⟨A, c, hv, h1, h2, h3, fun hp => ?_⟩
  obtain ⟨b, off, cs, fz, hA, hb, hc⟩ := h4 hp
  exact ⟨b, off, cs, fz, hA, hk b cs fz hb, hc⟩
theorem DigM.below {w w' : World} {v : Value} {ds : List Nat} (h : DigM w v ds) (hb : Below w.heap.size w w') : DigM w' v ds := h.keep (Keep.of_below hb)

theorem DigM.ok {w : World} {v : Value} {ds : List Nat} (h : DigM w v ds) : okD ds := by
  obtain ⟨_, _, _, _, _, h3, _⟩ := h; exact h3
theorem DigM.len {w : World} {A : Option Addr} {n c : Nat} {ds : List Nat} (h : DigM w (.slice A n c) ds) : n ≤ ds.length ∧ ds.length ≤ n ∧ n ≤ c ∧ c ≤ 9223372036854775807 := by
  obtain ⟨_, _, hv, h1, h2, _, _⟩ := h
  injection hv with _ e2 e3
  subst e2 e3
  unfold maxLen at h2
  exact ⟨Nat.le_refl _, Nat.le_refl _, h1, by omega⟩
theorem DigM.shape {w : World} {v : Value} {ds : List Nat} (h : DigM w v ds) : ∃ A n c, v = .slice A n c := by
  obtain ⟨A, c, hv, _⟩ := h; exact ⟨A, _, c, hv⟩

theorem DigM.at_ {w : World} {A : Option Addr} {n c : Nat} {ds : List Nat} (h : DigM w (.slice A n c) ds) (hn : 0 < n) :
    ∃ b off, A = some ⟨b, off, none⟩ ∧ b < w.heap.size ∧ ∀ k, k < n → w.cell? ⟨b, off + k, none⟩ = some (.int .u32 (di ds k)) := by
  obtain ⟨hl, hl', _, _⟩ := h.len
  obtain ⟨A', c', hv, h1, h2, h3, h4⟩ := h
  injection hv with e1 e2 e3
  subst e1 e3
  obtain ⟨b, off, cs, fz, hA, hb, hc⟩ := h4 (by omega)
  refine ⟨b, off, hA, lt_heap hb, fun k hk => ?_⟩
  rw [cell_of_row w b (off + k) cs _ fz hb, hc k (dg ds k) (getElem?_dg (by omega))]
  rfl

theorem DigM.take {w : World} {A : Option Addr} {n c : Nat} {ds : List Nat} (h : DigM w (.slice A n c) ds) {k c' : Nat} (hk : k ≤ n) (hc : k ≤ c') (hm : c' ≤ maxLen) : DigM w (.slice A k c') (ds.take k) := by
  obtain ⟨hl, hl', _, _⟩ := h.len
  obtain ⟨A', c1, hv, h1, h2, h3, h4⟩ := h
  injection hv with e1 e2 e3
  subst e1 e3
  have hlen : (ds.take k).length = k := by rw [List.length_take]; omega
  refine ⟨A, c', by rw [hlen], by rw [hlen]; exact hc, hm, okD_take h3 k, fun hp => ?_⟩
  rw [hlen] at hp
  obtain ⟨b, off, cs, fz, hA, hb, hcell⟩ := h4 (by omega)
  refine ⟨b, off, cs, fz, hA, hb, fun j d hj => hcell j d ?_⟩
  rw [List.getElem?_take] at hj
  split at hj
  · exact hj
  · cases hj
theorem DigM.nil (w : World) (A : Option Addr) (c : Nat) (hm : c ≤ maxLen) : DigM w (.slice A 0 c) [] :=
  ⟨A, c, rfl, by simp, hm, okD_nil, fun h => absurd h (by simp)⟩

def DigB (w : World) (g : Nat) (ds : List Nat) : Prop := w.heap[g]? = some (.cells (ds.map uc).toArray 85 (0, 0))

theorem DigB.lt {w : World} {g : Nat} {ds : List Nat} (h : DigB w g ds) : g < w.heap.size := lt_heap h
theorem DigB.cell {w : World} {g : Nat} {ds : List Nat} (h : DigB w g ds) {k : Nat} (hk : k < ds.length) : w.cell? ⟨g, k, none⟩ = some (.int .u32 (di ds k)) := by
  rw [cell_of_row w g k _ _ _ h]
  simp [getElem?_dg hk, uc, di]
theorem DigB.frozen {w : World} {g : Nat} {ds : List Nat} (h : DigB w g ds) (k : Nat) : w.frozen? ⟨g, k, none⟩ = false := frozen_of_row w g k _ _ h
theorem DigB.new (w : World) (ds : List Nat) : DigB (w.alloc (.cells (ds.map uc).toArray 85)) w.heap.size ds := heap_alloc_new w _
theorem DigB.set_ {w : World} {g : Nat} {ds : List Nat} (h : DigB w g ds) (k d : Nat) : DigB (w.setCell ⟨g, k, none⟩ (.int .u32 (d : Int))) g (ds.set k d) := by
  unfold DigB at h ⊢
  rw [heap_setCell_same w g k _ _ _ h]
  simp [uc, List.map_set]
theorem DigB.setI {w : World} {g : Nat} {ds : List Nat} (h : DigB w g ds) (k : Nat) {z : Int} (hz : 0 ≤ z) : DigB (w.setCell ⟨g, k, none⟩ (.int .u32 z)) g (ds.set k z.toNat) := by
  have := h.set_ k z.toNat
  rwa [Int.toNat_of_nonneg hz] at this
theorem DigB.below {w w' : World} {B g : Nat} {ds : List Nat} (h : DigB w g ds) (hb : Below B w w') (hg : g < B) : DigB w' g ds := (hb.block g hg).trans h
theorem DigB.dig {w : World} {g : Nat} {ds : List Nat} (h : DigB w g ds) (ok : okD ds) {c : Nat} (hc : ds.length ≤ c) (hm : c ≤ maxLen) : DigM w (.slice (some ⟨g, 0, none⟩) ds.length c) ds :=
  ⟨_, c, rfl, hc, hm, ok, fun _ => ⟨g, 0, _, _, rfl, h, fun k d hk => by simp [hk, uc]⟩⟩

def zc (n : Nat) : Array Value := ((List.replicate n 0).map uc).toArray
theorem DigB.zeros (w : World) (n : Nat) : DigB (w.alloc (.cells (zc n) 85)) w.heap.size (List.replicate n 0) := DigB.new w _
theorem made_u32 (n : Nat) : madeCells (Value.cells (.int .u32 0)) (n * 1) = zc n := by
  simp [madeCells, Value.cells, uc, zc]
  apply Array.ext
  · simp
  · intro i h1 h2
    simp [Nat.mod_one]

theorem info_u32 : (Tryz.prog.info? 85).map (fun i => (i.zero, i.size, i.bytes)) = some (some (.int .u32 0), 1, 4) := by kernel_rfl

theorem make_u32 (n : Nat) (hn : n ≤ 1099511627776) (w : World) :
    (Instr.makeSlice 43 (.int .i64 (n : Int)) (.int .i64 (n : Int))).run Tryz.prog w = .ok (.slice (some ⟨w.heap.size, 0, none⟩) n n) (w.alloc (.cells (zc n) 85)) := by
  obtain ⟨i0, hi, hz0, hz1, hz2⟩ := info_parts info_u32
  have hb : (i0.bytes : Int) * (n : Int) ≤ 281474976710656 := by rw [hz2]; omega
  have hr := run_make (P := Tryz.prog) w 43 85 i0 _ Tryz.underlying43 hi hz0 .i64 .i64 n n (by omega) (by omega) hb (by omega)
  simp only [Int.toNat_natCast, hz1] at hr
  rw [hr, made_u32]

end Go.Proofs.YtpanffbgihhjnaaGreat

/- Walks: package integer, the magnitudes: trim, fromWord, toWord, compareMag. -/
namespace Go.Proofs.YtpanffbgihhjnaaGreat
open Go.RowKit Pl

theorem trim_fin {w : World} {A : Option Addr} {n c k : Nat} {ds : List Nat} (h : DigM w (.slice A n c) ds) (hk : k ≤ n) (hz : ∀ i, k ≤ i → dg ds i = 0) (hl : k = 0 ∨ dg ds (k - 1) ≠ 0) :
    DigM w (.slice A k k) (digs (val ds)) := by
  obtain ⟨h1, h2, h3, h4⟩ := h.len
  rw [digs_take h.ok (by omega) hz hl]
  exact h.take hk (Nat.le_refl _) (by unfold maxLen; omega)

set_option maxHeartbeats 400000 in
theorem trim_any (v : Value) (ds : List Nat) (w : World) (h : DigM w v ds) :
    Calls Tryz.prog 100 #[v] w fun e w' => ∃ v', e = .returned v' ∧ DigM w v' (digs (val ds)) ∧ w = w' := by
  obtain ⟨A, n, c, rfl⟩ := h.shape
  obtain ⟨hl, hl', hnc, hc⟩ := h.len
  go_enter Tryz.func100, Tryz.ntmps100
  go_wp2
  go_loop [3] (fun x => ∃ k : Nat, k ≤ n ∧ x = .int .i64 k ∧ ∀ i, k ≤ i → dg ds i = 0) (fun x => (intOf x).toNat)
  case atStart => exact ⟨n, Nat.le_refl _, rfl, fun i hi => dg_ge (by omega)⟩
  case round =>
    obtain ⟨k, hk, rfl, hz⟩ := hrel
    have HZ := Lib.hid hz
    clear hz
    rcases Nat.eq_zero_or_pos k with h0 | h0
    · subst h0
      go_wp2
      go_ret
      exact ⟨_, rfl, trim_fin h hk HZ.out (.inl rfl), rfl⟩
    · obtain ⟨j, rfl⟩ : ∃ j, k = j + 1 := ⟨k - 1, by omega⟩
      obtain ⟨b, off, rfl, _, hcell⟩ := h.at_ (by omega)
      have hcj := hcell j (by omega)
      clear hcell
      by_cases hd : dg ds j = 0
      · have hb := di_beq_true hd
        have HD := Lib.hid hd
        clear hd
        go_wp2
        go_round
        case rel => exact ⟨j, by omega, by go_num, fun i hi => by
          rcases Nat.eq_or_lt_of_le hi with e | e
          · exact e ▸ HD.out
          · exact HZ.out i e⟩
        case measure => simp [intOf]
      · have hb := di_beq_false hd
        have HD := Lib.hid hd
        clear hd
        go_wp2
        go_ret
        exact ⟨_, rfl, trim_fin h hk HZ.out (.inr (by simpa using HD.out)), rfl⟩

theorem dig_one (w : World) (z : Int) (hd : z < 4294967296) (h0 : 0 < z) : DigM (w.alloc (.cells #[.int .u32 z] 85)) (.slice (some ⟨w.heap.size, 0, none⟩) 1 1) (digs z.toNat) := by
  obtain ⟨d, rfl⟩ := Int.eq_ofNat_of_zero_le (Int.le_of_lt h0)
  rw [Int.toNat_natCast, digs_one (by omega) (by unfold B32; omega)]
  have := DigB.dig (DigB.new w [d]) (by simp [okD, B32]; omega) (c := 1) (by simp) (by simp [maxLen])
  simpa [uc] using this
theorem dig_two (w : World) (z : Int) (h : 4294967296 ≤ z) (h2 : z ≤ 18446744073709551615) :
    DigM (w.alloc (.cells #[.int .u32 (z % 4294967296), .int .u32 (z / 4294967296)] 85)) (.slice (some ⟨w.heap.size, 0, none⟩) 2 2) (digs z.toNat) := by
  obtain ⟨n, rfl⟩ := Int.eq_ofNat_of_zero_le (show 0 ≤ z by omega)
  rw [Int.toNat_natCast, digs_two (by unfold B32; omega) (by unfold B32; omega)]
  have := DigB.dig (DigB.new w [n % B32, n / B32]) (by simp [okD, B32]; omega) (c := 2) (by simp) (by simp [maxLen])
  simpa [uc, B32] using this

set_option maxHeartbeats 400000 in
theorem fromWord_any (z : Int) (w : World) (hz : 0 ≤ z) (hn : z ≤ 18446744073709551615) :
    Calls Tryz.prog 112 #[.int .u64 z] w fun e w' => ∃ v', e = .returned v' ∧ DigM w' v' (digs z.toNat) ∧ Below w.heap.size w w' := by
  rcases Int.lt_or_eq_of_le hz with h0 | h0
  · rcases Int.lt_or_le z 4294967296 with h1 | h1
    · go_enter Tryz.func112, Tryz.ntmps112
      go_wp2
      go_ret
      exact ⟨_, rfl, dig_one w z h1 h0, (Below.refl _ _).alloc (Nat.le_refl _) _⟩
    · go_enter Tryz.func112, Tryz.ntmps112
      go_wp2
      go_ret
      exact ⟨_, rfl, dig_two w z h1 hn, (Below.refl _ _).alloc (Nat.le_refl _) _⟩
  · subst h0
    go_enter Tryz.func112, Tryz.ntmps112
    go_wp2
    go_ret
    exact ⟨_, rfl, by simp only [Int.toNat_zero, digs_zero]; exact DigM.nil _ _ _ (by simp), Below.refl _ _⟩

theorem below_drewN' (w : World) (n : Nat) : Below w.heap.size w (w.drewN n) := ⟨rfl, rfl, rfl, Nat.le_refl _, fun _ _ => rfl⟩

theorem u64_in (x : Int) (h0 : 0 ≤ x) (h1 : x ≤ 18446744073709551615) : IntKind.u64.wrap x = x := by
  simp only [IntKind.wrap, IntKind.bits, IntKind.signed]; simp; omega
theorem or_words {x y : Int} (x0 : 0 ≤ x) (x1 : x ≤ 4294967295) (y0 : 0 ≤ y) (y1 : y ≤ 4294967295) : bits .or .u64 (y * 4294967296) x = y * 4294967296 + x := by
  obtain ⟨a, rfl⟩ := Int.eq_ofNat_of_zero_le x0
  obtain ⟨b, rfl⟩ := Int.eq_ofNat_of_zero_le y0
  have e : ((b : Int) * 4294967296) = ((b * 4294967296 : Nat) : Int) := by omega
  rw [e, u64_or_nat _ _ (by omega) (by omega)]
  have h : b * 4294967296 ||| a = b * 4294967296 + a := by
    have := Nat.shiftLeft_add_eq_or_of_lt (i := 32) (b := a) (by omega) b
    rw [Nat.shiftLeft_eq, show (2 : Nat) ^ 32 = 4294967296 from rfl] at this
    omega
  rw [h]
  omega

set_option maxHeartbeats 400000 in
theorem toWord_any (v : Value) (n : Nat) (w : World) (h : DigM w v (digs n)) (hn : n < B32 * B32) :
    Calls Tryz.prog 127 #[v] w fun e w' => e = .returned (.int .u64 (n : Int)) ∧ Below w.heap.size w w' := by
  obtain ⟨A, l, c, rfl⟩ := h.shape
  obtain ⟨hl, hl', hnc, hc⟩ := h.len
  rcases Nat.eq_zero_or_pos n with h0 | h0
  · subst h0
    rw [digs_zero] at hl
    obtain rfl : l = 0 := by simpa using hl
    clear hl'
    go_enter Tryz.func127, Tryz.ntmps127
    go_wp2
    go_ret
    exact ⟨rfl, Below.refl _ _⟩
  · obtain ⟨b, off, rfl, _, hcell⟩ := h.at_ (by have := digs_len_pos h0; omega)
    rcases Nat.lt_or_ge n B32 with h1 | h1
    · rw [digs_one h0 h1] at hl hl' hcell
      obtain rfl : l = 1 := by simp at hl hl'; omega
      have hc0 := hcell 0 (by omega)
      have e0 : di [n] 0 = (n : Int) := by simp [di, dg]
      rw [e0, Nat.add_zero] at hc0
      have hh : (n : Int) ≤ 4294967295 := by unfold B32 at h1; omega
      have hh0 : 0 ≤ (n : Int) := by omega
      generalize (n : Int) = z at *
      clear hcell h hn h1 hl hl' e0
      go_enter Tryz.func127, Tryz.ntmps127
      go_wp2
      go_ret
      exact ⟨rfl, Below.refl _ _⟩
    · rw [digs_two h1 hn] at hl hl' hcell
      obtain rfl : l = 2 := by simp at hl hl'; omega
      have hc0 := hcell 0 (by omega)
      have hc1 := hcell 1 (by omega)
      have e0 : di [n % B32, n / B32] 0 = ((n % B32 : Nat) : Int) := by simp [di, dg]
      have e1 : di [n % B32, n / B32] 1 = ((n / B32 : Nat) : Int) := by simp [di, dg]
      rw [e0, Nat.add_zero] at hc0
      rw [e1] at hc1
      obtain ⟨x, hx⟩ : ∃ x : Int, x = ((n % B32 : Nat) : Int) := ⟨_, rfl⟩
      obtain ⟨y, hy⟩ : ∃ y : Int, y = ((n / B32 : Nat) : Int) := ⟨_, rfl⟩
      rw [← hx] at hc0
      rw [← hy] at hc1
      have hn' : (n : Int) = y * 4294967296 + x := by rw [hx, hy]; unfold B32; omega
      have x0 : 0 ≤ x := by omega
      have x1 : x ≤ 4294967295 := by rw [hx]; unfold B32; omega
      have y0 : 0 ≤ y := by omega
      have y1 : y ≤ 4294967295 := by rw [hy]; unfold B32 at hn ⊢; omega
      rw [hn']
      clear hcell h hn h1 hl hl' e0 e1 hx hy hn' h0
      have r1 : IntKind.u64.wrap x = x := u64_in x x0 (by omega)
      have r2 : IntKind.u64.wrap y = y := u64_in y y0 (by omega)
      have r3 : IntKind.u64.wrap (y * 4294967296) = y * 4294967296 := u64_in _ (by omega) (by omega)
      have r4 := or_words x0 x1 y0 y1
      go_enter Tryz.func127, Tryz.ntmps127
      go_wp2
      go_quiet (fail)
      go_wp2
      go_ret
      exact ⟨rfl, below_drewN' _ _⟩

theorem ret_int {k : IntKind} {a b : Int} (h : a = b) : Ending.returned (.int k a) = .returned (.int k b) := by rw [h]
theorem cmp_all {a b l : Nat} {z : Int} (h1 : (digs a).length = l) (h2 : (digs b).length = l) (h3 : -1 ≤ z) (h4 : z < 0) (h : ∀ i : Nat, z < i → dg (digs a) i = dg (digs b) i) : 0 = cmpN a b := by
  rw [cmpN_eq]
  exact digs_inj (val_eq_of_all (by omega) (fun j => h j (by omega)))
theorem cmp_less {a b l j : Nat} (h1 : (digs a).length = l) (h2 : (digs b).length = l) (h : ∀ i : Nat, (j : Int) < i → dg (digs a) i = dg (digs b) i) (g : dg (digs a) j < dg (digs b) j) : cmpN a b = -1 := by
  refine cmpN_lt ?_
  have := val_lt_of_top (okD_digs a) (by omega) (fun i hi => h i (by omega)) g
  rwa [val_digs, val_digs] at this
theorem cmp_more {a b l j : Nat} (h1 : (digs a).length = l) (h2 : (digs b).length = l) (h : ∀ i : Nat, (j : Int) < i → dg (digs a) i = dg (digs b) i) (g : dg (digs b) j < dg (digs a) j) : cmpN a b = 1 := by
  refine cmpN_gt ?_
  have := val_lt_of_top (okD_digs b) (by omega) (fun i hi => (h i (by omega)).symm) g
  rwa [val_digs, val_digs] at this

set_option maxHeartbeats 400000 in
theorem compareMag_any (v1 v2 : Value) (a b : Nat) (w : World) (h1 : DigM w v1 (digs a)) (h2 : DigM w v2 (digs b)) :
    Calls Tryz.prog 101 #[v1, v2] w fun e w' => e = .returned (.int .i64 (cmpN a b)) ∧ Below w.heap.size w w' := by
  obtain ⟨A, l, c, rfl⟩ := h1.shape
  obtain ⟨hl, hl', hnc, hc⟩ := h1.len
  obtain ⟨A2, l2, c2, rfl⟩ := h2.shape
  obtain ⟨kl, kl', knc, kc⟩ := h2.len
  rcases Nat.lt_trichotomy l l2 with hlt | heq | hgt
  · have e : cmpN a b = -1 := cmpN_lt (lt_of_len (by omega))
    rw [e]
    go_enter Tryz.func101, Tryz.ntmps101
    go_wp2
    go_ret
    exact ⟨rfl, Below.refl _ _⟩
  · subst heq
    go_enter Tryz.func101, Tryz.ntmps101
    go_wp2
    go_loopw [5] (fun x wr => ∃ (z : Int) (q : Nat), -1 ≤ z ∧ z < l ∧ x = .int .i64 z ∧ wr = w.drewN q ∧ ∀ i : Nat, z < i → dg (digs a) i = dg (digs b) i) (fun x _ => (intOf x + 1).toNat)
    case atStart => exact ⟨(l : Int) - 1, 0, by omega, by omega, rfl, rfl, fun i hi => by rw [dg_ge (by omega), dg_ge (by omega)]⟩
    case round =>
      obtain ⟨z, q, hk0, hk, rfl, rfl, hz⟩ := hrel
      have HZ := Lib.hid hz
      clear hz
      rcases Int.lt_or_le z 0 with h0 | h0
      · go_wp2
        go_ret
        exact ⟨ret_int (cmp_all (l := l) (by omega) (by omega) hk0 h0 HZ.out), below_drewN' _ _⟩
      · obtain ⟨j, rfl⟩ := Int.eq_ofNat_of_zero_le h0
        obtain ⟨b1, off1, rfl, _, hcell1⟩ := h1.at_ (by omega)
        obtain ⟨b2, off2, rfl, _, hcell2⟩ := h2.at_ (by omega)
        have hc1 := hcell1 j (by omega)
        have hc2 := hcell2 j (by omega)
        clear hcell1 hcell2
        rcases Nat.lt_trichotomy (dg (digs a) j) (dg (digs b) j) with g | g | g
        · have t1 : (di (digs a) j != di (digs b) j) = true := by simp [di]; omega
          have t2 : decide (di (digs a) j < di (digs b) j) = true := by simp [di]; omega
          have HG := Lib.hid g
          clear g
          go_wp2
          go_quiet (fail)
          go_wp2
          go_quiet (fail)
          go_wp2
          go_ret
          exact ⟨ret_int (cmp_less (l := l) (by omega) (by omega) HZ.out HG.out).symm, by simp only [World.drewN_drewN]; exact below_drewN' _ _⟩
        · have t1 : (di (digs a) j != di (digs b) j) = false := by simp [di]; omega
          have HG := Lib.hid g
          clear g
          go_wp2
          go_quiet (fail)
          go_wp2
          go_roundw
          case rel => exact ⟨(j : Int) - 1, q + nq, by omega, by omega, rfl, rfl, fun i hi => by
            rcases Nat.eq_or_lt_of_le (show j ≤ i by omega) with e | e
            · exact e ▸ HG.out
            · exact HZ.out i (by omega)⟩
          case measure => simp [intOf]
        · have t1 : (di (digs a) j != di (digs b) j) = true := by simp [di]; omega
          have t2 : decide (di (digs a) j < di (digs b) j) = false := by simp [di]; omega
          have HG := Lib.hid g
          clear g
          go_wp2
          go_quiet (fail)
          go_wp2
          go_quiet (fail)
          go_wp2
          go_ret
          exact ⟨ret_int (cmp_more (l := l) (by omega) (by omega) HZ.out HG.out).symm, by simp only [World.drewN_drewN]; exact below_drewN' _ _⟩
  · have e : cmpN a b = 1 := cmpN_gt (lt_of_len (by omega))
    rw [e]
    go_enter Tryz.func101, Tryz.ntmps101
    go_wp2
    go_ret
    exact ⟨rfl, Below.refl _ _⟩
end Go.Proofs.YtpanffbgihhjnaaGreat

/- Walks: package integer, the magnitudes: addMag, subMag. -/
namespace Go.Proofs.YtpanffbgihhjnaaGreat
open Go.RowKit Pl

theorem dig_in {w wr : World} {B b off n : Nat} {ds : List Nat} (hb : Below B w wr) (hlt : b < B) (h : ∀ k, k < n → w.cell? ⟨b, off + k, none⟩ = some (.int .u32 (di ds k))) {k : Nat} (hk : k < n) :
    wr.cell? ⟨b, off + k, none⟩ = some (.int .u32 (di ds k)) := (hb.cell (p := ⟨b, off + k, none⟩) hlt).trans (h k hk)

theorem add_fin {O xs ys : List Nat} {k : Nat} {z : Int} (_hkl : k ≥ k) (hO : k + 1 ≤ O.length) (hO' : O.length ≤ k + 1) (z0 : 0 ≤ z) (hx : xs.length ≤ k) (hy : ys.length ≤ k)
    (h : (vt O k : Int) + z * ((B32 ^ k : Nat) : Int) = vt xs k + vt ys k) : val (O.set k z.toNat) = val xs + val ys := by
  have e := vt_cast_set (ds := O) (k := k) (by omega) z0
  rw [vt_ge (by simpa using hO'), h, vt_ge hx, vt_ge hy] at e
  omega

set_option maxHeartbeats 1000000 in
theorem addMag_ge (v1 v2 : Value) (xs ys : List Nat) (w : World) (h1 : DigM w v1 xs) (h2 : DigM w v2 ys) (hle : ys.length ≤ xs.length) (hs : xs.length ≤ 549755813888) :
    Calls Tryz.prog 122 #[v1, v2] w fun e w' => ∃ v', e = .returned v' ∧ DigM w' v' (digs (val xs + val ys)) ∧ Below w.heap.size w w' := by
  obtain ⟨A, l, c, rfl⟩ := h1.shape
  obtain ⟨hl, hl', hnc, hc⟩ := h1.len
  obtain ⟨A2, l2, c2, rfl⟩ := h2.shape
  obtain ⟨kl, kl', knc, kc⟩ := h2.len
  have hle' : l2 ≤ l := by omega
  have hmk := make_u32 (l + 1) (by omega)
  push_cast at hmk
  go_enter Tryz.func122, Tryz.ntmps122
  go_wp2
  clear hmk
  go_loopw [6, 22] (fun cy i wr => ∃ (k : Nat) (O : List Nat) (z : Int), k ≤ l ∧ i = .int .i64 k ∧ cy = .int .u64 z ∧ 0 ≤ z ∧ z ≤ 1 ∧ l + 1 ≤ O.length ∧ O.length ≤ l + 1 ∧ DigB wr w.heap.size O ∧ okD O ∧ Below w.heap.size w wr ∧
      (vt O k : Int) + z * ((B32 ^ k : Nat) : Int) = vt xs k + vt ys k) (fun _ i _ => l - (intOf i).toNat)
  case atStart => exact ⟨0, List.replicate (l + 1) 0, 0, by omega, rfl, rfl, by omega, by omega, by simp, by simp, DigB.zeros w _, okD_replicate _, (Below.refl _ _).alloc (Nat.le_refl _) _, by simp [vt_zero]⟩
  case round =>
    obtain ⟨k, O, z, hk, rfl, rfl, z0, z1, hO, hO', hB, ok, hbe, heq⟩ := hrel
    have HE := Lib.hid heq
    clear heq
    rcases Nat.lt_or_ge k l with hkl | hkl
    · obtain ⟨b1, off1, rfl, hb1, hcell1⟩ := h1.at_ (by omega)
      have hx := dig_in hbe hb1 hcell1 hkl
      have x0 := di_nonneg xs k
      have x1 := di_le h1.ok k
      have ho := hB.cell (k := k) (by omega)
      have hf := hB.frozen k
      clear hcell1
      rcases Nat.lt_or_ge k l2 with hk2 | hk2
      · obtain ⟨b2, off2, rfl, hb2, hcell2⟩ := h2.at_ (by omega)
        have hy := dig_in hbe hb2 hcell2 hk2
        have y0 := di_nonneg ys k
        have y1 := di_le h2.ok k
        clear hcell2
        go_wp2
        go_roundw
        case rel => exact ⟨k + 1, O.set k ((z + di xs k + di ys k) % 4294967296).toNat, _, by omega, by go_num, rfl, by omega, by omega, by simpa using hO, by simpa using hO', hB.setI k (by omega), okD_set ok k (by unfold B32; omega), hbe.setCell (Nat.le_refl _) _, add_step (by omega) z0 rfl HE.out⟩
        case measure => simp [intOf]; omega
      · have hy : 0 = di ys k := by rw [di_eq, dg_ge (by omega)]; rfl
        have HY := Lib.hid hy
        clear hy
        go_wp2
        go_roundw
        case rel => exact ⟨k + 1, O.set k ((z + di xs k) % 4294967296).toNat, _, by omega, by go_num, rfl, by omega, by omega, by simpa using hO, by simpa using hO', hB.setI k (by omega), okD_set ok k (by unfold B32; omega), hbe.setCell (Nat.le_refl _) _, by have := add_step (by omega) z0 HY.out HE.out; simpa using this⟩
        case measure => simp [intOf]; omega
    · obtain rfl : k = l := by omega
      have ho := hB.cell (k := k) (by omega)
      have hf := hB.frozen k
      have hB2 := hB.setI k z0
      go_wp2_with fail
      refine (trim_any _ (O.set k z.toNat) _ ?_).mono ?_
      · have := hB2.dig (okD_set ok k (by unfold B32; omega)) (c := k + 1) (by simpa using hO') (by unfold maxLen; omega)
        rwa [show (O.set k z.toNat).length = k + 1 from by simp; omega] at this
      rintro e w1 ⟨v', rfl, hv, rfl⟩
      go_wp2_with fail
      go_ret
      refine ⟨_, rfl, ?_, hbe.setCell (Nat.le_refl _) _⟩
      rwa [add_fin hkl hO hO' z0 (by omega) (by omega) HE.out] at hv

set_option maxHeartbeats 1000000 in
theorem addMag_lt (v1 v2 : Value) (xs ys : List Nat) (w : World) (h1 : DigM w v1 xs) (h2 : DigM w v2 ys) (hle : ys.length < xs.length) (hs : xs.length ≤ 549755813888) :
    Calls Tryz.prog 122 #[v2, v1] w fun e w' => ∃ v', e = .returned v' ∧ DigM w' v' (digs (val xs + val ys)) ∧ Below w.heap.size w w' := by
  obtain ⟨A, l, c, rfl⟩ := h1.shape
  obtain ⟨hl, hl', hnc, hc⟩ := h1.len
  obtain ⟨A2, l2, c2, rfl⟩ := h2.shape
  obtain ⟨kl, kl', knc, kc⟩ := h2.len
  have hle' : l2 < l := by omega
  have hmk := make_u32 (l + 1) (by omega)
  push_cast at hmk
  go_enter Tryz.func122, Tryz.ntmps122
  go_wp2
  clear hmk
  go_loopw [6, 22] (fun cy i wr => ∃ (k : Nat) (O : List Nat) (z : Int), k ≤ l ∧ i = .int .i64 k ∧ cy = .int .u64 z ∧ 0 ≤ z ∧ z ≤ 1 ∧ l + 1 ≤ O.length ∧ O.length ≤ l + 1 ∧ DigB wr w.heap.size O ∧ okD O ∧ Below w.heap.size w wr ∧
      (vt O k : Int) + z * ((B32 ^ k : Nat) : Int) = vt xs k + vt ys k) (fun _ i _ => l - (intOf i).toNat)
  case atStart => exact ⟨0, List.replicate (l + 1) 0, 0, by omega, rfl, rfl, by omega, by omega, by simp, by simp, DigB.zeros w _, okD_replicate _, (Below.refl _ _).alloc (Nat.le_refl _) _, by simp [vt_zero]⟩
  case round =>
    obtain ⟨k, O, z, hk, rfl, rfl, z0, z1, hO, hO', hB, ok, hbe, heq⟩ := hrel
    have HE := Lib.hid heq
    clear heq
    rcases Nat.lt_or_ge k l with hkl | hkl
    · obtain ⟨b1, off1, rfl, hb1, hcell1⟩ := h1.at_ (by omega)
      have hx := dig_in hbe hb1 hcell1 hkl
      have x0 := di_nonneg xs k
      have x1 := di_le h1.ok k
      have ho := hB.cell (k := k) (by omega)
      have hf := hB.frozen k
      clear hcell1
      rcases Nat.lt_or_ge k l2 with hk2 | hk2
      · obtain ⟨b2, off2, rfl, hb2, hcell2⟩ := h2.at_ (by omega)
        have hy := dig_in hbe hb2 hcell2 hk2
        have y0 := di_nonneg ys k
        have y1 := di_le h2.ok k
        clear hcell2
        go_wp2
        go_roundw
        case rel => exact ⟨k + 1, O.set k ((z + di xs k + di ys k) % 4294967296).toNat, _, by omega, by go_num, rfl, by omega, by omega, by simpa using hO, by simpa using hO', hB.setI k (by omega), okD_set ok k (by unfold B32; omega), hbe.setCell (Nat.le_refl _) _, add_step (by omega) z0 rfl HE.out⟩
        case measure => simp [intOf]; omega
      · have hy : 0 = di ys k := by rw [di_eq, dg_ge (by omega)]; rfl
        have HY := Lib.hid hy
        clear hy
        go_wp2
        go_roundw
        case rel => exact ⟨k + 1, O.set k ((z + di xs k) % 4294967296).toNat, _, by omega, by go_num, rfl, by omega, by omega, by simpa using hO, by simpa using hO', hB.setI k (by omega), okD_set ok k (by unfold B32; omega), hbe.setCell (Nat.le_refl _) _, by have := add_step (by omega) z0 HY.out HE.out; simpa using this⟩
        case measure => simp [intOf]; omega
    · obtain rfl : k = l := by omega
      have ho := hB.cell (k := k) (by omega)
      have hf := hB.frozen k
      have hB2 := hB.setI k z0
      go_wp2_with fail
      refine (trim_any _ (O.set k z.toNat) _ ?_).mono ?_
      · have := hB2.dig (okD_set ok k (by unfold B32; omega)) (c := k + 1) (by simpa using hO') (by unfold maxLen; omega)
        rwa [show (O.set k z.toNat).length = k + 1 from by simp; omega] at this
      rintro e w1 ⟨v', rfl, hv, rfl⟩
      go_wp2_with fail
      go_ret
      refine ⟨_, rfl, ?_, hbe.setCell (Nat.le_refl _) _⟩
      rwa [add_fin hkl hO hO' z0 (by omega) (by omega) HE.out] at hv

theorem addMag_any (v1 v2 : Value) (xs ys : List Nat) (w : World) (h1 : DigM w v1 xs) (h2 : DigM w v2 ys) (hx : xs.length ≤ 549755813888) (hy : ys.length ≤ 549755813888) :
    Calls Tryz.prog 122 #[v1, v2] w fun e w' => ∃ v', e = .returned v' ∧ DigM w' v' (digs (val xs + val ys)) ∧ Below w.heap.size w w' := by
  rcases Nat.lt_or_ge xs.length ys.length with h | h
  · rw [Nat.add_comm]; exact addMag_lt v2 v1 ys xs w h2 h1 h hy
  · exact addMag_ge v1 v2 xs ys w h1 h2 h hx

end Go.Proofs.YtpanffbgihhjnaaGreat

/- Walks: package integer, the magnitudes: subMag, mulMag, slices.Clone. -/
namespace Go.Proofs.YtpanffbgihhjnaaGreat
open Go.RowKit Pl

set_option maxHeartbeats 1000000 in
theorem subMag_any (v1 v2 : Value) (xs ys : List Nat) (w : World) (h1 : DigM w v1 xs) (h2 : DigM w v2 ys) (hle : val ys ≤ val xs) (hlen : ys.length ≤ xs.length) (hs : xs.length ≤ 549755813888) :
    Calls Tryz.prog 123 #[v1, v2] w fun e w' => ∃ v', e = .returned v' ∧ DigM w' v' (digs (val xs - val ys)) ∧ Below w.heap.size w w' := by
  have HL := Lib.hid hle
  clear hle
  obtain ⟨A, l, c, rfl⟩ := h1.shape
  obtain ⟨hl, hl', hnc, hc⟩ := h1.len
  obtain ⟨A2, l2, c2, rfl⟩ := h2.shape
  obtain ⟨kl, kl', knc, kc⟩ := h2.len
  have hmk := make_u32 l (by omega)
  go_enter Tryz.func123, Tryz.ntmps123
  go_wp2
  clear hmk
  go_loopw [6, 15] (fun cy i wr => ∃ (k : Nat) (O : List Nat) (z : Int), k ≤ l ∧ i = .int .i64 k ∧ cy = .int .i64 z ∧ 0 ≤ z ∧ z ≤ 1 ∧ l ≤ O.length ∧ O.length ≤ l ∧ DigB wr w.heap.size O ∧ okD O ∧ Below w.heap.size w wr ∧
      (vt O k : Int) - z * ((B32 ^ k : Nat) : Int) = vt xs k - vt ys k) (fun _ i _ => l - (intOf i).toNat)
  case atStart => exact ⟨0, List.replicate l 0, 0, by omega, rfl, rfl, by omega, by omega, by simp, by simp, DigB.zeros w _, okD_replicate _, (Below.refl _ _).alloc (Nat.le_refl _) _, by simp [vt_zero]⟩
  case round =>
    obtain ⟨k, O, z, hk, rfl, rfl, z0, z1, hO, hO', hB, ok, hbe, heq⟩ := hrel
    have HE := Lib.hid heq
    clear heq
    rcases Nat.lt_or_ge k l with hkl | hkl
    · obtain ⟨b1, off1, rfl, hb1, hcell1⟩ := h1.at_ (by omega)
      have hx := dig_in hbe hb1 hcell1 hkl
      have x0 := di_nonneg xs k
      have x1 := di_le h1.ok k
      have ho := hB.cell (k := k) (by omega)
      have hf := hB.frozen k
      clear hcell1
      rcases Nat.lt_or_ge k l2 with hk2 | hk2
      · obtain ⟨b2, off2, rfl, hb2, hcell2⟩ := h2.at_ (by omega)
        have hy := dig_in hbe hb2 hcell2 hk2
        have y0 := di_nonneg ys k
        have y1 := di_le h2.ok k
        clear hcell2
        go_wp2
        · go_roundw
          case rel => exact ⟨k + 1, O.set k ((di xs k - z - di ys k) % 4294967296).toNat, 1, by omega, by go_num, rfl, by omega, by omega, by simpa using hO, by simpa using hO', hB.setI k (by omega), okD_set ok k (by unfold B32; omega), hbe.setCell (Nat.le_refl _) _, sub_step (by omega) rfl (by omega) (by omega) HE.out⟩
          case measure => simp [intOf]; omega
        · go_roundw
          case rel => exact ⟨k + 1, O.set k (di xs k - z - di ys k).toNat, 0, by omega, by go_num, rfl, by omega, by omega, by simpa using hO, by simpa using hO', hB.setI k (by omega), okD_set ok k (by unfold B32; omega), hbe.setCell (Nat.le_refl _) _, sub_step (by omega) rfl (by omega) (by omega) HE.out⟩
          case measure => simp [intOf]; omega
      · have hy : 0 = di ys k := by rw [di_eq, dg_ge (by omega)]; rfl
        have HY := Lib.hid hy
        clear hy
        go_wp2
        · go_roundw
          case rel => exact ⟨k + 1, O.set k ((di xs k - z) % 4294967296).toNat, 1, by omega, by go_num, rfl, by omega, by omega, by simpa using hO, by simpa using hO', hB.setI k (by omega), okD_set ok k (by unfold B32; omega), hbe.setCell (Nat.le_refl _) _, sub_step (by omega) HY.out (by omega) (by omega) HE.out⟩
          case measure => simp [intOf]; omega
        · go_roundw
          case rel => exact ⟨k + 1, O.set k (di xs k - z).toNat, 0, by omega, by go_num, rfl, by omega, by omega, by simpa using hO, by simpa using hO', hB.setI k (by omega), okD_set ok k (by unfold B32; omega), hbe.setCell (Nat.le_refl _) _, sub_step (by omega) HY.out (by omega) (by omega) HE.out⟩
          case measure => simp [intOf]; omega
    · obtain rfl : k = l := by omega
      go_wp2_with fail
      refine (trim_any _ O _ ?_).mono ?_
      · have := hB.dig ok (c := k) hO' (by unfold maxLen; omega)
        rwa [show O.length = k from by omega] at this
      rintro e w1 ⟨v', rfl, hv, rfl⟩
      go_wp2_with fail
      go_ret
      refine ⟨_, rfl, ?_, hbe⟩
      rwa [sub_fin (show O.length = k by omega) ok z0 (by omega) (by omega) HL.out HE.out] at hv

end Go.Proofs.YtpanffbgihhjnaaGreat

/- Plain facts on lists of base-2^32 digits, more: multiplication. -/
namespace Go.Proofs.YtpanffbgihhjnaaGreat.Pl

theorem ring_set {V1 V2 o p b x d : Nat} (h : V1 + o * p = V2 + d * p) : x + b * V1 + o * (p * b) = x + b * V2 + d * (p * b) := by
  have h1 : b * (V1 + o * p) = b * (V2 + d * p) := by rw [h]
  rw [Nat.mul_add, Nat.mul_add] at h1
  have e1 : o * (p * b) = b * (o * p) := by rw [← Nat.mul_assoc, Nat.mul_comm]
  have e2 : d * (p * b) = b * (d * p) := by rw [← Nat.mul_assoc, Nat.mul_comm]
  omega
theorem val_set {ds : List Nat} {i : Nat} {z : Int} (h : i < ds.length) (hz : 0 ≤ z) : ((val (ds.set i z.toNat) : Nat) : Int) = val ds + (z - di ds i) * ((B32 ^ i : Nat) : Int) := by
  have e : ∀ (l : List Nat) (i d : Nat), i < l.length → val (l.set i d) + dg l i * B32 ^ i = val l + d * B32 ^ i := by
    intro l
    induction l with
    | nil => intro i d h; simp at h
    | cons x l ih =>
      intro i d h
      cases i with
      | zero => simp [val, dg]; omega
      | succ i =>
        have := ih i d (by simpa using h)
        have e1 : dg (x :: l) (i + 1) = dg l i := by simp [dg]
        rw [List.set_cons_succ, e1]
        simp only [val, Nat.pow_succ]
        generalize B32 ^ i = p at *
        generalize B32 = b at *
        generalize val (l.set i d) = V1 at *
        generalize val l = V2 at *
        generalize dg l i = o at *
        exact ring_set this
  have h1 := e ds i z.toNat h
  have h2 : ((val (ds.set i z.toNat) : Nat) : Int) + di ds i * ((B32 ^ i : Nat) : Int) = val ds + z * ((B32 ^ i : Nat) : Int) := by
    have := congrArg (fun n : Nat => (n : Int)) h1
    simp only [Int.natCast_add, Int.natCast_mul, Int.toNat_of_nonneg hz] at this
    exact this
  rw [Int.sub_mul]
  omega
theorem ring_mul (V V0 o r z q d f p pk pj yj : Int) (h : V + z * p = V0 + d * pk * yj) (e : z + (d * f + o) = r + 4294967296 * q) (hp : p = pk * pj) : V + (r - o) * p + q * (p * 4294967296) = V0 + d * pk * (yj + f * pj) := by
  subst hp; grind
theorem mul_step {O ys : List Nat} {k j : Nat} {z d r q V0 : Int} (hk : k + j < O.length) (hr : 0 ≤ r) (e : z + (d * di ys j + di O (k + j)) = r + 4294967296 * q)
    (h : (val O : Int) + z * ((B32 ^ (k + j) : Nat) : Int) = V0 + d * ((B32 ^ k : Nat) : Int) * vt ys j) :
    (val (O.set (k + j) r.toNat) : Int) + q * ((B32 ^ (k + (j + 1)) : Nat) : Int) = V0 + d * ((B32 ^ k : Nat) : Int) * vt ys (j + 1) := by
  rw [val_set hk hr, ← Nat.add_assoc, pow_cast_succ, vt_cast_succ]
  exact ring_mul _ _ _ _ _ _ _ _ _ _ _ _ h e (by rw [Nat.pow_add, Int.natCast_mul])
theorem mul_carry {O ys : List Nat} {k : Nat} {z d V0 : Int} (hk : k + ys.length < O.length) (hz : 0 ≤ z) (h0 : dg O (k + ys.length) = 0)
    (h : (val O : Int) + z * ((B32 ^ (k + ys.length) : Nat) : Int) = V0 + d * ((B32 ^ k : Nat) : Int) * vt ys ys.length) :
    (val (O.set (k + ys.length) z.toNat) : Int) = V0 + d * ((B32 ^ k : Nat) : Int) * val ys := by
  rw [val_set hk hz, di_eq, h0, ← vt_len ys, ← h]
  simp
theorem mul_outer {xs ys : List Nat} {k : Nat} {V V' : Int} (h : V = (vt xs k : Int) * val ys) (h' : V' = V + di xs k * ((B32 ^ k : Nat) : Int) * val ys) : V' = (vt xs (k + 1) : Int) * val ys := by
  rw [h', h, vt_cast_succ, Int.add_mul]

theorem val_drop (ds : List Nat) (j : Nat) : val (ds.drop j) = dg ds j + B32 * val (ds.drop (j + 1)) := by
  rcases Nat.lt_or_ge j ds.length with h | h
  · rw [List.drop_eq_getElem_cons h]
    have : ds[j] = dg ds j := by simp [dg, h]
    rw [this]; rfl
  · rw [List.drop_eq_nil_of_le h, List.drop_eq_nil_of_le (by omega), dg_ge h]; simp [val]
theorem ring_divw (x V Q r d b q m : Nat) (h : V = d * Q + r) (e : r * b + x = d * q + m) : x + b * V = d * (q + b * Q) + m := by
  subst h
  have e1 : b * (d * Q + r) = d * (b * Q) + r * b := by
    rw [Nat.mul_add, Nat.mul_left_comm, Nat.mul_comm b r]
  rw [e1, Nat.mul_add]
  omega
theorem divw_step {ds Q : List Nat} {j r d : Nat} (hj : j < Q.length) (h : val (ds.drop (j + 1)) = d * val (Q.drop (j + 1)) + r) :
    val (ds.drop j) = d * val ((Q.set j ((r * B32 + dg ds j) / d)).drop j) + (r * B32 + dg ds j) % d := by
  rw [val_drop, val_drop (Q.set j _) j, dg_set_eq hj, List.drop_set_of_lt (by omega)]
  exact ring_divw _ _ _ _ _ _ _ _ h (Nat.div_add_mod _ _).symm

end Go.Proofs.YtpanffbgihhjnaaGreat.Pl

/- Walks: package integer, the magnitudes: mulMag. -/
namespace Go.Proofs.YtpanffbgihhjnaaGreat
open Go.RowKit Pl
attribute [local go_sem ↓] Go.wp_at_zero Go.wp_at_succ

theorem below_drew {w w1 : World} (h : Below w.drew.heap.size w.drew w1) : Below w.heap.size w w1 := ((Below.refl _ w).drew).trans h

set_option maxHeartbeats 1000000 in
theorem mulMag_nil (v1 v2 : Value) (xs ys : List Nat) (w : World) (h1 : DigM w v1 xs) (h2 : DigM w v2 ys) (h0 : xs.length = 0 ∨ ys.length = 0) :
    Calls Tryz.prog 103 #[v1, v2] w fun e w' => ∃ v', e = .returned v' ∧ DigM w' v' (digs (val xs * val ys)) ∧ Below w.heap.size w w' := by
  have e0 : val xs * val ys = 0 := by
    rcases h0 with h | h
    · rw [List.length_eq_zero_iff.1 h]; simp [val]
    · rw [List.length_eq_zero_iff.1 h]; simp [val]
  rw [e0, digs_zero]
  clear e0
  obtain ⟨A, l, c, rfl⟩ := h1.shape
  obtain ⟨hl, hl', hnc, hc⟩ := h1.len
  obtain ⟨A2, l2, c2, rfl⟩ := h2.shape
  obtain ⟨kl, kl', knc, kc⟩ := h2.len
  rcases Nat.eq_zero_or_pos l with g | g
  · obtain rfl : l = 0 := g
    go_enter Tryz.func103, Tryz.ntmps103
    go_wp2
    go_ret
    exact ⟨_, rfl, DigM.nil _ _ _ (by simp), Below.refl _ _⟩
  · obtain rfl : l2 = 0 := by omega
    have hb : ((l : Int) == 0) = false := by simp; omega
    go_enter Tryz.func103, Tryz.ntmps103
    go_wp2
    go_ret
    exact ⟨_, rfl, DigM.nil _ _ _ (by simp), Below.refl _ _⟩

set_option maxHeartbeats 1000000 in
theorem mulMag_one (v1 v2 : Value) (xs ys : List Nat) (w : World) (h1 : DigM w v1 xs) (h2 : DigM w v2 ys) (g1 : xs.length = 1) (g2 : ys.length = 1) :
    Calls Tryz.prog 103 #[v1, v2] w fun e w' => ∃ v', e = .returned v' ∧ DigM w' v' (digs (val xs * val ys)) ∧ Below w.heap.size w w' := by
  obtain ⟨x, rfl⟩ := List.length_eq_one_iff.1 g1
  obtain ⟨y, rfl⟩ := List.length_eq_one_iff.1 g2
  obtain ⟨A, l, c, rfl⟩ := h1.shape
  obtain ⟨hl, hl', hnc, hc⟩ := h1.len
  obtain ⟨A2, l2, c2, rfl⟩ := h2.shape
  obtain ⟨kl, kl', knc, kc⟩ := h2.len
  obtain rfl : l = 1 := by simp at hl hl'; omega
  obtain rfl : l2 = 1 := by simp at kl kl'; omega
  obtain ⟨b1, off1, rfl, hb1, hcell1⟩ := h1.at_ (by omega)
  obtain ⟨b2, off2, rfl, hb2, hcell2⟩ := h2.at_ (by omega)
  have hx := hcell1 0 (by omega)
  have hy := hcell2 0 (by omega)
  rw [Nat.add_zero] at hx hy
  have x0 := di_nonneg [x] 0
  have x1 := di_le h1.ok 0
  have y0 := di_nonneg [y] 0
  have y1 := di_le h2.ok 0
  have hv : val [x] * val [y] = (di [x] 0 * di [y] 0).toNat := by
    have : di [x] 0 * di [y] 0 = ((x * y : Nat) : Int) := by simp [di, dg]
    rw [this, Int.toNat_natCast]; simp [val]
  rw [hv]
  clear hcell1 hcell2 hl hl' kl kl' h1 h2 hv
  generalize di [x] 0 = p at *
  generalize di [y] 0 = q at *
  have p0 : 0 ≤ p * q := Int.mul_nonneg x0 y0
  have p1 : p * q ≤ 4294967295 * 4294967295 := Int.mul_le_mul x1 y1 y0 (by omega)
  have r1 : IntKind.u64.wrap p = p := u64_in p x0 (by omega)
  have r2 : IntKind.u64.wrap q = q := u64_in q y0 (by omega)
  have r3 : IntKind.u64.wrap (p * q) = p * q := u64_in _ p0 (by omega)
  go_enter Tryz.func103, Tryz.ntmps103
  go_wp2
  go_region_held3 (fun w' => w'.cell? ⟨b1, off1, none⟩ = some (.int .u32 p) ∧ w'.cell? ⟨b2, off2, none⟩ = some (.int .u32 q)) (first | exact ⟨hx, hy⟩ | exact ⟨cell_later hbb hx, cell_later hbb hy⟩)
    (first | (go_at_call 112; refine (fromWord_any (p * q) _ p0 (by omega)).mono ?_; rintro e w1 ⟨v', rfl, hv', hbb⟩))
  go_wp2
  go_ret
  exact ⟨_, rfl, hv', below_drew hbb⟩

end Go.Proofs.YtpanffbgihhjnaaGreat

/- Walks: package integer, the magnitudes: mulMag in general. -/
namespace Go.Proofs.YtpanffbgihhjnaaGreat
open Go.RowKit Pl

theorem mul_fin {O xs ys : List Nat} {k : Nat} (hk : xs.length ≤ k) (h : (val O : Int) = (vt xs k : Int) * val ys) : val O = val xs * val ys := by
  rw [vt_ge hk, ← Int.natCast_mul] at h
  omega

theorem mul_carry' {O ys : List Nat} {k j : Nat} {z d V0 : Int} (hj : ys.length = j) (hk : k + j < O.length) (hz : 0 ≤ z) (h0 : dg O (k + j) = 0)
    (h : (val O : Int) + z * ((B32 ^ (k + j) : Nat) : Int) = V0 + d * ((B32 ^ k : Nat) : Int) * vt ys j) : (val (O.set (k + j) z.toNat) : Int) = V0 + d * ((B32 ^ k : Nat) : Int) * val ys := by
  subst hj; exact mul_carry hk hz h0 h

set_option maxHeartbeats 2000000 in
theorem mulMag_gen (v1 v2 : Value) (xs ys : List Nat) (w : World) (h1 : DigM w v1 xs) (h2 : DigM w v2 ys) (g1 : 0 < xs.length) (g2 : 0 < ys.length) (g : 2 < xs.length + ys.length) (hs : xs.length + ys.length ≤ 1099511627776) :
    Calls Tryz.prog 103 #[v1, v2] w fun e w' => ∃ v', e = .returned v' ∧ DigM w' v' (digs (val xs * val ys)) ∧ Below w.heap.size w w' := by
  obtain ⟨A, l, c, rfl⟩ := h1.shape
  obtain ⟨hl, hl', hnc, hc⟩ := h1.len
  obtain ⟨A2, l2, c2, rfl⟩ := h2.shape
  obtain ⟨kl, kl', knc, kc⟩ := h2.len
  obtain ⟨b1, off1, rfl, hb1, hcell1⟩ := h1.at_ (by omega)
  obtain ⟨b2, off2, rfl, hb2, hcell2⟩ := h2.at_ (by omega)
  have ok1 := h1.ok
  have ok2 := h2.ok
  have HC1 := Lib.hid hcell1
  have HC2 := Lib.hid hcell2
  clear hcell1 hcell2 h1 h2
  have hmk := make_u32 (l + l2) (by omega)
  push_cast at hmk
  have t1 : ((l : Int) == 0) = false := by simp; omega
  have t2 : ((l2 : Int) == 0) = false := by simp; omega
  have hone : ((l : Int) == 1) = true ∧ ((l2 : Int) == 1) = false ∨ ((l : Int) == 1) = false := by
    by_cases h : l = 1
    · left; subst h; simp; omega
    · right; simp; omega
  rcases hone with ⟨t3, t4⟩ | t3
  all_goals
    go_enter Tryz.func103, Tryz.ntmps103
    go_wp2
    clear hmk
    go_loopw [46] (fun i wr => ∃ (k : Nat) (O : List Nat), k ≤ l ∧ i = .int .i64 k ∧ l + l2 ≤ O.length ∧ O.length ≤ l + l2 ∧ DigB wr w.heap.size O ∧ okD O ∧ Below w.heap.size w wr ∧
        (val O : Int) = (vt xs k : Int) * val ys ∧ (∀ j, k + l2 ≤ j → dg O j = 0)) (fun i _ => l - (intOf i).toNat)
    case atStart => exact ⟨0, List.replicate (l + l2) 0, by omega, rfl, by simp, by simp, DigB.zeros w _, okD_replicate _, (Below.refl _ _).alloc (Nat.le_refl _) _, by simp [vt_zero, val_replicate], fun j _ => dg_replicate _ _⟩
    case round =>
      obtain ⟨k, O, hk, rfl, hO, hO', hB, ok, hbe, heq, hzz⟩ := hrel
      have HE := Lib.hid heq
      have HZ := Lib.hid hzz
      clear heq hzz
      rcases Nat.lt_or_ge k l with hkl | hkl
      · have hx := dig_in hbe hb1 HC1.out hkl
        have x0 := di_nonneg xs k
        have x1 := di_le ok1 k
        by_cases hd : dg xs k = 0
        · have t5 := di_beq_true hd
          have HD := Lib.hid hd
          clear hd
          go_wp2
          go_roundw
          case rel => exact ⟨k + 1, O, by omega, by go_num, hO, hO', hB, ok, hbe, mul_outer HE.out (by rw [di_eq, HD.out]; simp), fun j hj => HZ.out j (by omega)⟩
          case measure => simp [intOf]; omega
        · have t5 := di_beq_false hd
          clear hd
          obtain ⟨wo, hwo⟩ : ∃ wo : World, wo = wr := ⟨_, rfl⟩
          subst hwo
          go_wp2
          go_loopw [8, 68] (fun cy i wr => ∃ (j : Nat) (O' : List Nat) (z : Int), j ≤ l2 ∧ i = .int .i64 j ∧ cy = .int .u64 z ∧ 0 ≤ z ∧ z ≤ 4294967295 ∧ l + l2 ≤ O'.length ∧ O'.length ≤ l + l2 ∧ DigB wr w.heap.size O' ∧ okD O' ∧ Below w.heap.size w wr ∧
            (val O' : Int) + z * ((B32 ^ (k + j) : Nat) : Int) = (val O : Int) + di xs k * ((B32 ^ k : Nat) : Int) * vt ys j ∧ (∀ i, k + l2 ≤ i → dg O' i = 0)) (fun _ i _ => l2 - (intOf i).toNat)
          case atStart => exact ⟨0, O, 0, by omega, rfl, rfl, by omega, by omega, hO, hO', hB, ok, hbe, by simp [vt_zero], HZ.out⟩
          case round =>
            clear hx hbe hB
            obtain ⟨j, O', z, hj, rfl, rfl, z0, z1, hP, hP', hB', okP, hbe', heq', hzz'⟩ := hrel
            have HE' := Lib.hid heq'
            have HZ' := Lib.hid hzz'
            clear heq' hzz'
            rcases Nat.lt_or_ge j l2 with hjl | hjl
            · have hy := dig_in hbe' hb2 HC2.out hjl
              have y0 := di_nonneg ys j
              have y1 := di_le ok2 j
              have p0 : 0 ≤ di xs k * di ys j := Int.mul_nonneg x0 y0
              have p1 : di xs k * di ys j ≤ 4294967295 * 4294967295 := Int.mul_le_mul x1 y1 y0 (by omega)
              have ho := hB'.cell (k := k + j) (by omega)
              have hf := hB'.frozen (k + j)
              have o0 := di_nonneg O' (k + j)
              have o1 := di_le okP (k + j)
              go_wp2
              go_roundw
              case rel => exact ⟨j + 1, O'.set (k + j) ((z + (di xs k * di ys j + di O' (k + j))) % 4294967296).toNat, _, by omega, by go_num, rfl, by omega, by omega, by simpa using hP, by simpa using hP', hB'.setI _ (by omega), okD_set okP _ (by unfold B32; omega), hbe'.setCell (Nat.le_refl _) _, mul_step (by omega) (by omega) (by omega) HE'.out, fun i hi => by rw [dg_set_ne (by omega)]; exact HZ'.out i hi⟩
              case measure => simp [intOf]; omega
            · obtain rfl : j = l2 := by omega
              have ho := hB'.cell (k := k + j) (by omega)
              have hf := hB'.frozen (k + j)
              go_wp2
              go_roundw
              case rel => exact ⟨k + 1, O'.set (k + j) z.toNat, by omega, by go_num, by simpa using hP, by simpa using hP', hB'.setI _ (by omega), okD_set okP _ (by unfold B32; omega), hbe'.setCell (Nat.le_refl _) _, mul_outer HE.out (mul_carry' (by omega) (by omega) z0 (HZ'.out _ (Nat.le_refl _)) HE'.out), fun i hi => by rw [dg_set_ne (by omega)]; exact HZ'.out i (by omega)⟩
              case measure => simp [intOf]; omega
      · obtain rfl : k = l := by omega
        go_wp2_with fail
        refine (trim_any _ O _ ?_).mono ?_
        · have := hB.dig ok (c := k + l2) hO' (by unfold maxLen; omega)
          rwa [show O.length = k + l2 from by omega] at this
        rintro e w1 ⟨v', rfl, hv, rfl⟩
        go_wp2_with fail
        go_ret
        refine ⟨_, rfl, ?_, hbe⟩
        rwa [mul_fin (by omega) HE.out] at hv

theorem mulMag_any (v1 v2 : Value) (xs ys : List Nat) (w : World) (h1 : DigM w v1 xs) (h2 : DigM w v2 ys) (hs : xs.length + ys.length ≤ 1099511627776) :
    Calls Tryz.prog 103 #[v1, v2] w fun e w' => ∃ v', e = .returned v' ∧ DigM w' v' (digs (val xs * val ys)) ∧ Below w.heap.size w w' := by
  by_cases h : xs.length = 0 ∨ ys.length = 0
  · exact mulMag_nil v1 v2 xs ys w h1 h2 h
  · by_cases g : xs.length = 1 ∧ ys.length = 1
    · exact mulMag_one v1 v2 xs ys w h1 h2 g.1 g.2
    · exact mulMag_gen v1 v2 xs ys w h1 h2 (by omega) (by omega) (by omega) hs

end Go.Proofs.YtpanffbgihhjnaaGreat

/- Walks: slices.Clone at []uint32; package integer: divWordInPlace. -/
namespace Go.Proofs.YtpanffbgihhjnaaGreat
open Go.RowKit Pl

theorem own_dig {w : World} {base : Nat} {v : Value} {n : Nat} {ds : List Nat} (h : w.ownsRow base 85 1 v n (ds.map uc)) (ok : okD ds) : DigM w v ds := by
  have hl : ds.length = n := by simpa using h.1
  subst hl
  rcases h.2 with ⟨rfl, h0⟩ | ⟨g, cap, cur, rfl, hb, hg, hnc, hcm, hcs, htake⟩
  · exact ⟨none, 0, by rw [h0], by omega, by simp, ok, fun hp => by omega⟩
  · refine ⟨_, cap, rfl, hnc, hcm, ok, fun _ => ⟨g, 0, cur, (0, 0), rfl, hg, fun k d hk => ?_⟩⟩
    have h1 : (cur.toList.take (ds.length * 1))[k]? = some (uc d) := by rw [htake]; simp [hk]
    rw [List.getElem?_take] at h1
    split at h1
    · simpa using h1
    · cases h1

theorem uc_oneCell (ds : List Nat) : ∀ u ∈ ds.map uc, u.oneCell' = true := by
  intro u hu
  obtain ⟨d, _, rfl⟩ := List.mem_map.1 hu
  rfl

theorem DigM.news {w : World} {ad : Addr} {n c : Nat} {ds : List Nat} (h : DigM w (.slice (some ad) n c) ds) : ∀ j u, (ds.map uc)[j]? = some u → w.cell? (ad.add j) = some u := by
  intro j u hu
  rw [List.getElem?_map] at hu
  cases hd : ds[j]? with
  | none => rw [hd] at hu; cases hu
  | some d =>
    rw [hd] at hu
    injection hu with hu
    subst hu
    obtain ⟨A', c1, hv, h1, h2, h3, h4⟩ := h
    injection hv with e1 e2 e3
    have hj : j < ds.length := (List.getElem?_eq_some_iff.1 hd).1
    obtain ⟨b, off, cs, fz, hA, hb, hcell⟩ := h4 (by omega)
    rw [← e1] at hA
    injection hA with hA
    subst hA
    have : (⟨b, off, none⟩ : Addr).add j = ⟨b, off + j, none⟩ := by unfold Addr.add; split <;> simp_all
    rw [this, cell_of_row w b (off + j) cs _ fz hb]
    exact hcell j d hd

set_option maxHeartbeats 1000000 in
theorem clone_any (v : Value) (ds : List Nat) (w : World) (h : DigM w v ds) (hs : ds.length ≤ 1099511627776) :
    Calls Tryz.prog 113 #[v] w fun e w' => ∃ v', e = .returned v' ∧ w'.ownsRow w.heap.size 85 1 v' ds.length (ds.map uc) ∧ Below w.heap.size w w' := by
  obtain ⟨A, n, c, rfl⟩ := h.shape
  obtain ⟨hl, hl', hnc, hc⟩ := h.len
  have hn : ds.length = n := by omega
  rw [hn]
  have HN := Lib.hid hn
  clear hn
  have heql := fun (W : World) (a : Option Addr) => Go.Lib.run_eql_slice_nil (P := Tryz.prog) W 43 85 a n c 0 0 Tryz.underlying43
  obtain ⟨i0, hi, hz0, hz1, hz2⟩ := info_parts info_u32
  cases A with
  | none =>
    have hn0 : n = 0 := by
      rcases Nat.eq_zero_or_pos n with h0 | h0
      · exact h0
      · obtain ⟨b, off, hA, _⟩ := h.at_ h0; cases hA
    subst hn0
    obtain rfl : ds = [] := List.length_eq_zero_iff.1 HN.out
    have := heql w none
    clear heql
    go_enter Tryz.func113, Tryz.ntmps113
    go_wp2
    go_ret
    exact ⟨_, rfl, World.ownsRow_nil _ _ _ _, Below.refl _ _⟩
  | some ad =>
    have := heql w (some ad)
    clear heql
    go_enter Tryz.func113, Tryz.ntmps113
    go_wp2_with (at_builtin; refine wpList_append_own_at _ rfl (.tmp 5) (.tmp 6) _ rfl w.heap.size 85 i0 _ 1 4 Tryz.underlying43 hi hz0 hz1 hz2 rfl (by decide) (.slice (some ⟨w.heap.size, 0, none⟩) 0 0) 0 [] rfl ?c0 ad n c (ds.map uc) rfl ?c1 ?c2 (uc_oneCell ds) ?c3 ?c4 ?c5 ?_)
    case c0 => exact World.ownsRow_made w #[] 0 (Nat.le_refl _) (by simp) (by simp)
    case c1 => simp; omega
    case c2 => exact (h.below ((Below.refl _ _).alloc (Nat.le_refl _) _)).news
    case c3 => unfold maxLen; omega
    case c4 => omega
    case c5 => simp
    · intro v' w1 hown hgrow _ _
      go_wp2
      go_ret
      refine ⟨_, rfl, by simpa using hown, ((Below.refl _ _).alloc (Nat.le_refl _) _).grown hgrow (by simp) (fun k hk => ?_)⟩
      simp [Value.ownBlock] at hk
      omega

end Go.Proofs.YtpanffbgihhjnaaGreat

/- Walks: package integer: divWordInPlace. -/
namespace Go.Proofs.YtpanffbgihhjnaaGreat
open Go.RowKit Pl

theorem own_cell {w : World} {base g n cap : Nat} {ds : List Nat} (h : w.ownsRow base 85 1 (.slice (some ⟨g, 0, none⟩) n cap) n (ds.map uc)) {k : Nat} (hk : k < n) : w.cell? ⟨g, k, none⟩ = some (.int .u32 (di ds k)) := by
  have hl : ds.length = n := by simpa using h.1
  rw [h.cellAt k (by omega), List.getElem?_map, getElem?_dg (by omega)]
  rfl
theorem own_set {w : World} {base g n cap : Nat} {ds : List Nat} (h : w.ownsRow base 85 1 (.slice (some ⟨g, 0, none⟩) n cap) n (ds.map uc)) (k : Nat) {z : Int} (hz : 0 ≤ z) :
    (w.setCell ⟨g, k, none⟩ (.int .u32 z)).ownsRow base 85 1 (.slice (some ⟨g, 0, none⟩) n cap) n ((ds.set k z.toNat).map uc) := by
  have := (h.stored k (.int .u32 z)).1
  have e : (ds.map uc).set k (.int .u32 z) = (ds.set k z.toNat).map uc := by
    rw [List.map_set]; simp [uc, Int.toNat_of_nonneg hz]
  rwa [e] at this
theorem grown_set {w0 w : World} {g : Nat} (h : w0.grownBy w (some g)) (k : Nat) (u : Value) : w0.grownBy (w.setCell ⟨g, k, none⟩ u) (some g) :=
  ⟨h.os, h.tape, h.output, by simpa using h.size, fun i hi hne => (heap_setCell_other w ⟨g, k, none⟩ i u (fun e => hne (by simp [e]))).trans (h.block i hi hne)⟩

theorem divw_int {d r x : Int} {D R X : Nat} (hd : d = D) (hr : r = R) (hx : x = X) : (r * 4294967296 + x) / d = (((R * B32 + X) / D : Nat) : Int) ∧ (r * 4294967296 + x) % d = (((R * B32 + X) % D : Nat) : Int) := by
  subst hd hr hx
  have e : ((R : Int) * 4294967296 + X) = ((R * B32 + X : Nat) : Int) := by rw [Int.natCast_add, Int.natCast_mul]; rfl
  rw [e]
  exact ⟨by rw [Int.natCast_ediv], by rw [Int.natCast_emod]⟩
theorem divw_bound {d r x : Int} (hd : 1 ≤ d) (hr0 : 0 ≤ r) (hr : r < d) (hx0 : 0 ≤ x) (hx : x ≤ 4294967295) : 0 ≤ (r * 4294967296 + x) / d ∧ (r * 4294967296 + x) / d ≤ 4294967295 := by
  refine ⟨Int.ediv_nonneg (by omega) (by omega), ?_⟩
  have : (r * 4294967296 + x) / d < 4294967296 := by
    rw [Int.ediv_lt_iff_lt_mul (by omega)]
    have : (r + 1) * 4294967296 ≤ d * 4294967296 := Int.mul_le_mul_of_nonneg_right (by omega) (by omega)
    omega
  omega

theorem divw_fin {ds Q : List Nat} {d r : Int} (d0 : 1 ≤ d) (r0 : 0 ≤ r) (r1 : r < d) (h : val (ds.drop (-1 + 1 : Int).toNat) = d.toNat * val (Q.drop (-1 + 1 : Int).toNat) + r.toNat) :
    r = ((val ds % d.toNat : Nat) : Int) ∧ val Q = val ds / d.toNat := by
  have h' : val ds = d.toNat * val Q + r.toNat := by simpa using h
  have hlt : r.toNat < d.toNat := by omega
  rw [h']
  rw [Nat.mul_add_mod, Nat.mod_eq_of_lt hlt, Nat.mul_add_div (by omega), Nat.div_eq_of_lt hlt]
  exact ⟨by omega, by omega⟩
theorem divw_round {ds Q : List Nat} {d r : Int} {j : Nat} (d0 : 1 ≤ d) (r0 : 0 ≤ r) (hj : j < Q.length) (hs : dg Q j = dg ds j) (h : val (ds.drop ((j : Int) + 1).toNat) = d.toNat * val (Q.drop ((j : Int) + 1).toNat) + r.toNat) :
    True ∧ val (ds.drop ((j : Int) - 1 + 1).toNat) = d.toNat * val ((Q.set j ((r * 4294967296 + di Q j) / d).toNat).drop ((j : Int) - 1 + 1).toNat) + ((r * 4294967296 + di Q j) % d).toNat := by
  refine ⟨trivial, ?_⟩
  obtain ⟨e1, e2⟩ := divw_int (d := d) (r := r) (x := di Q j) (D := d.toNat) (R := r.toNat) (X := dg ds j) (by omega) (by omega) (by rw [di_eq, hs])
  rw [e1, e2, Int.toNat_natCast, Int.toNat_natCast, show ((j : Int) - 1 + 1).toNat = j from by omega]
  rw [show ((j : Int) + 1).toNat = j + 1 from by omega] at h
  exact divw_step hj h

set_option maxHeartbeats 1000000 in
theorem divWord_any (base g n cap : Nat) (ds : List Nat) (d : Int) (w : World) (h : w.ownsRow base 85 1 (.slice (some ⟨g, 0, none⟩) n cap) n (ds.map uc)) (ok : okD ds) (hn : n ≤ 1099511627776) (d0 : 1 ≤ d) (d1 : d ≤ 4294967295) :
    Calls Tryz.prog 128 #[.slice (some ⟨g, 0, none⟩) n cap, .int .u32 d] w fun e w' => ∃ Q : List Nat, e = .returned (.int .u32 ((val ds % d.toNat : Nat) : Int)) ∧ Q.length = ds.length ∧ okD Q ∧ val Q = val ds / d.toNat ∧
      w'.ownsRow base 85 1 (.slice (some ⟨g, 0, none⟩) n cap) n (Q.map uc) ∧ w.grownBy w' (some g) := by
  have hl : ds.length = n := by simpa using h.1
  have HL := Lib.hid hl
  clear hl
  go_enter Tryz.func128, Tryz.ntmps128
  go_wp2
  go_loopw [5, 6] (fun x i wr => ∃ (z r : Int) (Q : List Nat), -1 ≤ z ∧ z < n ∧ i = .int .i64 z ∧ x = .int .u64 r ∧ 0 ≤ r ∧ r < d ∧ n ≤ Q.length ∧ Q.length ≤ n ∧ okD Q ∧ wr.ownsRow base 85 1 (.slice (some ⟨g, 0, none⟩) n cap) n (Q.map uc) ∧ w.grownBy wr (some g) ∧
      (∀ i : Nat, i ≤ z → dg Q i = dg ds i) ∧ val (ds.drop (z + 1).toNat) = d.toNat * val (Q.drop (z + 1).toNat) + r.toNat) (fun _ i _ => (intOf i + 1).toNat)
  case atStart => exact ⟨(n : Int) - 1, 0, ds, by omega, by omega, rfl, rfl, by omega, by omega, by rw [HL.out]; exact Nat.le_refl _, by rw [HL.out]; exact Nat.le_refl _, ok, h, World.grownBy.refl _ _, fun _ _ => rfl, by
    rw [List.drop_eq_nil_of_le (by rw [HL.out]; omega)]; simp [val]⟩
  case round =>
    obtain ⟨z, r, Q, hz0, hz, rfl, rfl, r0, r1, hQ, hQ', okQ, hown, hgr, hsame, heq⟩ := hrel
    have HS := Lib.hid hsame
    have HE := Lib.hid heq
    clear hsame heq
    rcases Int.lt_or_le z 0 with h0 | h0
    · obtain rfl : z = -1 := by omega
      go_wp2
      go_ret
      obtain ⟨e1, e2⟩ := divw_fin d0 r0 r1 HE.out
      exact ⟨Q, ret_int e1, by rw [HL.out]; omega, okQ, e2, hown, hgr⟩
    · obtain ⟨j, rfl⟩ := Int.eq_ofNat_of_zero_le h0
      have hc := own_cell hown (k := j) (by omega)
      have hf := hown.frozenAt j
      have x0 := di_nonneg Q j
      have x1 := di_le okQ j
      have hor := or_words x0 x1 r0 (by omega)
      have hbd := divw_bound d0 r0 r1 x0 x1
      obtain ⟨hb0, hb1⟩ := hbd
      go_wp2
      go_roundw
      case rel =>
        obtain ⟨e1, e2⟩ := divw_round (Q := Q) d0 r0 (show j < Q.length by omega) (HS.out j (by omega)) HE.out
        exact ⟨(j : Int) - 1, _, Q.set j ((r * 4294967296 + di Q j) / d).toNat, by omega, by omega, rfl, rfl, Int.emod_nonneg _ (by omega), Int.emod_lt_of_pos _ (by omega), by simpa using hQ, by simpa using hQ', okD_set okQ j (by unfold B32; omega), own_set hown j hb0, grown_set hgr _ _,
          fun i hi => by rw [dg_set_ne (by omega)]; exact HS.out i (by omega), e2⟩
      case measure => simp [intOf]
end Go.Proofs.YtpanffbgihhjnaaGreat

/- Plain facts: one step of the schoolbook division (Knuth's algorithm D), on numbers and on lists of digits. -/
namespace Go.Proofs.YtpanffbgihhjnaaGreat.Pl

theorem kn_start {U V V' U' q v1 top P : Nat} (hV : V = v1 * P + V') (hU : U = top * P + U') (hU' : U' < P) (hq : q * V ≤ U) (h1 : 0 < v1) : q ≤ top / v1 := by
  rw [Nat.le_div_iff_mul_le h1]
  have a1 : q * (v1 * P) ≤ q * V := Nat.mul_le_mul_left _ (by omega)
  have a2 : q * v1 * P < (top + 1) * P := by
    rw [Nat.mul_assoc, Nat.add_mul, Nat.one_mul]; omega
  have := Nat.lt_of_mul_lt_mul_right a2
  omega
theorem kn_dec {U V V' U' q G v12 top3 P : Nat} (hV : V = v12 * P + V') (hU : U = top3 * P + U') (hU' : U' < P) (hq : q * V ≤ U) (h : top3 < G * v12) : q < G := by
  rcases Nat.lt_or_ge q G with h1 | h1
  · exact h1
  · exfalso
    have a1 : G * (v12 * P) ≤ q * V := Nat.mul_le_mul h1 (by omega)
    have a2 : (top3 + 1) * P ≤ G * v12 * P := Nat.mul_le_mul_right _ h
    rw [Nat.add_mul, Nat.one_mul] at a2
    rw [← Nat.mul_assoc] at a1
    omega
theorem kn_exit {U V V' U' G v12 top3 P b : Nat} (hV : V = v12 * P + V') (hU : U = top3 * P + U') (hV' : V' < P) (h : G * v12 ≤ top3) (hG : G ≤ b) (hb : b * P ≤ V) : G * V ≤ U + V := by
  have a1 : G * V = G * v12 * P + G * V' := by rw [hV, Nat.mul_add, Nat.mul_assoc]
  have a2 : G * v12 * P ≤ top3 * P := Nat.mul_le_mul_right _ h
  have a3 : G * V' ≤ b * P := Nat.mul_le_mul hG (by omega)
  omega

theorem ring_msub (O g f v p r q a b c bo y x : Int) (h : O - (c + bo) * p = a - g * b) (e1 : c + g * f = y + 4294967296 * v) (e2 : x - bo - y = r - 4294967296 * q) : O + r * p - (v + q) * (p * 4294967296) = a + x * p - g * (b + f * p) := by grind
theorem vt_top2 (X : List Nat) (m : Nat) : vt X (m + 3) = (dg X (m + 2) * B32 + dg X (m + 1)) * B32 ^ (m + 1) + vt X (m + 1) := by
  rw [vt_succ', vt_succ', Nat.pow_succ B32 (m + 1), Nat.add_mul]
  generalize B32 ^ (m + 1) = p
  generalize B32 = b
  have : dg X (m + 2) * (p * b) = dg X (m + 2) * b * p := by rw [Nat.mul_assoc, Nat.mul_comm p b]
  omega
theorem vt_top3 (X : List Nat) (m : Nat) : vt X (m + 3) = ((dg X (m + 2) * B32 + dg X (m + 1)) * B32 + dg X m) * B32 ^ m + vt X m := by
  rw [vt_top2, vt_succ' X m, Nat.pow_succ, Nat.add_mul _ (dg X m)]
  generalize dg X (m + 2) * B32 + dg X (m + 1) = t
  generalize B32 ^ m = p
  generalize B32 = b
  have : t * (p * b) = t * b * p := by rw [Nat.mul_assoc, Nat.mul_comm p b]
  omega
theorem vt_v1 (X : List Nat) (m : Nat) : vt X (m + 2) = dg X (m + 1) * B32 ^ (m + 1) + vt X (m + 1) := by rw [vt_succ', Nat.add_comm]
theorem vt_v2 (X : List Nat) (m : Nat) : vt X (m + 2) = (dg X (m + 1) * B32 + dg X m) * B32 ^ m + vt X m := by
  rw [vt_v1, vt_succ' X m, Nat.pow_succ, Nat.add_mul]
  generalize B32 ^ m = p
  generalize B32 = b
  have : dg X (m + 1) * (p * b) = dg X (m + 1) * b * p := by rw [Nat.mul_assoc, Nat.mul_comm p b]
  omega

section
variable {U vs : List Nat} {m q : Nat} {G R : Int}
theorem kn_init (okU : okD U) (hq : q * vt vs (m + 2) ≤ vt U (m + 3)) (h1 : 1 ≤ di vs (m + 1)) : (q : Int) ≤ (di U (m + 2) * 4294967296 + di U (m + 1)) / di vs (m + 1) := by
  have h := kn_start (vt_v1 vs m) (vt_top2 U m) (vt_lt okU _) hq (by rw [di_eq] at h1; omega)
  have e : (di U (m + 2) * 4294967296 + di U (m + 1)) / di vs (m + 1) = (((dg U (m + 2) * B32 + dg U (m + 1)) / dg vs (m + 1) : Nat) : Int) := by
    rw [Int.natCast_ediv, Int.natCast_add, Int.natCast_mul]; rfl
  rw [e]
  omega
theorem kn_down (okU : okD U) (hq : q * vt vs (m + 2) ≤ vt U (m + 3)) (hG : 0 ≤ G) (hR : 0 ≤ R) (e : G * di vs (m + 1) + R = di U (m + 2) * 4294967296 + di U (m + 1)) (t : R * 4294967296 + di U m < G * di vs m) : (q : Int) ≤ G - 1 := by
  obtain ⟨g, rfl⟩ := Int.eq_ofNat_of_zero_le hG
  obtain ⟨r, rfl⟩ := Int.eq_ofNat_of_zero_le hR
  have e' : g * dg vs (m + 1) + r = dg U (m + 2) * B32 + dg U (m + 1) := by
    rw [di_eq, di_eq, di_eq] at e
    rw [B32_eq]
    omega
  have t' : r * B32 + dg U m < g * dg vs m := by
    rw [di_eq, di_eq] at t
    rw [B32_eq]
    have : ((g * dg vs m : Nat) : Int) = (g : Int) * (dg vs m : Nat) := Int.natCast_mul _ _
    omega
  have h := kn_dec (G := g) (vt_v2 vs m) (vt_top3 U m) (vt_lt okU _) hq (by
    rw [← e', Nat.add_mul, Nat.mul_add]
    have : g * (dg vs (m + 1) * B32) = g * dg vs (m + 1) * B32 := (Nat.mul_assoc _ _ _).symm
    omega)
  omega
theorem kn_done (okV : okD vs) (hG : 0 ≤ G) (hG1 : G ≤ 4294967295) (hR : 0 ≤ R) (h1 : 1 ≤ di vs (m + 1)) (e : G * di vs (m + 1) + R = di U (m + 2) * 4294967296 + di U (m + 1)) (t : G * di vs m ≤ R * 4294967296 + di U m) :
    G.toNat * vt vs (m + 2) ≤ vt U (m + 3) + vt vs (m + 2) := by
  obtain ⟨g, rfl⟩ := Int.eq_ofNat_of_zero_le hG
  obtain ⟨r, rfl⟩ := Int.eq_ofNat_of_zero_le hR
  have e' : g * dg vs (m + 1) + r = dg U (m + 2) * B32 + dg U (m + 1) := by
    rw [di_eq, di_eq, di_eq] at e
    rw [B32_eq]
    omega
  have t' : g * dg vs m ≤ r * B32 + dg U m := by
    rw [di_eq, di_eq] at t
    rw [B32_eq]
    have : ((g * dg vs m : Nat) : Int) = (g : Int) * (dg vs m : Nat) := Int.natCast_mul _ _
    omega
  rw [Int.toNat_natCast]
  refine kn_exit (b := B32) (vt_v2 vs m) (vt_top3 U m) (vt_lt okV _) ?_ (by rw [B32_eq]; omega) ?_
  · rw [← e', Nat.add_mul, Nat.mul_add]
    have : g * (dg vs (m + 1) * B32) = g * dg vs (m + 1) * B32 := (Nat.mul_assoc _ _ _).symm
    omega
  · rw [vt_v2, Nat.mul_comm B32]
    have h2 : B32 ^ m * B32 ≤ (dg vs (m + 1) * B32 + dg vs m) * B32 ^ m := by
      rw [Nat.mul_comm]
      refine Nat.mul_le_mul_right _ ?_
      have : 1 * B32 ≤ dg vs (m + 1) * B32 := Nat.mul_le_mul_right _ (by rw [di_eq] at h1; omega)
      omega
    omega
theorem kn_top (okV : okD vs) (h : vt U (m + 3) < B32 * vt vs (m + 2)) : di U (m + 2) ≤ di vs (m + 1) := by
  rcases Nat.lt_or_ge (dg vs (m + 1)) (dg U (m + 2)) with h1 | h1
  · exfalso
    rw [vt_succ' U (m + 2), vt_v1 vs m] at h
    have a1 := vt_lt okV (m + 1)
    have a2 : (dg vs (m + 1) + 1) * B32 ^ (m + 2) ≤ dg U (m + 2) * B32 ^ (m + 2) := Nat.mul_le_mul_right _ h1
    rw [Nat.pow_succ B32 (m + 1)] at a2 h
    generalize B32 ^ (m + 1) = p at *
    generalize vt vs (m + 1) = y at *
    generalize dg vs (m + 1) = d at *
    have a3 : (d + 1) * (p * B32) = B32 * (d * p + p) := by rw [Nat.mul_comm p, ← Nat.mul_assoc, Nat.mul_comm (d + 1), Nat.mul_assoc, Nat.add_mul, Nat.one_mul]
    have a4 : B32 * (d * p + y) ≤ B32 * (d * p + p) := Nat.mul_le_mul_left _ (by omega)
    omega
  · rw [di_eq, di_eq]; omega
end

theorem msub_step {X U vs : List Nat} {k : Nat} {g c bo r q v y : Int} (hk : k < X.length) (hr : 0 ≤ r) (e1 : c + g * di vs k = y + 4294967296 * v) (e2 : di U k - bo - y = r - 4294967296 * q)
    (h : (vt X k : Int) - (c + bo) * ((B32 ^ k : Nat) : Int) = vt U k - g * vt vs k) :
    (vt (X.set k r.toNat) (k + 1) : Int) - (v + q) * ((B32 ^ (k + 1) : Nat) : Int) = vt U (k + 1) - g * vt vs (k + 1) := by
  rw [vt_cast_set hk hr, vt_cast_succ, vt_cast_succ, pow_cast_succ]
  exact ring_msub _ _ _ _ _ _ _ _ _ _ _ _ _ h e1 e2

theorem msub_end {U vs X : List Nat} {n q : Nat} {g c bo : Int} (okX : okD X) (okV : okD vs) (hV : 0 < vt vs n) (hq : q = vt U (n + 1) / vt vs n) (hg0 : (q : Int) ≤ g) (hg1 : g.toNat * vt vs n ≤ vt U (n + 1) + vt vs n)
    (h : (vt X n : Int) - (c + bo) * ((B32 ^ n : Nat) : Int) = vt U n - g * vt vs n) :
    (0 ≤ di U n - bo - c → di U n - bo - c = 0 ∧ g = q ∧ vt X n = vt U (n + 1) % vt vs n) ∧
    (di U n - bo - c < 0 → di U n - bo - c = -1 ∧ g - 1 = q ∧ vt X n + vt vs n = vt U (n + 1) % vt vs n + B32 ^ n) := by
  obtain ⟨G, rfl⟩ := Int.eq_ofNat_of_zero_le (show 0 ≤ g by omega)
  rw [Int.toNat_natCast] at hg1
  have hX := vt_lt okX n
  have hVb := vt_lt okV n
  have hU := vt_cast_succ U n
  have hdm := Nat.div_add_mod (vt U (n + 1)) (vt vs n)
  have hml := Nat.mod_lt (vt U (n + 1)) hV
  rw [← hq] at hdm
  generalize vt U (n + 1) % vt vs n = R at *
  generalize vt U (n + 1) = UU at *
  generalize vt vs n = V at *
  generalize vt X n = XX at *
  generalize B32 ^ n = P at *
  generalize vt U n = U0 at *
  have hGq : G = q ∨ G = q + 1 := by
    have : G < q + 2 := by
      have a : G * V < (q + 2) * V := by
        rw [Nat.add_mul]
        have : V * q = q * V := Nat.mul_comm _ _
        omega
      exact Nat.lt_of_mul_lt_mul_right a
    omega
  have key : (XX : Int) + (di U n - bo - c) * (P : Int) = UU - G * V := by
    have : (di U n - bo - c) * (P : Int) = di U n * (P : Int) - (c + bo) * (P : Int) := by rw [Int.sub_sub, Int.sub_mul]; rw [Int.add_comm bo c]
    omega
  generalize di U n - bo - c = t at *
  have hqV : ((q * V : Nat) : Int) = (q : Int) * V := Int.natCast_mul _ _
  have hcomm : V * q = q * V := Nat.mul_comm _ _
  rcases hGq with rfl | rfl
  · have hR : (XX : Int) + t * P = R := by omega
    refine ⟨fun h0 => ?_, fun h0 => ?_⟩
    · have ht : t = 0 := by
        rcases Int.lt_or_eq_of_le h0 with h1 | h1
        · exfalso
          have : 1 * (P : Int) ≤ t * P := Int.mul_le_mul_of_nonneg_right (by omega) (by omega)
          omega
        · exact h1.symm
      subst ht
      exact ⟨rfl, rfl, by omega⟩
    · exfalso
      have : t * (P : Int) ≤ (-1) * P := Int.mul_le_mul_of_nonneg_right (by omega) (by omega)
      omega
  · have hR : (XX : Int) + t * P = R - V := by
      have : (((q + 1 : Nat) : Int)) * V = (q : Int) * V + V := by rw [Int.natCast_add, Int.add_mul]; simp
      omega
    refine ⟨fun h0 => ?_, fun h0 => ?_⟩
    · exfalso
      have : 0 * (P : Int) ≤ t * P := Int.mul_le_mul_of_nonneg_right h0 (by omega)
      omega
    · have ht : t = -1 := by
        rcases Int.lt_or_eq_of_le (show t ≤ -1 by omega) with h1 | h1
        · exfalso
          have : t * (P : Int) ≤ (-2) * P := Int.mul_le_mul_of_nonneg_right (by omega) (by omega)
          omega
        · exact h1
      subst ht
      exact ⟨rfl, by omega, by omega⟩

end Go.Proofs.YtpanffbgihhjnaaGreat.Pl

/- Walks: package integer: divStep. -/
namespace Go.Proofs.YtpanffbgihhjnaaGreat
open Go.RowKit Pl

theorem far_cell {w wr : World} {g b : Nat} {n off : Nat} {ds : List Nat} (hg : w.grownBy wr (some g)) (hne : b ≠ g) (h : ∀ k, k < n → w.cell? ⟨b, off + k, none⟩ = some (.int .u32 (di ds k))) {k : Nat} (hk : k < n) : wr.cell? ⟨b, off + k, none⟩ = some (.int .u32 (di ds k)) :=
  hg.cell (h k hk) (by simp; exact hne)

def KnG (U vs : List Nat) (m : Nat) (w : World) (s7 : Value) (wx : World) : Prop :=
  ∃ (G : Int) (k : Nat), s7 = .int .u64 G ∧ 0 ≤ G ∧ G ≤ 4294967295 ∧ ((vt U (m + 3) / vt vs (m + 2) : Nat) : Int) ≤ G ∧ G.toNat * vt vs (m + 2) ≤ vt U (m + 3) + vt vs (m + 2) ∧ wx = w.drewN k
theorem kn_g0 {T v : Int} (hv : 2147483648 ≤ v) (hT : T ≤ v * 4294967296 + 4294967295) : T / v ≤ 4294967298 := by
  have : T / v < 4294967298 + 1 := by
    rw [Int.ediv_lt_iff_lt_mul (by omega)]
    omega
  omega

theorem and_mask {z : Int} (h0 : 0 ≤ z) (h1 : z ≤ 18446744073709551615) : bits .and .u64 z 4294967295 = z % 4294967296 := by
  obtain ⟨n, rfl⟩ := Int.eq_ofNat_of_zero_le h0
  have e := u64_and_nat n 4294967295 (by omega) (by decide)
  have e2 : n &&& 4294967295 = n % 4294967296 := Nat.and_two_pow_sub_one_eq_mod n 32
  rw [e2] at e
  rw [show ((4294967295 : Int)) = ((4294967295 : Nat) : Int) from rfl, e]
  omega
theorem drop_set_at {X : List Nat} {o k d : Nat} : (X.set (o + k) d).drop o = (X.drop o).set k d := by
  rw [List.drop_set, if_neg (by omega), Nat.add_sub_cancel_left]
theorem kn_vpos {vs : List Nat} {m : Nat} (_ok : okD vs) (h : 2147483648 ≤ di vs (m + 1)) : 0 < vt vs (m + 2) := by
  rw [vt_v1]
  have : 0 < dg vs (m + 1) * B32 ^ (m + 1) := Nat.mul_pos (by rw [di_eq] at h; omega) (Nat.pow_pos B32_pos)
  omega
theorem kn_back {Y Y0 X vs : List Nat} {n R : Nat} {z : Int} (okY : okD Y) (okV : okD vs) (hV : 0 < vt vs n) (z0 : 0 ≤ z) (z1 : z ≤ 1) (h : (vt Y n : Int) + z * ((B32 ^ n : Nat) : Int) = vt Y0 n + vt vs n) (hY : vt Y0 n = vt X n) (hX : vt X n + vt vs n = R % vt vs n + B32 ^ n) :
    z = 1 ∧ vt Y n = R % vt vs n := by
  have h1 := vt_lt okY n
  have h2 := vt_lt okV n
  have h3 := Nat.mod_lt R hV
  have hz : z = 0 ∨ z = 1 := by omega
  generalize R % vt vs n = r at *
  generalize B32 ^ n = p at *
  rcases hz with rfl | rfl
  · omega
  · exact ⟨rfl, by omega⟩
theorem kn_eq {G R v T : Int} (h : G * v + R = T) : (G - 1) * v + (R + v) = T := by rw [Int.sub_mul]; omega
theorem kn_qlt {U vs : List Nat} {m : Nat} (h : vt U (m + 3) < B32 * vt vs (m + 2)) : ((vt U (m + 3) / vt vs (m + 2) : Nat) : Int) ≤ 4294967295 := by
  have : vt U (m + 3) / vt vs (m + 2) < B32 := by
    rw [Nat.div_lt_iff_lt_mul (Nat.pos_of_ne_zero (fun e => by rw [e] at h; simp at h))]; exact h
  unfold B32 at this
  omega
theorem kn_pos {G x : Int} (h : 0 ≤ G) (hx : 0 < G * x) : 1 ≤ G := by
  rcases Int.lt_or_eq_of_le h with h1 | h1
  · omega
  · subst h1; simp at hx
theorem kn_break {U vs : List Nat} {m k : Nat} {w : World} {G R T : Int} (okV : okD vs) (hG : 1 ≤ G) (hv : 1 ≤ di vs (m + 1)) (_R0 : 0 ≤ R) (v00 : 0 ≤ di vs m) (v01 : di vs m ≤ 4294967295) (u00 : 0 ≤ di U m) (rb : 4294967296 ≤ R + di vs (m + 1))
    (T1 : T ≤ di vs (m + 1) * 4294967296 + 4294967295) (hT : di U (m + 2) * 4294967296 + di U (m + 1) = T) (hGR : G * di vs (m + 1) + R = T) (hq : ((vt U (m + 3) / vt vs (m + 2) : Nat) : Int) ≤ G - 1) : KnG U vs m w (.int .u64 (G - 1)) (w.drewN k) := by
  have e := kn_eq hGR
  have hlt : G - 1 < 4294967296 := by
    have : (G - 1) * di vs (m + 1) < 4294967296 * di vs (m + 1) := by omega
    exact Int.lt_of_mul_lt_mul_right this (by omega)
  have ht : (G - 1) * di vs m ≤ 4294967295 * 4294967295 := Int.mul_le_mul (by omega) v01 v00 (by omega)
  exact ⟨G - 1, k, rfl, by omega, by omega, hq, kn_done (R := R + di vs (m + 1)) okV (by omega) (by omega) (by omega) hv (by rw [hT]; exact e) (by omega), rfl⟩

set_option maxRecDepth 100000 in
set_option maxHeartbeats 4000000 in
theorem divStep_any (g o m cu b2 off2 cv : Nat) (O vs : List Nat) (w : World) (hO : DigB w g O) (okO : okD O) (hlen : o + m + 3 ≤ O.length) (hcu : m + 3 ≤ cu) (hcu' : cu ≤ 9223372036854775807)
    (okV : okD vs) (hne : b2 ≠ g) (hv : ∀ k, k < m + 2 → w.cell? ⟨b2, off2 + k, none⟩ = some (.int .u32 (di vs k)))
    (hm : m ≤ 1099511627776) (hnorm : 2147483648 ≤ di vs (m + 1)) (hlt : vt (O.drop o) (m + 3) < B32 * vt vs (m + 2)) :
    Calls Tryz.prog 133 #[.slice (some ⟨g, o, none⟩) (m + 3) cu, .slice (some ⟨b2, off2, none⟩) (m + 2) cv] w fun e w' => ∃ O' : List Nat,
      e = .returned (.int .u32 ((vt (O.drop o) (m + 3) / vt vs (m + 2) : Nat) : Int)) ∧ DigB w' g O' ∧ O'.length = O.length ∧ okD O' ∧ (∀ i, i < o ∨ o + m + 3 ≤ i → dg O' i = dg O i) ∧ vt (O'.drop o) (m + 3) = vt (O.drop o) (m + 3) % vt vs (m + 2) ∧ w.grownBy w' (some g) := by
  obtain ⟨U, hU⟩ : ∃ U, U = O.drop o := ⟨_, rfl⟩
  rw [← hU] at hlt
  rw [← hU]
  have HV := Lib.hid hv
  have HT := Lib.hid hlt
  clear hv hlt
  have okU : okD U := hU ▸ okD_drop okO o
  have hc2 : w.cell? ⟨g, o + (m + 2), none⟩ = some (.int .u32 (di U (m + 2))) := by rw [hO.cell (by omega), hU]; simp [di, dg_drop]
  have hc1 : w.cell? ⟨g, o + (m + 1), none⟩ = some (.int .u32 (di U (m + 1))) := by rw [hO.cell (by omega), hU]; simp [di, dg_drop]
  have hc0 : w.cell? ⟨g, o + m, none⟩ = some (.int .u32 (di U m)) := by rw [hO.cell (by omega), hU]; simp [di, dg_drop]
  have hd1 := HV.out (m + 1) (by omega)
  have hd0 := HV.out m (by omega)
  have HU := Lib.hid hU
  clear hU
  have u20 := di_nonneg U (m + 2)
  have u21 := di_le okU (m + 2)
  have u10 := di_nonneg U (m + 1)
  have u11 := di_le okU (m + 1)
  have u00 := di_nonneg U m
  have u01 := di_le okU m
  have v10 := di_nonneg vs (m + 1)
  have v11 := di_le okV (m + 1)
  have v00 := di_nonneg vs m
  have v01 := di_le okV m
  have htop := kn_top okV HT.out
  have i1 : IntKind.i64.wrap ((m : Int) + 2 - 1) = (m : Int) + 1 := by rw [IntWalk.i64_in _ (by omega)]; omega
  have i2 : ((m : Int) + 2).toNat = m + 2 := by omega
  have i3 : ((m : Int) + 1).toNat = m + 1 := by omega
  have i4 : (0 : Int) ≤ (m : Int) + 2 := by omega
  have i5 : (0 : Int) ≤ (m : Int) + 1 := by omega
  have i6 : (m : Int) + 2 < (m : Int) + 3 := by omega
  have i7 : (m : Int) + 1 < (m : Int) + 3 := by omega
  have i8 : (m : Int) + 1 < (m : Int) + 2 := by omega
  have r1 : IntKind.u64.wrap (di U (m + 2)) = di U (m + 2) := u64_in _ u20 (by omega)
  have r2 : IntKind.u64.wrap (di U (m + 1)) = di U (m + 1) := u64_in _ u10 (by omega)
  have r3 : IntKind.u64.wrap (di U (m + 2) * 4294967296) = di U (m + 2) * 4294967296 := u64_in _ (by omega) (by omega)
  have r4 := or_words u10 u11 u20 u21
  go_enter Tryz.func133, Tryz.ntmps133
  go_wp2
  go_quiet (fail)
  go_wp2
  clear r1 r2 r3 r4 hc2 hc1
  have q1 : IntKind.u64.wrap (di vs (m + 1)) = di vs (m + 1) := u64_in _ v10 (by omega)
  go_quiet (fail)
  generalize hT : di U (m + 2) * 4294967296 + di U (m + 1) = T at *
  have T0 : 0 ≤ T := by omega
  have T1 : T ≤ di vs (m + 1) * 4294967296 + 4294967295 := by omega
  have HTT := Lib.hid hT
  clear hT
  have hqU : vt U (m + 3) / vt vs (m + 2) * vt vs (m + 2) ≤ vt U (m + 3) := Nat.div_mul_le_self _ _
  have HQ := Lib.hid hqU
  clear hqU
  go_upto_block 0 with (fail)
  go_cut [7] (fun s7 wx => KnG U vs m w s7 wx)
  case first =>
    go_wp2_with fail
    go_loopw [7, 8] (fun x y wr => ∃ (G R : Int) (k : Nat), x = .int .u64 G ∧ y = .int .u64 R ∧ wr = w.drewN k ∧ 0 ≤ G ∧ G ≤ 4294967298 ∧ 0 ≤ R ∧ R ≤ 4294967295 ∧ G * di vs (m + 1) + R = T ∧ ((vt U (m + 3) / vt vs (m + 2) : Nat) : Int) ≤ G) (fun x _ _ => (intOf x).toNat)
    case atStart =>
      exact ⟨_, _, _, rfl, rfl, World.drewN_drewN _ _ _, Int.ediv_nonneg T0 (by omega), kn_g0 (by omega) T1, Int.emod_nonneg _ (by omega), by have := Int.emod_lt_of_pos T (show 0 < di vs (m + 1) by omega); omega, by rw [Int.mul_comm]; exact Int.mul_ediv_add_emod _ _, by rw [← HTT.out]; exact kn_init okU HQ.out (by omega)⟩
    case round =>
      obtain ⟨G, R, k, rfl, rfl, rfl, G0, G1, R0, R1, hGR, hqG⟩ := hrel
      have HGR := Lib.hid hGR
      have HqG := Lib.hid hqG
      clear hGR hqG
      have j1 : IntKind.i64.wrap ((m : Int) + 2 - 2) = (m : Int) := by rw [IntWalk.i64_in _ (by omega)]; omega
      have j2 : (0 : Int) ≤ (m : Int) := by omega
      have j3 : (m : Int) < (m : Int) + 2 := by omega
      have j4 : (m : Int) < (m : Int) + 3 := by omega
      rcases Int.lt_or_le (R + di vs (m + 1)) 4294967296 with rb | rb
      · rcases Int.lt_or_le G 4294967296 with gb | gb
        · have gd : decide (4294967296 ≤ G) = false := by simp; omega
          have p0 : 0 ≤ G * di vs m := Int.mul_nonneg G0 v00
          have p1 : G * di vs m ≤ 4294967295 * 4294967295 := Int.mul_le_mul (by omega) v01 v00 (by omega)
          have s1 : IntKind.u64.wrap (di vs m) = di vs m := u64_in _ v00 (by omega)
          have s2 : IntKind.u64.wrap (G * di vs m) = G * di vs m := u64_in _ p0 (by omega)
          have s3 : IntKind.u64.wrap (R * 4294967296) = R * 4294967296 := u64_in _ (by omega) (by omega)
          have s4 : IntKind.u64.wrap (di U m) = di U m := u64_in _ u00 (by omega)
          have s5 := or_words u00 u01 R0 R1
          rcases Int.lt_or_le (R * 4294967296 + di U m) (G * di vs m) with tt | tt
          · have td : decide (R * 4294967296 + di U m < G * di vs m) = true := by simpa using tt
            have g1 : 1 ≤ G := kn_pos (x := di vs m) G0 (by omega)
            go_wp2
            go_quiet (fail)
            go_wp2
            go_roundw
            case rel => exact ⟨G - 1, _, _, rfl, rfl, rfl, by omega, by omega, by omega, by omega, kn_eq HGR.out, kn_down okU HQ.out G0 R0 (by rw [HTT.out]; exact HGR.out) tt⟩
            case measure => simp [intOf]; omega
          · have td : decide (R * 4294967296 + di U m < G * di vs m) = false := by simpa using tt
            go_wp2
            go_quiet (fail)
            go_wp2
            go_meet
            exact ⟨G, _, rfl, G0, by omega, HqG.out, kn_done okV G0 (by omega) R0 (by omega) (by rw [HTT.out]; exact HGR.out) tt, World.drewN_drewN _ _ _⟩
        · have gd : decide (4294967296 ≤ G) = true := by simpa using gb
          go_wp2
          go_quiet (fail)
          go_wp2
          go_roundw
          case rel => exact ⟨G - 1, _, _, rfl, rfl, rfl, by omega, by omega, by omega, by omega, kn_eq HGR.out, by have := kn_qlt HT.out; omega⟩
          case measure => simp [intOf]; omega
      · rcases Int.lt_or_le G 4294967296 with gb | gb
        · have gd : decide (4294967296 ≤ G) = false := by simp; omega
          have p0 : 0 ≤ G * di vs m := Int.mul_nonneg G0 v00
          have p1 : G * di vs m ≤ 4294967295 * 4294967295 := Int.mul_le_mul (by omega) v01 v00 (by omega)
          have s1 : IntKind.u64.wrap (di vs m) = di vs m := u64_in _ v00 (by omega)
          have s2 : IntKind.u64.wrap (G * di vs m) = G * di vs m := u64_in _ p0 (by omega)
          have s3 : IntKind.u64.wrap (R * 4294967296) = R * 4294967296 := u64_in _ (by omega) (by omega)
          have s4 : IntKind.u64.wrap (di U m) = di U m := u64_in _ u00 (by omega)
          have s5 := or_words u00 u01 R0 R1
          rcases Int.lt_or_le (R * 4294967296 + di U m) (G * di vs m) with tt | tt
          · have td : decide (R * 4294967296 + di U m < G * di vs m) = true := by simpa using tt
            have g1 : 1 ≤ G := kn_pos (x := di vs m) G0 (by omega)
            go_wp2
            go_quiet (fail)
            go_wp2
            go_meet
            exact kn_break okV (by omega) (by omega) R0 v00 v01 u00 rb T1 HTT.out HGR.out (kn_down okU HQ.out G0 R0 (by rw [HTT.out]; exact HGR.out) tt)
          · have td : decide (R * 4294967296 + di U m < G * di vs m) = false := by simpa using tt
            go_wp2
            go_quiet (fail)
            go_wp2
            go_meet
            exact ⟨G, _, rfl, G0, by omega, HqG.out, kn_done okV G0 (by omega) R0 (by omega) (by rw [HTT.out]; exact HGR.out) tt, World.drewN_drewN _ _ _⟩
        · have gd : decide (4294967296 ≤ G) = true := by simpa using gb
          go_wp2
          go_quiet (fail)
          go_wp2
          go_meet
          exact kn_break okV (by omega) (by omega) R0 v00 v01 u00 rb T1 HTT.out HGR.out (by have := kn_qlt HT.out; omega)
  case rest =>
    obtain ⟨G, k0, rfl, G0, G1, hqG, hGU, rfl⟩ := hcut
    have HqG := Lib.hid hqG
    have HGU := Lib.hid hGU
    clear hqG hGU hc0 hd1 hd0 i1 i2 i3 i4 i5 i6 i7 i8 q1 htop
    go_wp2_with fail
    go_loopw [9, 10, 85] (fun cy bo i wr => ∃ (k : Nat) (X : List Nat) (c b : Int), k ≤ m + 2 ∧ i = .int .i64 k ∧ cy = .int .u64 c ∧ bo = .int .i64 b ∧ 0 ≤ c ∧ c ≤ 4294967295 ∧ 0 ≤ b ∧ b ≤ 1 ∧ O.length ≤ X.length ∧ X.length ≤ O.length ∧ DigB wr g X ∧ okD X ∧ w.grownBy wr (some g) ∧
        (∀ i, i < o → dg X i = dg O i) ∧ (∀ i, o + k ≤ i → dg X i = dg O i) ∧ (vt (X.drop o) k : Int) - (c + b) * ((B32 ^ k : Nat) : Int) = vt U k - G * vt vs k) (fun _ _ i _ => m + 2 - (intOf i).toNat)
    case atStart => exact ⟨0, O, 0, 0, by omega, rfl, rfl, rfl, by omega, by omega, by omega, by omega, Nat.le_refl _, Nat.le_refl _, hO, okO, ⟨rfl, rfl, rfl, Nat.le_refl _, fun _ _ _ => rfl⟩, fun _ _ => rfl, fun _ _ => rfl, by simp [vt_zero]⟩
    case round =>
      obtain ⟨k, X, c, b, hk, rfl, rfl, rfl, c0, c1, b0, b1, hX, hX', hB, okX, hgr, hlow, hhigh, heq⟩ := hrel
      have HE := Lib.hid heq
      have HLo := Lib.hid hlow
      have HHi := Lib.hid hhigh
      clear heq hlow hhigh
      rcases Nat.lt_or_ge k (m + 2) with hkl | hkl
      · have hv := far_cell hgr hne HV.out hkl
        have x0 := di_nonneg vs k
        have x1 := di_le okV k
        have p0 : 0 ≤ G * di vs k := Int.mul_nonneg G0 x0
        have p1 : G * di vs k ≤ 4294967295 * 4294967295 := Int.mul_le_mul G1 x1 x0 (by omega)
        have hu : wr.cell? ⟨g, o + k, none⟩ = some (.int .u32 (di U k)) := by rw [hB.cell (by omega), di_eq, HHi.out _ (Nat.le_refl _), HU.out, di_eq, dg_drop]
        have hf := hB.frozen (o + k)
        have y0 := di_nonneg U k
        have y1 := di_le okU k
        have hmask := and_mask (show 0 ≤ c + G * di vs k by omega) (show c + G * di vs k ≤ 18446744073709551615 by omega)
        go_wp2
        · go_roundw
          case rel => exact ⟨k + 1, X.set (o + k) ((di U k - b - (c + G * di vs k)) % 4294967296).toNat, _, 1, by omega, by go_num, rfl, rfl, by omega, by omega, by omega, by omega, by simpa using hX, by simpa using hX', hB.setI _ (by omega), okD_set okX _ (by unfold B32; omega), grown_set hgr _ _,
            fun i hi => by rw [dg_set_ne (by omega)]; exact HLo.out i hi, fun i hi => by rw [dg_set_ne (by omega)]; exact HHi.out i (by omega), by
              rw [drop_set_at]; exact msub_step (y := (c + G * di vs k) % 4294967296) (by rw [List.length_drop]; omega) (by omega) (by omega) (by omega) HE.out⟩
          case measure => simp [intOf]; omega
        · go_roundw
          case rel => exact ⟨k + 1, X.set (o + k) (di U k - b - (c + G * di vs k) % 4294967296).toNat, _, 0, by omega, by go_num, rfl, rfl, by omega, by omega, by omega, by omega, by simpa using hX, by simpa using hX', hB.setI _ (by omega), okD_set okX _ (by unfold B32; omega), grown_set hgr _ _,
            fun i hi => by rw [dg_set_ne (by omega)]; exact HLo.out i hi, fun i hi => by rw [dg_set_ne (by omega)]; exact HHi.out i (by omega), by
              rw [drop_set_at]; exact msub_step (y := (c + G * di vs k) % 4294967296) (by rw [List.length_drop]; omega) (by omega) (by omega) (by omega) HE.out⟩
          case measure => simp [intOf]; omega
      · obtain rfl : k = m + 2 := by omega
        have hu : wr.cell? ⟨g, o + (m + 2), none⟩ = some (.int .u32 (di U (m + 2))) := by rw [hB.cell (by omega), di_eq, HHi.out _ (Nat.le_refl _), HU.out, di_eq, dg_drop]
        have hf := hB.frozen (o + (m + 2))
        have y0 := di_nonneg U (m + 2)
        have y1 := di_le okU (m + 2)
        obtain ⟨hpos, hneg⟩ := msub_end (okD_drop okX o) okV (kn_vpos okV hnorm) rfl HqG.out HGU.out HE.out
        rcases Int.lt_or_le (di U (m + 2) - b - c) 0 with ht | ht
        · obtain ⟨e1, e2, e3⟩ := hneg ht
          clear hpos hneg
          have E2 := Lib.hid e2
          have E3 := Lib.hid e3
          have E1 := Lib.hid e1
          have t1 : -1 ≤ di U (m + 2) - b - c := by omega
          have g1 : 1 ≤ G := by have := Int.natCast_nonneg (vt U (m + 2 + 1) / vt vs (m + 2)); omega
          clear e1 e2 e3
          obtain ⟨Y0, hY0⟩ : ∃ Y0, Y0 = X.set (o + (m + 2)) ((di U (m + 2) - b - c) % 4294967296).toNat := ⟨_, rfl⟩
          have hBY : DigB (wr.setCell ⟨g, o + (m + 2), none⟩ (.int .u32 ((di U (m + 2) - b - c) % 4294967296))) g Y0 := by rw [hY0]; exact hB.setI _ (by omega)
          have okY : okD Y0 := by rw [hY0]; exact okD_set okX _ (by unfold B32; omega)
          have hgY : w.grownBy (wr.setCell ⟨g, o + (m + 2), none⟩ (.int .u32 ((di U (m + 2) - b - c) % 4294967296))) (some g) := grown_set hgr _ _
          have lY : Y0.length = X.length := by rw [hY0]; simp
          have lY1 : O.length ≤ Y0.length := by omega
          have lY2 : Y0.length ≤ O.length := by omega
          clear lY
          have loY : ∀ i, i < o → dg Y0 i = dg O i := fun i hi => by rw [hY0, dg_set_ne (by omega)]; exact HLo.out i hi
          have hiY : ∀ i, o + m + 3 ≤ i → dg Y0 i = dg O i := fun i hi => by rw [hY0, dg_set_ne (by omega)]; exact HHi.out i (by omega)
          have topY : di Y0 (o + (m + 2)) = 4294967295 := by rw [hY0, di_eq, dg_set_eq (by omega), E1.out]; rfl
          have vtY : vt (Y0.drop o) (m + 2) = vt (X.drop o) (m + 2) := by rw [hY0, drop_set_at, vt_set_le (Nat.le_refl _)]
          have LoY := Lib.hid loY
          have HiY := Lib.hid hiY
          have TopY := Lib.hid topY
          have VtY := Lib.hid vtY
          clear loY hiY topY vtY hY0
          go_wp2_with fail
          clear hu hf hgr hB
          go_loopw [15, 138] (fun cy i wr => ∃ (k : Nat) (Y : List Nat) (z : Int), k ≤ m + 2 ∧ i = .int .i64 k ∧ cy = .int .u64 z ∧ 0 ≤ z ∧ z ≤ 1 ∧ O.length ≤ Y.length ∧ Y.length ≤ O.length ∧ DigB wr g Y ∧ okD Y ∧ w.grownBy wr (some g) ∧
            (∀ i, i < o ∨ o + k ≤ i → dg Y i = dg Y0 i) ∧ (vt (Y.drop o) k : Int) + z * ((B32 ^ k : Nat) : Int) = vt (Y0.drop o) k + vt vs k) (fun _ i _ => m + 2 - (intOf i).toNat)
          case atStart => exact ⟨0, Y0, 0, by omega, rfl, rfl, by omega, by omega, lY1, lY2, hBY, okY, hgY, fun _ _ => rfl, by simp [vt_zero]⟩
          case round =>
            clear hBY hgY
            obtain ⟨k, Y, z, hk', rfl, rfl, z0, z1, hY, hY', hB, okY', hgr, hsame, heq⟩ := hrel
            have HE' := Lib.hid heq
            have HS := Lib.hid hsame
            clear heq hsame
            rcases Nat.lt_or_ge k (m + 2) with hkl' | hkl'
            · have hv := far_cell hgr hne HV.out hkl'
              have x0 := di_nonneg vs k
              have x1 := di_le okV k
              have hu : wr.cell? ⟨g, o + k, none⟩ = some (.int .u32 (di (Y0.drop o) k)) := by rw [hB.cell (by omega), di_eq, HS.out _ (.inr (Nat.le_refl _)), di_eq, dg_drop]
              have hf := hB.frozen (o + k)
              have w0 := di_nonneg (Y0.drop o) k
              have w1 := di_le (okD_drop okY o) k
              go_wp2
              go_roundw
              case rel => exact ⟨k + 1, Y.set (o + k) ((z + (di (Y0.drop o) k + di vs k)) % 4294967296).toNat, _, by omega, by go_num, rfl, by omega, by omega, by simpa using hY, by simpa using hY', hB.setI _ (by omega), okD_set okY' _ (by unfold B32; omega), grown_set hgr _ _,
                fun i hi => by rw [dg_set_ne (by omega)]; exact HS.out i (by omega), by
                  rw [drop_set_at, ← Int.add_assoc]; exact add_step (by rw [List.length_drop]; omega) z0 rfl HE'.out⟩
              case measure => simp [intOf]; omega
            · obtain rfl : k = m + 2 := by omega
              have hu : wr.cell? ⟨g, o + (m + 2), none⟩ = some (.int .u32 4294967295) := by rw [hB.cell (by omega), di_eq, HS.out _ (.inr (Nat.le_refl _)), ← di_eq, TopY.out]
              have hf := hB.frozen (o + (m + 2))
              obtain ⟨f1, f2⟩ := kn_back (okD_drop okY' o) (okV) (kn_vpos okV hnorm) z0 z1 HE'.out VtY.out E3.out
              subst f1
              go_wp2
              go_ret
              refine ⟨Y.set (o + (m + 2)) 0, ret_int E2.out, hB.set_ _ 0, by simp; omega, okD_set okY' _ B32_pos, fun i hi => ?_, ?_, grown_set hgr _ _⟩
              · rw [dg_set_ne (by omega), HS.out i (by omega)]
                rcases hi with hi | hi
                · exact LoY.out i hi
                · exact HiY.out i hi
              · rw [drop_set_at, vt_set_succ (by rw [List.length_drop]; omega), f2]
                simp
        · obtain ⟨e1, e2, e3⟩ := hpos ht
          clear hpos hneg
          have E2 := Lib.hid e2
          have E3 := Lib.hid e3
          have E1 := Lib.hid e1
          have t1 : di U (m + 2) - b - c ≤ 0 := by omega
          clear e1 e2 e3
          go_wp2
          go_ret
          refine ⟨X.set (o + (m + 2)) (di U (m + 2) - b - c).toNat, ret_int E2.out, hB.setI _ (by omega), by simp; omega, okD_set okX _ (by unfold B32; omega), fun i hi => ?_, ?_, grown_set hgr _ _⟩
          · rw [dg_set_ne (by omega)]
            rcases hi with hi | hi
            · exact HLo.out i hi
            · exact HHi.out i (by omega)
          · rw [drop_set_at, vt_set_succ (by rw [List.length_drop]; omega), E1.out]
            simpa using E3.out
end Go.Proofs.YtpanffbgihhjnaaGreat

/- Walks: package integer: shiftLeft, shiftRight; math/bits.LeadingZeros32. -/
namespace Go.Proofs.YtpanffbgihhjnaaGreat
open Go.RowKit Pl

theorem pow_cast (s : Nat) : ((2 : Int) ^ s) = ((2 ^ s : Nat) : Int) := by rw [Int.natCast_pow]; rfl
theorem pow_pos_1 (s : Nat) : (1 : Int) ≤ 2 ^ s := by rw [pow_cast]; have := Nat.pow_pos (n := s) (show 0 < 2 by decide); omega
theorem pow_le_31 {s : Nat} (h : s ≤ 31) : (2 : Int) ^ s ≤ 2147483648 := by
  rw [pow_cast]
  have := Nat.pow_le_pow_right (show 0 < 2 by decide) h
  omega
theorem or_shift {z x : Int} {s : Nat} (z0 : 0 ≤ z) (z1 : z < 2 ^ s) (x0 : 0 ≤ x) (q0 : 0 ≤ x * 2 ^ s) (q1 : x * 2 ^ s ≤ 18446744073709551615) (z2 : z ≤ 18446744073709551615) : bits .or .u64 z (x * 2 ^ s) = z + x * 2 ^ s := by
  obtain ⟨a, rfl⟩ := Int.eq_ofNat_of_zero_le z0
  obtain ⟨b, rfl⟩ := Int.eq_ofNat_of_zero_le x0
  rw [pow_cast] at *
  rw [← Int.natCast_mul] at *
  rw [u64_or_nat _ _ (by omega) (by omega), Nat.or_comm, ← Nat.shiftLeft_eq, ← Nat.shiftLeft_add_eq_or_of_lt (by omega), Nat.shiftLeft_eq]
  omega
theorem ring_shl (O x z p r q a P : Int) (h : O + z * p = a * P) (e : z + x * P = r + 4294967296 * q) : O + r * p + q * (p * 4294967296) = (a + x * p) * P := by grind
theorem shl_step {O xs : List Nat} {k : Nat} {z P r q : Int} (hk : k < O.length) (hr : 0 ≤ r) (e : z + di xs k * P = r + 4294967296 * q) (h : (vt O k : Int) + z * ((B32 ^ k : Nat) : Int) = vt xs k * P) :
    (vt (O.set k r.toNat) (k + 1) : Int) + q * ((B32 ^ (k + 1) : Nat) : Int) = vt xs (k + 1) * P := by
  rw [vt_cast_set hk hr, vt_cast_succ, pow_cast_succ]
  exact ring_shl _ _ _ _ _ _ _ _ h e
theorem shl_fin {O xs : List Nat} {k s : Nat} {z : Int} (hx : xs.length ≤ k) (hO : k + 1 ≤ O.length) (hO' : O.length ≤ k + 1) (hz : 0 ≤ z) (h : (vt O k : Int) + z * ((B32 ^ k : Nat) : Int) = vt xs k * 2 ^ s) : val (O.set k z.toNat) = val xs * 2 ^ s := by
  have e := vt_cast_set (ds := O) (k := k) (by omega) hz
  rw [vt_ge (by simpa using hO'), h, vt_ge hx, pow_cast, ← Int.natCast_mul] at e
  omega

set_option maxHeartbeats 1000000 in
theorem shiftLeft_any (v : Value) (ds : List Nat) (s : Nat) (w : World) (h : DigM w v ds) (hs : s ≤ 31) (hl0 : ds.length ≤ 549755813888) :
    Calls Tryz.prog 132 #[v, .int .u64 (s : Int)] w fun e w' => ∃ O : List Nat, e = .returned (.slice (some ⟨w.heap.size, 0, none⟩) (ds.length + 1) (ds.length + 1)) ∧ DigB w' w.heap.size O ∧ O.length = ds.length + 1 ∧ okD O ∧ val O = val ds * 2 ^ s ∧ Below w.heap.size w w' := by
  obtain ⟨A, l, c, rfl⟩ := h.shape
  obtain ⟨hl, hl', hnc, hc⟩ := h.len
  have hp1 := pow_le_31 hs
  have hp0 : (1 : Int) ≤ 2 ^ s := pow_pos_1 s
  have hmk := make_u32 (l + 1) (by omega)
  push_cast at hmk
  go_enter Tryz.func132, Tryz.ntmps132
  go_wp2
  clear hmk
  go_loopw [6, 15] (fun cy i wr => ∃ (k : Nat) (O : List Nat) (z : Int), k ≤ l ∧ i = .int .i64 k ∧ cy = .int .u64 z ∧ 0 ≤ z ∧ z < 2 ^ s ∧ l + 1 ≤ O.length ∧ O.length ≤ l + 1 ∧ DigB wr w.heap.size O ∧ okD O ∧ Below w.heap.size w wr ∧
      (vt O k : Int) + z * ((B32 ^ k : Nat) : Int) = vt ds k * 2 ^ s) (fun _ i _ => l - (intOf i).toNat)
  case atStart => exact ⟨0, List.replicate (l + 1) 0, 0, by omega, rfl, rfl, by omega, Int.pow_pos (by omega), by simp, by simp, DigB.zeros w _, okD_replicate _, (Below.refl _ _).alloc (Nat.le_refl _) _, by simp [vt_zero]⟩
  case round =>
    obtain ⟨k, O, z, hk, rfl, rfl, z0, z1, hO, hO', hB, ok, hbe, heq⟩ := hrel
    have HE := Lib.hid heq
    clear heq
    rcases Nat.lt_or_ge k l with hkl | hkl
    · obtain ⟨b1, off1, rfl, hb1, hcell1⟩ := h.at_ (by omega)
      have hx := dig_in hbe hb1 hcell1 hkl
      have x0 := di_nonneg ds k
      have x1 := di_le h.ok k
      have ho := hB.cell (k := k) (by omega)
      have hf := hB.frozen k
      clear hcell1
      have q0 : 0 ≤ di ds k * 2 ^ s := Int.mul_nonneg x0 (by omega)
      have q1 : di ds k * 2 ^ s ≤ 4294967295 * 2 ^ s := Int.mul_le_mul_of_nonneg_right x1 (by omega)
      have r1 : IntKind.u64.wrap (di ds k * 2 ^ s) = di ds k * 2 ^ s := u64_in _ q0 (by omega)
      have r2 : bits .or .u64 z (di ds k * 2 ^ s) = z + di ds k * 2 ^ s := or_shift z0 z1 x0 q0 (by omega) (by omega)
      go_wp2
      go_roundw
      case rel => exact ⟨k + 1, O.set k ((z + di ds k * 2 ^ s) % 4294967296).toNat, _, by omega, by go_num, rfl, by omega, by omega, by simpa using hO, by simpa using hO', hB.setI k (by omega), okD_set ok k (by unfold B32; omega), hbe.setCell (Nat.le_refl _) _, shl_step (by omega) (by omega) (by omega) HE.out⟩
      case measure => simp [intOf]; omega
    · obtain rfl : k = l := by omega
      have ho := hB.cell (k := k) (by omega)
      have hf := hB.frozen k
      have z2 : z ≤ 4294967295 := by omega
      go_wp2
      go_ret
      rw [show ds.length = k from by omega]
      exact ⟨O.set k z.toNat, rfl, hB.setI k z0, by simp; omega, okD_set ok k (by unfold B32; omega), shl_fin (by omega) (by omega) (by omega) z0 HE.out, hbe.setCell (Nat.le_refl _) _⟩
theorem mod_B0 (z : Int) : 0 ≤ z % 4294967296 := Int.emod_nonneg _ (by decide)
theorem mod_B1 (z : Int) : (z % 4294967296).toNat < B32 := by
  have := Int.emod_lt_of_pos z (show (0 : Int) < 4294967296 by decide)
  have := mod_B0 z
  unfold B32
  generalize z % 4294967296 = y at *
  omega
theorem or_words' {x y : Int} (x0 : 0 ≤ x) (x1 : x ≤ 4294967295) (y0 : 0 ≤ y) (y1 : y ≤ 4294967295) : bits .or .u64 x (y * 4294967296) = x + y * 4294967296 := by
  obtain ⟨a, rfl⟩ := Int.eq_ofNat_of_zero_le x0
  obtain ⟨b, rfl⟩ := Int.eq_ofNat_of_zero_le y0
  have e : ((b : Int) * 4294967296) = ((b * 4294967296 : Nat) : Int) := by omega
  rw [e, u64_or_nat _ _ (by omega) (by omega), Nat.or_comm]
  have h : b * 4294967296 ||| a = b * 4294967296 + a := by
    have := Nat.shiftLeft_add_eq_or_of_lt (i := 32) (b := a) (by omega) b
    rw [Nat.shiftLeft_eq, show (2 : Nat) ^ 32 = 4294967296 from rfl] at this
    omega
  rw [h]
  omega
theorem shr_nat {x y P Q : Nat} (hP : 0 < P) (hx : x < P * Q) : P * ((x + y * (P * Q)) / P % (P * Q)) = x - x % P + (y % P) * (P * Q) := by
  have hQ : 0 < Q := Nat.pos_of_ne_zero (fun e => by subst e; simp at hx)
  have e1 : (x + y * (P * Q)) / P = x / P + y * Q := by
    rw [show y * (P * Q) = P * (y * Q) from by rw [Nat.mul_left_comm], Nat.add_mul_div_left _ _ hP]
  have e2 : y * Q = (y % P) * Q + (P * Q) * (y / P) := by
    have := Nat.div_add_mod y P
    calc y * Q = (P * (y / P) + y % P) * Q := by rw [this]
      _ = _ := by rw [Nat.add_mul, Nat.add_comm, Nat.mul_right_comm]
  have h1 : x / P < Q := by rw [Nat.div_lt_iff_lt_mul hP, Nat.mul_comm]; exact hx
  have h2 : y % P < P := Nat.mod_lt _ hP
  have h3 : (y % P) * Q + Q ≤ P * Q := by
    have : (y % P + 1) * Q ≤ P * Q := Nat.mul_le_mul_right _ h2
    rwa [Nat.add_mul, Nat.one_mul] at this
  rw [e1, e2, ← Nat.add_assoc, Nat.add_mul_mod_self_left, Nat.mod_eq_of_lt (by omega), Nat.mul_add]
  have h4 := Nat.div_add_mod x P
  have h5 : P * (y % P * Q) = y % P * (P * Q) := by rw [Nat.mul_left_comm]
  omega
theorem shr_digit {s : Nat} {x y : Int} (hs : s ≤ 31) (x0 : 0 ≤ x) (x1 : x ≤ 4294967295) (y0 : 0 ≤ y) :
    2 ^ s * ((x + y * 4294967296) / 2 ^ s % 4294967296) = x - x % 2 ^ s + 4294967296 * (y % 2 ^ s) := by
  obtain ⟨a, rfl⟩ := Int.eq_ofNat_of_zero_le x0
  obtain ⟨b, rfl⟩ := Int.eq_ofNat_of_zero_le y0
  have hB : 2 ^ s * 2 ^ (32 - s) = 4294967296 := by rw [← Nat.pow_add, show s + (32 - s) = 32 from by omega]
  have h := shr_nat (x := a) (y := b) (P := 2 ^ s) (Q := 2 ^ (32 - s)) (Nat.pow_pos (by decide)) (by rw [hB]; omega)
  rw [hB] at h
  rw [pow_cast]
  generalize 2 ^ s = p at *
  have hm : a % p ≤ a := Nat.mod_le _ _
  have e1 : ((a : Int) + (b : Int) * 4294967296) / (p : Int) % 4294967296 = (((a + b * 4294967296) / p % 4294967296 : Nat) : Int) := by
    rw [Int.natCast_emod, Int.natCast_ediv, Int.natCast_add, Int.natCast_mul]; rfl
  have e2 : (a : Int) % (p : Int) = ((a % p : Nat) : Int) := by rw [Int.natCast_emod]
  have e3 : (b : Int) % (p : Int) = ((b % p : Nat) : Int) := by rw [Int.natCast_emod]
  rw [e1, e2, e3, ← Int.natCast_mul, h]
  omega
theorem ring_shr (P O x r c a p xr yr : Int) (h : P * O + c = a + xr * p) (e : P * r = x - xr + 4294967296 * yr) : P * (O + r * p) + c = a + x * p + yr * (p * 4294967296) := by grind
theorem shr_step {O xs : List Nat} {k : Nat} {P r c xr yr : Int} (hk : k < O.length) (hr : 0 ≤ r) (e : P * r = di xs k - xr + 4294967296 * yr) (h : P * (vt O k : Int) + c = (vt xs k : Int) + xr * ((B32 ^ k : Nat) : Int)) :
    P * (vt (O.set k r.toNat) (k + 1) : Int) + c = (vt xs (k + 1) : Int) + yr * ((B32 ^ (k + 1) : Nat) : Int) := by
  rw [vt_cast_set hk hr, vt_cast_succ, pow_cast_succ]
  exact ring_shr _ _ _ _ _ _ _ _ _ h e
theorem shr_fin {O xs : List Nat} {k s : Nat} (hx : xs.length ≤ k) (hO : O.length ≤ k) (h : 2 ^ s * (vt O k : Int) + di xs 0 % 2 ^ s = (vt xs k : Int) + (di xs k % 2 ^ s) * ((B32 ^ k : Nat) : Int)) : val O = val xs / 2 ^ s := by
  rw [vt_ge hx, vt_ge hO, pow_cast, di_eq xs k, dg_ge hx] at h
  have hp := Nat.pow_pos (n := s) (show 0 < 2 by decide)
  generalize 2 ^ s = p at *
  have e2 : di xs 0 % (p : Int) = ((dg xs 0 % p : Nat) : Int) := by rw [Int.natCast_emod]; rfl
  rw [e2, ← Int.natCast_mul] at h
  have hlt := Nat.mod_lt (dg xs 0) hp
  have h' : val xs = p * val O + dg xs 0 % p := by
    have : ((0 : Nat) : Int) % (p : Int) * ((B32 ^ k : Nat) : Int) = 0 := by simp
    omega
  rw [h', Nat.mul_add_div hp, Nat.div_eq_of_lt hlt]; omega

set_option maxHeartbeats 1000000 in
theorem shiftRight_any (v : Value) (ds : List Nat) (s : Nat) (w : World) (h : DigM w v ds) (hs : s ≤ 31) (hl0 : ds.length ≤ 549755813888) :
    Calls Tryz.prog 134 #[v, .int .u64 (s : Int)] w fun e w' => ∃ v', e = .returned v' ∧ DigM w' v' (digs (val ds / 2 ^ s)) ∧ Below w.heap.size w w' := by
  obtain ⟨A, l, c, rfl⟩ := h.shape
  obtain ⟨hl, hl', hnc, hc⟩ := h.len
  have hp1 := pow_le_31 hs
  have hp0 : (1 : Int) ≤ 2 ^ s := pow_pos_1 s
  have hmk := make_u32 l (by omega)
  go_enter Tryz.func134, Tryz.ntmps134
  go_wp2
  clear hmk
  go_loopw [14] (fun i wr => ∃ (k : Nat) (O : List Nat), k ≤ l ∧ i = .int .i64 k ∧ l ≤ O.length ∧ O.length ≤ l ∧ DigB wr w.heap.size O ∧ okD O ∧ Below w.heap.size w wr ∧
      2 ^ s * (vt O k : Int) + di ds 0 % 2 ^ s = (vt ds k : Int) + (di ds k % 2 ^ s) * ((B32 ^ k : Nat) : Int)) (fun i _ => l - (intOf i).toNat)
  case atStart => exact ⟨0, List.replicate l 0, by omega, rfl, by simp, by simp, DigB.zeros w _, okD_replicate _, (Below.refl _ _).alloc (Nat.le_refl _) _, by simp [vt_zero]⟩
  case round =>
    obtain ⟨k, O, hk, rfl, hO, hO', hB, ok, hbe, heq⟩ := hrel
    have HE := Lib.hid heq
    clear heq
    rcases Nat.lt_or_ge k l with hkl | hkl
    · obtain ⟨b1, off1, rfl, hb1, hcell1⟩ := h.at_ (by omega)
      have hx := dig_in hbe hb1 hcell1 hkl
      have x0 := di_nonneg ds k
      have x1 := di_le h.ok k
      have y0 := di_nonneg ds (k + 1)
      have y1 := di_le h.ok (k + 1)
      have ho := hB.cell (k := k) (by omega)
      have hf := hB.frozen k
      rcases Nat.lt_or_ge (k + 1) l with hk2 | hk2
      · have hy := dig_in hbe hb1 hcell1 hk2
        have hor := or_words' x0 x1 y0 y1
        clear hcell1
        go_wp2
        go_roundw
        case rel => exact ⟨k + 1, O.set k ((di ds k + di ds (k + 1) * 4294967296) / 2 ^ s % 4294967296).toNat, by omega, by go_num, by simpa using hO, by simpa using hO', hB.setI k (mod_B0 _), okD_set ok k (mod_B1 _), hbe.setCell (Nat.le_refl _) _, shr_step (by omega) (mod_B0 _) (shr_digit hs x0 x1 y0) HE.out⟩
        case measure => simp [intOf]; omega
      · have hy : 0 = di ds (k + 1) := by rw [di_eq, dg_ge (by omega)]; rfl
        have HY := Lib.hid hy
        clear hcell1 hy
        go_wp2
        go_roundw
        case rel => exact ⟨k + 1, O.set k (di ds k / 2 ^ s % 4294967296).toNat, by omega, by go_num, by simpa using hO, by simpa using hO', hB.setI k (mod_B0 _), okD_set ok k (mod_B1 _), hbe.setCell (Nat.le_refl _) _, shr_step (by omega) (mod_B0 _) (by have := shr_digit hs x0 x1 y0; rw [← HY.out] at this ⊢; simpa using this) HE.out⟩
        case measure => simp [intOf]; omega
    · obtain rfl : k = l := by omega
      go_wp2_with fail
      refine (trim_any _ O _ ?_).mono ?_
      · have := hB.dig ok (c := k) hO' (by unfold maxLen; omega)
        rwa [show O.length = k from by omega] at this
      rintro e w1 ⟨v', rfl, hv, rfl⟩
      go_wp2_with fail
      go_ret
      refine ⟨_, rfl, ?_, hbe⟩
      rwa [shr_fin (by omega) (by omega) HE.out] at hv
end Go.Proofs.YtpanffbgihhjnaaGreat

/- Walks: math/bits.Len32, LeadingZeros32. -/
namespace Go.Proofs.YtpanffbgihhjnaaGreat
open Go.RowKit Pl

def tabOk (T : ByteArray) : Bool := (List.range 256).all fun i => decide (i < 2 ^ (T.get! i).toNat) && decide ((T.get! i).toNat ≤ 8) && (i == 0 || decide (2 ^ (T.get! i).toNat ≤ 2 * i))
theorem tab_at {T : ByteArray} (hs : T.size = 256) (h : tabOk T = true) {i : Nat} (hi : i < T.size) (h0 : 1 ≤ i) : i < 2 ^ (T[i]'hi).toNat ∧ (T[i]'hi).toNat ≤ 8 ∧ 2 ^ (T[i]'hi).toNat ≤ 2 * i := by
  have e : T.get! i = T[i]'hi := by
    show T.data[i]! = T.data[i]
    exact getElem!_pos T.data i hi
  unfold tabOk at h
  rw [List.all_eq_true] at h
  have := h i (List.mem_range.2 (by omega))
  rw [e] at this
  simp only [Bool.and_eq_true, decide_eq_true_eq, Bool.or_eq_true, beq_iff_eq] at this
  exact ⟨this.1.1, this.1.2, by rcases this.2 with h | h <;> omega⟩

theorem len_nat {k t : Nat} {x y : Int} (hk : 0 ≤ y) (hx : y = x / 2 ^ k) (h1 : y.toNat < 2 ^ t) (h2 : 2 ^ t ≤ 2 * y.toNat) : x < 2 ^ (k + t) ∧ (2 : Int) ^ (k + t) ≤ 2 * x := by
  obtain ⟨m, rfl⟩ := Int.eq_ofNat_of_zero_le hk
  rw [Int.toNat_natCast] at h1 h2
  rw [pow_cast] at hx
  rw [pow_cast, Nat.pow_add]
  have hp := Nat.pow_pos (n := k) (show 0 < 2 by decide)
  generalize 2 ^ k = p at *
  generalize 2 ^ t = q at *
  have e : x = (p : Int) * m + x % p := by rw [hx]; exact (Int.mul_ediv_add_emod x p).symm
  have hm0 := Int.emod_nonneg x (show (p : Int) ≠ 0 by omega)
  have hm1 := Int.emod_lt_of_pos x (show (0 : Int) < p by omega)
  have a1 : p * (m + 1) ≤ p * q := Nat.mul_le_mul_left _ h1
  have a2 : p * q ≤ p * (2 * m) := Nat.mul_le_mul_left _ h2
  rw [Nat.mul_add, Nat.mul_one] at a1
  rw [Nat.mul_left_comm] at a2
  have e2 : ((p * m : Nat) : Int) = (p : Int) * m := Int.natCast_mul _ _
  omega

theorem wrap_byte (b : UInt8) : wrap64 (b.toNat : Int) = b.toNat := IntWalk.wrap64_in _ ⟨by omega, by have := b.toNat_lt; omega⟩
theorem wrap_byte' (k : Int) (b : UInt8) (h : 0 ≤ k) (h2 : k ≤ 1000) : wrap64 (k + (b.toNat : Int)) = k + b.toNat := IntWalk.wrap64_in _ ⟨by omega, by have := b.toNat_lt; omega⟩

def LenPost (x : Int) (w : World) (e : Ending) (w' : World) : Prop := ∃ n : Nat, e = .returned (.int .i64 (n : Int)) ∧ w = w' ∧ n ≤ 32 ∧ x < 2 ^ n ∧ (2 : Int) ^ n ≤ 2 * x

theorem clz_nat {x : Int} {n : Nat} (h0 : 1 ≤ x) (hn : n ≤ 32) (ha : x < 2 ^ n) (hb : (2 : Int) ^ n ≤ 2 * x) : ∃ k : Nat, (32 : Int) - n = k ∧ k ≤ 31 ∧ 2147483648 ≤ x * 2 ^ k ∧ x * 2 ^ k ≤ 4294967295 := by
  have hn0 : 1 ≤ n := by
    rcases Nat.eq_zero_or_pos n with e | e
    · subst e; simp at ha; omega
    · exact e
  refine ⟨32 - n, by omega, by omega, ?_⟩
  obtain ⟨X, rfl⟩ := Int.eq_ofNat_of_zero_le (show 0 ≤ x by omega)
  rw [pow_cast] at *
  have e : 2 ^ n * 2 ^ (32 - n) = 4294967296 := by rw [← Nat.pow_add, show n + (32 - n) = 32 from by omega]
  have hp := Nat.pow_pos (n := 32 - n) (show 0 < 2 by decide)
  generalize 2 ^ (32 - n) = q at *
  generalize 2 ^ n = p at *
  have a1 : (X + 1) * q ≤ p * q := Nat.mul_le_mul_right _ (by omega)
  have a2 : p * q ≤ (2 * X) * q := Nat.mul_le_mul_right _ (by omega)
  rw [Nat.add_mul, Nat.one_mul] at a1
  rw [Nat.mul_assoc] at a2
  rw [← Int.natCast_mul]
  omega

theorem len_fin {T : ByteArray} {w : World} (k : Nat) {x y K : Int} {hi : y.toNat < T.size} (hK : K = (k : Int)) (hk : k ≤ 24) (hy : y = x / 2 ^ k) (hy0 : 1 ≤ y) (hs : T.size = 256) (hT : tabOk T = true) :
    LenPost x w (.returned (.int .i64 (wrap64 (K + wrap64 ((T[y.toNat]'hi).toNat : Int))))) w := by
  obtain ⟨h1, h2, h3⟩ := tab_at hs hT hi (by omega)
  obtain ⟨a, b⟩ := len_nat (by omega) hy h1 h3
  rw [wrap_byte, wrap_byte' _ _ (by omega) (by omega), hK]
  exact ⟨k + (T[y.toNat]'hi).toNat, by simp, rfl, by omega, a, b⟩
theorem len_fin0 {T : ByteArray} {w : World} {x : Int} {hi : x.toNat < T.size} (hy0 : 1 ≤ x) (hs : T.size = 256) (hT : tabOk T = true) :
    LenPost x w (.returned (.int .i64 (wrap64 (wrap64 ((T[x.toNat]'hi).toNat : Int))))) w := by
  obtain ⟨h1, h2, h3⟩ := tab_at hs hT hi (by omega)
  obtain ⟨a, b⟩ := len_nat (k := 0) (x := x) (y := x) (by omega) (by simp) h1 h3
  rw [Nat.zero_add] at a b
  rw [wrap_byte, wrap_byte]
  exact ⟨(T[x.toNat]'hi).toNat, rfl, rfl, by omega, a, b⟩

set_option maxRecDepth 100000 in
set_option maxHeartbeats 1000000 in
theorem len32_any (x : Int) (w : World) (h0 : 1 ≤ x) (h1 : x ≤ 4294967295) :
    Calls Tryz.prog 135 #[.int .u32 x] w (LenPost x w) := by
  rcases Int.lt_or_le x 256 with a | a
  · go_enter Tryz.func135, Tryz.ntmps135
    go_wp2_with fail
    go_ret
    refine len_fin0 h0 ?_ ?_
    · kernel_rfl
    · decide +kernel
  · rcases Int.lt_or_le x 65536 with b | b
    · go_enter Tryz.func135, Tryz.ntmps135
      go_wp2_with fail
      go_ret
      refine len_fin 8 (y := x / 256) rfl (by omega) rfl (by omega) ?_ ?_
      · kernel_rfl
      · decide +kernel
    · rcases Int.lt_or_le x 16777216 with c | c
      · go_enter Tryz.func135, Tryz.ntmps135
        go_wp2_with fail
        go_ret
        refine len_fin 16 (y := x / 65536) rfl (by omega) rfl (by omega) ?_ ?_
        · kernel_rfl
        · decide +kernel
      · go_enter Tryz.func135, Tryz.ntmps135
        go_wp2_with fail
        go_ret
        refine len_fin 24 (y := x / 65536 / 256) rfl (by omega) (by omega) (by omega) ?_ ?_
        · kernel_rfl
        · decide +kernel

theorem clz32_any (x : Int) (w : World) (h0 : 1 ≤ x) (h1 : x ≤ 4294967295) :
    Calls Tryz.prog 130 #[.int .u32 x] w fun e w' => ∃ s : Nat, e = .returned (.int .i64 (s : Int)) ∧ w = w' ∧ s ≤ 31 ∧ 2147483648 ≤ x * 2 ^ s ∧ x * 2 ^ s ≤ 4294967295 := by
  go_enter Tryz.func130, Tryz.ntmps130
  go_wp2_with fail
  refine (len32_any x _ h0 h1).mono ?_
  rintro e w1 ⟨n, rfl, rfl, hn, ha, hb⟩
  have HA := Lib.hid ha
  have HB := Lib.hid hb
  clear ha hb
  go_wp2_with fail
  go_ret
  obtain ⟨k, hk, hk31, h2, h3⟩ := clz_nat h0 hn HA.out HB.out
  exact ⟨k, ret_int hk, rfl, by omega, h2, h3⟩
end Go.Proofs.YtpanffbgihhjnaaGreat

/- Plain facts: the schoolbook division as a whole. -/
namespace Go.Proofs.YtpanffbgihhjnaaGreat.Pl

theorem dg_zero_of_lt {X : List Nat} {n : Nat} (h : val X < B32 ^ n) {i : Nat} (hi : n ≤ i) : dg X i = 0 := by
  rcases Nat.eq_zero_or_pos (dg X i) with h0 | h0
  · exact h0
  · exfalso
    have h1 := val_split X i
    have h2 : B32 ^ i * 1 ≤ B32 ^ i * (dg X i + B32 * val (X.drop (i + 1))) := Nat.mul_le_mul_left _ (by omega)
    have h3 : B32 ^ n ≤ B32 ^ i := Nat.pow_le_pow_right B32_pos hi
    omega
theorem vt_of_zero {X : List Nat} {n : Nat} (h : ∀ i, n ≤ i → dg X i = 0) : vt X n = val X := by
  have : ∀ k, vt X (n + k) = vt X n := by
    intro k
    induction k with
    | zero => rfl
    | succ k ih => rw [← Nat.add_assoc, vt_succ', h (n + k) (by omega), ih]; simp
  have h2 := this X.length
  rw [vt_ge (by omega)] at h2
  exact h2.symm
theorem val_cut {X : List Nat} {j n : Nat} (h : ∀ i, j + n ≤ i → dg X i = 0) : val X = vt X j + B32 ^ j * vt (X.drop j) n := by
  have e : vt (X.drop j) n = val (X.drop j) := vt_of_zero (fun i hi => by rw [dg_drop]; exact h _ (by omega))
  rw [e]
  rcases Nat.lt_or_ge j X.length with hj | hj
  · have hl : (X.take j).length = j := by rw [List.length_take]; omega
    have := val_append (X.take j) (X.drop j)
    rw [List.take_append_drop, hl] at this
    exact this
  · rw [List.drop_eq_nil_of_le hj, vt_ge hj]; simp [val]
theorem vt_low (ds : List Nat) (n : Nat) : vt ds (n + 1) = dg ds 0 + B32 * vt (ds.drop 1) n := by
  cases ds with
  | nil => simp [vt, val, dg]
  | cons d ds =>
    simp [vt, val, dg]

theorem norm_top {Y : Nat} {ys OV : List Nat} {m s : Nat} (hy : ys = digs Y) (hl : ys.length = m + 2) (hs : s ≤ 31) (h0 : 2147483648 ≤ dg ys (m + 1) * 2 ^ s) (h1 : dg ys (m + 1) * 2 ^ s ≤ 4294967295) (okV : okD OV) (hV : val OV = Y * 2 ^ s) :
    vt OV (m + 2) = Y * 2 ^ s ∧ 2147483648 ≤ dg OV (m + 1) := by
  have okY : okD ys := hy ▸ okD_digs Y
  have hY : Y = vt ys (m + 2) := by rw [vt_ge (by omega), hy, val_digs]
  rw [vt_v1] at hY
  have hlow := vt_lt okY (m + 1)
  have hB : 2 ^ s * 2 ^ (32 - s) = B32 := by rw [← Nat.pow_add, show s + (32 - s) = 32 from by omega]; rfl
  generalize ht : dg ys (m + 1) = t at *
  generalize hP : B32 ^ (m + 1) = P at *
  -- (t + 1) 2^s ≤ B
  have hts : (t + 1) * 2 ^ s ≤ B32 := by
    have a : t * 2 ^ s < 2 ^ (32 - s) * 2 ^ s := by rw [Nat.mul_comm (2 ^ (32 - s)), hB]; unfold B32; omega
    have b := Nat.lt_of_mul_lt_mul_right a
    have c : (t + 1) * 2 ^ s ≤ 2 ^ (32 - s) * 2 ^ s := Nat.mul_le_mul_right _ b
    rwa [Nat.mul_comm (2 ^ (32 - s)), hB] at c
  have hlt : val OV < B32 ^ (m + 2) := by
    rw [hV, Nat.pow_succ, hP]
    have a : (Y + 1) * 2 ^ s ≤ ((t + 1) * P) * 2 ^ s := Nat.mul_le_mul_right _ (by rw [Nat.add_mul, Nat.one_mul]; omega)
    have b : ((t + 1) * 2 ^ s) * P ≤ B32 * P := Nat.mul_le_mul_right _ hts
    rw [Nat.add_mul, Nat.one_mul] at a
    have c : (t + 1) * P * 2 ^ s = (t + 1) * 2 ^ s * P := Nat.mul_right_comm _ _ _
    have d := Nat.pow_pos (n := s) (show 0 < 2 by decide)
    rw [Nat.mul_comm P]
    omega
  have hz : ∀ i, m + 2 ≤ i → dg OV i = 0 := fun i hi => dg_zero_of_lt hlt hi
  have e := vt_of_zero hz
  refine ⟨by rw [e, hV], ?_⟩
  rcases Nat.lt_or_ge (dg OV (m + 1)) 2147483648 with h | h
  · exfalso
    have a := vt_v1 OV m
    rw [e, hV, hP] at a
    have b := vt_lt okV (m + 1)
    rw [hP] at b
    have c : (dg OV (m + 1) + 1) * P ≤ 2147483648 * P := Nat.mul_le_mul_right _ h
    rw [Nat.add_mul, Nat.one_mul] at c
    have d : 2147483648 * P ≤ (t * 2 ^ s) * P := Nat.mul_le_mul_right _ h0
    have f : (t * P) * 2 ^ s ≤ Y * 2 ^ s := Nat.mul_le_mul_right _ (by omega)
    have g : t * 2 ^ s * P = t * P * 2 ^ s := Nat.mul_right_comm _ _ _
    omega
  · exact h

theorem long_start {X s l m : Nat} {OU OV : List Nat} (hX : X < B32 ^ l) (hs : s ≤ 31) (hm : m + 2 ≤ l) (hU : val OU = X * 2 ^ s) (hlen : OU.length ≤ l + 1) (ht : 2147483648 ≤ dg OV (m + 1)) :
    vt (OU.drop (l - (m + 2) + 1)) (m + 2) < vt OV (m + 2) := by
  have hz : ∀ i, l - (m + 2) + 1 + (m + 2) ≤ i → dg OU i = 0 := fun i hi => dg_ge (by omega)
  have hc := val_cut hz
  have h2s : 2 ^ s ≤ 2147483648 := Nat.pow_le_pow_right (show 0 < 2 by decide) hs
  rcases Nat.lt_or_ge (vt (OU.drop (l - (m + 2) + 1)) (m + 2)) (vt OV (m + 2)) with h | h
  · exact h
  · exfalso
    have a : 2147483648 * B32 ^ (m + 1) ≤ vt OV (m + 2) := by
      rw [vt_v1]
      have := Nat.mul_le_mul_right (B32 ^ (m + 1)) ht
      omega
    have b : B32 ^ (l - (m + 2) + 1) * (2147483648 * B32 ^ (m + 1)) ≤ B32 ^ (l - (m + 2) + 1) * vt (OU.drop (l - (m + 2) + 1)) (m + 2) := Nat.mul_le_mul_left _ (Nat.le_trans a h)
    have c : B32 ^ (l - (m + 2) + 1) * (2147483648 * B32 ^ (m + 1)) = 2147483648 * B32 ^ l := by
      rw [Nat.mul_left_comm, ← Nat.pow_add, show l - (m + 2) + 1 + (m + 1) = l from by omega]
    have d : (X + 1) * 2 ^ s ≤ B32 ^ l * 2147483648 := Nat.mul_le_mul hX h2s
    rw [Nat.add_mul, Nat.one_mul] at d
    have e := Nat.pow_pos (n := s) (show 0 < 2 by decide)
    rw [Nat.mul_comm (B32 ^ l)] at d
    omega

theorem long_step {U V j m : Nat} {O O' Q : List Nat} (hj : j < Q.length) (hVpos : 0 < V) (hVlt : V ≤ B32 ^ (m + 2)) (hz : ∀ i, j + 1 + (m + 2) ≤ i → dg O i = 0)
    (hsame : ∀ i, i < j ∨ j + m + 3 ≤ i → dg O' i = dg O i) (hrem : vt (O'.drop j) (m + 3) = vt (O.drop j) (m + 3) % V) (hU : U = V * val (Q.drop (j + 1)) * B32 ^ (j + 1) + val O) :
    (∀ i, j + (m + 2) ≤ i → dg O' i = 0) ∧ vt (O'.drop j) (m + 2) < V ∧ U = V * val ((Q.set j (vt (O.drop j) (m + 3) / V)).drop j) * B32 ^ j + val O' := by
  have hlt := Nat.mod_lt (vt (O.drop j) (m + 3)) hVpos
  have hz' : ∀ i, j + (m + 3) ≤ i → dg O' i = 0 := fun i hi => by rw [hsame i (.inr (by omega))]; exact hz i (by omega)
  have htop : dg O' (j + (m + 2)) = 0 := by
    have a := vt_succ' (O'.drop j) (m + 2)
    rw [hrem] at a
    rcases Nat.eq_zero_or_pos (dg (O'.drop j) (m + 2)) with h | h
    · rwa [dg_drop] at h
    · exfalso
      have : 1 * B32 ^ (m + 2) ≤ dg (O'.drop j) (m + 2) * B32 ^ (m + 2) := Nat.mul_le_mul_right _ h
      omega
  have hz2 : ∀ i, j + (m + 2) ≤ i → dg O' i = 0 := fun i hi => by
    rcases Nat.eq_or_lt_of_le hi with e | e
    · rw [← e]; exact htop
    · exact hz' i (by omega)
  have hv : vt (O'.drop j) (m + 3) = vt (O'.drop j) (m + 2) := by rw [vt_succ', dg_drop, htop]; simp
  refine ⟨hz2, by rw [← hv, hrem]; exact hlt, ?_⟩
  have e1 := val_cut (X := O) (j := j) (n := m + 3) (fun i hi => hz i (by omega))
  have e2 := val_cut (X := O') (j := j) (n := m + 3) hz'
  have e3 : vt O' j = vt O j := vt_congr (fun i hi => hsame i (.inl hi))
  rw [hrem, e3] at e2
  rw [hU, e1, e2, val_drop (Q.set j _) j, dg_set_eq hj, List.drop_set_of_lt (by omega), Nat.pow_succ]
  have e4 := Nat.div_add_mod (vt (O.drop j) (m + 3)) V
  generalize vt (O.drop j) (m + 3) / V = q at *
  generalize vt (O.drop j) (m + 3) % V = R at *
  generalize vt (O.drop j) (m + 3) = W at *
  generalize val (Q.drop (j + 1)) = A at *
  generalize B32 ^ j = P at *
  generalize B32 = b at *
  rw [← e4]
  have f1 : V * (q + b * A) * P = V * q * P + V * A * (P * b) := by
    rw [Nat.mul_add, Nat.add_mul]
    congr 1
    rw [Nat.mul_left_comm, Nat.mul_comm P b, Nat.mul_comm b, Nat.mul_assoc, Nat.mul_assoc]
  rw [f1, Nat.mul_add, Nat.mul_comm P (V * q)]
  omega

theorem long_end {X Y s m : Nat} {O Q OV : List Nat} (hU : X * 2 ^ s = vt OV (m + 2) * val Q + val O) (hV : vt OV (m + 2) = Y * 2 ^ s) (hz : ∀ i, m + 2 ≤ i → dg O i = 0) (hr : vt O (m + 2) < vt OV (m + 2)) : val Q = X / Y ∧ vt O (m + 2) / 2 ^ s = X % Y := by
  rw [vt_of_zero hz] at hr ⊢
  rw [hV] at hU hr
  have hp := Nat.pow_pos (n := s) (show 0 < 2 by decide)
  generalize 2 ^ s = p at *
  have hY : 0 < Y := Nat.pos_of_ne_zero (fun e => by subst e; simp at hr)
  -- val O is a multiple of p
  have e1 : Y * p * val Q = p * (Y * val Q) := by rw [Nat.mul_comm Y p, Nat.mul_assoc]
  have e2 : val O = p * (X - Y * val Q) := by rw [Nat.mul_sub, ← e1, Nat.mul_comm p X]; omega
  have e3 : Y * val Q ≤ X := by
    have : p * (Y * val Q) ≤ p * X := by rw [← e1, Nat.mul_comm p X]; omega
    exact Nat.le_of_mul_le_mul_left this hp
  have e4 : X - Y * val Q < Y := by
    rw [e2, Nat.mul_comm Y p] at hr
    exact Nat.lt_of_mul_lt_mul_left hr
  rw [e2, Nat.mul_div_cancel_left _ hp]
  have e5 : X = Y * val Q + (X - Y * val Q) := by omega
  generalize X - Y * val Q = r at *
  subst e5
  rw [Nat.mul_add_div hY, Nat.div_eq_of_lt e4, Nat.mul_add_mod, Nat.mod_eq_of_lt e4]
  exact ⟨by omega, rfl⟩

end Go.Proofs.YtpanffbgihhjnaaGreat.Pl

/- Walks: package integer: divLong. -/
namespace Go.Proofs.YtpanffbgihhjnaaGreat
open Go.RowKit Pl
attribute [local go_sem ↓] Go.wp_at_zero Go.wp_at_succ

theorem DigB.grown {w w' : World} {g g' : Nat} {ds : List Nat} (h : DigB w g' ds) (hg : w.grownBy w' (some g)) (hne : g' ≠ g) : DigB w' g' ds :=
  (hg.block g' h.lt (by simp; exact hne)).trans h
theorem DigB.far {w : World} {g g' : Nat} {ds : List Nat} (h : DigB w g' ds) (hne : g' ≠ g) (k : Nat) (u : Value) : DigB (w.setCell ⟨g, k, none⟩ u) g' ds :=
  (heap_setCell_other w ⟨g, k, none⟩ g' u hne).trans h
theorem DigB.alloc {w : World} {g : Nat} {ds : List Nat} (h : DigB w g ds) (o : Obj) : DigB (w.alloc o) g ds := (Below.heap_alloc w o g h.lt).trans h
theorem below_grown {B : Nat} {w0 w w' : World} {g : Nat} (h : Below B w0 w) (hg : w.grownBy w' (some g)) (hB : B ≤ g) (hs : B ≤ w.heap.size) : Below B w0 w' :=
  h.grown hg hs (fun k hk => by simp at hk; omega)

theorem top_nat {ds : List Nat} {i s : Nat} (h : 2147483648 ≤ di ds i * 2 ^ s) : 2147483648 ≤ dg ds i * 2 ^ s := by
  rw [di_eq, pow_cast, ← Int.natCast_mul] at h; omega
theorem top_nat' {ds : List Nat} {i s : Nat} (h : di ds i * 2 ^ s ≤ 4294967295) : dg ds i * 2 ^ s ≤ 4294967295 := by
  rw [di_eq, pow_cast, ← Int.natCast_mul] at h; omega

theorem long_lt {O OV : List Nat} {j m : Nat} (okO : okD O) (h : vt (O.drop ((j : Int) + 1).toNat) (m + 2) < vt OV (m + 2)) : vt (O.drop j) (m + 3) < B32 * vt OV (m + 2) := by
  rw [show ((j : Int) + 1).toNat = j + 1 from by omega] at h
  rw [vt_low, List.drop_drop, dg_drop]
  have h1 := dg_lt okO (j + 0)
  have h2 : B32 * (vt (O.drop (j + 1)) (m + 2) + 1) ≤ B32 * vt OV (m + 2) := Nat.mul_le_mul_left _ h
  rw [Nat.mul_add, Nat.mul_one] at h2
  omega

set_option maxRecDepth 100000 in
set_option maxHeartbeats 4000000 in
theorem divLong_any (v1 v2 : Value) (X Y l m : Nat) (w : World) (h1 : DigM w v1 (digs X)) (h2 : DigM w v2 (digs Y)) (hl1 : (digs X).length = l) (hl2 : (digs Y).length = m + 2) (hlm : m + 2 ≤ l) (hs : l ≤ 549755813888) :
    Calls Tryz.prog 129 #[v1, v2] w fun e w' => ∃ q r, e = .returned (.tuple #[q, r]) ∧ DigM w' q (digs (X / Y)) ∧ DigM w' r (digs (X % Y)) ∧ Below w.heap.size w w' := by
  obtain ⟨A, n1, c, rfl⟩ := h1.shape
  obtain ⟨kl, kl', knc, kc⟩ := h1.len
  obtain ⟨A2, n2, c2, rfl⟩ := h2.shape
  obtain ⟨jl, jl', jnc, jc⟩ := h2.len
  obtain rfl : n1 = l := by omega
  obtain rfl : n2 = m + 2 := by omega
  obtain ⟨b2, off2, rfl, hb2, hcell2⟩ := h2.at_ (by omega)
  have hy := hcell2 (m + 1) (by omega)
  clear hcell2
  have y1 := di_le (okD_digs Y) (m + 1)
  have hYpos : 0 < Y := by
    rcases Nat.eq_zero_or_pos Y with e | e
    · subst e; rw [digs_zero] at hl2; simp at hl2
    · exact e
  have y0 : 1 ≤ di (digs Y) (m + 1) := by
    have := dg_digs_last hYpos
    rw [hl2] at this
    rw [di_eq]
    simp at this
    omega
  have HL1 := Lib.hid hl1
  have HL2 := Lib.hid hl2
  clear hl1 hl2 kl kl' jl jl'
  go_enter Tryz.func129, Tryz.ntmps129
  go_wp2_with fail
  refine (clz32_any _ _ y0 y1).mono ?_
  rintro e w1 ⟨s, rfl, rfl, hs31, ht0, ht1⟩
  have HT0 := Lib.hid ht0
  have HT1 := Lib.hid ht1
  clear ht0 ht1
  go_wp2_with fail
  refine (shiftLeft_any _ (digs Y) s _ h2 hs31 (by rw [HL2.out]; omega)).mono ?_
  rw [HL2.out]
  rintro e w1 ⟨OV, rfl, hBV, lV, okV, hV, hbe1⟩
  have LV := Lib.hid lV
  have HV := Lib.hid hV
  clear lV hV
  go_wp2_with fail
  refine (shiftLeft_any _ (digs X) s _ (h1.below hbe1) hs31 (by rw [HL1.out]; omega)).mono ?_
  rw [HL1.out]
  rintro e w2 ⟨OU, rfl, hBU, lU, okU, hU, hbe2⟩
  have LU := Lib.hid lU
  have HU := Lib.hid hU
  clear lU hU
  have hmk := make_u32 (n1 - (m + 2) + 1) (by omega)
  have ecast : ((n1 - (m + 2) + 1 : Nat) : Int) = (n1 : Int) - ((m : Int) + 2) + 1 := by omega
  rw [ecast] at hmk
  clear ecast
  have hb1 := hBV.lt
  have hb2' := hBU.lt
  have hbs := hbe2.size
  have hbs1 := hbe1.size
  obtain ⟨hVn, htop⟩ := norm_top (ys := digs Y) rfl HL2.out hs31 (top_nat HT0.out) (top_nat' HT1.out) okV (by rw [HV.out, val_digs])
  have hVpos : 0 < vt OV (m + 2) := kn_vpos okV (by rw [di_eq]; omega)
  have hVle : vt OV (m + 2) ≤ B32 ^ (m + 2) := Nat.le_of_lt (vt_lt okV _)
  have hst := long_start (X := X) (l := n1) (m := m) (OU := OU) (OV := OV) (by have := digs_lt_pow X; rwa [HL1.out] at this) hs31 hlm (by rw [HU.out, val_digs]) (by rw [LU.out]; exact Nat.le_refl _) htop
  have HVN := Lib.hid hVn
  have HTOP := Lib.hid htop
  have HVP := Lib.hid hVpos
  have HVL := Lib.hid hVle
  have HST := Lib.hid hst
  clear hVn htop hVpos hVle hst
  have hU0 : X * 2 ^ s = val OU := by rw [HU.out, val_digs]
  have HU0 := Lib.hid hU0
  clear hU0
  generalize hgV : w.heap.size = gV at *
  generalize hgU : w1.heap.size = gU at *
  have HGV := Lib.hid hgV
  have HGU := Lib.hid hgU
  clear hgV hgU
  go_wp2
  clear hmk
  go_loopw [10] (fun i wr => ∃ (z : Int) (O Q : List Nat), -1 ≤ z ∧ z ≤ (n1 : Int) - (m + 2) ∧ i = .int .i64 z ∧ n1 + 1 ≤ O.length ∧ O.length ≤ n1 + 1 ∧ n1 - (m + 2) + 1 ≤ Q.length ∧ Q.length ≤ n1 - (m + 2) + 1 ∧ DigB wr gU O ∧ DigB wr gV OV ∧ DigB wr w2.heap.size Q ∧ okD O ∧ okD Q ∧ Below gV w wr ∧
      (∀ i : Nat, z + 1 + (m + 2) ≤ i → dg O i = 0) ∧ vt (O.drop (z + 1).toNat) (m + 2) < vt OV (m + 2) ∧ X * 2 ^ s = vt OV (m + 2) * val (Q.drop (z + 1).toNat) * B32 ^ (z + 1).toNat + val O) (fun i _ => (intOf i + 1).toNat)
  case atStart =>
    refine ⟨_, OU, List.replicate (n1 - (m + 2) + 1) 0, ?_, ?_, rfl, ?_, ?_, by simp, by simp, hBU.alloc _, (hBV.below hbe2 hb1).alloc _, ?_, okU, okD_replicate _, ?_, ?_, ?_, ?_⟩
    · omega
    · omega
    · rw [LU.out]; exact Nat.le_refl _
    · rw [LU.out]; exact Nat.le_refl _
    · exact DigB.zeros w2 (n1 - (m + 2) + 1)
    · have := (hbe1.trans (hbe2.mono (by omega))).alloc (by omega) (.cells (zc (n1 - (m + 2) + 1)) 85); exact this
    · exact fun i hi => dg_ge (by rw [LU.out]; omega)
    · have e : ((n1 : Int) - ((m : Int) + 2) + 1).toNat = n1 - (m + 2) + 1 := by omega
      rw [e]; exact HST.out
    · rw [List.drop_eq_nil_of_le (by simp; omega), HU0.out]; simp [val]
  case round =>
    obtain ⟨z, O, Q, hz0, hz1, rfl, hO, hO', hQ, hQ', hBO, hBV', hBQ, okO, okQ, hbe, hzero, hrem, heq⟩ := hrel
    have HZ := Lib.hid hzero
    have HR := Lib.hid hrem
    have HE := Lib.hid heq
    clear hzero hrem heq
    rcases Int.lt_or_le z 0 with h0 | h0
    · obtain rfl : z = -1 := by omega
      have hzz : ∀ i, m + 2 ≤ i → dg O i = 0 := fun i hi => HZ.out i (by omega)
      obtain ⟨e1, e2⟩ := long_end (X := X) (Y := Y) (s := s) (m := m) (O := O) (Q := Q) (OV := OV) (by have := HE.out; simpa using this) HVN.out hzz (by have := HR.out; simpa using this)
      have E1 := Lib.hid e1
      have E2 := Lib.hid e2
      clear e1 e2 hzz
      have hDQ : DigM wr (.slice (some ⟨w2.heap.size, 0, none⟩) (n1 - (m + 2) + 1) (n1 - (m + 2) + 1)) Q := by
        have := hBQ.dig okQ (c := n1 - (m + 2) + 1) hQ' (by unfold maxLen; omega)
        rwa [show Q.length = n1 - (m + 2) + 1 from by omega] at this
      have hDO : DigM wr (.slice (some ⟨gU, 0, none⟩) (m + 2) (n1 + 1)) (O.take (m + 2)) := by
        have := hBO.dig okO (c := n1 + 1) hO' (by unfold maxLen; omega)
        exact this.take (by omega) (by omega) (by unfold maxLen; omega)
      have k1 : (0 : Int) ≤ (m : Int) + 2 := by omega
      have k2 : (m : Int) + 2 ≤ (n1 : Int) + 1 := by omega
      have k3 : ((m : Int) + 2).toNat = m + 2 := by omega
      go_wp2_with fail
      go_region_held3 (fun _ => True) (exact trivial)
        (first | (go_at_call 100; refine (trim_any _ Q _ (hDQ.keep (Keep.drew _))).mono ?_; rintro e w5 ⟨v5, rfl, hv5, rfl⟩) | (go_at_call 134; refine (shiftRight_any _ (O.take (m + 2)) s _ (hDO.keep (Keep.drew _)) hs31 (by rw [List.length_take]; omega)).mono ?_; rintro e w6 ⟨v6, rfl, hv6, hbe6⟩))
      go_wp2
      go_ret2
      refine ⟨v5, v6, rfl, ?_, ?_, ?_⟩
      · have := hv5.below hbe6; rwa [E1.out] at this
      · have h6 : DigM w6 v6 (digs (vt O (m + 2) / 2 ^ s)) := hv6
        rwa [E2.out] at h6
      · rw [HGV.out]
        exact hbe.trans ((below_drew hbe6).mono (by have := hBO.lt; omega))
    · obtain ⟨j, rfl⟩ := Int.eq_ofNat_of_zero_le h0
      have hq := hBQ.cell (k := j) (by omega)
      have hqf := hBQ.frozen j
      go_wp2_with fail
      rw [show j + (m + 2) + 1 - j = m + 3 from by omega]
      refine (divStep_any gU j m (n1 + 1 - j) gV 0 (m + 2 + 1) O OV wr hBO okO (by omega) (by omega) (by omega) okV (by omega) ?_ (by omega) ?_ ?_).mono ?_
      · intro k hk
        rw [Nat.zero_add]
        exact hBV'.cell (by rw [LV.out]; omega)
      · rw [di_eq]; have := HTOP.out; omega
      · exact long_lt okO HR.out
      rintro e w5 ⟨O2, rfl, hBO2, lO2, okO2, hsame, hrem2, hgr⟩
      obtain ⟨f1, f2, f3⟩ := long_step (U := X * 2 ^ s) (Q := Q) (show j < Q.length by omega) HVP.out HVL.out (fun i hi => HZ.out i (by omega)) hsame hrem2 (by have := HE.out; rwa [show ((j : Int) + 1).toNat = j + 1 from by omega] at this)
      have hqlt : vt (O.drop j) (m + 3) / vt OV (m + 2) < B32 := by
        rw [Nat.div_lt_iff_lt_mul HVP.out]; exact long_lt okO HR.out
      have F1 := Lib.hid f1
      have F2 := Lib.hid f2
      have F3 := Lib.hid f3
      have LO2 := Lib.hid lO2
      have hB2 := hBV'.grown hgr (by omega)
      have hB3 := hBQ.grown hgr (by omega)
      have hbe5 := below_grown hbe hgr (by omega) (by have := hBO.lt; omega)
      generalize vt (O.drop j) (m + 3) / vt OV (m + 2) = qd at *
      have HQD := Lib.hid hqlt
      clear f1 f2 f3 lO2 hsame hrem2 hqlt hq hqf
      have hq := hB3.cell (k := j) (by omega)
      have hqf := hB3.frozen j
      go_wp2
      go_roundw
      case rel =>
        refine ⟨(j : Int) - 1, O2, Q.set j qd, ?_, ?_, rfl, ?_, ?_, ?_, ?_, hBO2.far (by omega) _ _, hB2.far (by omega) _ _, hB3.set_ j qd, okO2, okD_set okQ _ HQD.out, hbe5.setCell (by show gV ≤ w2.heap.size; omega) _, ?_, ?_, ?_⟩
        · omega
        · omega
        · rw [LO2.out]; exact hO
        · rw [LO2.out]; exact hO'
        · simpa using hQ
        · simpa using hQ'
        · exact fun i hi => F1.out i (by omega)
        · rw [show ((j : Int) - 1 + 1).toNat = j from by omega]; exact F2.out
        · rw [show ((j : Int) - 1 + 1).toNat = j from by omega]; exact F3.out
      case measure => simp [intOf]
end Go.Proofs.YtpanffbgihhjnaaGreat

/- Walks: package integer: divMag. -/
namespace Go.Proofs.YtpanffbgihhjnaaGreat
open Go.RowKit Pl
attribute [local go_sem ↓] Go.wp_at_zero Go.wp_at_succ

theorem digs_len2 {X : Nat} (h : (digs X).length ≤ 2) : X < B32 * B32 := by
  have h1 := digs_lt_pow X
  have h2 : B32 ^ (digs X).length ≤ B32 ^ 2 := Nat.pow_le_pow_right B32_pos h
  rw [show B32 ^ 2 = B32 * B32 from by rw [Nat.pow_succ, Nat.pow_one]] at h2
  omega

set_option maxRecDepth 100000 in
set_option maxHeartbeats 1000000 in
theorem divMag_any (v1 v2 : Value) (X Y : Nat) (w : World) (h1 : DigM w v1 (digs X)) (h2 : DigM w v2 (digs Y)) (hY : 0 < Y) (hs : (digs X).length ≤ 549755813888) (hs2 : (digs Y).length ≤ 549755813888) :
    Calls Tryz.prog 121 #[v1, v2] w fun e w' => ∃ q r, e = .returned (.tuple #[q, r]) ∧ DigM w' q (digs (X / Y)) ∧ DigM w' r (digs (X % Y)) ∧ Below w.heap.size w w' := by
  have hq : X < Y → X / Y = 0 ∧ X % Y = X := fun h => ⟨Nat.div_eq_of_lt h, Nat.mod_eq_of_lt h⟩
  have HQ := Lib.hid hq
  clear hq
  obtain ⟨A, n1, c, rfl⟩ := h1.shape
  obtain ⟨kl, kl', knc, kc⟩ := h1.len
  obtain ⟨A2, n2, c2, rfl⟩ := h2.shape
  obtain ⟨jl, jl', jnc, jc⟩ := h2.len
  have hn2 : 1 ≤ n2 := by have := digs_len_pos hY; omega
  go_enter Tryz.func121, Tryz.ntmps121
  go_wp2_with fail
  refine (compareMag_any _ _ X Y _ h1 h2).mono ?_
  rintro e w1 ⟨rfl, hbe1⟩
  have g1 := h1.below hbe1
  have g2 := h2.below hbe1
  rcases Nat.lt_or_ge X Y with hlt | hge
  · rw [cmpN_lt hlt]
    go_wp2_with fail
    refine (clone_any _ (digs X) _ g1 (by omega)).mono ?_
    rintro e w2 ⟨v', rfl, hown, hbe2⟩
    go_wp2
    go_ret2
    obtain ⟨e1, e2⟩ := HQ.out hlt
    rw [e1, e2]
    exact ⟨_, _, rfl, by rw [digs_zero]; exact DigM.nil _ _ _ (by simp), own_dig hown (okD_digs X), hbe1.trans (hbe2.mono hbe1.size)⟩
  · have hc0 : 0 ≤ cmpN X Y := by
      rcases Nat.eq_or_lt_of_le hge with e | e
      · rw [cmpN_eq e.symm]; decide
      · rw [cmpN_gt e]; decide
    generalize cmpN X Y = cc at *
    have hlen := digs_len_mono hge
    rcases Nat.lt_or_ge 2 n1 with hn | hn
    · rcases Nat.lt_or_ge 1 n2 with hm | hm
      · have t1 : ((n2 : Int) == 1) = false := by simp; omega
        go_wp2_with fail
        refine (divLong_any _ _ X Y n1 (n2 - 2) _ g1 g2 (by omega) (by omega) (by omega) (by omega)).mono ?_
        rintro e w2 ⟨q, r, rfl, hq, hr, hbe2⟩
        go_wp2
        go_ret2
        exact ⟨_, _, rfl, hq, hr, hbe1.trans (hbe2.mono hbe1.size)⟩
      · obtain rfl : n2 = 1 := by omega
        obtain ⟨b2, off2, rfl, hb2, hcell2⟩ := g2.at_ (by omega)
        have hy := hcell2 0 (by omega)
        rw [Nat.add_zero] at hy
        clear hcell2
        have hYB : Y < B32 := by
          have := digs_lt_pow Y
          have e : (digs Y).length = 1 := by omega
          rwa [e, Nat.pow_one] at this
        have hdY : di (digs Y) 0 = (Y : Int) := by rw [digs_one hY hYB]; simp [di, dg]
        have y1 := di_le (okD_digs Y) 0
        have y0 : 1 ≤ di (digs Y) 0 := by omega
        have HDY := Lib.hid hdY
        clear hdY hYB
        go_wp2_with fail
        refine (clone_any _ (digs X) _ g1 (by omega)).mono ?_
        rintro e w2 ⟨v', rfl, hown, hbe2⟩
        have hln : (digs X).length = n1 := by omega
        rw [hln] at hown
        obtain ⟨gg, cap, rfl, hgg, _⟩ := hown.form (by omega)
        have hy2 := cell_later hbe2 hy
        go_wp2_with fail
        refine (divWord_any _ _ _ _ (digs X) _ _ hown (okD_digs X) (by omega) y0 y1).mono ?_
        rintro e w3 ⟨Q, rfl, lQ, okQ, vQ, hown3, hgr3⟩
        have hbe3 : Below w1.heap.size w1 w3 := below_grown hbe2 hgr3 hgg hbe2.size
        rw [val_digs] at vQ
        rw [val_digs]
        have hrem : ((X % (di (digs Y) 0).toNat : Nat) : Int) = ((X % Y : Nat) : Int) := by rw [HDY.out, Int.toNat_natCast]
        rw [hrem]
        have hr1 : ((X % Y : Nat) : Int) ≤ 4294967295 := by have := Nat.mod_lt X hY; have := HDY.out; omega
        have hr0 : 0 ≤ ((X % Y : Nat) : Int) := by omega
        obtain ⟨rz, hrz⟩ : ∃ rz : Int, rz = ((X % Y : Nat) : Int) := ⟨_, rfl⟩
        rw [← hrz] at hr1 hr0 ⊢
        have HRZ := Lib.hid hrz
        have VQ := Lib.hid vQ
        clear hrem hrz vQ lQ
        have hDQ := own_dig hown3 okQ
        go_wp2_with fail
        refine (trim_any _ Q _ hDQ).mono ?_
        rintro e w4 ⟨v4, rfl, hv4, rfl⟩
        go_wp2_with fail
        refine (fromWord_any rz _ hr0 (by omega)).mono ?_
        rintro e w5 ⟨v5, rfl, hv5, hbe5⟩
        go_wp2
        go_ret2
        refine ⟨_, _, rfl, ?_, ?_, hbe1.trans ((hbe3.trans (hbe5.mono hbe3.size)).mono hbe1.size)⟩
        · have := hv4.below hbe5
          rwa [VQ.out, HDY.out, Int.toNat_natCast] at this
        · rwa [HRZ.out, Int.toNat_natCast] at hv5
    · have hX2 : X < B32 * B32 := digs_len2 (by omega)
      have hY2 : Y < B32 * B32 := digs_len2 (by omega)
      go_wp2_with fail
      refine (toWord_any _ X _ g1 hX2).mono ?_
      rintro e w2 ⟨rfl, hbe2⟩
      go_wp2_with fail
      refine (toWord_any _ Y _ (g2.below hbe2) hY2).mono ?_
      rintro e w3 ⟨rfl, hbe3⟩
      have x1 : (X : Int) ≤ 18446744073709551615 := by unfold B32 at hX2; omega
      have y1 : (Y : Int) ≤ 18446744073709551615 := by unfold B32 at hY2; omega
      have x0 : (0 : Int) ≤ X := by omega
      have y0 : (1 : Int) ≤ Y := by omega
      have d0 : (0 : Int) ≤ (X : Int) / Y := Int.ediv_nonneg x0 (by omega)
      have d1 : (X : Int) / Y ≤ X := Int.ediv_le_self _ x0
      have m0 : (0 : Int) ≤ (X : Int) % Y := Int.emod_nonneg _ (by omega)
      have m1 : (X : Int) % Y < Y := Int.emod_lt_of_pos _ (by omega)
      have ed : (X : Int) / Y = ((X / Y : Nat) : Int) := by rw [Int.natCast_ediv]
      have em : (X : Int) % Y = ((X % Y : Nat) : Int) := by rw [Int.natCast_emod]
      have ED := Lib.hid ed
      have EM := Lib.hid em
      clear ed em hX2 hY2
      generalize (X : Int) = zx at *
      generalize (Y : Int) = zy at *
      have q0 : ¬ zy = 0 := by omega
      have q1 : IntKind.u64.wrap (zx.tdiv zy) = zx / zy := IntWalk.u64_quo zx zy ⟨x0, x1, y0⟩
      have q2 : zx.tmod zy = zx % zy := Int.tmod_eq_emod_of_nonneg x0
      have q3 : IntKind.u64.wrap (zx % zy) = zx % zy := u64_in _ m0 (by omega)
      go_wp2_with fail
      go_region_held3 (fun _ => True) (exact trivial)
        (first | (go_at_call_of 112 (Value.int IntKind.u64 (zx / zy)); refine (fromWord_any (zx / zy) _ d0 (by omega)).mono ?_; rintro e w5 ⟨v5, rfl, hv5, hbe5⟩) | (go_at_call 112; refine (fromWord_any (zx % zy) _ m0 (by omega)).mono ?_; rintro e w6 ⟨v6, rfl, hv6, hbe6⟩))
      go_wp2
      go_ret2
      refine ⟨v5, v6, rfl, ?_, ?_, ?_⟩
      · have := hv5.below hbe6
        rwa [ED.out, Int.toNat_natCast] at this
      · rwa [EM.out, Int.toNat_natCast] at hv6
      · have hb6 := (below_drew hbe5).trans (hbe6.mono hbe5.size)
        have hb3 := hbe2.trans (hbe3.mono hbe2.size)
        exact hbe1.trans ((hb3.trans (hb6.mono hb3.size)).mono hbe1.size)
end Go.Proofs.YtpanffbgihhjnaaGreat

/- Plain facts: Lehmer's steps of Euclid's algorithm (the condition under which the leading digits decide). -/
namespace Go.Proofs.YtpanffbgihhjnaaGreat.Pl

structure Leh (A B X Y : Nat) (a1 a2 u0 u1 u2 v0 v1 v2 : Int) (ev : Bool) : Prop where
  a2n : 0 ≤ a2
  a21 : a2 ≤ a1
  u0n : 0 ≤ u0
  u1n : 0 ≤ u1
  u2n : 0 ≤ u2
  v0n : 0 ≤ v0
  v1n : 0 ≤ v1
  v2n : 1 ≤ v2
  iA : v2 * a1 + v1 * a2 = A
  iB : u2 * a1 + u1 * a2 = B
  det : u1 * v2 - u2 * v1 = if ev then -1 else 1
  uv2 : u2 ≤ v2
  uv12 : u1 + u2 ≤ v1 + v2
  v12 : v1 ≤ v2
  u1v2 : u1 ≤ v2
  b0 : u0 ≤ 4294967295
  b1 : u1 ≤ 4294967295
  b2 : v0 ≤ 4294967295
  b3 : v1 ≤ 4294967295
  st0 : v1 = 0 → u1 = 1 ∧ u2 = 0 ∧ v2 = 1 ∧ v0 = 0 ∧ ev = false
  st1 : 0 < v1 → (if ev then Y * v1 - X * u1 else X * u1 - Y * v1 : Int) ≤ Y
  st2 : 0 < v0 → u0 * v1 - u1 * v0 = (if ev then 1 else -1) ∧ 0 ≤ (if ev then Y * v1 - X * u1 else X * u1 - Y * v1 : Int) ∧
    (if ev then Y * v1 - X * u1 else X * u1 - Y * v1 : Int) < (if ev then X * u0 - Y * v0 else Y * v0 - X * u0 : Int) ∧ (if ev then X * u0 - Y * v0 else Y * v0 - X * u0 : Int) ≤ Y

theorem Leh.start {A B X Y : Nat} (h : B ≤ A) : Leh A B X Y A B 0 1 0 0 0 1 false :=
  ⟨by omega, by omega, by omega, by omega, by omega, by omega, by omega, by omega, by omega, by omega, by simp, by omega, by omega, by omega, by omega, by omega, by omega, by omega, by omega, fun _ => ⟨rfl, rfl, rfl, rfl, rfl⟩, fun h => by omega, fun h => by omega⟩

theorem Leh.room {A B X Y : Nat} {a1 a2 u0 u1 u2 v0 v1 v2 : Int} {ev : Bool} (h : Leh A B X Y a1 a2 u0 u1 u2 v0 v1 v2 ev) (c1 : v2 ≤ a2) :
    v1 + (a1 / a2) * v2 ≤ A ∧ u1 + (a1 / a2) * u2 ≤ A ∧ 0 ≤ (a1 / a2) * v2 ∧ 0 ≤ (a1 / a2) * u2 ∧ 1 ≤ a1 / a2 := by
  have h2 := h.v2n
  have hq : 1 ≤ a1 / a2 := by
    rw [Int.le_ediv_iff_mul_le (by omega)]; have := h.a21; omega
  have hqa : a1 / a2 * a2 ≤ a1 := by rw [Int.mul_comm]; exact Int.mul_ediv_self_le (by omega)
  have k1 : (v1 + (a1 / a2) * v2) * a2 ≤ A := by
    rw [← h.iA, Int.add_mul]
    have : a1 / a2 * v2 * a2 ≤ v2 * a1 := by
      rw [Int.mul_right_comm, Int.mul_comm v2]
      exact Int.mul_le_mul_of_nonneg_right hqa (by omega)
    omega
  have n1 : 0 ≤ (a1 / a2) * v2 := Int.mul_nonneg (by omega) (by omega)
  have n2 : 0 ≤ (a1 / a2) * u2 := Int.mul_nonneg (by omega) h.u2n
  have k2 : (v1 + (a1 / a2) * v2) * 1 ≤ (v1 + (a1 / a2) * v2) * a2 := Int.mul_le_mul_of_nonneg_left (by omega) (by have := h.v1n; omega)
  have k3 : u1 + (a1 / a2) * u2 ≤ v1 + (a1 / a2) * v2 := by
    have m : (a1 / a2 - 1) * u2 ≤ (a1 / a2 - 1) * v2 := Int.mul_le_mul_of_nonneg_left h.uv2 (by omega)
    rw [Int.sub_mul, Int.sub_mul] at m
    have := h.uv12
    omega
  exact ⟨by omega, by omega, n1, n2, hq⟩

theorem leh_lo {D a v u e1 e2 : Int} (hD : 0 < D) (_he1 : 0 ≤ e1) (he1' : e1 < D) (he2 : 0 ≤ e2) (hu : 0 ≤ u) (hv : 0 ≤ v) (h : u ≤ a) : 0 ≤ D * a + (e2 * v - e1 * u) := by
  have h1 : e1 * u ≤ D * u := Int.mul_le_mul_of_nonneg_right (by omega) hu
  have h2 : 0 ≤ e2 * v := Int.mul_nonneg he2 hv
  have h3 : D * u ≤ D * a := Int.mul_le_mul_of_nonneg_left h (by omega)
  omega
theorem leh_hi {D a v u e1 e2 : Int} (hD : 0 < D) (he1 : 0 ≤ e1) (_he2 : 0 ≤ e2) (he2' : e2 < D) (hu : 0 ≤ u) (hv : 1 ≤ v) (h : v ≤ a) : 0 < D * a + (e1 * u - e2 * v) := by
  have h1 : (e2 + 1) * v ≤ D * v := Int.mul_le_mul_of_nonneg_right (by omega) (by omega)
  have h2 : 0 ≤ e1 * u := Int.mul_nonneg he1 hu
  have h3 : D * v ≤ D * a := Int.mul_le_mul_of_nonneg_left h (by omega)
  rw [Int.add_mul] at h1
  omega
theorem ring_leh1 (D A B e1 e2 u v a : Int) (h : v * B - u * A = a) : (B * D + e2) * v - (A * D + e1) * u = D * a + (e2 * v - e1 * u) := by grind
theorem ring_leh2 (D A B e1 e2 u v a : Int) (h : u * A - v * B = a) : (A * D + e1) * u - (B * D + e2) * v = D * a + (e1 * u - e2 * v) := by grind

theorem leh_a1 (A B a1 a2 u1 u2 v1 v2 d : Int) (hA : v2 * a1 + v1 * a2 = A) (hB : u2 * a1 + u1 * a2 = B) (hd : u1 * v2 - u2 * v1 = d) : u1 * A - v1 * B = d * a1 := by grind
theorem leh_a2 (A B a1 a2 u1 u2 v1 v2 d : Int) (hA : v2 * a1 + v1 * a2 = A) (hB : u2 * a1 + u1 * a2 = B) (hd : u1 * v2 - u2 * v1 = d) : v2 * B - u2 * A = d * a2 := by grind

theorem Leh.step {A B X Y : Nat} {D e1 e2 : Int} {a1 a2 u0 u1 u2 v0 v1 v2 : Int} {ev : Bool} (h : Leh A B X Y a1 a2 u0 u1 u2 v0 v1 v2 ev) (hD : 0 < D) (hX : (X : Int) = A * D + e1) (hY : (Y : Int) = B * D + e2)
    (he1 : 0 ≤ e1) (he1' : e1 < D) (he2 : 0 ≤ e2) (he2' : e2 < D) (hA : (A : Int) ≤ 18446744073709551615) (c1 : v2 ≤ a2) (c2 : v1 + v2 ≤ a1 - a2) :
    Leh A B X Y a2 (a1 % a2) u1 u2 (u1 + (a1 / a2) * u2) v1 v2 (v1 + (a1 / a2) * v2) (!ev) := by
  obtain ⟨r1, r2, r3, r4, r5⟩ := h.room c1
  have hv2 := h.v2n
  have hu2 := h.u2n
  have hv1 := h.v1n
  have hu1 := h.u1n
  have ha2 : 1 ≤ a2 := by omega
  have hm : a1 % a2 = a1 - (a1 / a2) * a2 := by
    have := Int.emod_add_mul_ediv a1 a2
    rw [Int.mul_comm] at this
    omega
  have hm0 := Int.emod_nonneg a1 (show a2 ≠ 0 by omega)
  have hm1 := Int.emod_lt_of_pos a1 (show 0 < a2 by omega)
  -- v2 < 2^32
  have hb : v2 ≤ 4294967295 := by
    rcases Int.lt_or_le v2 4294967296 with g | g
    · omega
    · exfalso
      have k1 : v2 * v2 ≤ v2 * a1 := Int.mul_le_mul_of_nonneg_left (by omega) (by omega)
      have k2 : 4294967296 * 4294967296 ≤ v2 * v2 := Int.mul_le_mul g g (by omega) (by omega)
      have k3 : 0 ≤ v1 * a2 := Int.mul_nonneg hv1 (by omega)
      have := h.iA
      omega
  have key : 0 ≤ (if !ev then Y * v2 - X * u2 else X * u2 - Y * v2 : Int) ∧ (if !ev then Y * v2 - X * u2 else X * u2 - Y * v2 : Int) < (if ev then Y * v1 - X * u1 else X * u1 - Y * v1 : Int) := by
    have d := h.det
    have i1 := leh_a1 A B a1 a2 u1 u2 v1 v2 _ h.iA h.iB d
    have i2 := leh_a2 A B a1 a2 u1 u2 v1 v2 _ h.iA h.iB d
    rw [hX, hY]
    cases ev with
    | false =>
      simp only [Bool.not_false, if_true, Bool.false_eq_true, if_false] at *
      have e : (((B : Int) * D + e2) * v2 - ((A : Int) * D + e1) * u2) = D * a2 + (e2 * v2 - e1 * u2) := ring_leh1 _ _ _ _ _ _ _ _ (by omega)
      have f : ((A : Int) * D + e1) * (u1 + u2) - ((B : Int) * D + e2) * (v1 + v2) = D * (a1 - a2) + (e1 * (u1 + u2) - e2 * (v1 + v2)) := ring_leh2 _ _ _ _ _ _ _ _ (by rw [Int.add_mul, Int.add_mul]; omega)
      have g1 := leh_lo (a := a2) hD he1 he1' he2 hu2 (by omega) (v := v2) (by have := h.uv2; omega)
      have g2 := leh_hi (u := u1 + u2) hD he1 he2 he2' (by omega) (show 1 ≤ v1 + v2 by omega) c2
      rw [Int.mul_add, Int.mul_add] at f
      omega
    | true =>
      simp only [Bool.not_true, if_true, Bool.false_eq_true, if_false] at *
      have e : (((A : Int) * D + e1) * u2 - ((B : Int) * D + e2) * v2) = D * a2 + (e1 * u2 - e2 * v2) := ring_leh2 _ _ _ _ _ _ _ _ (by omega)
      have f : ((B : Int) * D + e2) * (v1 + v2) - ((A : Int) * D + e1) * (u1 + u2) = D * (a1 - a2) + (e2 * (v1 + v2) - e1 * (u1 + u2)) := ring_leh1 _ _ _ _ _ _ _ _ (by rw [Int.add_mul, Int.add_mul]; omega)
      have g1 := leh_hi (u := u2) hD he1 he2 he2' hu2 hv2 c1
      have k1 : (e1 + 1) * (u1 + u2) ≤ D * (u1 + u2) := Int.mul_le_mul_of_nonneg_right (by omega) (by omega)
      have k2 : 0 ≤ e2 * (v1 + v2) := Int.mul_nonneg he2 (by omega)
      have k3 : D * (u1 + u2) ≤ D * (a1 - a2) := Int.mul_le_mul_of_nonneg_left (by have := h.uv12; omega) (by omega)
      have k4 : 1 ≤ u1 + u2 := by
        rcases Int.lt_or_le 0 (u1 + u2) with g | g
        · omega
        · have z1 : u1 = 0 := by omega
          have z2 : u2 = 0 := by omega
          rw [z1, z2] at d
          simp at d
      rw [Int.add_mul] at k1
      rw [Int.mul_add, Int.mul_add] at f
      omega
  obtain ⟨key1, key2⟩ := key
  have hqv : 1 * v2 ≤ a1 / a2 * v2 := Int.mul_le_mul_of_nonneg_right r5 (by omega)
  refine ⟨hm0, by omega, hu1, hu2, by omega, hv1, by omega, by omega, ?_, ?_, ?_, ?_, ?_, ?_, ?_, h.b1, by have := h.uv2; omega, h.b3, hb, ?_, ?_, ?_⟩
  · rw [hm, ← h.iA, Int.add_mul, Int.mul_sub]
    have : a1 / a2 * v2 * a2 = v2 * (a1 / a2 * a2) := by rw [Int.mul_right_comm, Int.mul_comm]
    omega
  · rw [hm, ← h.iB, Int.add_mul, Int.mul_sub]
    have : a1 / a2 * u2 * a2 = u2 * (a1 / a2 * a2) := by rw [Int.mul_right_comm, Int.mul_comm]
    omega
  · have d := h.det
    rw [Int.mul_add, Int.add_mul]
    have : u2 * (a1 / a2 * v2) = a1 / a2 * u2 * v2 := by rw [← Int.mul_assoc, Int.mul_comm u2]
    cases ev <;> simp at d ⊢ <;> omega
  · have m : (a1 / a2 - 1) * u2 ≤ (a1 / a2 - 1) * v2 := Int.mul_le_mul_of_nonneg_left h.uv2 (by omega)
    rw [Int.sub_mul, Int.sub_mul] at m
    have := h.uv12
    omega
  · have m : a1 / a2 * u2 ≤ a1 / a2 * v2 := Int.mul_le_mul_of_nonneg_left h.uv2 (by omega)
    have := h.uv12
    omega
  · have m : 1 * v2 ≤ a1 / a2 * v2 := Int.mul_le_mul_of_nonneg_right r5 (by omega)
    omega
  · have m : 1 * v2 ≤ a1 / a2 * v2 := Int.mul_le_mul_of_nonneg_right r5 (by omega)
    have := h.uv2
    omega
  · intro h0; omega
  · intro _
    rcases Int.lt_or_eq_of_le hv1 with g | g
    · have := h.st1 g
      omega
    · obtain ⟨s1, s2, s3, s4, s5⟩ := h.st0 g.symm
      rw [s2, s3, s5]
      simp
  · intro g
    have q := h.st1 g
    refine ⟨?_, key1, ?_, ?_⟩
    · have d := h.det
      cases ev <;> simp at d ⊢ <;> omega
    · cases ev <;> simpa using key2
    · cases ev <;> simpa using q

theorem leh_gcd {X Y R0 R1 u0 u1 v0 v1 : Nat} (hx : X = v1 * R0 + v0 * R1) (hy : Y = u1 * R0 + u0 * R1) (h0 : R0 + v0 * Y = u0 * X ∨ R0 + u0 * X = v0 * Y) (h1 : R1 + v1 * Y = u1 * X ∨ R1 + u1 * X = v1 * Y) : Nat.gcd R0 R1 = Nat.gcd X Y := by
  apply Nat.dvd_antisymm
  · have d0 := Nat.gcd_dvd_left R0 R1
    have d1 := Nat.gcd_dvd_right R0 R1
    refine Nat.dvd_gcd ?_ ?_
    · rw [hx]; exact Nat.dvd_add (Nat.dvd_mul_left_of_dvd d0 _) (Nat.dvd_mul_left_of_dvd d1 _)
    · rw [hy]; exact Nat.dvd_add (Nat.dvd_mul_left_of_dvd d0 _) (Nat.dvd_mul_left_of_dvd d1 _)
  · have d0 := Nat.gcd_dvd_left X Y
    have d1 := Nat.gcd_dvd_right X Y
    refine Nat.dvd_gcd ?_ ?_
    · rcases h0 with h | h
      · exact (Nat.dvd_add_left (Nat.dvd_mul_left_of_dvd d1 v0)).1 (h ▸ Nat.dvd_mul_left_of_dvd d0 u0)
      · exact (Nat.dvd_add_left (Nat.dvd_mul_left_of_dvd d0 u0)).1 (h ▸ Nat.dvd_mul_left_of_dvd d1 v0)
    · rcases h1 with h | h
      · exact (Nat.dvd_add_left (Nat.dvd_mul_left_of_dvd d1 v1)).1 (h ▸ Nat.dvd_mul_left_of_dvd d0 u1)
      · exact (Nat.dvd_add_left (Nat.dvd_mul_left_of_dvd d0 u1)).1 (h ▸ Nat.dvd_mul_left_of_dvd d1 v1)

theorem ring_bez1 (X Y u0 u1 v0 v1 d : Int) (h : u0 * v1 - u1 * v0 = d) : v1 * (X * u0 - Y * v0) + v0 * (Y * v1 - X * u1) = d * X ∧ u1 * (X * u0 - Y * v0) + u0 * (Y * v1 - X * u1) = d * Y := by
  constructor <;> grind

structure Cof (X Y u0 u1 v0 v1 : Nat) (ev : Bool) (R0 R1 : Nat) : Prop where
  lt : R1 < R0
  le : R0 ≤ Y
  e0 : if ev then R0 + Y * v0 = X * u0 else R0 + X * u0 = Y * v0
  e1 : if ev then R1 + X * u1 = Y * v1 else R1 + Y * v1 = X * u1
  gcd : Nat.gcd R0 R1 = Nat.gcd X Y

theorem Leh.cof {A B X Y : Nat} {a1 a2 u0 u1 u2 v0 v1 v2 : Int} {ev : Bool} (h : Leh A B X Y a1 a2 u0 u1 u2 v0 v1 v2 ev) (hv0 : v0 ≠ 0) : ∃ R0 R1 : Nat, Cof X Y u0.toNat u1.toNat v0.toNat v1.toNat ev R0 R1 := by
  obtain ⟨d, k0, k1, k2⟩ := h.st2 (by have := h.v0n; omega)
  obtain ⟨a, rfl⟩ := Int.eq_ofNat_of_zero_le h.u0n
  obtain ⟨b, rfl⟩ := Int.eq_ofNat_of_zero_le h.u1n
  obtain ⟨c, rfl⟩ := Int.eq_ofNat_of_zero_le h.v0n
  obtain ⟨e, rfl⟩ := Int.eq_ofNat_of_zero_le h.v1n
  simp only [Int.toNat_natCast]
  have m1 : ((X * a : Nat) : Int) = (X : Int) * a := Int.natCast_mul _ _
  have m2 : ((Y * c : Nat) : Int) = (Y : Int) * c := Int.natCast_mul _ _
  have m3 : ((Y * e : Nat) : Int) = (Y : Int) * e := Int.natCast_mul _ _
  have m4 : ((X * b : Nat) : Int) = (X : Int) * b := Int.natCast_mul _ _
  cases ev with
  | true =>
    simp only [if_true] at *
    obtain ⟨z1, z2⟩ := ring_bez1 X Y a b c e 1 d
    refine ⟨X * a - Y * c, Y * e - X * b, by omega, by omega, ?_, ?_, ?_⟩
    · simp; omega
    · simp; omega
    · have p0 : ((X * a - Y * c : Nat) : Int) = (X : Int) * a - Y * c := by omega
      have p1 : ((Y * e - X * b : Nat) : Int) = (Y : Int) * e - X * b := by omega
      rw [← p0, ← p1] at z1 z2
      refine leh_gcd (u0 := a) (u1 := b) (v0 := c) (v1 := e) ?_ ?_ (.inl ?_) (.inr ?_)
      · have := Int.natCast_mul e (X * a - Y * c); have := Int.natCast_mul c (Y * e - X * b); omega
      · have := Int.natCast_mul b (X * a - Y * c); have := Int.natCast_mul a (Y * e - X * b); omega
      · rw [Nat.mul_comm c, Nat.mul_comm a]; omega
      · rw [Nat.mul_comm b, Nat.mul_comm e]; omega
  | false =>
    simp only [Bool.false_eq_true, if_false] at *
    obtain ⟨z1, z2⟩ := ring_bez1 X Y a b c e (-1) d
    refine ⟨Y * c - X * a, X * b - Y * e, by omega, by omega, ?_, ?_, ?_⟩
    · simp; omega
    · simp; omega
    · have p0 : ((Y * c - X * a : Nat) : Int) = (Y : Int) * c - X * a := by omega
      have p1 : ((X * b - Y * e : Nat) : Int) = (X : Int) * b - Y * e := by omega
      have q0 : (X : Int) * a - Y * c = -((Y * c - X * a : Nat) : Int) := by omega
      have q1 : (Y : Int) * e - X * b = -((X * b - Y * e : Nat) : Int) := by omega
      rw [q0, q1, Int.mul_neg, Int.mul_neg] at z1 z2
      refine leh_gcd (u0 := a) (u1 := b) (v0 := c) (v1 := e) ?_ ?_ (.inr ?_) (.inl ?_)
      · have := Int.natCast_mul e (Y * c - X * a); have := Int.natCast_mul c (X * b - Y * e); omega
      · have := Int.natCast_mul b (Y * c - X * a); have := Int.natCast_mul a (X * b - Y * e); omega
      · rw [Nat.mul_comm a, Nat.mul_comm c]; omega
      · rw [Nat.mul_comm e, Nat.mul_comm b]; omega

end Go.Proofs.YtpanffbgihhjnaaGreat.Pl

/- Walks: package integer: gcdWord, combine, window. -/
namespace Go.Proofs.YtpanffbgihhjnaaGreat
open Go.RowKit Pl

theorem gcd_step {x y : Int} (hx : 0 ≤ x) (hy : 0 < y) : Nat.gcd y.toNat (x % y).toNat = Nat.gcd x.toNat y.toNat := by
  obtain ⟨a, rfl⟩ := Int.eq_ofNat_of_zero_le hx
  obtain ⟨b, rfl⟩ := Int.eq_ofNat_of_zero_le (Int.le_of_lt hy)
  rw [← Int.natCast_emod, Int.toNat_natCast, Int.toNat_natCast, Int.toNat_natCast, Nat.gcd_comm a b, Nat.gcd_rec b a, Nat.gcd_comm]

set_option maxHeartbeats 400000 in
theorem gcdWord_any (x y : Int) (w : World) (x0 : 0 ≤ x) (x1 : x ≤ 18446744073709551615) (y0 : 0 ≤ y) (y1 : y ≤ 18446744073709551615) :
    Calls Tryz.prog 126 #[.int .u64 x, .int .u64 y] w fun e w' => e = .returned (.int .u64 ((Nat.gcd x.toNat y.toNat : Nat) : Int)) ∧ Below w.heap.size w w' := by
  go_enter Tryz.func126, Tryz.ntmps126
  go_wp2
  go_loopw [0, 1] (fun s t wr => ∃ (a b : Int) (q : Nat), s = .int .u64 a ∧ t = .int .u64 b ∧ 0 ≤ a ∧ a ≤ 18446744073709551615 ∧ 0 ≤ b ∧ b ≤ 18446744073709551615 ∧ wr = w.drewN q ∧ Nat.gcd a.toNat b.toNat = Nat.gcd x.toNat y.toNat) (fun _ t _ => (intOf t).toNat)
  case atStart => exact ⟨x, y, 0, rfl, rfl, x0, x1, y0, y1, rfl, rfl⟩
  case round =>
    obtain ⟨a, b, q, rfl, rfl, a0, a1, b0, b1, rfl, hg⟩ := hrel
    have HG := Lib.hid hg
    clear hg
    rcases Int.lt_or_eq_of_le b0 with h | h
    · have t1 : (b != 0) = true := by simp; omega
      have q0 : ¬ b = 0 := by omega
      have m0 : 0 ≤ a % b := Int.emod_nonneg _ (by omega)
      have m1 : a % b < b := Int.emod_lt_of_pos _ h
      have q2 : a.tmod b = a % b := Int.tmod_eq_emod_of_nonneg a0
      have q3 : IntKind.u64.wrap (a % b) = a % b := u64_in _ m0 (by omega)
      go_wp2
      go_quiet (fail)
      go_wp2
      go_roundw
      case rel => exact ⟨b, a % b, q + nq, rfl, rfl, b0, b1, m0, by omega, World.drewN_drewN _ _ _, by rw [gcd_step a0 h]; exact HG.out⟩
      case measure => simp [intOf]; omega
    · subst h
      go_wp2
      go_ret
      refine ⟨ret_int ?_, below_drewN' _ _⟩
      rw [← HG.out]
      simp
      omega

theorem ring_comb (O p q b a c u v x y pw P Q pr qr r t : Int) (h : O + (p - q - b) * pw = u * a - v * c) (e1 : p + u * x = pr + 4294967296 * P) (e2 : q + v * y = qr + 4294967296 * Q) (e3 : pr - qr - b = r - 4294967296 * t) :
    O + r * pw + (P - Q - t) * (pw * 4294967296) = u * (a + x * pw) - v * (c + y * pw) := by grind
theorem comb_step {O xs ys : List Nat} {k : Nat} {p q b u v P Q pr qr r t : Int} (hk : k < O.length) (hr : 0 ≤ r) (e1 : p + u * di xs k = pr + 4294967296 * P) (e2 : q + v * di ys k = qr + 4294967296 * Q) (e3 : pr - qr - b = r - 4294967296 * t)
    (h : (vt O k : Int) + (p - q - b) * ((B32 ^ k : Nat) : Int) = u * vt xs k - v * vt ys k) :
    (vt (O.set k r.toNat) (k + 1) : Int) + (P - Q - t) * ((B32 ^ (k + 1) : Nat) : Int) = u * vt xs (k + 1) - v * vt ys (k + 1) := by
  rw [vt_cast_set hk hr, vt_cast_succ, vt_cast_succ, pow_cast_succ]
  exact ring_comb _ _ _ _ _ _ _ _ _ _ _ _ _ _ _ _ _ h e1 e2 e3
theorem comb_fin {O xs ys : List Nat} {n R : Nat} {p q b u v : Int} (okO : okD O) (hO : O.length = n) (hx : xs.length ≤ n) (hy : ys.length ≤ n) (hR : u * val xs - v * val ys = (R : Int)) (hlt : R < B32 ^ n)
    (h : (vt O n : Int) + (p - q - b) * ((B32 ^ n : Nat) : Int) = u * vt xs n - v * vt ys n) : val O = R := by
  rw [vt_ge hx, vt_ge hy, vt_ge (by omega), hR] at h
  have hv := val_lt okO
  rw [hO] at hv
  generalize p - q - b = c at *
  generalize B32 ^ n = P at *
  have hc : c = 0 := by
    rcases Int.lt_trichotomy c 0 with g | g | g
    · have : c * (P : Int) ≤ (-1) * P := Int.mul_le_mul_of_nonneg_right (by omega) (by omega)
      omega
    · exact g
    · have : 1 * (P : Int) ≤ c * P := Int.mul_le_mul_of_nonneg_right (by omega) (by omega)
      omega
  subst hc
  omega

set_option maxRecDepth 100000 in
set_option maxHeartbeats 2000000 in
theorem combine_lt (v1 v2 : Value) (xs ys : List Nat) (u v : Int) (R : Nat) (w : World) (h1 : DigM w v1 xs) (h2 : DigM w v2 ys) (hcmp : xs.length < ys.length) (u0 : 0 ≤ u) (u1 : u ≤ 4294967295) (w0 : 0 ≤ v) (w1 : v ≤ 4294967295) (hs : ys.length ≤ 549755813888)
    (hR : u * val xs - v * val ys = (R : Int)) (hlt : R < B32 ^ (ys.length)) :
    Calls Tryz.prog 125 #[v1, .int .u64 u, v2, .int .u64 v] w fun e w' => ∃ v', e = .returned v' ∧ DigM w' v' (digs R) ∧ Below w.heap.size w w' := by
  have HR := Lib.hid hR
  have HLT := Lib.hid hlt
  clear hR hlt
  obtain ⟨A, l, c, rfl⟩ := h1.shape
  obtain ⟨hl, hl', hnc, hc⟩ := h1.len
  obtain ⟨A2, l2, c2, rfl⟩ := h2.shape
  obtain ⟨kl, kl', knc, kc⟩ := h2.len
  have hmk := make_u32 l2 (by omega)
  have hcmp2 : (l : Int) < l2 := by omega
  go_enter Tryz.func125, Tryz.ntmps125
  go_wp2
  clear hmk
  go_loopw [11, 12, 13, 24] (fun ps qs bs i wr => ∃ (k : Nat) (O : List Nat) (p q b : Int), k ≤ l2 ∧ i = .int .i64 k ∧ ps = .int .u64 p ∧ qs = .int .u64 q ∧ bs = .int .i64 b ∧ 0 ≤ p ∧ p ≤ 4294967295 ∧ 0 ≤ q ∧ q ≤ 4294967295 ∧ 0 ≤ b ∧ b ≤ 1 ∧ l2 ≤ O.length ∧ O.length ≤ l2 ∧ DigB wr w.heap.size O ∧ okD O ∧ Below w.heap.size w wr ∧
      (vt O k : Int) + (p - q - b) * ((B32 ^ k : Nat) : Int) = u * vt xs k - v * vt ys k) (fun _ _ _ i _ => l2 - (intOf i).toNat)
  case atStart => exact ⟨0, List.replicate l2 0, 0, 0, 0, by omega, rfl, rfl, rfl, rfl, by omega, by omega, by omega, by omega, by omega, by omega, by simp, by simp, DigB.zeros w _, okD_replicate _, (Below.refl _ _).alloc (Nat.le_refl _) _, by simp [vt_zero]⟩
  case round =>
    obtain ⟨k, O, p, q, b, hk, rfl, rfl, rfl, rfl, p0, p1, q0, q1, b0, b1, hO, hO', hB, ok, hbe, heq⟩ := hrel
    have HE := Lib.hid heq
    clear heq
    rcases Nat.lt_or_ge k l2 with hkl | hkl
    · have ho := hB.cell (k := k) (by omega)
      have hf := hB.frozen k
      have x0 := di_nonneg xs k
      have x1 := di_le h1.ok k
      have y0 := di_nonneg ys k
      have y1 := di_le h2.ok k
      have a0 : 0 ≤ u * di xs k := Int.mul_nonneg u0 x0
      have a1 : u * di xs k ≤ 4294967295 * 4294967295 := Int.mul_le_mul u1 x1 x0 (by omega)
      have c0 : 0 ≤ v * di ys k := Int.mul_nonneg w0 y0
      have c1 : v * di ys k ≤ 4294967295 * 4294967295 := Int.mul_le_mul w1 y1 y0 (by omega)
      obtain ⟨bY, offy, rfl, hby, hcelly⟩ := h2.at_ (by omega)
      have hy := dig_in hbe hby hcelly hkl
      clear hcelly
      rcases Nat.lt_or_ge k l with hk2 | hk2
      · skip
        obtain ⟨bx, offx, rfl, hbx, hcellx⟩ := h1.at_ (by omega)
        have hx := dig_in hbe hbx hcellx hk2
        clear hcellx
        have hm1 := and_mask (show 0 ≤ p + u * di xs k by omega) (show p + u * di xs k ≤ 18446744073709551615 by omega)
        have hm2 := and_mask (show 0 ≤ q + v * di ys k by omega) (show q + v * di ys k ≤ 18446744073709551615 by omega)
        go_wp2
        · go_roundw
          case rel => exact ⟨k + 1, O.set k _, _, _, 1, by omega, by go_num, rfl, rfl, rfl, by omega, by omega, by omega, by omega, by omega, by omega, by simpa using hO, by simpa using hO', hB.setI k (by omega), okD_set ok k (by unfold B32; omega), hbe.setCell (Nat.le_refl _) _, comb_step (pr := (p + u * di xs k) % 4294967296) (qr := (q + v * di ys k) % 4294967296) (by omega) (by omega) (by omega) (by omega) (by omega) HE.out⟩
          case measure => simp [intOf]; omega
        · go_roundw
          case rel => exact ⟨k + 1, O.set k _, _, _, 0, by omega, by go_num, rfl, rfl, rfl, by omega, by omega, by omega, by omega, by omega, by omega, by simpa using hO, by simpa using hO', hB.setI k (by omega), okD_set ok k (by unfold B32; omega), hbe.setCell (Nat.le_refl _) _, comb_step (pr := (p + u * di xs k) % 4294967296) (qr := (q + v * di ys k) % 4294967296) (by omega) (by omega) (by omega) (by omega) (by omega) HE.out⟩
          case measure => simp [intOf]; omega
      · have hx0 : di xs k = 0 := by rw [di_eq, dg_ge (by omega)]; rfl
        have HX := Lib.hid hx0
        clear hx0
        have hm1 := and_mask (show 0 ≤ p by omega) (show p ≤ 18446744073709551615 by omega)
        have hm2 := and_mask (show 0 ≤ q + v * di ys k by omega) (show q + v * di ys k ≤ 18446744073709551615 by omega)
        go_wp2
        · go_roundw
          case rel => exact ⟨k + 1, O.set k _, _, _, 1, by omega, by go_num, rfl, rfl, rfl, by omega, by omega, by omega, by omega, by omega, by omega, by simpa using hO, by simpa using hO', hB.setI k (by omega), okD_set ok k (by unfold B32; omega), hbe.setCell (Nat.le_refl _) _, comb_step (pr := (p) % 4294967296) (qr := (q + v * di ys k) % 4294967296) (by omega) (by omega) (by rw [HX.out]; omega) (by omega) (by omega) HE.out⟩
          case measure => simp [intOf]; omega
        · go_roundw
          case rel => exact ⟨k + 1, O.set k _, _, _, 0, by omega, by go_num, rfl, rfl, rfl, by omega, by omega, by omega, by omega, by omega, by omega, by simpa using hO, by simpa using hO', hB.setI k (by omega), okD_set ok k (by unfold B32; omega), hbe.setCell (Nat.le_refl _) _, comb_step (pr := (p) % 4294967296) (qr := (q + v * di ys k) % 4294967296) (by omega) (by omega) (by rw [HX.out]; omega) (by omega) (by omega) HE.out⟩
          case measure => simp [intOf]; omega
    · obtain rfl : k = l2 := by omega
      go_wp2_with fail
      refine (trim_any _ O _ ?_).mono ?_
      · have := hB.dig ok (c := k) hO' (by unfold maxLen; omega)
        rwa [show O.length = k from by omega] at this
      rintro e w1 ⟨v', rfl, hv, rfl⟩
      go_wp2_with fail
      go_ret
      refine ⟨_, rfl, ?_, hbe⟩
      rwa [comb_fin ok (show O.length = k by omega) (by omega) (by omega) HR.out (by have := HLT.out; rwa [show ys.length = k from by omega] at this) HE.out] at hv

set_option maxRecDepth 100000 in
set_option maxHeartbeats 2000000 in
theorem combine_ge (v1 v2 : Value) (xs ys : List Nat) (u v : Int) (R : Nat) (w : World) (h1 : DigM w v1 xs) (h2 : DigM w v2 ys) (hcmp : ys.length ≤ xs.length) (u0 : 0 ≤ u) (u1 : u ≤ 4294967295) (w0 : 0 ≤ v) (w1 : v ≤ 4294967295) (hs : xs.length ≤ 549755813888)
    (hR : u * val xs - v * val ys = (R : Int)) (hlt : R < B32 ^ (xs.length)) :
    Calls Tryz.prog 125 #[v1, .int .u64 u, v2, .int .u64 v] w fun e w' => ∃ v', e = .returned v' ∧ DigM w' v' (digs R) ∧ Below w.heap.size w w' := by
  have HR := Lib.hid hR
  have HLT := Lib.hid hlt
  clear hR hlt
  obtain ⟨A, l, c, rfl⟩ := h1.shape
  obtain ⟨hl, hl', hnc, hc⟩ := h1.len
  obtain ⟨A2, l2, c2, rfl⟩ := h2.shape
  obtain ⟨kl, kl', knc, kc⟩ := h2.len
  have hmk := make_u32 l (by omega)
  have hcmp2 : ¬ (l : Int) < l2 := by omega
  go_enter Tryz.func125, Tryz.ntmps125
  go_wp2
  clear hmk
  go_loopw [11, 12, 13, 24] (fun ps qs bs i wr => ∃ (k : Nat) (O : List Nat) (p q b : Int), k ≤ l ∧ i = .int .i64 k ∧ ps = .int .u64 p ∧ qs = .int .u64 q ∧ bs = .int .i64 b ∧ 0 ≤ p ∧ p ≤ 4294967295 ∧ 0 ≤ q ∧ q ≤ 4294967295 ∧ 0 ≤ b ∧ b ≤ 1 ∧ l ≤ O.length ∧ O.length ≤ l ∧ DigB wr w.heap.size O ∧ okD O ∧ Below w.heap.size w wr ∧
      (vt O k : Int) + (p - q - b) * ((B32 ^ k : Nat) : Int) = u * vt xs k - v * vt ys k) (fun _ _ _ i _ => l - (intOf i).toNat)
  case atStart => exact ⟨0, List.replicate l 0, 0, 0, 0, by omega, rfl, rfl, rfl, rfl, by omega, by omega, by omega, by omega, by omega, by omega, by simp, by simp, DigB.zeros w _, okD_replicate _, (Below.refl _ _).alloc (Nat.le_refl _) _, by simp [vt_zero]⟩
  case round =>
    obtain ⟨k, O, p, q, b, hk, rfl, rfl, rfl, rfl, p0, p1, q0, q1, b0, b1, hO, hO', hB, ok, hbe, heq⟩ := hrel
    have HE := Lib.hid heq
    clear heq
    rcases Nat.lt_or_ge k l with hkl | hkl
    · have ho := hB.cell (k := k) (by omega)
      have hf := hB.frozen k
      have x0 := di_nonneg xs k
      have x1 := di_le h1.ok k
      have y0 := di_nonneg ys k
      have y1 := di_le h2.ok k
      have a0 : 0 ≤ u * di xs k := Int.mul_nonneg u0 x0
      have a1 : u * di xs k ≤ 4294967295 * 4294967295 := Int.mul_le_mul u1 x1 x0 (by omega)
      have c0 : 0 ≤ v * di ys k := Int.mul_nonneg w0 y0
      have c1 : v * di ys k ≤ 4294967295 * 4294967295 := Int.mul_le_mul w1 y1 y0 (by omega)
      obtain ⟨bx, offx, rfl, hbx, hcellx⟩ := h1.at_ (by omega)
      have hx := dig_in hbe hbx hcellx hkl
      clear hcellx
      rcases Nat.lt_or_ge k l2 with hk2 | hk2
      · skip
        obtain ⟨bY, offy, rfl, hby, hcelly⟩ := h2.at_ (by omega)
        have hy := dig_in hbe hby hcelly hk2
        clear hcelly
        have hm1 := and_mask (show 0 ≤ p + u * di xs k by omega) (show p + u * di xs k ≤ 18446744073709551615 by omega)
        have hm2 := and_mask (show 0 ≤ q + v * di ys k by omega) (show q + v * di ys k ≤ 18446744073709551615 by omega)
        go_wp2
        · go_roundw
          case rel => exact ⟨k + 1, O.set k _, _, _, 1, by omega, by go_num, rfl, rfl, rfl, by omega, by omega, by omega, by omega, by omega, by omega, by simpa using hO, by simpa using hO', hB.setI k (by omega), okD_set ok k (by unfold B32; omega), hbe.setCell (Nat.le_refl _) _, comb_step (pr := (p + u * di xs k) % 4294967296) (qr := (q + v * di ys k) % 4294967296) (by omega) (by omega) (by omega) (by omega) (by omega) HE.out⟩
          case measure => simp [intOf]; omega
        · go_roundw
          case rel => exact ⟨k + 1, O.set k _, _, _, 0, by omega, by go_num, rfl, rfl, rfl, by omega, by omega, by omega, by omega, by omega, by omega, by simpa using hO, by simpa using hO', hB.setI k (by omega), okD_set ok k (by unfold B32; omega), hbe.setCell (Nat.le_refl _) _, comb_step (pr := (p + u * di xs k) % 4294967296) (qr := (q + v * di ys k) % 4294967296) (by omega) (by omega) (by omega) (by omega) (by omega) HE.out⟩
          case measure => simp [intOf]; omega
      · have hy0 : di ys k = 0 := by rw [di_eq, dg_ge (by omega)]; rfl
        have HY := Lib.hid hy0
        clear hy0
        have hm1 := and_mask (show 0 ≤ p + u * di xs k by omega) (show p + u * di xs k ≤ 18446744073709551615 by omega)
        have hm2 := and_mask (show 0 ≤ q by omega) (show q ≤ 18446744073709551615 by omega)
        go_wp2
        · go_roundw
          case rel => exact ⟨k + 1, O.set k _, _, _, 1, by omega, by go_num, rfl, rfl, rfl, by omega, by omega, by omega, by omega, by omega, by omega, by simpa using hO, by simpa using hO', hB.setI k (by omega), okD_set ok k (by unfold B32; omega), hbe.setCell (Nat.le_refl _) _, comb_step (pr := (p + u * di xs k) % 4294967296) (qr := (q) % 4294967296) (by omega) (by omega) (by omega) (by rw [HY.out]; omega) (by omega) HE.out⟩
          case measure => simp [intOf]; omega
        · go_roundw
          case rel => exact ⟨k + 1, O.set k _, _, _, 0, by omega, by go_num, rfl, rfl, rfl, by omega, by omega, by omega, by omega, by omega, by omega, by simpa using hO, by simpa using hO', hB.setI k (by omega), okD_set ok k (by unfold B32; omega), hbe.setCell (Nat.le_refl _) _, comb_step (pr := (p + u * di xs k) % 4294967296) (qr := (q) % 4294967296) (by omega) (by omega) (by omega) (by rw [HY.out]; omega) (by omega) HE.out⟩
          case measure => simp [intOf]; omega
    · obtain rfl : k = l := by omega
      go_wp2_with fail
      refine (trim_any _ O _ ?_).mono ?_
      · have := hB.dig ok (c := k) hO' (by unfold maxLen; omega)
        rwa [show O.length = k from by omega] at this
      rintro e w1 ⟨v', rfl, hv, rfl⟩
      go_wp2_with fail
      go_ret
      refine ⟨_, rfl, ?_, hbe⟩
      rwa [comb_fin ok (show O.length = k by omega) (by omega) (by omega) HR.out (by have := HLT.out; rwa [show xs.length = k from by omega] at this) HE.out] at hv

end Go.Proofs.YtpanffbgihhjnaaGreat

/- Walks: package integer: window. -/
namespace Go.Proofs.YtpanffbgihhjnaaGreat
open Go.RowKit Pl

set_option maxHeartbeats 400000 in
theorem window1_any (i : Int) (g : Nat) (A : Option Addr) (n c : Nat) (ds : List Nat) (w : World) (h : DigM w (.slice A n c) ds) (hg : w.cell? ⟨g, 0, none⟩ = some (.slice A n c)) (i0 : 0 ≤ i) (i1 : i ≤ 1099511627776) :
    Calls Tryz.prog 136 #[.int .i64 i, .pointer (some ⟨g, 0, none⟩)] w fun e w' => e = .returned (.int .u64 (di ds i.toNat)) ∧ w = w' := by
  obtain ⟨hl, hl', hnc, hc⟩ := h.len
  obtain ⟨k, rfl⟩ := Int.eq_ofNat_of_zero_le i0
  rw [Int.toNat_natCast]
  have x0 := di_nonneg ds k
  have x1 := di_le h.ok k
  rcases Nat.lt_or_ge k n with hk | hk
  · obtain ⟨b, off, rfl, hb, hcell⟩ := h.at_ (by omega)
    have hx := hcell k hk
    clear hcell
    go_enter Tryz.func136, Tryz.ntmps136
    go_wp2
    go_ret
    exact ⟨rfl, rfl⟩
  · have e : di ds k = 0 := by rw [di_eq, dg_ge (by omega)]; rfl
    rw [e]
    clear e
    go_enter Tryz.func136, Tryz.ntmps136
    go_wp2
    go_ret
    exact ⟨rfl, rfl⟩

theorem or_shift2 {z x : Int} {s : Nat} (hs : s ≤ 31) (z0 : 0 ≤ z) (z1 : z < 2 ^ s) (x0 : 0 ≤ x) (q1 : x * 2 ^ s ≤ 18446744073709551615) : bits .or .u64 (x * 2 ^ s) z = x * 2 ^ s + z := by
  obtain ⟨a, rfl⟩ := Int.eq_ofNat_of_zero_le z0
  obtain ⟨b, rfl⟩ := Int.eq_ofNat_of_zero_le x0
  have hp31 := pow_le_31 hs
  rw [pow_cast] at *
  rw [← Int.natCast_mul] at *
  rw [u64_or_nat _ _ (by omega) (by omega), ← Nat.shiftLeft_eq, ← Nat.shiftLeft_add_eq_or_of_lt (by omega), Nat.shiftLeft_eq]
  omega
theorem div_pow_lt {s : Nat} {x : Int} (hs : s ≤ 31) (x0 : 0 ≤ x) (x1 : x ≤ 4294967295) : 0 ≤ x / 2 ^ (32 - s) ∧ x / 2 ^ (32 - s) < 2 ^ s := by
  have hp : (0 : Int) < 2 ^ (32 - s) := by have := pow_pos_1 (32 - s); omega
  refine ⟨Int.ediv_nonneg x0 (by omega), ?_⟩
  rw [Int.ediv_lt_iff_lt_mul hp, ← Int.pow_add, show s + (32 - s) = 32 from by omega]
  omega

set_option maxHeartbeats 400000 in
theorem window_any (v : Value) (ds : List Nat) (m s : Nat) (w : World) (h : DigM w v ds) (hs : s ≤ 31) (hm : (m : Int) ≤ 549755813888) (ht : (di ds (m + 2) + 1) * 2 ^ s ≤ 4294967296) :
    Calls Tryz.prog 131 #[v, .int .i64 ((m : Int) + 3), .int .u64 (s : Int)] w fun e w' => e = .returned (.int .u64 ((di ds (m + 2) * 4294967296 + di ds (m + 1)) * 2 ^ s + di ds m / 2 ^ (32 - s))) ∧ Below w.heap.size w w' := by
  obtain ⟨A, n, c, rfl⟩ := h.shape
  have d20 := di_nonneg ds (m + 2)
  have d21 := di_le h.ok (m + 2)
  have d10 := di_nonneg ds (m + 1)
  have d11 := di_le h.ok (m + 1)
  have d00 := di_nonneg ds m
  have d01 := di_le h.ok m
  have hW : Below w.heap.size w (w.alloc (.cells #[.slice A n c] 43)) := (Below.refl _ _).alloc (Nat.le_refl _) _
  have hD := h.below hW
  have hcell : (w.alloc (.cells #[.slice A n c] 43)).cell? ⟨w.heap.size, 0, none⟩ = some (.slice A n c) := by simp
  have HD := Lib.hid hD
  have HC := Lib.hid hcell
  clear hD hcell
  have hp1 := pow_le_31 hs
  have hp0 : (1 : Int) ≤ 2 ^ s := pow_pos_1 s
  have q0 : 0 ≤ di ds (m + 2) * 2 ^ s := Int.mul_nonneg d20 (by omega)
  have q1 : di ds (m + 1) * 2 ^ s ≤ 4294967295 * 2 ^ s := Int.mul_le_mul_of_nonneg_right d11 (by omega)
  have q2 : 0 ≤ di ds (m + 1) * 2 ^ s := Int.mul_nonneg d10 (by omega)
  have ht' : di ds (m + 2) * 2 ^ s + 2 ^ s ≤ 4294967296 := by rw [Int.add_mul, Int.one_mul] at ht; exact ht
  have hH : (di ds (m + 2) * 4294967296 + di ds (m + 1)) * 2 ^ s = di ds (m + 2) * 2 ^ s * 4294967296 + di ds (m + 1) * 2 ^ s := by rw [Int.add_mul, Int.mul_right_comm]
  have hH0 : 0 ≤ (di ds (m + 2) * 4294967296 + di ds (m + 1)) * 2 ^ s := by omega
  have hH1 : (di ds (m + 2) * 4294967296 + di ds (m + 1)) * 2 ^ s ≤ 18446744073709551615 := by omega
  have HH1 := Lib.hid hH1
  have r1 : IntKind.u64.wrap ((di ds (m + 2) * 4294967296 + di ds (m + 1)) * 2 ^ s) = (di ds (m + 2) * 4294967296 + di ds (m + 1)) * 2 ^ s := u64_in _ hH0 hH1
  have r4 := or_words d10 d11 d20 d21
  have R1 := Lib.hid r1
  clear hH hH0 hH1 ht ht' q0 q1 q2 r1
  have t0 : (0 : Int) ≤ 32 - (s : Int) := by omega
  go_enter Tryz.func131, Tryz.ntmps131
  go_wp2_with fail
  refine (window1_any _ _ A n c ds _ HD.out HC.out (by omega) (by omega)).mono ?_
  rw [show ((m : Int) + 3 - 1).toNat = m + 2 from by omega]
  rintro e w1 ⟨rfl, rfl⟩
  go_wp2_with fail
  refine (window1_any _ _ A n c ds _ HD.out HC.out (by omega) (by omega)).mono ?_
  rw [show ((m : Int) + 3 - 2).toNat = m + 1 from by omega]
  rintro e w1 ⟨rfl, rfl⟩
  go_wp2_with fail
  refine (window1_any _ _ A n c ds _ HD.out HC.out (by omega) (by omega)).mono ?_
  rw [Int.toNat_natCast]
  rintro e w1 ⟨rfl, rfl⟩
  have r1 := R1.out
  go_wp2_with fail
  go_ret
  exact ⟨ret_int (or_shift2 hs (div_pow_lt hs d00 d01).1 (div_pow_lt hs d00 d01).2 (by omega) HH1.out), hW⟩
end Go.Proofs.YtpanffbgihhjnaaGreat

/- Memory: a block of cells of which all is known (a boxed struct, an array), kept over what other steps do. -/
namespace Go.Proofs.YtpanffbgihhjnaaGreat
open Go.RowKit Pl

def Bk (w : World) (g : Nat) (t : TypeId) (cs : List Value) : Prop := w.heap[g]? = some (.cells cs.toArray t (0, 0))

section
variable {w w' : World} {g : Nat} {t : TypeId} {cs : List Value}
theorem Bk.lt (h : Bk w g t cs) : g < w.heap.size := lt_heap h
theorem Bk.cell (h : Bk w g t cs) (i : Nat) : w.cell? ⟨g, i, none⟩ = cs[i]? := by rw [cell_of_row w g i _ t (0, 0) h]; simp
theorem Bk.cellAt (h : Bk w g t cs) (i : Nat) {v : Value} (hv : cs[i]? = some v) : w.cell? ⟨g, i, none⟩ = some v := by rw [h.cell, hv]
theorem Bk.frozen (h : Bk w g t cs) (i : Nat) : w.frozen? ⟨g, i, none⟩ = false := frozen_of_row w g i _ t h
theorem Bk.new (w : World) (t : TypeId) (cs : List Value) : Bk (w.alloc (.cells cs.toArray t)) w.heap.size t cs := heap_alloc_new w _
theorem Bk.alloc (h : Bk w g t cs) (o : Obj) : Bk (w.alloc o) g t cs := (Below.heap_alloc w o g h.lt).trans h
theorem Bk.drew (h : Bk w g t cs) : Bk w.drew g t cs := h
theorem Bk.drewN (h : Bk w g t cs) (n : Nat) : Bk (w.drewN n) g t cs := h
theorem Bk.set_ (h : Bk w g t cs) (i : Nat) (u : Value) : Bk (w.setCell ⟨g, i, none⟩ u) g t (cs.set i u) := by
  unfold Bk at h ⊢
  rw [heap_setCell_same w g i _ t u h]
  simp
theorem Bk.far (h : Bk w g t cs) {p : Addr} (hp : g ≠ p.block) (u : Value) : Bk (w.setCell p u) g t cs := (Below.heap_setCell w p u g hp).trans h
theorem Bk.below {B : Nat} (h : Bk w g t cs) (hb : Below B w w') (hg : g < B) : Bk w' g t cs := (hb.block g hg).trans h
theorem Bk.later (h : Bk w g t cs) (hb : Below w.heap.size w w') : Bk w' g t cs := h.below hb h.lt
theorem Bk.grown {row : Option Nat} (h : Bk w g t cs) (hg : w.grownBy w' row) (hne : some g ≠ row) : Bk w' g t cs := (hg.block g h.lt hne).trans h
theorem Bk.ne_of {g' : Nat} {t' : TypeId} {cs' : List Value} (h : Bk w g t cs) (h' : Bk w g' t' cs') (hne : t ≠ t') : g ≠ g' := by
  rintro rfl
  unfold Bk at h h'
  rw [h] at h'
  injection h' with h'
  injection h' with _ h2 _
  exact hne h2
theorem Bk.keepD (h : Bk w g t cs) (ht : t ≠ 85) (i : Nat) (u : Value) : Keep w (w.setCell ⟨g, i, none⟩ u) := Keep.setCell h ht i u
end

theorem ret_cell {P : Program} {fn : Func} {R : Ending → World → Prop} {a : Act} {w : World} {p : Tmp} {ty : TypeId} {g : Nat} {t : TypeId} {cs : List Value} {fs : Array Field} (hres : fn.results = #[.cell p ty]) (hu : P.underlying ty = some (.struct fs)) (hi : (P.info? ty).map (·.size) = some cs.length)
    (hp : a.tmps.getD p undef = .pointer (some ⟨g, 0, none⟩)) (hB : Bk w g t cs) (hd : a.defers = []) (hR : R (.returned (.agg cs.toArray)) w) : bodyPost P fn R .ret a w :=
  bodyPost_ret (results_cell_row hres a.tmps w g t cs.toArray (0, 0) _ hp hB hu rfl (by simpa using hi)) hd hR

end Go.Proofs.YtpanffbgihhjnaaGreat

/- Walks: package integer: cofactors. -/
namespace Go.Proofs.YtpanffbgihhjnaaGreat
open Go.RowKit Pl

theorem win_val {X m s : Nat} (hs : s ≤ 31) (hl : (digs X).length ≤ m + 3) : (di (digs X) (m + 2) * 4294967296 + di (digs X) (m + 1)) * 2 ^ s + di (digs X) m / 2 ^ (32 - s) = ((X / (2 ^ (32 - s) * B32 ^ m) : Nat) : Int) := by
  have hX : X = vt (digs X) (m + 3) := by rw [vt_ge hl, val_digs]
  have e : X / (2 ^ (32 - s) * B32 ^ m) = (dg (digs X) (m + 2) * B32 + dg (digs X) (m + 1)) * 2 ^ s + dg (digs X) m / 2 ^ (32 - s) := by
    have hlow := vt_lt (okD_digs X) m
    conv => lhs; rw [hX]
    rw [vt_top3, Nat.mul_comm (2 ^ (32 - s)), ← Nat.div_div_eq_div_mul, Nat.mul_comm _ (B32 ^ m), Nat.mul_add_div (Nat.pow_pos B32_pos), Nat.div_eq_of_lt hlow, Nat.add_zero]
    have hB : B32 = 2 ^ (32 - s) * 2 ^ s := by rw [← Nat.pow_add, show 32 - s + s = 32 from by omega]; rfl
    generalize dg (digs X) (m + 2) * B32 + dg (digs X) (m + 1) = T
    have hp := Nat.pow_pos (n := 32 - s) (show 0 < 2 by decide)
    rw [hB, show T * (2 ^ (32 - s) * 2 ^ s) = 2 ^ (32 - s) * (T * 2 ^ s) from by rw [Nat.mul_left_comm], Nat.mul_add_div hp]
  rw [e, Int.natCast_add, Int.natCast_ediv, Int.natCast_mul, Int.natCast_add, Int.natCast_mul, ← pow_cast, ← pow_cast]
  rfl
theorem top_up {t s : Nat} (hs : s ≤ 31) (h1 : t * 2 ^ s ≤ 4294967295) : (t + 1) * 2 ^ s ≤ 4294967296 := by
  have hB : 2 ^ s * 2 ^ (32 - s) = 4294967296 := by rw [← Nat.pow_add, show s + (32 - s) = 32 from by omega]
  have a : t * 2 ^ s < 2 ^ (32 - s) * 2 ^ s := by rw [Nat.mul_comm (2 ^ (32 - s)), hB]; omega
  have b := Nat.lt_of_mul_lt_mul_right a
  have c : (t + 1) * 2 ^ s ≤ 2 ^ (32 - s) * 2 ^ s := Nat.mul_le_mul_right _ b
  rwa [Nat.mul_comm (2 ^ (32 - s)), hB] at c
theorem dg_top {X m : Nat} (hl : (digs X).length ≤ m + 3) : dg (digs X) (m + 2) = X / B32 ^ (m + 2) := by
  have hX : X = vt (digs X) (m + 3) := by rw [vt_ge hl, val_digs]
  have hlow := vt_lt (okD_digs X) (m + 2)
  conv => rhs; rw [hX]
  rw [vt_succ', Nat.add_comm (vt _ _), Nat.mul_comm (dg _ _), Nat.mul_add_div (Nat.pow_pos B32_pos), Nat.div_eq_of_lt hlow]
  rfl
theorem win_le {X m s : Nat} (hs : s ≤ 31) (hl : (digs X).length ≤ m + 3) (ht : (di (digs X) (m + 2) + 1) * 2 ^ s ≤ 4294967296) : ((X / (2 ^ (32 - s) * B32 ^ m) : Nat) : Int) ≤ 18446744073709551615 := by
  rw [← win_val hs hl]
  have d10 := di_nonneg (digs X) (m + 1)
  have d11 := di_le (okD_digs X) (m + 1)
  have d00 := di_nonneg (digs X) m
  have d01 := di_le (okD_digs X) m
  have hp0 : (1 : Int) ≤ 2 ^ s := pow_pos_1 s
  have hp1 := pow_le_31 hs
  have q1 : di (digs X) (m + 1) * 2 ^ s ≤ 4294967295 * 2 ^ s := Int.mul_le_mul_of_nonneg_right d11 (by omega)
  obtain ⟨z0, z1⟩ := div_pow_lt hs d00 d01
  rw [Int.add_mul, Int.one_mul] at ht
  rw [Int.add_mul, Int.mul_right_comm]
  omega

set_option maxRecDepth 100000 in
set_option maxHeartbeats 2000000 in
theorem cofactors_any (v1 v2 : Value) (X Y m : Nat) (w : World) (h1 : DigM w v1 (digs X)) (h2 : DigM w v2 (digs Y)) (hl1 : (digs X).length = m + 3) (hYX : Y ≤ X) (hm : (m : Int) ≤ 549755813888) :
    Calls Tryz.prog 124 #[v1, v2] w fun e w' => ∃ (u0 u1 v0 v1 : Int) (ev : Bool), e = .returned (.agg #[.int .u64 u0, .int .u64 u1, .int .u64 v0, .int .u64 v1, .bool ev]) ∧
      0 ≤ u0 ∧ u0 ≤ 4294967295 ∧ 0 ≤ u1 ∧ u1 ≤ 4294967295 ∧ 0 ≤ v0 ∧ v0 ≤ 4294967295 ∧ 0 ≤ v1 ∧ v1 ≤ 4294967295 ∧ (v0 ≠ 0 → ∃ R0 R1 : Nat, Cof X Y u0.toNat u1.toNat v0.toNat v1.toNat ev R0 R1) ∧ Below w.heap.size w w' := by
  have hl2 : (digs Y).length ≤ m + 3 := by have := digs_len_mono hYX; omega
  have hXpos : 0 < X := by
    rcases Nat.eq_zero_or_pos X with e | e
    · subst e; rw [digs_zero] at hl1; simp at hl1
    · exact e
  have y0 : 1 ≤ di (digs X) (m + 2) := by
    have := dg_digs_last hXpos
    rw [hl1] at this
    rw [di_eq]
    simp at this
    omega
  have y1 := di_le (okD_digs X) (m + 2)
  have htt : di (digs Y) (m + 2) ≤ di (digs X) (m + 2) := by
    rw [di_eq, di_eq, dg_top hl2, dg_top (by omega)]
    have := Nat.div_le_div_right (c := B32 ^ (m + 2)) hYX
    omega
  have HTT := Lib.hid htt
  have HL2 := Lib.hid hl2
  have HYX := Lib.hid hYX
  clear htt hl2 hYX
  obtain ⟨A, n1, c, rfl⟩ := h1.shape
  obtain ⟨kl, kl', knc, kc⟩ := h1.len
  obtain ⟨b1, off1, rfl, hb1, hcell1⟩ := h1.at_ (by omega)
  obtain rfl : n1 = m + 3 := by omega
  have hx := hcell1 (m + 2) (by omega)
  have HL1 := Lib.hid hl1
  clear hcell1 hl1 kl kl'
  go_enter Tryz.func124, Tryz.ntmps124
  go_wp2_with fail
  refine (clz32_any _ _ y0 y1).mono ?_
  rintro e w1 ⟨s, rfl, rfl, hs31, ht0, ht1⟩
  have hup : (di (digs X) (m + 2) + 1) * 2 ^ s ≤ 4294967296 := by
    have := top_up hs31 (top_nat' ht1)
    rw [di_eq, pow_cast, show ((dg (digs X) (m + 2) : Nat) : Int) + 1 = ((dg (digs X) (m + 2) + 1 : Nat) : Int) from by omega, ← Int.natCast_mul]
    omega
  have hup2 : (di (digs Y) (m + 2) + 1) * 2 ^ s ≤ 4294967296 := by
    have : (di (digs Y) (m + 2) + 1) * 2 ^ s ≤ (di (digs X) (m + 2) + 1) * 2 ^ s := Int.mul_le_mul_of_nonneg_right (by have := HTT.out; omega) (by have := pow_pos_1 s; omega)
    omega
  have HU1 := Lib.hid hup
  have HU2 := Lib.hid hup2
  clear ht0 ht1 hup hup2
  have hW : Below w.heap.size w (w.alloc (.cells #[.int .u64 0, .int .u64 0, .int .u64 0, .int .u64 0, .bool false] 134)) := (Below.refl _ _).alloc (Nat.le_refl _) _
  have hR0 := Bk.new w 134 [.int .u64 0, .int .u64 0, .int .u64 0, .int .u64 0, .bool false]
  have eX := win_val hs31 (show (digs X).length ≤ m + 3 by rw [HL1.out]; exact Nat.le_refl _)
  have eY := win_val hs31 HL2.out
  have hAle := win_le hs31 (show (digs X).length ≤ m + 3 by rw [HL1.out]; exact Nat.le_refl _) HU1.out
  have hBA : Y / (2 ^ (32 - s) * B32 ^ m) ≤ X / (2 ^ (32 - s) * B32 ^ m) := Nat.div_le_div_right HYX.out
  have hDpos : 0 < 2 ^ (32 - s) * B32 ^ m := Nat.mul_pos (Nat.pow_pos (by decide)) (Nat.pow_pos B32_pos)
  have hXd := Nat.div_add_mod X (2 ^ (32 - s) * B32 ^ m)
  have hYd := Nat.div_add_mod Y (2 ^ (32 - s) * B32 ^ m)
  have hXm := Nat.mod_lt X hDpos
  have hYm := Nat.mod_lt Y hDpos
  generalize 2 ^ (32 - s) * B32 ^ m = D at *
  obtain ⟨A0, hA0⟩ : ∃ A0, A0 = X / D := ⟨_, rfl⟩
  obtain ⟨B0, hB0⟩ : ∃ B0, B0 = Y / D := ⟨_, rfl⟩
  rw [← hA0] at hAle hBA hXd eX
  rw [← hB0] at hBA hYd eY
  have hLeh := Leh.start (X := X) (Y := Y) hBA
  have hstep : ∀ (a1 a2 u0 u1 u2 v0 v1 v2 : Int) (ev : Bool), Leh A0 B0 X Y a1 a2 u0 u1 u2 v0 v1 v2 ev → v2 ≤ a2 → v1 + v2 ≤ a1 - a2 → Leh A0 B0 X Y a2 (a1 % a2) u1 u2 (u1 + (a1 / a2) * u2) v1 v2 (v1 + (a1 / a2) * v2) (!ev) := by
    intro a1 a2 u0 u1 u2 v0 v1 v2 ev hh c1 c2
    refine hh.step (D := D) (e1 := (X % D : Nat)) (e2 := (Y % D : Nat)) (by omega) ?_ ?_ (by omega) (by omega) (by omega) (by omega) hAle c1 c2
    · have : ((D * A0 : Nat) : Int) = (A0 : Int) * D := by rw [Int.natCast_mul, Int.mul_comm]
      omega
    · have : ((D * B0 : Nat) : Int) = (B0 : Int) * D := by rw [Int.natCast_mul, Int.mul_comm]
      omega
  have HST := Lib.hid hstep
  have hb0 : (B0 : Int) ≤ 18446744073709551615 := by omega
  have hA00 : (0 : Int) ≤ A0 := by omega
  have hB00 : (0 : Int) ≤ B0 := by omega
  have hBA' : (B0 : Int) ≤ A0 := by omega
  clear hstep hXd hYd hXm hYm hBA hA0 hB0 hDpos
  obtain ⟨AI, hAI⟩ : ∃ AI : Int, AI = (A0 : Int) := ⟨_, rfl⟩
  obtain ⟨BI, hBI⟩ : ∃ BI : Int, BI = (B0 : Int) := ⟨_, rfl⟩
  rw [← hAI] at hAle hA00 eX hBA' hLeh
  rw [← hBI] at hb0 hB00 eY hBA' hLeh
  have EX := Lib.hid eX
  have EY := Lib.hid eY
  have HLEH := Lib.hid hLeh
  have HAI := Lib.hid hAI
  clear hAI hBI eX eY hLeh
  go_wp2_with fail
  refine (window_any _ (digs X) m s _ (h1.below hW) hs31 hm HU1.out).mono ?_
  rw [EX.out]
  rintro e w2 ⟨rfl, hbe2⟩
  have hR2 := hR0.later hbe2
  have hbW2 : Below w.heap.size w w2 := hW.trans (hbe2.mono (by simp))
  clear hR0 hbe2 hW
  go_wp2_with fail
  refine (window_any _ (digs Y) m s _ (h2.below hbW2) hs31 hm HU2.out).mono ?_
  rw [EY.out]
  rintro e w3 ⟨rfl, hbe3⟩
  have hR3 := hR2.later hbe3
  have hbW3 : Below w.heap.size w w3 := hbW2.trans (hbe3.mono hbW2.size)
  clear hR2 hbe3 hbW2
  go_wp2_with fail
  go_loopw [7, 8, 10, 11] (fun t1 t2 t3 t4 wr => ∃ (a1 a2 u0 u1 u2 v0 v1 v2 : Int) (ev : Bool), t1 = .int .u64 a1 ∧ t2 = .int .u64 a2 ∧ t3 = .int .u64 u2 ∧ t4 = .int .u64 v2 ∧
      Bk wr w3.heap.size 134 [.int .u64 u0, .int .u64 u1, .int .u64 v0, .int .u64 v1, .bool ev] ∧ Bk wr w.heap.size 134 [.int .u64 0, .int .u64 0, .int .u64 0, .int .u64 0, .bool false] ∧ Below w.heap.size w wr ∧ a1 ≤ AI ∧ Leh A0 B0 X Y a1 a2 u0 u1 u2 v0 v1 v2 ev) (fun _ t2 _ _ _ => (intOf t2).toNat)
  case atStart => exact ⟨AI, BI, 0, 1, 0, 0, 0, 1, false, rfl, rfl, rfl, rfl, Bk.new w3 _ _, hR3.alloc _, hbW3.alloc hbW3.size _, Int.le_refl _, HLEH.out⟩
  case round =>
    obtain ⟨a1, a2, u0, u1, u2, v0, v1, v2, ev, rfl, rfl, rfl, rfl, hC, hR, hbe, haA, hL⟩ := hrel
    have n1 := hL.a2n
    have n2 := hL.a21
    have n3 := hL.v2n
    have n4 := hL.v1n
    have n5 := hL.u1n
    have n6 := hL.u2n
    have n7 := hL.u0n
    have n8 := hL.v0n
    have n9 := hL.b1
    have n10 := hL.b3
    have n11 := hL.b0
    have n12 := hL.b2
    have e0 := hC.cellAt 0 rfl
    have e1 := hC.cellAt 1 rfl
    have e2 := hC.cellAt 2 rfl
    have e3 := hC.cellAt 3 rfl
    have e4 := hC.cellAt 4 rfl
    have f0 := hC.frozen 0
    have f1 := hC.frozen 1
    have f2 := hC.frozen 2
    have f3 := hC.frozen 3
    have f4 := hC.frozen 4
    have HL := Lib.hid hL
    clear hL
    have hdec : (decide (v2 ≤ a2) = false ∧ decide (v2 ≤ a2) = false) ∨ (v2 ≤ a2 ∧ a1 - a2 < v1 + v2) ∨ (v2 ≤ a2 ∧ v1 + v2 ≤ a1 - a2) := by
      rcases Int.lt_or_le a2 v2 with c1 | c1
      · left; simp; omega
      · right; rcases Int.lt_or_le (a1 - a2) (v1 + v2) with c2 | c2
        · left; exact ⟨c1, c2⟩
        · right; exact ⟨c1, c2⟩
    have hsum : v2 ≤ a2 → v1 + v2 ≤ 18446744073709551615 := fun c1 => by
      obtain ⟨r1, r2, r3, r4, r5⟩ := HL.out.room c1
      have : 1 * v2 ≤ a1 / a2 * v2 := Int.mul_le_mul_of_nonneg_right r5 (by omega)
      have := HAI.out
      omega
    have hne : w.heap.size ≠ w3.heap.size := by have := hR3.lt; omega
    have hlt3 := hR3.lt
    rcases hdec with ⟨c1, _⟩ | ⟨c1, c2⟩ | ⟨c1, c2⟩
    · have g0 := hR.cellAt 0 rfl
      have g1 := hR.cellAt 1 rfl
      have g2 := hR.cellAt 2 rfl
      have g3 := hR.cellAt 3 rfl
      have g4 := hR.cellAt 4 rfl
      have k0 := hR.frozen 0
      have k1 := hR.frozen 1
      have k2 := hR.frozen 2
      have k3 := hR.frozen 3
      have k4 := hR.frozen 4
      go_wp2
      refine ret_cell Tryz.results124 Tryz.underlying134 (by kernel_rfl) rfl (((((hR.set_ 0 _).set_ 1 _).set_ 2 _).set_ 3 _).set_ 4 _) rfl ?_
      exact ⟨u0, u1, v0, v1, ev, rfl, n7, n11, n5, n9, n8, n12, n4, n10, fun h => HL.out.cof h, ((((hbe.setCell (Nat.le_refl _) _).setCell (Nat.le_refl _) _).setCell (Nat.le_refl _) _).setCell (Nat.le_refl _) _).setCell (Nat.le_refl _) _⟩
    · have hs1 := hsum c1
      have c2' : decide (v1 + v2 ≤ a1 - a2) = false := by simp; omega
      have g0 := hR.cellAt 0 rfl
      have g1 := hR.cellAt 1 rfl
      have g2 := hR.cellAt 2 rfl
      have g3 := hR.cellAt 3 rfl
      have g4 := hR.cellAt 4 rfl
      have k0 := hR.frozen 0
      have k1 := hR.frozen 1
      have k2 := hR.frozen 2
      have k3 := hR.frozen 3
      have k4 := hR.frozen 4
      go_wp2
      refine ret_cell Tryz.results124 Tryz.underlying134 (by kernel_rfl) rfl (((((hR.set_ 0 _).set_ 1 _).set_ 2 _).set_ 3 _).set_ 4 _) rfl ?_
      exact ⟨u0, u1, v0, v1, ev, rfl, n7, n11, n5, n9, n8, n12, n4, n10, fun h => HL.out.cof h, ((((hbe.setCell (Nat.le_refl _) _).setCell (Nat.le_refl _) _).setCell (Nat.le_refl _) _).setCell (Nat.le_refl _) _).setCell (Nat.le_refl _) _⟩
    · have hs1 := hsum c1
      obtain ⟨r1, r2, r3, r4, r5⟩ := HL.out.room c1
      have hNew := HST.out _ _ _ _ _ _ _ _ _ HL.out c1 c2
      have HN := Lib.hid hNew
      have m0 := hNew.a2n
      have m1 : a1 % a2 < a2 := Int.emod_lt_of_pos _ (by omega)
      have hA := HAI.out
      have d1 : a1 / a2 ≤ a1 := Int.ediv_le_self _ (by omega)
      have q0 : ¬ a2 = 0 := by omega
      have q2 : a1.tmod a2 = a1 % a2 := Int.tmod_eq_emod_of_nonneg (by omega)
      have q3 : IntKind.u64.wrap (a1 % a2) = a1 % a2 := u64_in _ m0 (by omega)
      rw [← hA] at r1 r2
      clear hNew hA
      go_wp2
      go_quiet (fail)
      clear q0 q2 q3
      go_wp2
      go_roundw
      case rel =>
        refine ⟨a2, a1 % a2, u1, u2, _, v1, v2, _, !ev, rfl, rfl, rfl, rfl, ?_, ?_, ?_, by omega, HN.out⟩
        · exact ((((((hC.drewN nq).set_ 0 _).set_ 1 _).set_ 2 _).set_ 3 _).set_ 4 _)
        · exact ((((((hR.drewN nq).far hne _).far hne _).far hne _).far hne _).far hne _)
        · have hb := below_drewN hbe nq
          exact ((((hb.setCell (Nat.le_of_lt hlt3) _).setCell (Nat.le_of_lt hlt3) _).setCell (Nat.le_of_lt hlt3) _).setCell (Nat.le_of_lt hlt3) _).setCell (Nat.le_of_lt hlt3) _
      case measure => simp [intOf]; omega
end Go.Proofs.YtpanffbgihhjnaaGreat

/- Walks: package integer: gcdMag. -/
namespace Go.Proofs.YtpanffbgihhjnaaGreat
open Go.RowKit Pl
attribute [local go_sem ↓] Go.wp_at_zero Go.wp_at_succ

theorem cof_even {X Y u0 u1 v0 v1 R0 R1 : Nat} (h : Cof X Y u0 u1 v0 v1 true R0 R1) : (u0 : Int) * X - (v0 : Int) * Y = R0 ∧ (v1 : Int) * Y - (u1 : Int) * X = R1 := by
  have a := h.e0
  have b := h.e1
  simp only [if_true] at a b
  rw [Int.mul_comm (u0 : Int), Int.mul_comm (v0 : Int), Int.mul_comm (v1 : Int), Int.mul_comm (u1 : Int), ← Int.natCast_mul, ← Int.natCast_mul, ← Int.natCast_mul, ← Int.natCast_mul]
  omega
theorem cof_odd {X Y u0 u1 v0 v1 R0 R1 : Nat} (h : Cof X Y u0 u1 v0 v1 false R0 R1) : (v0 : Int) * Y - (u0 : Int) * X = R0 ∧ (u1 : Int) * X - (v1 : Int) * Y = R1 := by
  have a := h.e0
  have b := h.e1
  simp only [Bool.false_eq_true, if_false] at a b
  rw [Int.mul_comm (u0 : Int), Int.mul_comm (v0 : Int), Int.mul_comm (v1 : Int), Int.mul_comm (u1 : Int), ← Int.natCast_mul, ← Int.natCast_mul, ← Int.natCast_mul, ← Int.natCast_mul]
  omega

theorem combine_mag (v1 v2 : Value) (X Y : Nat) (u v : Int) (R : Nat) (w : World) (h1 : DigM w v1 (digs X)) (h2 : DigM w v2 (digs Y)) (u0 : 0 ≤ u) (u1 : u ≤ 4294967295) (w0 : 0 ≤ v) (w1 : v ≤ 4294967295) (hs : (digs X).length ≤ 549755813888) (hs2 : (digs Y).length ≤ 549755813888)
    (hR : u * X - v * Y = (R : Int)) (hlt : R ≤ X ∨ R ≤ Y) :
    Calls Tryz.prog 125 #[v1, .int .u64 u, v2, .int .u64 v] w fun e w' => ∃ v', e = .returned v' ∧ DigM w' v' (digs R) ∧ Below w.heap.size w w' := by
  have hX := digs_lt_pow X
  have hY := digs_lt_pow Y
  rcases Nat.lt_or_ge (digs X).length (digs Y).length with h | h
  · have := Nat.pow_le_pow_right B32_pos (Nat.le_of_lt h)
    exact combine_lt v1 v2 (digs X) (digs Y) u v R w h1 h2 h u0 u1 w0 w1 hs2 (by rw [val_digs, val_digs]; exact hR) (by omega)
  · have := Nat.pow_le_pow_right B32_pos h
    exact combine_ge v1 v2 (digs X) (digs Y) u v R w h1 h2 h u0 u1 w0 w1 hs (by rw [val_digs, val_digs]; exact hR) (by omega)

def GcdAt (G : Nat) (w : World) (Y : Nat) (v1 v2 : Value) (wr : World) : Prop :=
  ∃ X : Nat, DigM wr v1 (digs X) ∧ DigM wr v2 (digs Y) ∧ Y ≤ X ∧ Nat.gcd X Y = G ∧ (digs X).length ≤ 549755813888 ∧ Below w.heap.size w wr

set_option maxRecDepth 100000 in
set_option maxHeartbeats 4000000 in
theorem gcdMag_any (v1 v2 : Value) (X Y : Nat) (w : World) (h1 : DigM w v1 (digs X)) (h2 : DigM w v2 (digs Y)) (hs : (digs X).length ≤ 549755813888) (hs2 : (digs Y).length ≤ 549755813888) :
    Calls Tryz.prog 120 #[v1, v2] w fun e w' => ∃ v', e = .returned v' ∧ DigM w' v' (digs (Nat.gcd X Y)) ∧ Below w.heap.size w w' := by
  generalize hG : Nat.gcd X Y = G
  have HG := Lib.hid hG
  clear hG
  go_enter Tryz.func120, Tryz.ntmps120
  go_wp2_with fail
  refine (compareMag_any _ _ X Y _ h1 h2).mono ?_
  rintro e w1 ⟨rfl, hbe1⟩
  have g1 := h1.below hbe1
  have g2 := h2.below hbe1
  have start : (Y ≤ X ∧ 0 ≤ cmpN X Y) ∨ (X ≤ Y ∧ cmpN X Y < 0) := by
    rcases Nat.lt_trichotomy X Y with h | h | h
    · right; exact ⟨by omega, by rw [cmpN_lt h]; decide⟩
    · left; exact ⟨by omega, by rw [cmpN_eq h]; decide⟩
    · left; exact ⟨by omega, by rw [cmpN_gt h]; decide⟩
  generalize cmpN X Y = cc at *
  go_upto_if 15 with (fail)
  go_cut [0, 1] (fun s0 s1 wx => ∃ n, GcdAt G w n s0 s1 wx)
  case first =>
    rcases start with ⟨hle, hc⟩ | ⟨hle, hc⟩
    · go_wp2_with fail
      go_meet
      exact ⟨Y, X, g1, g2, hle, HG.out, hs, hbe1⟩
    · go_wp2_with fail
      go_meet
      exact ⟨X, Y, g2, g1, hle, by rw [Nat.gcd_comm]; exact HG.out, hs2, hbe1⟩
  case rest =>
    obtain ⟨n0, hn0⟩ := hcut
    have HN0 := Lib.hid hn0
    clear hn0 h1 h2 g1 g2 start HG hs hs2 hbe1
    go_wp2_with fail
    go_loopg [0, 1] n0 (fun k s0 s1 wr => GcdAt G w k s0 s1 wr)
    case atStart => exact HN0.out
    case round =>
      obtain ⟨X', hx, hy, hle, hgcd, hlen, hbe⟩ := hrel
      have HGC := Lib.hid hgcd
      clear hgcd
      obtain ⟨A, l, c, rfl⟩ := hx.shape
      obtain ⟨hl, hl', hnc, hc⟩ := hx.len
      obtain ⟨A2, l2, c2, rfl⟩ := hy.shape
      obtain ⟨kl, kl', knc, kc⟩ := hy.len
      have hll := digs_len_mono hle
      rcases Nat.lt_or_ge 2 l2 with h2 | h2
      · go_wp2_with fail
        refine (cofactors_any _ _ X' gk (l - 3) _ hx hy (by omega) hle (by omega)).mono ?_
        rintro e w2 ⟨u0, u1, v0, v1, ev, rfl, a0, a1, b0, b1, c0, c1, d0, d1, hcof, hbe2⟩
        have HCOF := Lib.hid hcof
        clear hcof
        have hx2 := hx.below hbe2
        have hy2 := hy.below hbe2
        have hlen2 : (digs gk).length ≤ 549755813888 := by omega
        have tok : True := trivial
        by_cases hv0 : v0 = 0
        · subst hv0
          have hkpos : 0 < gk := by
            rcases Nat.eq_zero_or_pos gk with e | e
            · subst e; rw [digs_zero] at kl; simp at kl; omega
            · exact e
          go_wp2_with fail
          refine (divMag_any _ _ X' gk _ (hx2.below ((Below.refl _ _).alloc (Nat.le_refl _) _)) (hy2.below ((Below.refl _ _).alloc (Nat.le_refl _) _)) hkpos hlen hlen2).mono ?_
          rintro e w3 ⟨qv, rv, rfl, hq, hr, hbe3⟩
          have hb3 : Below w2.heap.size w2 w3 := ((Below.refl _ _).alloc (Nat.le_refl _) _).trans (hbe3.mono (by simp))
          have hb2 := hbe.trans (hbe2.mono hbe.size)
          have hb4 := hb2.trans (hb3.mono hb2.size)
          have hy4 := hy2.below hb3
          clear hbe3
          go_wp2_with fail
          go_roundg (X' % gk)
          case measure => exact Nat.mod_lt _ hkpos
          case rel => exact ⟨gk, hy4, hr, Nat.le_of_lt (Nat.mod_lt _ hkpos), by rw [← HGC.out, Nat.gcd_comm X' gk, Nat.gcd_rec gk X', Nat.gcd_comm], hlen2, hb4⟩
        · have hvb : (v0 == 0) = false := by simpa using hv0
          obtain ⟨R0, R1, hC⟩ := HCOF.out hv0
          cases ev with
          | true =>
            have HC := Lib.hid hC
            obtain ⟨hc1, hc2⟩ := cof_even hC
            simp only [Int.toNat_of_nonneg a0, Int.toNat_of_nonneg b0, Int.toNat_of_nonneg c0, Int.toNat_of_nonneg d0] at hc1 hc2
            have HC1 := Lib.hid hc1
            have HC2 := Lib.hid hc2
            clear hC hc1 hc2 HCOF
            go_wp2_with fail
            have hBk := Bk.new w2 134 [.int .u64 u0, .int .u64 u1, .int .u64 v0, .int .u64 v1, .bool true]
            have hW : Below w2.heap.size w2 (w2.alloc (.cells #[.int .u64 u0, .int .u64 u1, .int .u64 v0, .int .u64 v1, .bool true] 134)) := (Below.refl _ _).alloc (Nat.le_refl _) _
            have hx3 := hx2.below hW
            have hy3 := hy2.below hW
            have hbe3 := (hbe.trans (hbe2.mono hbe.size)).trans (hW.mono (Nat.le_trans hbe.size hbe2.size))
            have q0 := hBk.cellAt 0 rfl
            have q1 := hBk.cellAt 1 rfl
            have q2 := hBk.cellAt 2 rfl
            have q3 := hBk.cellAt 3 rfl
            generalize w2.heap.size = B2 at *
            simp only [List.toArray] at hBk
            generalize w2.alloc (.cells #[.int .u64 u0, .int .u64 u1, .int .u64 v0, .int .u64 v1, .bool true] 134) = W at *
            clear hW hBk hx2 hy2 hbe2
            go_region_held3 (fun w' => w'.cell? ⟨B2, 0, none⟩ = some (.int .u64 u0) ∧ w'.cell? ⟨B2, 1, none⟩ = some (.int .u64 u1) ∧ w'.cell? ⟨B2, 2, none⟩ = some (.int .u64 v0) ∧ w'.cell? ⟨B2, 3, none⟩ = some (.int .u64 v1))
              (first | exact ⟨q0, q1, q2, q3⟩ | exact ⟨cell_later hbe4 q0, cell_later hbe4 q1, cell_later hbe4 q2, cell_later hbe4 q3⟩ | exact ⟨cell_later hbe5 (cell_later hbe4 q0), cell_later hbe5 (cell_later hbe4 q1), cell_later hbe5 (cell_later hbe4 q2), cell_later hbe5 (cell_later hbe4 q3)⟩)
              (first | (go_at_call 125; have _t := tok; refine (combine_mag _ _ X' gk u0 v0 R0 _ (hx3.keep (Keep.drew _)) (hy3.keep (Keep.drew _)) a0 a1 c0 c1 hlen hlen2 HC1.out (.inr HC.out.le)).mono ?_; clear tok _t; rintro e w4 ⟨v4, rfl, hv4, hbe4⟩) | (go_at_call 125; refine (combine_mag _ _ gk X' v1 u1 R1 _ (hy3.keep ((Keep.drew _).trans (Keep.of_below hbe4))) (hx3.keep ((Keep.drew _).trans (Keep.of_below hbe4))) d0 d1 b0 b1 hlen2 hlen HC2.out (.inl (by have := HC.out.le; have := HC.out.lt; omega))).mono ?_; rintro e w5 ⟨v5, rfl, hv5, hbe5⟩))
            go_wp2_with fail
            go_roundg R1
            case measure => have := HC.out.le; have := HC.out.lt; omega
            case rel => exact ⟨R0, hv4.below hbe5, hv5, Nat.le_of_lt HC.out.lt, by rw [HC.out.gcd]; exact HGC.out, Nat.le_trans (digs_len_mono HC.out.le) hlen2, hbe3.trans (((below_drew hbe4).trans (hbe5.mono hbe4.size)).mono hbe3.size)⟩
          | false =>
            have HC := Lib.hid hC
            obtain ⟨hc1, hc2⟩ := cof_odd hC
            simp only [Int.toNat_of_nonneg a0, Int.toNat_of_nonneg b0, Int.toNat_of_nonneg c0, Int.toNat_of_nonneg d0] at hc1 hc2
            have HC1 := Lib.hid hc1
            have HC2 := Lib.hid hc2
            clear hC hc1 hc2 HCOF
            go_wp2_with fail
            have hBk := Bk.new w2 134 [.int .u64 u0, .int .u64 u1, .int .u64 v0, .int .u64 v1, .bool false]
            have hW : Below w2.heap.size w2 (w2.alloc (.cells #[.int .u64 u0, .int .u64 u1, .int .u64 v0, .int .u64 v1, .bool false] 134)) := (Below.refl _ _).alloc (Nat.le_refl _) _
            have hx3 := hx2.below hW
            have hy3 := hy2.below hW
            have hbe3 := (hbe.trans (hbe2.mono hbe.size)).trans (hW.mono (Nat.le_trans hbe.size hbe2.size))
            have q0 := hBk.cellAt 0 rfl
            have q1 := hBk.cellAt 1 rfl
            have q2 := hBk.cellAt 2 rfl
            have q3 := hBk.cellAt 3 rfl
            generalize w2.heap.size = B2 at *
            simp only [List.toArray] at hBk
            generalize w2.alloc (.cells #[.int .u64 u0, .int .u64 u1, .int .u64 v0, .int .u64 v1, .bool false] 134) = W at *
            clear hW hBk hx2 hy2 hbe2
            go_region_held3 (fun w' => w'.cell? ⟨B2, 0, none⟩ = some (.int .u64 u0) ∧ w'.cell? ⟨B2, 1, none⟩ = some (.int .u64 u1) ∧ w'.cell? ⟨B2, 2, none⟩ = some (.int .u64 v0) ∧ w'.cell? ⟨B2, 3, none⟩ = some (.int .u64 v1))
              (first | exact ⟨q0, q1, q2, q3⟩ | exact ⟨cell_later hbe4 q0, cell_later hbe4 q1, cell_later hbe4 q2, cell_later hbe4 q3⟩ | exact ⟨cell_later hbe5 (cell_later hbe4 q0), cell_later hbe5 (cell_later hbe4 q1), cell_later hbe5 (cell_later hbe4 q2), cell_later hbe5 (cell_later hbe4 q3)⟩)
              (first | (go_at_call 125; have _t := tok; refine (combine_mag _ _ gk X' v0 u0 R0 _ (hy3.keep (Keep.drew _)) (hx3.keep (Keep.drew _)) c0 c1 a0 a1 hlen2 hlen HC1.out (.inl HC.out.le)).mono ?_; clear tok _t; rintro e w4 ⟨v4, rfl, hv4, hbe4⟩) | (go_at_call 125; refine (combine_mag _ _ X' gk u1 v1 R1 _ (hx3.keep ((Keep.drew _).trans (Keep.of_below hbe4))) (hy3.keep ((Keep.drew _).trans (Keep.of_below hbe4))) b0 b1 d0 d1 hlen hlen2 HC2.out (.inr (by have := HC.out.le; have := HC.out.lt; omega))).mono ?_; rintro e w5 ⟨v5, rfl, hv5, hbe5⟩))
            go_wp2_with fail
            go_roundg R1
            case measure => have := HC.out.le; have := HC.out.lt; omega
            case rel => exact ⟨R0, hv4.below hbe5, hv5, Nat.le_of_lt HC.out.lt, by rw [HC.out.gcd]; exact HGC.out, Nat.le_trans (digs_len_mono HC.out.le) hlen2, hbe3.trans (((below_drew hbe4).trans (hbe5.mono hbe4.size)).mono hbe3.size)⟩
      · rcases Nat.eq_zero_or_pos l2 with h0 | h0
        · obtain rfl : l2 = 0 := h0
          have hk0 : gk = 0 := digs_eq_nil.1 (List.length_eq_zero_iff.1 (by omega))
          go_wp2_with fail
          refine (clone_any _ (digs X') _ hx (by omega)).mono ?_
          rintro e w2 ⟨v', rfl, hown, hbe2⟩
          go_wp2
          go_ret
          refine ⟨_, rfl, ?_, hbe.trans (hbe2.mono hbe.size)⟩
          rw [← HGC.out, hk0, Nat.gcd_zero_right]
          exact own_dig hown (okD_digs X')
        · have t1 : ((l2 : Int) == 0) = false := by simp; omega
          have hkpos : 0 < gk := by
            rcases Nat.eq_zero_or_pos gk with e | e
            · subst e; rw [digs_zero] at kl; simp at kl; omega
            · exact e
          have hk2 : gk < B32 * B32 := digs_len2 (by omega)
          rcases Nat.lt_or_ge 2 l with hl2 | hl2
          · go_wp2_with fail
            refine (divMag_any _ _ X' gk _ hx hy hkpos hlen (by omega)).mono ?_
            rintro e w3 ⟨qv, rv, rfl, hq, hr, hbe3⟩
            have hy3 := hy.below hbe3
            have hm2 : X' % gk < B32 * B32 := by have := Nat.mod_lt X' hkpos; omega
            go_wp2_with fail
            refine (toWord_any _ gk _ hy3 hk2).mono ?_
            rintro e w4 ⟨rfl, hbe4⟩
            obtain ⟨za, hza⟩ : ∃ za : Int, za = (gk : Int) := ⟨_, rfl⟩
            have za0 : 0 ≤ za := by omega
            have za1 : za ≤ 18446744073709551615 := by unfold B32 at hk2; omega
            rw [← hza]
            have HZA := Lib.hid hza
            clear hza
            go_wp2_with fail
            refine (toWord_any _ (X' % gk) _ (hr.below hbe4) hm2).mono ?_
            rintro e w5 ⟨rfl, hbe5⟩
            obtain ⟨zb, hzb⟩ : ∃ zb : Int, zb = ((X' % gk : Nat) : Int) := ⟨_, rfl⟩
            have zb0 : 0 ≤ zb := by omega
            have zb1 : zb ≤ 18446744073709551615 := by unfold B32 at hm2; omega
            rw [← hzb]
            have HZB := Lib.hid hzb
            clear hzb
            go_wp2_with fail
            refine (gcdWord_any za zb _ za0 za1 zb0 zb1).mono ?_
            rintro e w6 ⟨rfl, hbe6⟩
            obtain ⟨zg, hzg⟩ : ∃ zg : Int, zg = ((Nat.gcd za.toNat zb.toNat : Nat) : Int) := ⟨_, rfl⟩
            have hzv : zg = (G : Int) := by rw [hzg, HZA.out, HZB.out, Int.toNat_natCast, Int.toNat_natCast, ← HGC.out, Nat.gcd_comm X' gk, Nat.gcd_rec gk X', Nat.gcd_comm]
            have zg0 : 0 ≤ zg := by omega
            have zg1 : zg ≤ 18446744073709551615 := by
              have : Nat.gcd X' gk ≤ gk := Nat.gcd_le_right _ hkpos
              have := HGC.out
              have := HZA.out
              omega
            rw [← hzg]
            have HZV := Lib.hid hzv
            clear hzg hzv
            go_wp2_with fail
            refine (fromWord_any zg _ zg0 zg1).mono ?_
            rintro e w7 ⟨v7, rfl, hv7, hbe7⟩
            go_wp2
            go_ret
            refine ⟨_, rfl, by rwa [HZV.out, Int.toNat_natCast] at hv7, ?_⟩
            have b3 := hbe.trans (hbe3.mono hbe.size)
            have b4 := b3.trans (hbe4.mono b3.size)
            have b5 := b4.trans (hbe5.mono b4.size)
            have b6 := b5.trans (hbe6.mono b5.size)
            exact b6.trans (hbe7.mono b6.size)
          · have hx2' : X' < B32 * B32 := digs_len2 (by omega)
            go_wp2_with fail
            refine (toWord_any _ X' _ hx hx2').mono ?_
            rintro e w4 ⟨rfl, hbe4⟩
            obtain ⟨za, hza⟩ : ∃ za : Int, za = (X' : Int) := ⟨_, rfl⟩
            have za0 : 0 ≤ za := by omega
            have za1 : za ≤ 18446744073709551615 := by unfold B32 at hx2'; omega
            rw [← hza]
            have HZA := Lib.hid hza
            clear hza
            go_wp2_with fail
            refine (toWord_any _ gk _ (hy.below hbe4) hk2).mono ?_
            rintro e w5 ⟨rfl, hbe5⟩
            obtain ⟨zb, hzb⟩ : ∃ zb : Int, zb = (gk : Int) := ⟨_, rfl⟩
            have zb0 : 0 ≤ zb := by omega
            have zb1 : zb ≤ 18446744073709551615 := by unfold B32 at hk2; omega
            rw [← hzb]
            have HZB := Lib.hid hzb
            clear hzb
            go_wp2_with fail
            refine (gcdWord_any za zb _ za0 za1 zb0 zb1).mono ?_
            rintro e w6 ⟨rfl, hbe6⟩
            obtain ⟨zg, hzg⟩ : ∃ zg : Int, zg = ((Nat.gcd za.toNat zb.toNat : Nat) : Int) := ⟨_, rfl⟩
            have hzv : zg = (G : Int) := by rw [hzg, HZA.out, HZB.out, Int.toNat_natCast, Int.toNat_natCast, ← HGC.out]
            have zg0 : 0 ≤ zg := by omega
            have zg1 : zg ≤ 18446744073709551615 := by
              have : Nat.gcd X' gk ≤ gk := Nat.gcd_le_right _ hkpos
              have := HGC.out
              have := HZB.out
              omega
            rw [← hzg]
            have HZV := Lib.hid hzv
            clear hzg hzv
            go_wp2_with fail
            refine (fromWord_any zg _ zg0 zg1).mono ?_
            rintro e w7 ⟨v7, rfl, hv7, hbe7⟩
            go_wp2
            go_ret
            refine ⟨_, rfl, by rwa [HZV.out, Int.toNat_natCast] at hv7, ?_⟩
            have b4 := hbe.trans (hbe4.mono hbe.size)
            have b5 := b4.trans (hbe5.mono b4.size)
            have b6 := b5.trans (hbe6.mono b5.size)
            exact b6.trans (hbe7.mono b6.size)
end Go.Proofs.YtpanffbgihhjnaaGreat

/- Walks: package integer, the signed numbers: wrap, FromInt64, Sign. -/
namespace Go.Proofs.YtpanffbgihhjnaaGreat
open Go.RowKit Pl

namespace Pl
structure RI where
  neg : Bool
  ds : List Nat
def RI.z (a : RI) : Int := if a.neg then -(val a.ds : Int) else (val a.ds : Int)
def canI (z : Int) : RI := ⟨decide (z < 0), digs z.natAbs⟩
def sm (neg : Bool) (n : Nat) : Int := if neg then -(n : Int) else (n : Int)
theorem RI.z_eq (a : RI) : a.z = sm a.neg (val a.ds) := rfl
theorem canI_sm (neg : Bool) (n : Nat) (h : n ≠ 0) : canI (sm neg n) = ⟨neg, digs n⟩ := by
  cases neg <;> simp [canI, sm] <;> omega
theorem canI_zero : canI 0 = ⟨false, []⟩ := by simp [canI, digs_zero]
theorem sm_zero (neg : Bool) : sm neg 0 = 0 := by cases neg <;> simp [sm]
theorem canI_z (z : Int) : (canI z).z = z := by
  simp only [RI.z, canI, val_digs]
  by_cases h : z < 0
  · simp [h]; omega
  · simp [h]; omega
theorem z_natAbs (a : RI) : a.z.natAbs = val a.ds := by
  unfold RI.z; split <;> simp
end Pl

def IntM (w : World) (v : Value) (a : RI) : Prop := ∃ s, v = .agg #[.bool a.neg, s] ∧ DigM w s a.ds
theorem IntM.keep {w w' : World} {v : Value} {a : RI} (h : IntM w v a) (hk : Keep w w') : IntM w' v a := by
  obtain ⟨s, h1, h2⟩ := h; exact ⟨s, h1, h2.keep hk⟩
theorem IntM.below {w w' : World} {v : Value} {a : RI} (h : IntM w v a) (hb : Below w.heap.size w w') : IntM w' v a := h.keep (Keep.of_below hb)
theorem IntM.zero (w : World) : IntM w (.agg #[.bool false, .slice none 0 0]) (canI 0) := by
  rw [canI_zero]; exact ⟨_, rfl, DigM.nil _ _ _ (by simp)⟩

theorem Bk.two {w : World} {g : Nat} {t : TypeId} {a b : Value} (h : Bk w g t [a, b]) : w.cell? ⟨g, 0, none⟩ = some a ∧ w.cell? ⟨g, 1, none⟩ = some b ∧ w.frozen? ⟨g, 0, none⟩ = false ∧ w.frozen? ⟨g, 1, none⟩ = false :=
  ⟨h.cellAt 0 rfl, h.cellAt 1 rfl, h.frozen 0, h.frozen 1⟩
theorem Bk.set2 {w : World} {g : Nat} {t : TypeId} {a b : Value} (h : Bk w g t [a, b]) (c d : Value) : Bk ((w.setCell ⟨g, 0, none⟩ c).setCell ⟨g, 1, none⟩ d) g t [c, d] := (h.set_ 0 c).set_ 1 d
theorem Bk.keep2 {w : World} {g : Nat} {t : TypeId} {a b : Value} (h : Bk w g t [a, b]) (ht : t ≠ 85) (c d : Value) : Keep w ((w.setCell ⟨g, 0, none⟩ c).setCell ⟨g, 1, none⟩ d) :=
  (h.keepD ht _ _).trans ((h.set_ 0 c).keepD ht _ _)
theorem below_set2 {n g : Nat} {w w' : World} (h : Below n w w') (hg : n ≤ g) (c d : Value) : Below n w ((w'.setCell ⟨g, 0, none⟩ c).setCell ⟨g, 1, none⟩ d) := (h.setCell hg _).setCell hg _
theorem below_new (w : World) (o : Obj) : Below w.heap.size w (w.alloc o) := (Below.refl _ _).alloc (Nat.le_refl _) _
theorem below_then {n : Nat} {w w1 w2 : World} (h : Below n w w1) (h2 : Below w1.heap.size w1 w2) (hn : n ≤ w1.heap.size) : Below n w w2 := h.trans (h2.mono hn)

theorem IntM.shape {w : World} {v : Value} {a : RI} (h : IntM w v a) : ∃ A n c, v = .agg #[.bool a.neg, .slice A n c] ∧ DigM w (.slice A n c) a.ds := by
  obtain ⟨s, rfl, h2⟩ := h
  obtain ⟨A, n, c, rfl⟩ := h2.shape
  exact ⟨A, n, c, rfl, h2⟩
theorem fin_int {w w2 : World} {m g : Nat} {x y b s : Value} {a : RI} (hR : Bk w2 g 45 [x, y]) (d : IntM w2 (.agg #[b, s]) a) (hbe : Below m w w2) (hg : m ≤ g) :
    ∃ v', Ending.returned (.agg [b, s].toArray) = .returned v' ∧ IntM ((w2.setCell ⟨g, 0, none⟩ b).setCell ⟨g, 1, none⟩ s) v' a ∧ Below m w ((w2.setCell ⟨g, 0, none⟩ b).setCell ⟨g, 1, none⟩ s) :=
  ⟨_, rfl, d.keep (hR.keep2 (by decide) _ _), below_set2 hbe hg _ _⟩

set_option maxHeartbeats 400000 in
theorem wrap_any (neg : Bool) (v : Value) (ds : List Nat) (w : World) (h : DigM w v ds) :
    Calls Tryz.prog 102 #[.bool neg, v] w fun e w' => ∃ v', e = .returned v' ∧ IntM w' v' (canI (sm neg (val ds))) ∧ Below w.heap.size w w' := by
  have hR := Bk.new w 45 [.bool false, .slice none 0 0]
  have hbe := below_new w (.cells [.bool false, .slice none 0 0].toArray 45)
  have h' := h.below hbe
  go_enter Tryz.func102, Tryz.ntmps102
  go_wp2_with fail
  generalize w.alloc _ = W at *
  refine (trim_any _ ds _ h').mono ?_
  rintro e w1 ⟨v1, rfl, h1, rfl⟩
  obtain ⟨A, n, c, rfl⟩ := h1.shape
  obtain ⟨kl, kl', knc, kc⟩ := h1.len
  obtain ⟨c0, c1, f0, f1⟩ := hR.two
  rcases Nat.eq_zero_or_pos n with h0 | h0
  · subst h0
    have hv : val ds = 0 := by
      rcases Nat.eq_zero_or_pos (val ds) with e | e
      · exact e
      · have := digs_len_pos e; omega
    have HV := Lib.hid hv
    clear hv kl kl'
    go_wp2
    refine ret_cell Tryz.results102 Tryz.underlying45 (by kernel_rfl) rfl (hR.set2 _ _) rfl ?_
    exact ⟨_, rfl, by rw [HV.out, sm_zero]; exact IntM.zero _, below_set2 hbe (Nat.le_refl _) _ _⟩
  · have hv : val ds ≠ 0 := by
      intro e
      rw [e, digs_zero] at kl
      simp at kl
      omega
    have HV := Lib.hid hv
    clear hv kl kl'
    go_wp2
    refine ret_cell Tryz.results102 Tryz.underlying45 (by kernel_rfl) rfl (hR.set2 _ _) rfl ?_
    refine ⟨_, rfl, ?_, below_set2 hbe (Nat.le_refl _) _ _⟩
    rw [canI_sm _ _ HV.out]
    exact ⟨_, rfl, h1.keep (hR.keep2 (by decide) _ _)⟩

set_option maxHeartbeats 400000 in
theorem fromInt64_any (z : Int) (w : World) (h0 : -9223372036854775808 ≤ z) (h1 : z ≤ 9223372036854775807) :
    Calls Tryz.prog 98 #[.int .i64 z] w fun e w' => ∃ v', e = .returned v' ∧ IntM w' v' (canI z) ∧ Below w.heap.size w w' := by
  have hR := Bk.new w 45 [.bool false, .slice none 0 0]
  have hbe := below_new w (.cells [.bool false, .slice none 0 0].toArray 45)
  rcases Int.lt_or_le z 0 with hn | hn
  · have e1 : IntKind.u64.wrap z = z + 18446744073709551616 := by simp [IntKind.wrap, IntKind.bits, IntKind.signed]; omega
    have e2 : IntKind.u64.wrap (-(z + 18446744073709551616)) = -z := by simp [IntKind.wrap, IntKind.bits, IntKind.signed]; omega
    go_enter Tryz.func98, Tryz.ntmps98
    go_wp2_with fail
    generalize w.alloc _ = W at *
    refine (fromWord_any (-z) _ (by omega) (by omega)).mono ?_
    rintro e w1 ⟨v1, rfl, d1, hb1⟩
    go_wp2_with fail
    refine (wrap_any true _ _ _ d1).mono ?_
    have hz : sm true (val (digs (-z).toNat)) = z := by rw [val_digs]; simp [sm]; omega
    rw [hz]
    rintro e w2 ⟨v2, rfl, d2, hb2⟩
    obtain ⟨A, n, c, rfl, _⟩ := d2.shape
    have hR2 := (hR.later hb1).later hb2
    obtain ⟨c0, c1, f0, f1⟩ := hR2.two
    go_wp2
    refine ret_cell Tryz.results98 Tryz.underlying45 (by kernel_rfl) rfl (hR2.set2 _ _) rfl ?_
    exact fin_int hR2 d2 (below_then (below_then hbe hb1 hbe.size) hb2 (Nat.le_trans hbe.size hb1.size)) (Nat.le_refl _)
  · have e1 : IntKind.u64.wrap z = z := u64_in _ hn (by omega)
    go_enter Tryz.func98, Tryz.ntmps98
    go_wp2_with fail
    generalize w.alloc _ = W at *
    refine (fromWord_any z _ (by omega) (by omega)).mono ?_
    rintro e w1 ⟨v1, rfl, d1, hb1⟩
    go_wp2_with fail
    refine (wrap_any false _ _ _ d1).mono ?_
    have hz : sm false (val (digs z.toNat)) = z := by rw [val_digs]; simp [sm]; omega
    rw [hz]
    rintro e w2 ⟨v2, rfl, d2, hb2⟩
    obtain ⟨A, n, c, rfl, _⟩ := d2.shape
    have hR2 := (hR.later hb1).later hb2
    obtain ⟨c0, c1, f0, f1⟩ := hR2.two
    go_wp2
    refine ret_cell Tryz.results98 Tryz.underlying45 (by kernel_rfl) rfl (hR2.set2 _ _) rfl ?_
    exact fin_int hR2 d2 (below_then (below_then hbe hb1 hbe.size) hb2 (Nat.le_trans hbe.size hb1.size)) (Nat.le_refl _)

namespace Pl
def sgn (z : Int) : Int := if z < 0 then -1 else if z = 0 then 0 else 1
theorem sgn_neg {z : Int} (h : z < 0) : sgn z = -1 := by simp [sgn, h]
theorem sgn_zero : sgn 0 = 0 := by simp [sgn]
theorem sgn_pos {z : Int} (h : 0 < z) : sgn z = 1 := by simp [sgn]; omega
theorem len_zero {n : Nat} (h : (digs n).length = 0) : n = 0 := by
  rcases Nat.eq_zero_or_pos n with e | e
  · exact e
  · have := digs_len_pos e; omega
theorem len_pos {n : Nat} (h : 0 < (digs n).length) : n ≠ 0 := by
  intro e
  rw [e, digs_zero] at h
  simp at h
end Pl

set_option maxHeartbeats 400000 in
theorem sign_any (v : Value) (a : RI) (w : World) (h : IntM w v a) :
    Calls Tryz.prog 90 #[v] w fun e w' => e = .returned (.int .i64 (sgn a.z)) ∧ Below w.heap.size w w' := by
  obtain ⟨A, n, c, rfl, hd⟩ := h.shape
  obtain ⟨neg, ds⟩ := a
  simp only at hd ⊢
  have hR := Bk.new w 45 [.bool neg, .slice A n c]
  have hbe := below_new w (.cells [.bool neg, .slice A n c].toArray 45)
  go_enter Tryz.func90, Tryz.ntmps90
  go_wp2_with fail
  have hd' := hd.below hbe
  generalize w.alloc _ = W at *
  obtain ⟨c0, c1, f0, f1⟩ := hR.two
  refine (trim_any _ ds _ hd').mono ?_
  rintro e w1 ⟨v1, rfl, h1, rfl⟩
  obtain ⟨A1, n1, k1, rfl⟩ := h1.shape
  obtain ⟨kl, kl', knc, kc⟩ := h1.len
  rcases Nat.eq_zero_or_pos n1 with h0 | h0
  · subst h0
    have hv : val ds = 0 := len_zero (by omega)
    have hz : sgn (RI.z ⟨neg, ds⟩) = 0 := by rw [RI.z_eq, hv, sm_zero, sgn_zero]
    have HZ := Lib.hid hz
    clear hv hz kl kl'
    go_wp2
    go_ret
    exact ⟨by rw [HZ.out]; rfl, hbe⟩
  · have hv : val ds ≠ 0 := len_pos (by omega)
    clear kl kl'
    cases neg
    · have hz : sgn (RI.z ⟨false, ds⟩) = 1 := by rw [RI.z_eq]; exact sgn_pos (by simp [sm]; omega)
      have HZ := Lib.hid hz
      clear hv hz
      go_wp2
      go_ret
      exact ⟨by rw [HZ.out]; rfl, hbe⟩
    · have hz : sgn (RI.z ⟨true, ds⟩) = -1 := by rw [RI.z_eq]; exact sgn_neg (by simp [sm]; omega)
      have HZ := Lib.hid hz
      clear hv hz
      go_wp2
      go_ret
      exact ⟨by rw [HZ.out]; rfl, hbe⟩
end Go.Proofs.YtpanffbgihhjnaaGreat

/- Walks: package integer: Negate, addSigned, Add. -/
namespace Go.Proofs.YtpanffbgihhjnaaGreat
open Go.RowKit Pl
attribute [local go_sem ↓] Go.wp_at_zero Go.wp_at_succ

theorem size_alloc (w : World) (o : Obj) : (w.alloc o).heap.size = w.heap.size + 1 := by simp
theorem box1 (w : World) (x y : Value) : ∃ W, (w.alloc (.cells #[x, y] 45)).alloc (.cells #[.bool false, .slice none 0 0] 45) = W ∧ Bk W w.heap.size 45 [x, y] ∧ Bk W (w.heap.size + 1) 45 [.bool false, .slice none 0 0] ∧ Below w.heap.size w W := by
  refine ⟨_, rfl, (Bk.new w _ [x, y]).alloc _, ?_, (below_new w _).alloc (by simp) _⟩
  have := Bk.new (w.alloc (.cells #[x, y] 45)) 45 [.bool false, .slice none 0 0]
  rwa [size_alloc] at this
theorem box2 (w : World) (x y x' y' : Value) : ∃ W, ((w.alloc (.cells #[x, y] 45)).alloc (.cells #[x', y'] 45)).alloc (.cells #[.bool false, .slice none 0 0] 45) = W ∧ Bk W w.heap.size 45 [x, y] ∧ Bk W (w.heap.size + 1) 45 [x', y'] ∧ Bk W (w.heap.size + 1 + 1) 45 [.bool false, .slice none 0 0] ∧ Below w.heap.size w W := by
  refine ⟨_, rfl, ((Bk.new w _ [x, y]).alloc _).alloc _, ?_, ?_, ((below_new w _).alloc (by simp) _).alloc (by simp; omega) _⟩
  · have := Bk.new (w.alloc (.cells #[x, y] 45)) 45 [x', y']
    rw [size_alloc] at this
    exact this.alloc _
  · have := Bk.new ((w.alloc (.cells #[x, y] 45)).alloc (.cells #[x', y'] 45)) 45 [.bool false, .slice none 0 0]
    rwa [size_alloc, size_alloc] at this
theorem Bk.pair {w : World} {g : Nat} {t : TypeId} {a b : Value} (h : Bk w g t [a, b]) : w.cell? ⟨g, 0, none⟩ = some a ∧ w.cell? ⟨g, 1, none⟩ = some b := ⟨h.two.1, h.two.2.1⟩
theorem Bk.two_far {w : World} {g g' : Nat} {t : TypeId} {a b : Value} (h : Bk w g t [a, b]) (hne : g ≠ g') (c d : Value) : ((w.setCell ⟨g', 0, none⟩ c).setCell ⟨g', 1, none⟩ d).cell? ⟨g, 0, none⟩ = some a ∧ ((w.setCell ⟨g', 0, none⟩ c).setCell ⟨g', 1, none⟩ d).cell? ⟨g, 1, none⟩ = some b :=
  ((h.far (p := ⟨g', 0, none⟩) hne c).far (p := ⟨g', 1, none⟩) hne d).pair
theorem cell_keep {w w' : World} {p : Addr} {v : Value} (hb : Below w.heap.size w w') (h : w.cell? p = some v) : w'.cell? p = some v := cell_later hb h
theorem sm_not (neg : Bool) (n : Nat) : sm (!neg) n = - sm neg n := by cases neg <;> simp [sm]

theorem wrap_dig (neg : Bool) (v : Value) (n : Nat) (w : World) (h : DigM w v (digs n)) :
    Calls Tryz.prog 102 #[.bool neg, v] w fun e w' => ∃ v', e = .returned v' ∧ IntM w' v' (canI (sm neg n)) ∧ Below w.heap.size w w' := by
  have := wrap_any neg v (digs n) w h
  rwa [val_digs] at this

set_option maxHeartbeats 1000000 in
theorem negate_any (v : Value) (a : RI) (w : World) (h : IntM w v a) (hs : (digs (val a.ds)).length ≤ 549755813888) :
    Calls Tryz.prog 99 #[v] w fun e w' => ∃ v', e = .returned v' ∧ IntM w' v' (canI (- a.z)) ∧ Below w.heap.size w w' := by
  obtain ⟨A, n, c, rfl, hd⟩ := h.shape
  obtain ⟨neg, ds⟩ := a
  simp only at hd hs ⊢
  obtain ⟨W, hW, hX, hR, hbe⟩ := box1 w (.bool neg) (.slice A n c)
  have hdX := hd.below hbe
  go_enter Tryz.func99, Tryz.ntmps99
  go_wp2_with fail
  clear hW
  obtain ⟨x0, x1, y0, y1⟩ := hX.two
  go_region_held3 (fun w' => w'.cell? ⟨w.heap.size, 0, none⟩ = some (.bool neg) ∧ w'.cell? ⟨w.heap.size, 1, none⟩ = some (.slice A n c))
    (first | exact ⟨x0, x1⟩ | exact (hX.drew.later hb2).pair | exact ((hX.drew.later hb2).later hb3).pair | exact ((hX.drew.later hb2).later hb3).two_far (by omega) _ _)
    (first
      | (go_at_call 100; refine (trim_any _ ds _ (hdX.keep (Keep.drew _))).mono ?_; rintro e w1 ⟨v1, rfl, h1, rfl⟩)
      | (go_at_call 113; refine (clone_any _ _ _ h1 (by omega)).mono ?_; rintro e w2 ⟨v2, rfl, h2, hb2⟩)
      | (go_at_call 102; refine (wrap_dig (!neg) _ _ _ (own_dig h2 (okD_digs _))).mono ?_; rintro e w3 ⟨v3, rfl, h3, hb3⟩; obtain ⟨A3, n3, k3, rfl, _⟩ := h3.shape; obtain ⟨c0, c1, f0, f1⟩ := ((hR.drew.later hb2).later hb3).two))
  go_wp2
  refine ret_cell Tryz.results99 Tryz.underlying45 (by kernel_rfl) rfl (((hR.drew.later hb2).later hb3).set2 _ _) rfl ?_
  rw [RI.z_eq, ← sm_not]
  exact fin_int ((hR.drew.later hb2).later hb3) h3 (below_then (below_then hbe.drew hb2 hbe.size) hb3 (Nat.le_trans hbe.size hb2.size)) (Nat.le_succ _)

namespace Pl
theorem sm_add_same (b : Bool) (X Y : Nat) : sm b X + sm b Y = sm b (X + Y) := by cases b <;> simp [sm] <;> omega
theorem sm_sub_l {a b : Bool} (hab : (a == b) = false) {X Y : Nat} (h : Y ≤ X) : sm a X + sm b Y = sm a (X - Y) := by cases a <;> cases b <;> simp [sm] at hab ⊢ <;> omega
theorem sm_sub_r {a b : Bool} (hab : (a == b) = false) {X Y : Nat} (h : X ≤ Y) : sm a X + sm b Y = sm b (Y - X) := by cases a <;> cases b <;> simp [sm] at hab ⊢ <;> omega
end Pl

set_option maxHeartbeats 1000000 in
theorem addSigned_any (a b : Bool) (v1 v2 : Value) (X Y : Nat) (w : World) (h1 : DigM w v1 (digs X)) (h2 : DigM w v2 (digs Y)) (hs : (digs X).length ≤ 549755813888) (hs2 : (digs Y).length ≤ 549755813888) :
    Calls Tryz.prog 116 #[.bool a, v1, .bool b, v2] w fun e w' => ∃ v', e = .returned v' ∧ IntM w' v' (canI (sm a X + sm b Y)) ∧ Below w.heap.size w w' := by
  have hR := Bk.new w 45 [.bool false, .slice none 0 0]
  have hbe := below_new w (.cells [.bool false, .slice none 0 0].toArray 45)
  have d1 := h1.below hbe
  have d2 := h2.below hbe
  by_cases hab : (a == b) = true
  · obtain rfl : a = b := by simpa using hab
    go_enter Tryz.func116, Tryz.ntmps116
    go_wp2_with fail
    generalize w.alloc _ = W at *
    refine (addMag_any _ _ (digs X) (digs Y) _ d1 d2 hs hs2).mono ?_
    rw [val_digs, val_digs]
    rintro e w1 ⟨v1, rfl, e1, hb1⟩
    go_wp2_with fail
    refine (wrap_dig a _ _ _ e1).mono ?_
    rw [← sm_add_same]
    rintro e w2 ⟨v2, rfl, e2, hb2⟩
    obtain ⟨A, n, c, rfl, _⟩ := e2.shape
    have hR2 := (hR.later hb1).later hb2
    obtain ⟨c0, c1, f0, f1⟩ := hR2.two
    go_wp2
    refine ret_cell Tryz.results116 Tryz.underlying45 (by kernel_rfl) rfl (hR2.set2 _ _) rfl ?_
    exact fin_int hR2 e2 (below_then (below_then hbe hb1 hbe.size) hb2 (Nat.le_trans hbe.size hb1.size)) (Nat.le_refl _)
  · have hab' : (a == b) = false := by simpa using hab
    clear hab
    rcases Nat.lt_or_ge X Y with hXY | hXY
    · have hc : cmpN X Y = -1 := cmpN_lt hXY
      go_enter Tryz.func116, Tryz.ntmps116
      go_wp2_with fail
      generalize w.alloc _ = W at *
      refine (compareMag_any _ _ X Y _ d1 d2).mono ?_
      rw [hc]
      rintro e w0 ⟨rfl, hb0⟩
      go_wp2_with fail
      refine (subMag_any _ _ (digs Y) (digs X) _ (d2.below hb0) (d1.below hb0) (by rw [val_digs, val_digs]; omega) (digs_len_mono (Nat.le_of_lt hXY)) hs2).mono ?_
      rw [val_digs, val_digs]
      rintro e w1 ⟨v1, rfl, e1, hb1⟩
      go_wp2_with fail
      refine (wrap_dig b _ _ _ e1).mono ?_
      rw [← sm_sub_r hab' (Nat.le_of_lt hXY)]
      rintro e w2 ⟨v2, rfl, e2, hb2⟩
      obtain ⟨A, n, c, rfl, _⟩ := e2.shape
      have hR2 := ((hR.later hb0).later hb1).later hb2
      obtain ⟨c0, c1, f0, f1⟩ := hR2.two
      go_wp2
      refine ret_cell Tryz.results116 Tryz.underlying45 (by kernel_rfl) rfl (hR2.set2 _ _) rfl ?_
      have b0 := below_then hbe hb0 hbe.size
      have b1 := below_then b0 hb1 b0.size
      exact fin_int hR2 e2 (below_then b1 hb2 b1.size) (Nat.le_refl _)
    · have hc : 0 ≤ cmpN X Y := by unfold cmpN; split; omega; split <;> omega
      have hcb := cmpN_bd X Y
      go_enter Tryz.func116, Tryz.ntmps116
      go_wp2_with fail
      generalize w.alloc _ = W at *
      refine (compareMag_any _ _ X Y _ d1 d2).mono ?_
      rintro e w0 ⟨rfl, hb0⟩
      generalize cmpN X Y = cc at *
      go_wp2_with fail
      refine (subMag_any _ _ (digs X) (digs Y) _ (d1.below hb0) (d2.below hb0) (by rw [val_digs, val_digs]; omega) (digs_len_mono hXY) hs).mono ?_
      rw [val_digs, val_digs]
      rintro e w1 ⟨v1, rfl, e1, hb1⟩
      go_wp2_with fail
      refine (wrap_dig a _ _ _ e1).mono ?_
      rw [← sm_sub_l hab' hXY]
      rintro e w2 ⟨v2, rfl, e2, hb2⟩
      obtain ⟨A, n, c, rfl, _⟩ := e2.shape
      have hR2 := ((hR.later hb0).later hb1).later hb2
      obtain ⟨c0, c1, f0, f1⟩ := hR2.two
      go_wp2
      refine ret_cell Tryz.results116 Tryz.underlying45 (by kernel_rfl) rfl (hR2.set2 _ _) rfl ?_
      have b0 := below_then hbe hb0 hbe.size
      have b1 := below_then b0 hb1 b0.size
      exact fin_int hR2 e2 (below_then b1 hb2 b1.size) (Nat.le_refl _)

set_option maxHeartbeats 1000000 in
theorem addI_any (v1 v2 : Value) (a b : RI) (w : World) (h1 : IntM w v1 a) (h2 : IntM w v2 b) (hs : (digs (val a.ds)).length ≤ 549755813888) (hs2 : (digs (val b.ds)).length ≤ 549755813888) :
    Calls Tryz.prog 107 #[v1, v2] w fun e w' => ∃ v', e = .returned v' ∧ IntM w' v' (canI (a.z + b.z)) ∧ Below w.heap.size w w' := by
  obtain ⟨A, n, c, rfl, hd⟩ := h1.shape
  obtain ⟨A', n', c', rfl, hd'⟩ := h2.shape
  obtain ⟨neg, ds⟩ := a
  obtain ⟨neg', ds'⟩ := b
  simp only at hd hs hd' hs2 ⊢
  obtain ⟨W, hW, hX, hX', hR, hbe⟩ := box2 w (.bool neg) (.slice A n c) (.bool neg') (.slice A' n' c')
  have hdX := hd.below hbe
  have hdX' := hd'.below hbe
  have tok : True := trivial
  go_enter Tryz.func107, Tryz.ntmps107
  go_wp2_with fail
  clear hW
  go_region_held3 (fun w' => (w'.cell? ⟨w.heap.size, 0, none⟩ = some (.bool neg) ∧ w'.cell? ⟨w.heap.size, 1, none⟩ = some (.slice A n c)) ∧ (w'.cell? ⟨w.heap.size + 1, 0, none⟩ = some (.bool neg') ∧ w'.cell? ⟨w.heap.size + 1, 1, none⟩ = some (.slice A' n' c')))
    (first | exact ⟨hX.pair, hX'.pair⟩ | exact ⟨(hX.drew.later hb3).pair, (hX'.drew.later hb3).pair⟩ | exact ⟨(hX.drew.later hb3).two_far (by omega) _ _, (hX'.drew.later hb3).two_far (by omega) _ _⟩)
    (first
      | (go_at_call 100; have _t := tok; refine (trim_any _ ds _ (hdX.keep (Keep.drew _))).mono ?_; clear tok _t; rintro e w1 ⟨v1, rfl, e1, rfl⟩)
      | (go_at_call 100; refine (trim_any _ ds' _ (hdX'.keep (Keep.drew _))).mono ?_; rintro e w1 ⟨v2, rfl, e2, rfl⟩)
      | (go_at_call 116; refine (addSigned_any neg neg' _ _ _ _ _ e1 e2 hs hs2).mono ?_; rintro e w3 ⟨v3, rfl, h3, hb3⟩; obtain ⟨A3, n3, k3, rfl, _⟩ := h3.shape; obtain ⟨c0, c1, f0, f1⟩ := (hR.drew.later hb3).two))
  go_wp2
  refine ret_cell Tryz.results107 Tryz.underlying45 (by kernel_rfl) rfl ((hR.drew.later hb3).set2 _ _) rfl ?_
  exact fin_int (hR.drew.later hb3) h3 (below_then hbe.drew hb3 hbe.size) (by omega)
end Go.Proofs.YtpanffbgihhjnaaGreat

/- Walks: package integer: Mul, GCD, Compare, DivMod. -/
namespace Go.Proofs.YtpanffbgihhjnaaGreat
open Go.RowKit Pl
attribute [local go_sem ↓] Go.wp_at_zero Go.wp_at_succ

theorem ret_cct {P : Program} {fn : Func} {R : Ending → World → Prop} {a : Act} {w : World} {p q u : Tmp} {ty ty' : TypeId} {g g' : Nat} {t t' : TypeId} {cs cs' : List Value} {fs fs' : Array Field} (hres : fn.results = #[.cell p ty, .cell q ty', .tmp u]) (hu : P.underlying ty = some (.struct fs)) (hu' : P.underlying ty' = some (.struct fs')) (hi : (P.info? ty).map (·.size) = some cs.length) (hi' : (P.info? ty').map (·.size) = some cs'.length)
    (hp : a.tmps.getD p undef = .pointer (some ⟨g, 0, none⟩)) (hq : a.tmps.getD q undef = .pointer (some ⟨g', 0, none⟩)) (hB : Bk w g t cs) (hB' : Bk w g' t' cs') (hd : a.defers = []) (hR : R (.returned (.tuple #[.agg cs.toArray, .agg cs'.toArray, a.tmps.getD u undef])) w) : bodyPost P fn R .ret a w := by
  refine bodyPost_ret (v := .tuple #[.agg cs.toArray, .agg cs'.toArray, a.tmps.getD u undef]) ?_ hd hR
  have hp' : a.tmps[p]?.getD undef = .pointer (some ⟨g, 0, none⟩) := by simpa using hp
  have hq' : a.tmps[q]?.getD undef = .pointer (some ⟨g', 0, none⟩) := by simpa using hq
  simp [results, hres, hp', hq', asAddr, Sem.run_bind, Result.andThen, run_loadVar_row w g t ty cs.toArray (0, 0) _ hB hu rfl (by simpa using hi), run_loadVar_row w g' t' ty' cs'.toArray (0, 0) _ hB' hu' rfl (by simpa using hi')]
theorem ret_cc {P : Program} {fn : Func} {R : Ending → World → Prop} {a : Act} {w : World} {p q : Tmp} {ty ty' : TypeId} {g g' : Nat} {t t' : TypeId} {cs cs' : List Value} {fs fs' : Array Field} (hres : fn.results = #[.cell p ty, .cell q ty']) (hu : P.underlying ty = some (.struct fs)) (hu' : P.underlying ty' = some (.struct fs')) (hi : (P.info? ty).map (·.size) = some cs.length) (hi' : (P.info? ty').map (·.size) = some cs'.length)
    (hp : a.tmps.getD p undef = .pointer (some ⟨g, 0, none⟩)) (hq : a.tmps.getD q undef = .pointer (some ⟨g', 0, none⟩)) (hB : Bk w g t cs) (hB' : Bk w g' t' cs') (hd : a.defers = []) (hR : R (.returned (.tuple #[.agg cs.toArray, .agg cs'.toArray])) w) : bodyPost P fn R .ret a w := by
  refine bodyPost_ret (v := .tuple #[.agg cs.toArray, .agg cs'.toArray]) ?_ hd hR
  have hp' : a.tmps[p]?.getD undef = .pointer (some ⟨g, 0, none⟩) := by simpa using hp
  have hq' : a.tmps[q]?.getD undef = .pointer (some ⟨g', 0, none⟩) := by simpa using hq
  simp [results, hres, hp', hq', asAddr, Sem.run_bind, Result.andThen, run_loadVar_row w g t ty cs.toArray (0, 0) _ hB hu rfl (by simpa using hi), run_loadVar_row w g' t' ty' cs'.toArray (0, 0) _ hB' hu' rfl (by simpa using hi')]
theorem ret_ct {P : Program} {fn : Func} {R : Ending → World → Prop} {a : Act} {w : World} {p u : Tmp} {ty : TypeId} {g : Nat} {t : TypeId} {cs : List Value} {fs : Array Field} (hres : fn.results = #[.cell p ty, .tmp u]) (hu : P.underlying ty = some (.struct fs)) (hi : (P.info? ty).map (·.size) = some cs.length)
    (hp : a.tmps.getD p undef = .pointer (some ⟨g, 0, none⟩)) (hB : Bk w g t cs) (hd : a.defers = []) (hR : R (.returned (.tuple #[.agg cs.toArray, a.tmps.getD u undef])) w) : bodyPost P fn R .ret a w := by
  refine bodyPost_ret (v := .tuple #[.agg cs.toArray, a.tmps.getD u undef]) ?_ hd hR
  have hp' : a.tmps[p]?.getD undef = .pointer (some ⟨g, 0, none⟩) := by simpa using hp
  simp [results, hres, hp', asAddr, Sem.run_bind, Result.andThen, run_loadVar_row w g t ty cs.toArray (0, 0) _ hB hu rfl (by simpa using hi)]

namespace Pl
theorem sm_mul (a b : Bool) (X Y : Nat) : sm (a != b) (X * Y) = sm a X * sm b Y := by cases a <;> cases b <;> simp [sm, Int.neg_mul, Int.mul_neg]
end Pl

set_option maxHeartbeats 1000000 in
theorem mulI_any (v1 v2 : Value) (a b : RI) (w : World) (h1 : IntM w v1 a) (h2 : IntM w v2 b) (hs : (digs (val a.ds)).length + (digs (val b.ds)).length ≤ 1099511627776) :
    Calls Tryz.prog 81 #[v1, v2] w fun e w' => ∃ v', e = .returned v' ∧ IntM w' v' (canI (a.z * b.z)) ∧ Below w.heap.size w w' := by
  obtain ⟨A, n, c, rfl, hd⟩ := h1.shape
  obtain ⟨A', n', c', rfl, hd'⟩ := h2.shape
  obtain ⟨neg, ds⟩ := a
  obtain ⟨neg', ds'⟩ := b
  simp only at hd hs hd' ⊢
  obtain ⟨W, hW, hX, hX', hR, hbe⟩ := box2 w (.bool neg) (.slice A n c) (.bool neg') (.slice A' n' c')
  have hdX := hd.below hbe
  have hdX' := hd'.below hbe
  have tok : True := trivial
  go_enter Tryz.func81, Tryz.ntmps81
  go_wp2_with fail
  clear hW
  go_region_held3 (fun w' => (w'.cell? ⟨w.heap.size, 0, none⟩ = some (.bool neg) ∧ w'.cell? ⟨w.heap.size, 1, none⟩ = some (.slice A n c)) ∧ (w'.cell? ⟨w.heap.size + 1, 0, none⟩ = some (.bool neg') ∧ w'.cell? ⟨w.heap.size + 1, 1, none⟩ = some (.slice A' n' c')))
    (first | exact ⟨hX.pair, hX'.pair⟩ | exact ⟨(hX.drew.later hb2).pair, (hX'.drew.later hb2).pair⟩ | exact ⟨((hX.drew.later hb2).later hb3).pair, ((hX'.drew.later hb2).later hb3).pair⟩ | exact ⟨((hX.drew.later hb2).later hb3).two_far (by omega) _ _, ((hX'.drew.later hb2).later hb3).two_far (by omega) _ _⟩)
    (first
      | (go_at_call 100; have _t := tok; refine (trim_any _ ds _ (hdX.keep (Keep.drew _))).mono ?_; clear tok _t; rintro e w1 ⟨v1, rfl, e1, rfl⟩)
      | (go_at_call 100; refine (trim_any _ ds' _ (hdX'.keep (Keep.drew _))).mono ?_; rintro e w1 ⟨v2, rfl, e2, rfl⟩)
      | (go_at_call 103; refine (mulMag_any _ _ (digs (val ds)) (digs (val ds')) _ e1 e2 hs).mono ?_; rw [val_digs, val_digs]; rintro e w2 ⟨v3, rfl, h3, hb2⟩)
      | (go_at_call 102; refine (wrap_dig (neg != neg') _ _ _ h3).mono ?_; rintro e w3 ⟨v4, rfl, h4, hb3⟩; obtain ⟨A3, n3, k3, rfl, _⟩ := h4.shape; obtain ⟨c0, c1, f0, f1⟩ := ((hR.drew.later hb2).later hb3).two))
  go_wp2
  refine ret_cell Tryz.results81 Tryz.underlying45 (by kernel_rfl) rfl (((hR.drew.later hb2).later hb3).set2 _ _) rfl ?_
  rw [RI.z_eq, RI.z_eq, ← sm_mul]
  exact fin_int ((hR.drew.later hb2).later hb3) h4 (below_then (below_then hbe.drew hb2 hbe.size) hb3 (Nat.le_trans hbe.size hb2.size)) (by omega)

set_option maxHeartbeats 1000000 in
theorem gcdI_any (v1 v2 : Value) (a b : RI) (w : World) (h1 : IntM w v1 a) (h2 : IntM w v2 b) (hs : (digs (val a.ds)).length ≤ 549755813888) (hs2 : (digs (val b.ds)).length ≤ 549755813888) :
    Calls Tryz.prog 114 #[v1, v2] w fun e w' => ∃ v', e = .returned v' ∧ IntM w' v' (canI (Int.gcd a.z b.z : Nat)) ∧ Below w.heap.size w w' := by
  obtain ⟨A, n, c, rfl, hd⟩ := h1.shape
  obtain ⟨A', n', c', rfl, hd'⟩ := h2.shape
  obtain ⟨neg, ds⟩ := a
  obtain ⟨neg', ds'⟩ := b
  simp only at hd hs hd' hs2 ⊢
  obtain ⟨W, hW, hX, hX', hR, hbe⟩ := box2 w (.bool neg) (.slice A n c) (.bool neg') (.slice A' n' c')
  have hdX := hd.below hbe
  have hdX' := hd'.below hbe
  have tok : True := trivial
  go_enter Tryz.func114, Tryz.ntmps114
  go_wp2_with fail
  clear hW
  go_region_held3 (fun w' => (w'.cell? ⟨w.heap.size, 0, none⟩ = some (.bool neg) ∧ w'.cell? ⟨w.heap.size, 1, none⟩ = some (.slice A n c)) ∧ (w'.cell? ⟨w.heap.size + 1, 0, none⟩ = some (.bool neg') ∧ w'.cell? ⟨w.heap.size + 1, 1, none⟩ = some (.slice A' n' c')))
    (first | exact ⟨hX.pair, hX'.pair⟩ | exact ⟨(hX.drew.later hb2).pair, (hX'.drew.later hb2).pair⟩ | exact ⟨((hX.drew.later hb2).later hb3).pair, ((hX'.drew.later hb2).later hb3).pair⟩ | exact ⟨((hX.drew.later hb2).later hb3).two_far (by omega) _ _, ((hX'.drew.later hb2).later hb3).two_far (by omega) _ _⟩)
    (first
      | (go_at_call 100; have _t := tok; refine (trim_any _ ds _ (hdX.keep (Keep.drew _))).mono ?_; clear tok _t; rintro e w1 ⟨v1, rfl, e1, rfl⟩)
      | (go_at_call 100; refine (trim_any _ ds' _ (hdX'.keep (Keep.drew _))).mono ?_; rintro e w1 ⟨v2, rfl, e2, rfl⟩)
      | (go_at_call 120; refine (gcdMag_any _ _ (val ds) (val ds') _ e1 e2 hs hs2).mono ?_; rintro e w2 ⟨v3, rfl, h3, hb2⟩)
      | (go_at_call 102; refine (wrap_dig false _ _ _ h3).mono ?_; rintro e w3 ⟨v4, rfl, h4, hb3⟩; obtain ⟨A3, n3, k3, rfl, _⟩ := h4.shape; obtain ⟨c0, c1, f0, f1⟩ := ((hR.drew.later hb2).later hb3).two))
  go_wp2
  refine ret_cell Tryz.results114 Tryz.underlying45 (by kernel_rfl) rfl (((hR.drew.later hb2).later hb3).set2 _ _) rfl ?_
  rw [Int.gcd, z_natAbs, z_natAbs]
  exact fin_int ((hR.drew.later hb2).later hb3) h4 (below_then (below_then hbe.drew hb2 hbe.size) hb3 (Nat.le_trans hbe.size hb2.size)) (by omega)

end Go.Proofs.YtpanffbgihhjnaaGreat

/- Walks: package integer: Compare, DivMod. -/
namespace Go.Proofs.YtpanffbgihhjnaaGreat
open Go.RowKit Pl
attribute [local go_sem ↓] Go.wp_at_zero Go.wp_at_succ

theorem boxes (w : World) (x y x' y' : Value) : ∃ W, (w.alloc (.cells #[x, y] 45)).alloc (.cells #[x', y'] 45) = W ∧ Bk W w.heap.size 45 [x, y] ∧ Bk W (w.heap.size + 1) 45 [x', y'] ∧ Below w.heap.size w W := by
  refine ⟨_, rfl, (Bk.new w _ [x, y]).alloc _, ?_, (below_new w _).alloc (by simp) _⟩
  have := Bk.new (w.alloc (.cells #[x, y] 45)) 45 [x', y']
  rwa [size_alloc] at this

namespace Pl
theorem sgn_cmp (X Y : Nat) : sgn ((X : Int) - Y) = cmpN X Y := by
  unfold sgn cmpN
  rcases Nat.lt_trichotomy X Y with h | h | h
  · rw [if_pos (by omega), if_pos h]
  · subst h; simp
  · rw [if_neg (by omega), if_neg (by omega), if_neg (by omega), if_neg (by omega)]
theorem cmpI_nn (X Y : Nat) : sgn (sm true X - sm true Y) = cmpN Y X := by rw [← sgn_cmp]; simp [sm]; congr 1; omega
theorem cmpI_pp (X Y : Nat) : sgn (sm false X - sm false Y) = cmpN X Y := by rw [← sgn_cmp]; simp [sm]
theorem cmpI_np (X Y : Nat) (h : X ≠ 0) : sgn (sm true X - sm false Y) = -1 := by apply sgn_neg; simp [sm]; omega
theorem cmpI_pn (X Y : Nat) (h : Y ≠ 0) : sgn (sm false X - sm true Y) = 1 := by apply sgn_pos; simp [sm]; omega
theorem sm_z {n : Nat} (h : n = 0) (b : Bool) : sm b n = sm false n := by subst h; simp [sm]
end Pl

set_option maxHeartbeats 1000000 in
theorem compareI_any (v1 v2 : Value) (a b : RI) (w : World) (h1 : IntM w v1 a) (h2 : IntM w v2 b) :
    Calls Tryz.prog 80 #[v1, v2] w fun e w' => e = .returned (.int .i64 (sgn (a.z - b.z))) ∧ Below w.heap.size w w' := by
  obtain ⟨A, n, c, rfl, hd⟩ := h1.shape
  obtain ⟨A', n', c', rfl, hd'⟩ := h2.shape
  obtain ⟨neg, ds⟩ := a
  obtain ⟨neg', ds'⟩ := b
  simp only at hd hd' ⊢
  obtain ⟨W, hW, hX, hX', hbe⟩ := boxes w (.bool neg) (.slice A n c) (.bool neg') (.slice A' n' c')
  have hdX := hd.below hbe
  have hdX' := hd'.below hbe
  rw [RI.z_eq, RI.z_eq]
  simp only
  have tok : True := trivial
  go_enter Tryz.func80, Tryz.ntmps80
  go_wp2_with fail
  clear hW
  obtain ⟨x0, x1, _, _⟩ := hX.two
  obtain ⟨x0', x1', _, _⟩ := hX'.two
  go_region_held3 (fun w' => (w'.cell? ⟨w.heap.size, 0, none⟩ = some (.bool neg) ∧ w'.cell? ⟨w.heap.size, 1, none⟩ = some (.slice A n c)) ∧ (w'.cell? ⟨w.heap.size + 1, 0, none⟩ = some (.bool neg') ∧ w'.cell? ⟨w.heap.size + 1, 1, none⟩ = some (.slice A' n' c')))
    (exact ⟨hX.pair, hX'.pair⟩)
    (first
      | (go_at_call 100; have _t := tok; refine (trim_any _ ds _ (hdX.keep (Keep.drew _))).mono ?_; clear tok _t; rintro e w1 ⟨v1, rfl, e1, rfl⟩)
      | (go_at_call 100; refine (trim_any _ ds' _ (hdX'.keep (Keep.drew _))).mono ?_; rintro e w1 ⟨v2, rfl, e2, rfl⟩))
  have hX2 := hX.drew
  have hX2' := hX'.drew
  have hbe2 := hbe.drew
  clear hX hX' hbe hdX hdX' x0 x1 x0' x1'
  generalize W.drew = W2 at *
  obtain ⟨x0, x1, _, _⟩ := hX2.two
  obtain ⟨x0', x1', _, _⟩ := hX2'.two
  obtain ⟨A1, n1, c1, rfl⟩ := e1.shape
  obtain ⟨kl, kl', knc, kc⟩ := e1.len
  obtain ⟨A2, n2, c2, rfl⟩ := e2.shape
  obtain ⟨jl, jl', jnc, jc⟩ := e2.len
  have hx0 : n1 = 0 → val ds = 0 := fun h => len_zero (by omega)
  have hx1 : 0 < n1 → val ds ≠ 0 := fun h => len_pos (by omega)
  have hy0 : n2 = 0 → val ds' = 0 := fun h => len_zero (by omega)
  have hy1 : 0 < n2 → val ds' ≠ 0 := fun h => len_pos (by omega)
  have HX0 := Lib.hid hx0
  have HX1 := Lib.hid hx1
  have HY0 := Lib.hid hy0
  have HY1 := Lib.hid hy1
  clear hx0 hx1 hy0 hy1 kl kl' jl jl'
  cases neg
  · cases neg'
    · go_wp2_with fail
      refine (compareMag_any _ _ (val ds) (val ds') _ e1 e2).mono ?_
      rintro e w3 ⟨rfl, hb3⟩
      go_wp2
      go_ret
      exact ⟨by rw [cmpI_pp]; rfl, below_then hbe2 hb3 hbe2.size⟩
    · rcases Nat.eq_zero_or_pos n2 with h0 | h0
      · have ZY := Lib.hid (HY0.out h0); subst h0
        go_wp2_with fail
        refine (compareMag_any _ _ (val ds) (val ds') _ e1 e2).mono ?_
        rintro e w3 ⟨rfl, hb3⟩
        go_wp2
        go_ret
        exact ⟨by rw [sm_z ZY.out true, cmpI_pp]; rfl, below_then hbe2 hb3 hbe2.size⟩
      · go_wp2
        go_ret
        exact ⟨by rw [cmpI_pn _ _ (HY1.out h0)]; rfl, hbe2⟩
  · cases neg'
    · rcases Nat.eq_zero_or_pos n1 with h0 | h0
      · have ZX := Lib.hid (HX0.out h0); subst h0
        go_wp2_with fail
        refine (compareMag_any _ _ (val ds) (val ds') _ e1 e2).mono ?_
        rintro e w3 ⟨rfl, hb3⟩
        go_wp2
        go_ret
        exact ⟨by rw [sm_z ZX.out true, cmpI_pp]; rfl, below_then hbe2 hb3 hbe2.size⟩
      · go_wp2
        go_ret
        exact ⟨by rw [cmpI_np _ _ (HX1.out h0)]; rfl, hbe2⟩
    · rcases Nat.eq_zero_or_pos n1 with h0 | h0
      · have ZX := Lib.hid (HX0.out h0); subst h0
        rcases Nat.eq_zero_or_pos n2 with h0 | h0
        · have ZY := Lib.hid (HY0.out h0); subst h0
          go_wp2_with fail
          refine (compareMag_any _ _ (val ds) (val ds') _ e1 e2).mono ?_
          rintro e w3 ⟨rfl, hb3⟩
          go_wp2
          go_ret
          exact ⟨by rw [sm_z ZX.out true, sm_z ZY.out true, cmpI_pp]; rfl, below_then hbe2 hb3 hbe2.size⟩
        · go_wp2
          go_ret
          exact ⟨by rw [sm_z ZX.out true, cmpI_pn _ _ (HY1.out h0)]; rfl, hbe2⟩
      · rcases Nat.eq_zero_or_pos n2 with h1 | h1
        · have ZY := Lib.hid (HY0.out h1); subst h1
          go_wp2
          go_ret
          exact ⟨by rw [sm_z ZY.out true, cmpI_np _ _ (HX1.out h0)]; rfl, hbe2⟩
        · go_wp2_with fail
          refine (compareMag_any _ _ (val ds') (val ds) _ e2 e1).mono ?_
          rintro e w3 ⟨rfl, hb3⟩
          go_wp2
          go_ret
          exact ⟨by rw [cmpI_nn]; rfl, below_then hbe2 hb3 hbe2.size⟩
end Go.Proofs.YtpanffbgihhjnaaGreat
