/- Contracts and plain facts that the claim is built on, joined out of smaller texts. -/
import Derived.OpenShut
import Derived.Deep.DeepCutAuto
import Derived.Test.YtpanffbgihhjnaaGreatM3
set_option linter.unusedVariables false
set_option linter.unusedSimpArgs false
/- Plain: sums; the bound that dual values prove. -/
namespace Go.Proofs.YtpanffbgihhjnaaGreat
open Go.RowKit Pl
namespace Pl
theorem sumN_add (f g : Nat → Rat) (n : Nat) : sumN (fun i => f i + g i) n = sumN f n + sumN g n := by
  induction n with
  | zero => simp [sumN_zero, Rat.add_zero]
  | succ n ih => rw [sumN_succ, sumN_succ, sumN_succ, ih]; grind
theorem sumN_mul (c : Rat) (f : Nat → Rat) (n : Nat) : sumN (fun i => c * f i) n = c * sumN f n := by
  induction n with
  | zero => simp [sumN_zero, Rat.mul_zero]
  | succ n ih => rw [sumN_succ, sumN_succ, ih]; grind
theorem sumN_const0 (n : Nat) : sumN (fun _ => 0) n = 0 := by
  induction n with
  | zero => rfl
  | succ n ih => rw [sumN_succ, ih, Rat.add_zero]
theorem sumN_swap (f : Nat → Nat → Rat) (n m : Nat) : sumN (fun i => sumN (fun j => f i j) m) n = sumN (fun j => sumN (fun i => f i j) n) m := by
  induction n with
  | zero => simp only [sumN_zero]; rw [sumN_const0]
  | succ n ih =>
    rw [sumN_succ, ih, ← sumN_add]
    rfl
theorem sumN_le {f g : Nat → Rat} {n : Nat} (h : ∀ i, i < n → f i ≤ g i) : sumN f n ≤ sumN g n := by
  induction n with
  | zero => exact Rat.le_refl
  | succ n ih =>
    have h1 := ih fun i hi => h i (by omega)
    have h2 := h n (by omega)
    rw [sumN_succ, sumN_succ]
    grind
theorem sumN_nonneg {f : Nat → Rat} {n : Nat} (h : ∀ i, i < n → 0 ≤ f i) : 0 ≤ sumN f n := by
  have := sumN_le h
  rwa [sumN_const0] at this
theorem sumN_one {n k : Nat} (hk : k < n) (c : Rat) : sumN (fun i => if i = k then c else 0) n = c := by
  induction n with
  | zero => omega
  | succ n ih =>
    rw [sumN_succ]
    by_cases h : n = k
    · subst h
      rw [if_pos rfl, sumN_congr (g := fun _ => 0) (fun i hi => if_neg (by omega)), sumN_const0, Rat.zero_add]
    · rw [if_neg h, ih (by omega), Rat.add_zero]
/-- the product of a list and a function, over m rows -/
def dotC (ys : List RF) (f : Nat → Rat) (m : Nat) : Rat := sumN (fun i => qAt ys i * f i) m
theorem dotC_canL {ys : List RF} {f : Nat → Rat} {m : Nat} : dotQ ys (canL m f) m = dotC ys f m := sumN_congr fun i hi => by rw [canL_qAt hi]
theorem alongQ_part {es : List En} {ys : List RF} {m : Nat} (hin : inR m es) (hinc : Inc none es) : ∀ k, k ≤ es.length → alongQ es ys k = dotC ys (dQ (es.take k) fun _ => 0) m := by
  intro k
  induction k with
  | zero =>
    intro _
    show 0 = _
    unfold dotC
    rw [sumN_congr (g := fun _ => 0) (fun i _ => by simp [dQ, Rat.mul_zero]), sumN_const0]
  | succ k ih =>
    intro hk
    obtain ⟨e, he⟩ : ∃ e, es[k]? = some e := ⟨es[k], List.getElem?_eq_getElem (by omega)⟩
    obtain ⟨h0, h1⟩ := hin k e he
    obtain ⟨d, hd⟩ := Int.eq_ofNat_of_zero_le h0
    have hdm : d < m := by omega
    rw [alongQ_succ he, ih (by omega), dQ_take he]
    have hf : dQ (es.take k) (fun _ => 0) d = 0 := dQ_fresh hinc he hd
    have : dotC ys (fun i => if e.idx = (i : Int) then e.f.q else dQ (es.take k) (fun _ => 0) i) m = sumN (fun i => qAt ys i * dQ (es.take k) (fun _ => 0) i + if i = d then qAt ys d * e.f.q else 0) m := sumN_congr fun i _ => by
      show qAt ys i * (if e.idx = (i : Int) then e.f.q else dQ (es.take k) (fun _ => 0) i) = _
      by_cases hi : i = d
      · subst hi; rw [if_pos hd, if_pos rfl, hf]; grind
      · rw [if_neg (show ¬ e.idx = (i : Int) by omega), if_neg hi, Rat.add_zero]
    rw [this, sumN_add, sumN_one hdm]
    unfold dotC
    rw [hd, Int.toNat_natCast, Rat.mul_comm e.f.q]
theorem alongQ_all {es : List En} {ys : List RF} {m : Nat} (hin : inR m es) (hinc : Inc none es) : alongQ es ys es.length = dotC ys (colQ es) m := by
  rw [alongQ_part hin hinc _ (Nat.le_refl _), List.take_length]; rfl
/-- y bounds the columns up to k -/
def lowTo (p : LPd) (ys : List RF) (k : Nat) : Prop := ∀ j, j < k → dotC ys (p.col (j : Int)) p.right.length ≤ qAt p.cost j
instance (p : LPd) (ys : List RF) (k : Nat) : Decidable (lowTo p ys k) := by unfold lowTo; infer_instance
def lowB (p : LPd) (ys : List RF) : Bool := decide (lpErr p = 0) && (decide (ys.length = p.right.length) && decide (lowTo p ys p.cols.length))
theorem lowB_1 {p : LPd} {ys : List RF} (h : lpErr p ≠ 0) : lowB p ys = false := by simp [lowB, h]
theorem lowB_2 {p : LPd} {ys : List RF} (h : ys.length ≠ p.right.length) : lowB p ys = false := by simp [lowB, h]
theorem lowB_3 {p : LPd} {ys : List RF} {j : Nat} (hj : j < p.cols.length) (h : ¬ dotC ys (p.col (j : Int)) p.right.length ≤ qAt p.cost j) : lowB p ys = false := by
  have : ¬ lowTo p ys p.cols.length := fun g => h (g j hj)
  simp [lowB, this]
theorem lowB_4 {p : LPd} {ys : List RF} (h1 : lpErr p = 0) (h2 : ys.length = p.right.length) (h : lowTo p ys p.cols.length) : lowB p ys = true := by
  unfold lowB
  rw [decide_eq_true h1, decide_eq_true h2, decide_eq_true h]; rfl
theorem lowB_true {p : LPd} {ys : List RF} (h : lowB p ys = true) : lpErr p = 0 ∧ ys.length = p.right.length ∧ lowTo p ys p.cols.length := by
  simpa [lowB] using h
theorem lowTo_zero (p : LPd) (ys : List RF) : lowTo p ys 0 := fun j h => by omega
theorem lowTo_next {p : LPd} {ys : List RF} {k : Nat} (h : lowTo p ys k) (h1 : dotC ys (p.col (k : Int)) p.right.length ≤ qAt p.cost k) : lowTo p ys (k + 1) := fun j hj => by
  rcases Nat.eq_or_lt_of_le (Nat.le_of_lt_succ hj) with e | e
  · subst e; exact h1
  · exact h j e
theorem qs_neg {q : Rat} : qs q < 0 ↔ q < 0 := by
  have h : qs q < 0 ↔ q.num < 0 := by unfold qs sgn; split <;> rename_i h <;> (try split) <;> omega
  rw [h, ← Rat.not_le, ← Rat.num_nonneg]; omega
theorem qs_pos {q : Rat} : 0 < qs q ↔ 0 < q := by
  have h : 0 < qs q ↔ 0 < q.num := by unfold qs sgn; split <;> rename_i h <;> (try split) <;> omega
  have h2 : q.num = 0 ↔ q = 0 := Rat.num_eq_zero
  have h3 : 0 ≤ q.num ↔ 0 ≤ q := Rat.num_nonneg
  rw [h]
  constructor
  · intro g
    have : q ≠ 0 := fun e => by have := h2.2 e; omega
    have := h3.1 (by omega)
    grind
  · intro g
    have h4 : q.num ≠ 0 := fun e => by have := h2.1 e; grind
    have := h3.2 (by grind)
    omega
theorem qs_le {q : Rat} : qs q ≤ 0 ↔ q ≤ 0 := by
  have := @qs_pos q
  rw [← Rat.not_lt, ← this]; omega
theorem qs_sub_pos {a b : Rat} : 0 < qs (a - b) ↔ ¬ a ≤ b := by rw [qs_pos]; grind
/-- weak duality -/
theorem weak {p : LPd} {xs ys : List RF} (hlow : lowTo p ys p.cols.length) (hx : ∀ j, j < p.cols.length → 0 ≤ qAt xs j) (hr : ∀ i, i < p.right.length → timesQ p xs p.cols.length i = qAt p.right i) :
    dotQ ys p.right p.right.length ≤ dotQ p.cost xs p.cols.length := by
  have h1 : dotQ ys p.right p.right.length = sumN (fun i => sumN (fun j => qAt ys i * (qAt xs j * p.col (j : Int) i)) p.cols.length) p.right.length := sumN_congr fun i hi => by
    show qAt ys i * qAt p.right i = _
    rw [← hr i hi, sumN_mul]; rfl
  rw [h1, sumN_swap]
  refine sumN_le fun j hj => ?_
  have h2 : sumN (fun i => qAt ys i * (qAt xs j * p.col (j : Int) i)) p.right.length = qAt xs j * dotC ys (p.col (j : Int)) p.right.length := by
    unfold dotC
    rw [← sumN_mul]
    exact sumN_congr fun i _ => by grind
  rw [h2, Rat.mul_comm (qAt p.cost j)]
  exact Rat.mul_le_mul_of_nonneg_left (hlow j hj) (hx j hj)
end Pl
end Go.Proofs.YtpanffbgihhjnaaGreat

/- A region that draws its order, walked in one order: what only reads and yields may float, all else must come up alone. While it runs nothing older than the region changes, but by its last operations. -/
namespace Go.Proofs.YtpanffbgihhjnaaGreat
open Go.RowKit Pl

/-- it reads and yields -/
def floats (o : Oper) : Bool := match o.op with
  | .move .. => true
  | .assign .. => true
  | .pick .. => true
  | .load .. => true
  | .binOp .. => true
  | .unOp .. => true
  | .convert .. => true
  | .fieldAddr .. => true
  | .field .. => true
  | .indexAddr .. => true
  | .index .. => true
  | .extract .. => true
  | .slice .. => true
  | .nilCheck .. => true
  | .build .. => true
  | .call c => match c.callee with | .builtin .len => true | _ => false
  | _ => false
/-- it does not look at the world -/
def pures (o : Oper) : Bool := match o.op with
  | .move .. => true
  | .assign .. => true
  | .pick .. => true
  | .binOp .. => true
  | .unOp .. => true
  | .fieldAddr .. => true
  | .field .. => true
  | .indexAddr .. => true
  | .extract .. => true
  | .build .. => true
  | _ => false
def pureI (ops : Array Oper) (i : Nat) : Bool := ((ops[i]?).map pures).getD false
section
variable {P : Program} {ops : Array Oper} {Q : Exit → Act → World → Prop} {md : Region.Mode} {S : World → Prop} {n : Nat}
/-- whatever comes up: S is kept behind it, unless it is one of the last operations -/
def AnyG (P : Program) (md : Region.Mode) (ops : Array Oper) (Q : Exit → Act → World → Prop) (S : World → Prop) (n : Nat) : Nat → Array Bool → Act → World → Prop
  | 0, listed, a, w => Region.ready md ops listed = [] ∧ Q .normal a w
  | fuel + 1, listed, a, w => (Region.ready md ops listed = [] → Q .normal a w) ∧
      ∀ i ∈ Region.ready md ops listed, wpOp P ops Q i (fun a' w' => (n ≤ i ∨ (S w → S w')) ∧ AnyG P md ops Q S n fuel (listed.setIfInBounds i true) a' w') a w
theorem AnyG.any : ∀ (fuel : Nat) (listed : Array Bool) (a : Act) (w : World), AnyG P md ops Q S n fuel listed a w → wpAny P md ops Q fuel listed a w
  | 0, _, _, _, h => h
  | fuel + 1, _, _, _, h => ⟨h.1, fun i hi => wpOp_mono (fun a' w' h' => AnyG.any fuel _ a' w' h'.2) (h.2 i hi)⟩
theorem notl (listed : Array Bool) (k : Nat) (h0 : listed.getD k true = false) (h1 : listed.getD k false = true) : False := by
  rcases Nat.lt_or_ge k listed.size with h' | h'
  · simp [h'] at h0 h1; rw [h0] at h1; cases h1
  · simp [Array.getElem?_eq_none h'] at h1
/-- an operation that does not look at the world is taken first -/
theorem anyG_firstP {i : Nat} {oi : Oper} {v : Value} (hi : ops[i]? = some oi) (hsel : ∀ (j : Nat) (o : Oper) cs b, ops[j]? = some o → o.op ≠ .select cs b)
    (hQ : ∀ c a w, Q (.panic c) (a.put oi.dst v) w → Q (.panic c) a w) :
    ∀ (fuel : Nat) (listed : Array Bool) (a : Act) (w : World),
      (∀ j oj, ops[j]? = some oj → j ≠ i → listed.getD j true = false → (∀ e ∈ oj.after, Region.binds md e = true → e.on ≠ i) → oi.apart ops oj = true) →
      i ∈ Region.ready md ops listed → YieldsIf P ops (fun _ => True) oi v a →
      AnyG P md ops Q S n fuel (listed.setIfInBounds i true) (a.put oi.dst v) w → AnyG P md ops Q S n (fuel + 1) listed a w := by
  intro fuel
  induction fuel with
  | zero =>
    intro listed a w _ hr hy H
    refine ⟨fun h => (by rw [h] at hr; cases hr), fun j hj => ?_⟩
    by_cases hji : j = i
    · subst hji; exact hy.wpOp hi trivial ⟨.inr fun h => h, H⟩
    · have := ready_mono hj hji
      rw [H.1] at this
      cases this
  | succ fuel ih =>
    intro listed a w hfree hr hy H
    refine ⟨fun h => (by rw [h] at hr; cases hr), fun j hj => ?_⟩
    by_cases hji : j = i
    · subst hji; exact hy.wpOp hi trivial ⟨.inr fun h => h, H⟩
    · have h1 := H.2 j (ready_mono hj hji)
      obtain ⟨hjun, oj, hoj, hall⟩ := mem_ready.1 hj
      have hnot : ∀ e ∈ oj.after, Region.binds md e = true → e.on ≠ i := fun e he hb heq => by
        have h1 := hall e he hb
        rw [heq] at h1
        exact notl listed i (mem_ready.1 hr).1 h1
      have h2 := wpOp_putIf hoj (hfree j oj hoj hji hjun hnot) (fun cs b => hsel i oi cs b hi) (fun cs b => hsel j oj cs b hoj) hQ hy h1
      have hfree' : ∀ k ok, ops[k]? = some ok → k ≠ i → (listed.setIfInBounds j true).getD k true = false →
          (∀ e ∈ ok.after, Region.binds md e = true → e.on ≠ i) → oi.apart ops ok = true := fun k ok hk hki hun hno => by
        refine hfree k ok hk hki ?_ hno
        by_cases hjk : j = k
        · subst hjk; exact hjun
        · rw [getD_set_ne true hjk] at hun; exact hun
      refine wpOp_mono (fun a' w' h3 => ⟨h3.2.1, ih (listed.setIfInBounds j true) a' w' hfree' (ready_mono hr (Ne.symm hji)) h3.1 ?_⟩) h2
      rw [Array.setIfInBounds_comm _ _ hji]
      exact h3.2.2
theorem anyG_takeP {i : Nat} {oi : Oper} {v : Value} {fuel : Nat} {listed : Array Bool} {a : Act} {w : World} (hi : ops[i]? = some oi)
    (hs : Region.noSelect ops = true) (hf : Region.free md ops listed i = true) (hr : (Region.ready md ops listed).contains i = true)
    (hQ : ∀ c a w, Q (.panic c) (a.put oi.dst v) w → Q (.panic c) a w) (hy : YieldsIf P ops (fun _ => True) oi v a)
    (h : AnyG P md ops Q S n fuel (listed.setIfInBounds i true) (a.put oi.dst v) w) : AnyG P md ops Q S n (fuel + 1) listed a w :=
  anyG_firstP hi (Region.noSelect_spec hs) hQ fuel listed a w (Region.free_spec hi hf) (by simpa using hr) hy h
end
/-- which operations wait for number i, at once or through others -/
def depD (md : Region.Mode) (ops : Array Oper) (i : Nat) : Array Bool := (List.range ops.size).foldl (fun d j => d.push (((ops[j]?).map fun o => o.after.any fun e => Region.binds md e && (e.on == i || d.getD e.on false)).getD false)) #[]
def depOK (md : Region.Mode) (ops : Array Oper) (i : Nat) (d : Array Bool) (j : Nat) : Bool := !d.getD j false || ((ops[j]?).map fun o => o.after.any fun e => Region.binds md e && (e.on == i || d.getD e.on false)).getD false
def lastWaitT (md : Region.Mode) (ops : Array Oper) (n : Nat) (listed : Array Bool) (i : Nat) : Bool :=
  (List.range ops.size).all fun j => (decide (j < n) || (depD md ops i).getD j false) && (depOK md ops i (depD md ops i) j && (!(depD md ops i).getD j false || !listed.getD j true))
def floatI (ops : Array Oper) (n i : Nat) : Bool := decide (i < n) && ((ops[i]?).map floats).getD false
def seqAt (md : Region.Mode) (ops : Array Oper) (n : Nat) (listed : Array Bool) (i : Nat) : Bool :=
  if floatI ops n i = true then Region.free md ops listed i && ((Region.ready md ops listed).contains i && (pureI ops i || lastWaitT md ops n listed i)) else Region.ready md ops listed == [i]
def seqGo (md : Region.Mode) (ops : Array Oper) (n : Nat) : Bool → List Nat → Array Bool → Bool
  | _, [], listed => Region.ready md ops listed == []
  | d, i :: is, listed => seqAt md ops n listed i && (!(d && (floatI ops n i && !pureI ops i)) && seqGo md ops n (d || decide (n ≤ i)) is (listed.setIfInBounds i true))
def seqOK (md : Region.Mode) (ops : Array Oper) (n : Nat) (is : List Nat) : Bool := Region.noSelect ops && (seqGo md ops n false is (Array.replicate ops.size false) && decide (is.length = ops.size))

section
variable {P : Program} {ops : Array Oper} {Q : Exit → Act → World → Prop} {md : Region.Mode} {S : World → Prop} {n : Nat}
def wpSeq (P : Program) (ops : Array Oper) (Q : Exit → Act → World → Prop) (S : World → Prop) (n : Nat) : List Nat → Act → World → Prop
  | [], a, w => Q .normal a w
  | i :: is, a, w => match ops[i]? with
    | none => True
    | some o => if floatI ops n i = true then ∃ v, (if pureI ops i = true then YieldsIf P ops (fun _ => True) o v a else YieldsIf P ops S o v a) ∧ wpSeq P ops Q S n is (a.put o.dst v) w
      else if Region.wanted o (yielded ops a.tmps) = true then Oper.wp P o a w (fun a' w' => (n ≤ i ∨ S w') ∧ wpSeq P ops Q S n is a' w') Q
      else (n ≤ i ∨ S w) ∧ wpSeq P ops Q S n is (a.put o.dst undef) w
theorem anyG_firstT {i : Nat} {oi : Oper} {v : Value} {d : Array Bool} (hi : ops[i]? = some oi) (hsel : ∀ (j : Nat) (o : Oper) cs b, ops[j]? = some o → o.op ≠ .select cs b)
    (hd1 : ∀ j, n ≤ j → j < ops.size → d.getD j false = true) (hd2 : ∀ j o, ops[j]? = some o → d.getD j false = true → ∃ e ∈ o.after, Region.binds md e = true ∧ (e.on = i ∨ (e.on < ops.size ∧ d.getD e.on false = true)))
    (hQ : ∀ c a w, Q (.panic c) (a.put oi.dst v) w → Q (.panic c) a w) :
    ∀ (fuel : Nat) (listed : Array Bool) (a : Act) (w : World),
      (∀ j oj, ops[j]? = some oj → j ≠ i → listed.getD j true = false → (∀ e ∈ oj.after, Region.binds md e = true → e.on ≠ i) → oi.apart ops oj = true) →
      (∀ j, j < ops.size → d.getD j false = true → listed.getD j true = false) →
      i ∈ Region.ready md ops listed → YieldsIf P ops S oi v a → S w →
      AnyG P md ops Q S n fuel (listed.setIfInBounds i true) (a.put oi.dst v) w → AnyG P md ops Q S n (fuel + 1) listed a w := by
  intro fuel
  induction fuel with
  | zero =>
    intro listed a w _ _ hr hy hS H
    refine ⟨fun h => (by rw [h] at hr; cases hr), fun j hj => ?_⟩
    by_cases hji : j = i
    · subst hji; exact hy.wpOp hi hS ⟨.inr fun h => h, H⟩
    · have := ready_mono hj hji
      rw [H.1] at this
      cases this
  | succ fuel ih =>
    intro listed a w hfree hun hr hy hS H
    refine ⟨fun h => (by rw [h] at hr; cases hr), fun j hj => ?_⟩
    by_cases hji : j = i
    · subst hji; exact hy.wpOp hi hS ⟨.inr fun h => h, H⟩
    · have h1 := H.2 j (ready_mono hj hji)
      obtain ⟨hjun, oj, hoj, hall⟩ := mem_ready.1 hj
      have hiun := (mem_ready.1 hr).1
      have hnot : ∀ e ∈ oj.after, Region.binds md e = true → e.on ≠ i := fun e he hb heq => by
        have h1 := hall e he hb
        rw [heq] at h1
        exact notl listed i hiun h1
      have hjd : d.getD j false = false := by
        cases hc : d.getD j false with
        | false => rfl
        | true =>
          obtain ⟨e, he, hb, hor⟩ := hd2 j oj hoj hc
          rcases hor with h2 | ⟨h2, h3⟩
          · exact absurd h2 (hnot e he hb)
          · exact (notl listed e.on (hun e.on h2 h3) (hall e he hb)).elim
      have hjn : ¬ n ≤ j := fun hle => by
        have := hd1 j hle (Array.getElem?_eq_some_iff.1 hoj).1
        rw [hjd] at this; cases this
      have h2 := wpOp_putIf hoj (hfree j oj hoj hji hjun hnot) (fun cs b => hsel i oi cs b hi) (fun cs b => hsel j oj cs b hoj) hQ hy h1
      have hfree' : ∀ k ok, ops[k]? = some ok → k ≠ i → (listed.setIfInBounds j true).getD k true = false →
          (∀ e ∈ ok.after, Region.binds md e = true → e.on ≠ i) → oi.apart ops ok = true := fun k ok hk hki hun hno => by
        refine hfree k ok hk hki ?_ hno
        by_cases hjk : j = k
        · subst hjk; exact hjun
        · rw [getD_set_ne true hjk] at hun; exact hun
      have hun' : ∀ k, k < ops.size → d.getD k false = true → (listed.setIfInBounds j true).getD k true = false := fun k hk hdk => by
        have hjk : j ≠ k := fun e => by subst e; rw [hjd] at hdk; cases hdk
        rw [getD_set_ne true hjk]
        exact hun k hk hdk
      refine wpOp_mono (fun a' w' h3 => ⟨h3.2.1, ih (listed.setIfInBounds j true) a' w' hfree' hun' (ready_mono hr (Ne.symm hji)) h3.1 ((h3.2.1.resolve_left hjn) hS) ?_⟩) h2
      rw [Array.setIfInBounds_comm _ _ hji]
      exact h3.2.2
theorem anyG_takeT {i : Nat} {oi : Oper} {v : Value} {fuel : Nat} {listed : Array Bool} {a : Act} {w : World} (hi : ops[i]? = some oi)
    (hs : Region.noSelect ops = true) (hf : Region.free md ops listed i = true) (hr : (Region.ready md ops listed).contains i = true) (hw : lastWaitT md ops n listed i = true)
    (hQ : ∀ c a w, Q (.panic c) (a.put oi.dst v) w → Q (.panic c) a w) (hy : YieldsIf P ops S oi v a) (hS : S w)
    (h : AnyG P md ops Q S n fuel (listed.setIfInBounds i true) (a.put oi.dst v) w) : AnyG P md ops Q S n (fuel + 1) listed a w := by
  simp only [lastWaitT, List.all_eq_true, List.mem_range, Bool.and_eq_true, Bool.or_eq_true, decide_eq_true_eq] at hw
  refine anyG_firstT (d := depD md ops i) hi (Region.noSelect_spec hs) ?_ ?_ hQ fuel listed a w (Region.free_spec hi hf) ?_ (by simpa using hr) hy hS h
  · intro j hj hjs
    rcases (hw j hjs).1 with h1 | h1
    · omega
    · exact h1
  · intro j o ho hdj
    have hjs := (Array.getElem?_eq_some_iff.1 ho).1
    have h1 := (hw j hjs).2.1
    unfold depOK at h1
    rw [hdj, ho] at h1
    simp only [Bool.not_true, Bool.false_or, Option.map_some, Option.getD_some] at h1
    obtain ⟨e, he, hb⟩ := Array.any_eq_true'.1 h1
    simp only [Bool.and_eq_true, Bool.or_eq_true, beq_iff_eq] at hb
    refine ⟨e, he, hb.1, hb.2.imp id fun h3 => ⟨?_, h3⟩⟩
    rcases Nat.lt_or_ge e.on ops.size with h4 | h4
    · exact h4
    · exfalso
      have hsz : (depD md ops i).size ≤ ops.size := by
        unfold depD
        have : ∀ (l : List Nat) (d : Array Bool) (f : Array Bool → Nat → Bool), (l.foldl (fun d j => d.push (f d j)) d).size = d.size + l.length := by
          intro l
          induction l with
          | nil => intro d f; simp
          | cons x l ih => intro d f; simp [ih]; omega
        have h5 := this (List.range ops.size) #[] (fun d j => ((ops[j]?).map fun o => o.after.any fun e => Region.binds md e && (e.on == i || d.getD e.on false)).getD false)
        simp only [List.size_toArray, List.length_nil, List.length_range, Nat.zero_add] at h5
        exact Nat.le_of_eq h5
      have : (depD md ops i).getD e.on false = false := by
        simp [Array.getElem?_eq_none (show (depD md ops i).size ≤ e.on by omega)]
      rw [this] at h3; cases h3
  · intro j hj hdj
    have h1 := (hw j hj).2.2
    rw [hdj] at h1
    simpa using h1
theorem AnyG.of_seq (hQ : ∀ c a d v w, Q (.panic c) (a.put d v) w → Q (.panic c) a w) (hs : Region.noSelect ops = true) :
    ∀ (is : List Nat) (listed : Array Bool) (a : Act) (w : World) (d : Bool), seqGo md ops n d is listed = true → (d = false → S w) → wpSeq P ops Q S n is a w → AnyG P md ops Q S n is.length listed a w := by
  intro is
  induction is with
  | nil =>
    intro listed a w d hgo _ h
    exact ⟨by simpa [seqGo] using hgo, h⟩
  | cons i is ih =>
    intro listed a w d hgo hS h
    simp only [seqGo, Bool.and_eq_true] at hgo
    obtain ⟨hat, hd, hgo⟩ := hgo
    unfold wpSeq at h
    unfold seqAt at hat
    split at hat
    · rename_i hf
      simp only [Bool.and_eq_true] at hat
      obtain ⟨h1, h2, h3⟩ := hat
      have hf' := hf
      simp only [floatI, Bool.and_eq_true, decide_eq_true_eq] at hf'
      obtain ⟨o, ho⟩ : ∃ o, ops[i]? = some o := by
        cases hc : ops[i]? with
        | none => rw [hc] at hf'; simp at hf'
        | some o => exact ⟨o, rfl⟩
      simp only [ho] at h
      rw [if_pos hf] at h
      obtain ⟨v, hy, hr⟩ := h
      by_cases hp : pureI ops i = true
      · rw [if_pos hp] at hy
        exact anyG_takeP ho hs h1 h2 (fun c a w => hQ c a o.dst v w) hy (ih _ _ w _ hgo (fun hd' => hS (by simp at hd'; exact hd'.1)) hr)
      · rw [if_neg hp] at hy
        have hdf : d = false := by rw [hf] at hd; simpa [hp] using hd
        have hw := hS hdf
        exact anyG_takeT ho hs h1 h2 (by simpa [hp] using h3) (fun c a w => hQ c a o.dst v w) hy hw (ih _ _ w _ hgo (fun _ => hw) hr)
    · rename_i hf
      have hr : Region.ready md ops listed = [i] := by simpa using hat
      have hi : i ∈ Region.ready md ops listed := by rw [hr]; exact List.mem_singleton.2 rfl
      obtain ⟨_, o, ho, _⟩ := mem_ready.1 hi
      simp only [ho] at h
      rw [if_neg hf] at h
      refine ⟨fun h0 => (by rw [hr] at h0; cases h0), fun j hj => ?_⟩
      rw [hr] at hj
      obtain rfl : j = i := by simpa using hj
      have h : wpOp P ops Q j (fun a' w' => (n ≤ j ∨ S w') ∧ wpSeq P ops Q S n is a' w') a w := by
        unfold wpOp
        rw [ho]
        show if Region.wanted o (yielded ops a.tmps) = true then _ else _
        split
        · rename_i hw; rw [if_pos hw] at h; exact .inl h
        · rename_i hw; rw [if_neg hw] at h; exact h
      exact wpOp_mono (fun a' w' h' => ⟨h'.1.imp id (fun h _ => h), ih _ a' w' _ hgo (fun hle => h'.1.resolve_left (by simp at hle; omega)) h'.2⟩) h
/-- such a region: the last operations are those from number n on; the order in which it is walked -/
theorem region_seq {id : Nat} {l : List Oper} {a : Act} {w : World} (n : Nat) (is : List Nat) (hm : P.follows .mixedOrders = true) (hok : seqOK .any l.toArray n is = true)
    (h : wpSeq P l.toArray (NoPanic Q) (fun w' => Below w.heap.size w w') n is a w.drew) : (Code.region id l.toArray true).wp P Q a w := by
  simp only [seqOK, Bool.and_eq_true, decide_eq_true_eq] at hok
  obtain ⟨hs, hgo, hl⟩ := hok
  refine wp_region_noPanic (wp_region_any hm (AnyG.any _ _ _ _ (S := fun w' => Below w.heap.size w w') (n := n) ?_))
  rw [← hl]
  have := AnyG.of_seq (P := P) (Q := NoPanic Q) (S := fun w' => Below w.heap.size w w') (fun c a d v w h => h) hs is _ a w.drew false hgo (fun _ => (Below.refl _ _).drew) h
  rwa [hl] at this ⊢
theorem seq_done {a : Act} {w : World} (h : Q .normal a w) : wpSeq P ops (NoPanic Q) S n [] a w := h
theorem seq_take {o : Oper} {i : Nat} {is : List Nat} {a : Act} {w : World} {v : Value} (ho : ops[i]? = some o) (hf : (floatI ops n i && !pureI ops i) = true) (hw : Region.wanted o (yielded ops a.tmps) = true) (hy : ∀ w', S w' → (execOp a.eval o).run P w' = .ok (.value v) w') (h : wpSeq P ops Q S n is (a.put o.dst v) w) : wpSeq P ops Q S n (i :: is) a w := by
  simp only [Bool.and_eq_true, Bool.not_eq_true'] at hf
  unfold wpSeq
  rw [ho]
  show if _ then _ else _
  rw [if_pos hf.1]
  exact ⟨v, by rw [if_neg (by simp [hf.2])]; exact .inl ⟨hw, hy⟩, h⟩
theorem seq_takeP {o : Oper} {i : Nat} {is : List Nat} {a : Act} {w : World} {v : Value} (ho : ops[i]? = some o) (hf : (floatI ops n i && pureI ops i) = true) (hw : Region.wanted o (yielded ops a.tmps) = true) (hy : ∀ w', True → (execOp a.eval o).run P w' = .ok (.value v) w') (h : wpSeq P ops Q S n is (a.put o.dst v) w) : wpSeq P ops Q S n (i :: is) a w := by
  simp only [Bool.and_eq_true] at hf
  unfold wpSeq
  rw [ho]
  show if _ then _ else _
  rw [if_pos hf.1]
  exact ⟨v, by rw [if_pos hf.2]; exact .inl ⟨hw, hy⟩, h⟩
theorem seq_skip {o : Oper} {i : Nat} {is : List Nat} {a : Act} {w : World} (ho : ops[i]? = some o) (hf : floatI ops n i = true) (hw : Region.wanted o (yielded ops a.tmps) = false) (h : wpSeq P ops Q S n is (a.put o.dst undef) w) : wpSeq P ops Q S n (i :: is) a w := by
  unfold wpSeq
  rw [ho]
  show if _ then _ else _
  rw [if_pos hf]
  exact ⟨undef, by split <;> exact .inr ⟨hw, rfl⟩, h⟩
theorem seq_step {o : Oper} {i : Nat} {is : List Nat} {a : Act} {w : World} (ho : ops[i]? = some o) (hf : floatI ops n i = false)
    (h : ∀ K' : Act → World → Prop, Shut (∀ a w, (n ≤ i ∨ S w) → wpSeq P ops Q S n is a w → K' a w) → if Region.wanted o (yielded ops a.tmps) = true then Oper.wp P o a w K' Q else K' (a.put o.dst undef) w) : wpSeq P ops Q S n (i :: is) a w := by
  have h1 := h (fun a' w' => (n ≤ i ∨ S w') ∧ wpSeq P ops Q S n is a' w') (fun a w h1 h2 => ⟨h1, h2⟩)
  unfold wpSeq
  rw [ho]
  show if _ then _ else _
  rw [if_neg (by simp [hf])]
  exact h1
end
/-- a cell that is known stays as it is -/
theorem stab {w : World} {p : Addr} {v : Value} (h : w.cell? p = some v) : ∀ w', Below w.heap.size w w' → w'.cell? p = some v := fun _ hb => cell_keep hb h
end Go.Proofs.YtpanffbgihhjnaaGreat

/- Walks: package proof: LowerBound. -/
namespace Go.Proofs.YtpanffbgihhjnaaGreat
open Go.RowKit Pl
attribute [local go_sem ↓] Go.wp_at_zero Go.wp_at_succ

namespace Pl
def lowF (p : LPd) (ys : List RF) : RF := if lowB p ys = true then canF (dotQ ys p.right p.right.length) else zeroF
theorem lowF_no {p : LPd} {ys : List RF} (h : lowB p ys = false) : lowF p ys = zeroF := by simp [lowF, h]
theorem lowF_yes {p : LPd} {ys : List RF} (h : lowB p ys = true) : lowF p ys = canF (dotQ ys p.right p.right.length) := by simp [lowF, h]
end Pl
def LowPost (p : LPd) (ys : List RF) (w : World) (e : Ending) (w' : World) : Prop :=
  ∃ v', e = .returned (.tuple #[v', .bool (lowB p ys)]) ∧ FracM w' v' (lowF p ys) ∧ Below w.heap.size w w'
theorem fin_low {w w2 : World} {g : Nat} {x y z u b s b' s' : Value} {a : RF} {p : LPd} {ys : List RF} {ok : Bool} (hR : Bk w2 g 47 [x, y, z, u]) (d : FracM w2 (.agg #[b, s, b', s']) a) (hbe : Below w.heap.size w w2) (hg : w.heap.size ≤ g) (h : lowB p ys = ok ∧ lowF p ys = a) :
    LowPost p ys w (.returned (.tuple #[.agg [b, s, b', s'].toArray, .bool ok])) ((((w2.setCell ⟨g, 0, none⟩ b).setCell ⟨g, 1, none⟩ s).setCell ⟨g, 2, none⟩ b').setCell ⟨g, 3, none⟩ s') := by
  obtain ⟨v', q1, q2, q3⟩ := fin_frac hR d hbe hg
  injection q1 with q1
  subst q1
  rw [← h.2] at q2
  exact ⟨_, by rw [h.1], q2, q3⟩

set_option maxRecDepth 100000 in
set_option maxHeartbeats 4000000 in
theorem lowerBound_any (v1 v2 : Value) (p : LPd) (ys : List RF) (K : Nat) (w : World) (h : LpM w v1 p) (h2 : FrsM w v2 ys) (ok : p.Ok K) (hy : RsL K ys) (hK : 1 ≤ K) (hlen : ∀ (j : Nat) (c : List En), p.cols[j]? = some c → c.length ≤ 64) (hs : 1 + 64 * (2 * K + 1) ≤ 34359738368) :
    Calls Tryz.prog 19 #[v1, v2] w (LowPost p ys w) := by
  have hs2 : 2 * K ≤ 34359738368 := by omega
  obtain ⟨A, n, c, A', N, c', A'', m, c'', rfl, hc, hv, hr⟩ := id h
  obtain ⟨W, hW, hX, hbe0⟩ := box_lp w (.slice A n c) (.slice A' N c') (.slice A'' m c'')
  obtain ⟨W1, hW1, hR, hbe1⟩ := boxF1 W (.bool false) (.slice none 0 0) (.bool false) (.slice none 0 0)
  have hX := hX.later hbe1
  have hbe := below_then hbe0 hbe1 hbe0.size
  have hsz : W.heap.size = w.heap.size + 1 := by rw [← hW]; simp
  rw [hsz] at hR
  obtain ⟨x0, x1, x2⟩ := hX.three
  obtain ⟨m1, m2, m3⟩ := hv.len
  obtain ⟨r1, r2, r3⟩ := hr.len
  obtain ⟨k1, k2, k3⟩ := hc.len
  obtain ⟨Ay, cy, rfl, hy1, hy2⟩ := h2.shape
  have HM1 := Lib.hid m1
  have HR1 := Lib.hid r1
  have HK1 := Lib.hid k1
  have HOK := Lib.hid ok
  have HLEN := Lib.hid hlen
  generalize hyl : ys.length = L at *
  have HYL := Lib.hid hyl
  clear m1 r1 k1 hyl ok hlen hbe0 hbe1
  go_enter Tryz.func19, Tryz.ntmps19
  go_wp2_with fail
  clear hW hW1 hsz x0 x1 x2
  refine (validate_any _ p K _ (h.below hbe) HOK.out).mono ?_
  rintro _ w1 ⟨rfl, hb1⟩
  have hX1 := hX.later hb1
  have hR1 := hR.later hb1
  have hbe1 := below_then hbe hb1 hbe.size
  clear hX hR hbe hb1
  by_cases hz : lpErr p = 0
  rotate_left
  · have hz' : (lpErr p != 0) = true := by simpa using hz
    have HLB := Lib.hid (lowB_1 (ys := ys) hz)
    clear hz
    obtain ⟨c0, c1, c2, c3⟩ := hR1.four
    obtain ⟨f0, f1, f2, f3⟩ := hR1.fourF
    go_wp2
    refine ret_ct Tryz.results19 Tryz.underlying47 (by kernel_rfl) rfl (g := w.heap.size + 1) (hR1.set4 _ _ _ _) rfl ?_
    exact fin_low hR1 (FracM.zero w1) hbe1 (by omega) ⟨HLB.out, lowF_no HLB.out⟩
  have hz' : (lpErr p != 0) = false := by simpa using hz
  have HZ := Lib.hid hz
  clear hz
  by_cases hl : L = m
  rotate_left
  · have hl' : ((L : Int) != (m : Int)) = true := by simp; omega
    have HLB : Hid (lowB p ys = false) := Lib.hid (lowB_2 (by rw [HYL.out, ← HR1.out]; exact hl))
    clear hl
    obtain ⟨x0, x1, x2⟩ := hX1.three
    obtain ⟨c0, c1, c2, c3⟩ := hR1.four
    obtain ⟨f0, f1, f2, f3⟩ := hR1.fourF
    go_wp2
    refine ret_ct Tryz.results19 Tryz.underlying47 (by kernel_rfl) rfl (g := w.heap.size + 1) (hR1.set4 _ _ _ _) rfl ?_
    exact fin_low hR1 (FracM.zero w1) hbe1 (by omega) ⟨HLB.out, lowF_no HLB.out⟩
  have hl' : ((L : Int) != (m : Int)) = false := by simp; omega
  have HLM : Hid (ys.length = p.right.length) := Lib.hid (by rw [HYL.out, ← HR1.out]; exact hl)
  clear hl
  obtain ⟨x0, x1, x2⟩ := hX1.three
  go_wp2
  clear x0 x1 x2 hl' hz'
  go_loopw [23] (fun i wr => ∃ j : Nat, j ≤ N ∧ i = .int .i64 j ∧ Below w.heap.size w wr ∧ Bk wr w.heap.size 26 [.slice A n c, .slice A' N c', .slice A'' m c''] ∧ Bk wr (w.heap.size + 1) 47 [.bool false, .slice none 0 0, .bool false, .slice none 0 0] ∧ lowTo p ys j) (fun i _ => N - (intOf i).toNat)
  case atStart => exact ⟨0, by omega, rfl, hbe1, hX1, hR1, lowTo_zero _ _⟩
  case round =>
    clear hbe1 hX1 hR1
    obtain ⟨j, hj, rfl, hbe, hX, hR, hlow⟩ := hrel
    have HLOW := Lib.hid hlow
    clear hlow
    rcases Nat.lt_or_ge j N with hjl | hjl
    · obtain ⟨es, hes⟩ := get_someC (cs := p.cols) (i := j) (by rw [← HM1.out]; exact hjl)
      obtain ⟨z1, z2, z3, z4, z5⟩ := lpErr_zero HZ.out
      obtain ⟨bc, offc, Ac, cc, rfl, hltc, hcellc, hvm⟩ := hv.elem (Below.refl _ _) hes
      have hcell1 := cell_keep hbe hcellc
      obtain ⟨f, hf⟩ := get_some (fs := p.cost) (i := j) (by rw [z3, ← HM1.out]; exact hjl)
      obtain ⟨b, off, A1, n1, k1, A2, n2, k2, rfl, hlt, hcA, hmf⟩ := hc.elem hbe hf
      have hin : inR ys.length es := by rw [HLM.out]; exact z4 j es hes
      have hse := (HOK.out.2.2 j es hes).2
      have hsE : 1 + es.length * (2 * K + 1) ≤ 34359738368 := by
        have := Nat.mul_le_mul_right (2 * K + 1) (HLEN.out j es hes); omega
      have hsf : f.Sm := (HOK.out.1 j f hf).sm (by omega)
      have szA : (canF (alongQ es ys es.length)).Sm := ((Sz_along hse hy hK es.length).mono hsE).rs.sm (Nat.le_refl _)
      have HAL : Hid (alongQ es ys es.length = dotC ys (p.col (j : Int)) p.right.length) := Lib.hid (by rw [LPd.col_pos hes]; exact alongQ_all (z4 j es hes) (z5 j es hes).2)
      have HQ := Lib.hid (qAt_some hf)
      have hj1 : (j : Int) < N := by omega
      have hj2 : (j : Int) < n := by rw [HK1.out, z3, ← HM1.out]; exact hj1
      clear z1 z2 z3 z4 z5 hes hf hltc
      obtain ⟨x0, x1, x2⟩ := hX.three
      obtain ⟨b0, b1, b2, b3⟩ := hcA
      go_wp2_with fail
      have C1 := stab x0
      have C2 := stab b0
      have C3 := stab b1
      have C4 := stab b2
      have C5 := stab b3
      have hS0 := below_drew' wr
      clear x0 x1 x2 b0 b1 b2 b3 hcellc hcell1
      refine region_seq 10 [0, 1, 3, 4, 5, 6, 7, 2, 8, 9] (by kernel_rfl) (by kernel_rfl) ?_
      repeat (first | (refine seq_takeP (v := ?_) rfl rfl rfl ?_ ?_; rotate_left; (· (intro _ hSw; go_simp; (try go_bits); (try with_reducible rfl))); (try simp only [Act.put, List.setIfInBounds_toArray, List.set_cons_zero, List.set_cons_succ, List.getElem_toArray, List.getElem_cons_zero, List.getElem_cons_succ])) | (refine seq_take (v := ?_) rfl rfl rfl ?_ ?_; rotate_left; (· (intro _ hSw; go_simp; (try go_bits); (try with_reducible rfl))); (try simp only [Act.put, List.setIfInBounds_toArray, List.set_cons_zero, List.set_cons_succ, List.getElem_toArray, List.getElem_cons_zero, List.getElem_cons_succ])) | (refine seq_skip rfl rfl rfl ?_; (try simp only [Act.put, List.setIfInBounds_toArray, List.set_cons_zero, List.set_cons_succ, List.getElem_toArray, List.getElem_cons_zero, List.getElem_cons_succ])))
      refine seq_step rfl rfl (fun KR hKR => ?_)
      go_simp
      with_reducible refine (along_any _ _ es ys K _ ((hvm.below hbe).below hS0) ((h2.below hbe).below hS0) hin hK hse hy hsE hs2).mono ?_
      rintro _ w8 ⟨v8, rfl, e8, hb8⟩
      have hS8 := below_then hS0 hb8 hS0.size
      refine hKR.out _ _ (Or.inr hS8) ?_
      clear hKR KR
      (try simp only [Act.put, List.setIfInBounds_toArray, List.set_cons_zero, List.set_cons_succ, List.getElem_toArray, List.getElem_cons_zero, List.getElem_cons_succ])
      repeat (first | (refine seq_takeP (v := ?_) rfl rfl rfl ?_ ?_; rotate_left; (· (intro _ hSw; go_simp; (try go_bits); (try with_reducible rfl))); (try simp only [Act.put, List.setIfInBounds_toArray, List.set_cons_zero, List.set_cons_succ, List.getElem_toArray, List.getElem_cons_zero, List.getElem_cons_succ])) | (refine seq_take (v := ?_) rfl rfl rfl ?_ ?_; rotate_left; (· (intro _ hSw; go_simp; (try go_bits); (try with_reducible rfl))); (try simp only [Act.put, List.setIfInBounds_toArray, List.set_cons_zero, List.set_cons_succ, List.getElem_toArray, List.getElem_cons_zero, List.getElem_cons_succ])) | (refine seq_skip rfl rfl rfl ?_; (try simp only [Act.put, List.setIfInBounds_toArray, List.set_cons_zero, List.set_cons_succ, List.getElem_toArray, List.getElem_cons_zero, List.getElem_cons_succ])))
      refine seq_step rfl rfl (fun KR hKR => ?_)
      go_simp
      with_reducible refine (compareF_any _ _ _ f _ e8 (hmf.below hS8) szA hsf).mono ?_
      rw [canF_q, HAL.out]
      rintro _ w9 ⟨rfl, hb9⟩
      have hS9 := below_then hS8 hb9 hS8.size
      refine hKR.out _ _ (Or.inr hS9) ?_
      clear hKR KR
      (try simp only [Act.put, List.setIfInBounds_toArray, List.set_cons_zero, List.set_cons_succ, List.getElem_toArray, List.getElem_cons_zero, List.getElem_cons_succ])
      repeat (first | (refine seq_takeP (v := ?_) rfl rfl rfl ?_ ?_; rotate_left; (· (intro _ hSw; go_simp; (try go_bits); (try with_reducible rfl))); (try simp only [Act.put, List.setIfInBounds_toArray, List.set_cons_zero, List.set_cons_succ, List.getElem_toArray, List.getElem_cons_zero, List.getElem_cons_succ])) | (refine seq_take (v := ?_) rfl rfl rfl ?_ ?_; rotate_left; (· (intro _ hSw; go_simp; (try go_bits); (try with_reducible rfl))); (try simp only [Act.put, List.setIfInBounds_toArray, List.set_cons_zero, List.set_cons_succ, List.getElem_toArray, List.getElem_cons_zero, List.getElem_cons_succ])) | (refine seq_skip rfl rfl rfl ?_; (try simp only [Act.put, List.setIfInBounds_toArray, List.set_cons_zero, List.set_cons_succ, List.getElem_toArray, List.getElem_cons_zero, List.getElem_cons_succ])))
      refine seq_done ?_
      have hX9 := hX.later hS9
      have hR9 := hR.later hS9
      have hbe9 := below_then hbe hS9 hbe.size
      clear C1 C2 C3 C4 C5
      by_cases hgt : dotC ys (p.col (j : Int)) p.right.length ≤ f.q
      · have hsg : qs (dotC ys (p.col (j : Int)) p.right.length - f.q) ≤ 0 := Int.not_lt.1 fun h => (qs_sub_pos.1 h) hgt
        have HL2 := Lib.hid (lowTo_next HLOW.out (by rw [HQ.out]; exact hgt))
        clear hgt
        go_wp2
        go_roundw
        case rel => exact ⟨j + 1, by omega, by go_num, hbe9, hX9, hR9, HL2.out⟩
        case measure => simp [intOf]; omega
      · have hsg : 0 < qs (dotC ys (p.col (j : Int)) p.right.length - f.q) := qs_sub_pos.2 hgt
        have HLB : Hid (lowB p ys = false) := Lib.hid (lowB_3 (by rw [← HM1.out]; exact hjl) (by rw [HQ.out]; exact hgt))
        clear hgt
        obtain ⟨c0, c1, c2, c3⟩ := hR9.four
        obtain ⟨f0, f1, f2, f3⟩ := hR9.fourF
        go_wp2
        refine ret_ct Tryz.results19 Tryz.underlying47 (by kernel_rfl) rfl (g := w.heap.size + 1) (hR9.set4 _ _ _ _) rfl ?_
        exact fin_low hR9 (FracM.zero w9) hbe9 (by omega) ⟨HLB.out, lowF_no HLB.out⟩
    · obtain rfl : j = N := by omega
      have HLB : Hid (lowB p ys = true) := Lib.hid (lowB_4 HZ.out HLM.out (by rw [← HM1.out]; exact HLOW.out))
      obtain ⟨x0, x1, x2⟩ := hX.three
      obtain ⟨z1, _, _, _, _⟩ := lpErr_zero HZ.out
      have hsD : 1 + ys.length * (2 * K + 1) ≤ 34359738368 := by
        have := Nat.mul_le_mul_right (2 * K + 1) (show ys.length ≤ 64 by rw [HLM.out]; exact z1); omega
      clear z1
      go_wp2_with fail
      refine (product_any _ _ ys p.right K _ (h2.below hbe) (hr.below hbe) (by rw [HLM.out]; exact Nat.le_refl _) hK hy HOK.out.2.1 hsD hs2).mono ?_
      rintro _ w2 ⟨v2, rfl, e2, hb2⟩
      rw [HLM.out] at e2
      have hR2 := hR.later hb2
      have hbe2 := below_then hbe hb2 hbe.size
      clear hX hR hbe hb2 x0 x1 x2
      obtain ⟨B, q, d, B', q', d', rfl, _, _⟩ := id e2
      have HE := Lib.hid e2
      have HLF := Lib.hid (lowF_yes HLB.out)
      clear e2
      generalize canF (dotQ ys p.right p.right.length) = DF at *
      obtain ⟨c0, c1, c2, c3⟩ := hR2.four
      obtain ⟨f0, f1, f2, f3⟩ := hR2.fourF
      go_wp2
      refine ret_ct Tryz.results19 Tryz.underlying47 (by kernel_rfl) rfl (g := w.heap.size + 1) (hR2.set4 _ _ _ _) rfl ?_
      exact fin_low hR2 HE.out hbe2 (by omega) ⟨HLB.out, HLF.out⟩
end Go.Proofs.YtpanffbgihhjnaaGreat

/- Walks: package pairingref25: LowerBound. -/
namespace Go.Proofs.YtpanffbgihhjnaaGreat
open Go.RowKit Pl
attribute [local go_sem ↓] Go.wp_at_zero Go.wp_at_succ

set_option maxRecDepth 100000 in
set_option maxHeartbeats 4000000 in
theorem rlowerBound_any (v1 v2 : Value) (p : LPd) (ys : List RF) (K : Nat) (w : World) (h : LpM w v1 p) (h2 : FrsM w v2 ys) (ok : p.Ok K) (hy : RsL K ys) (hK : 1 ≤ K) (hs : 1 + 64 * (2 * K + 1) ≤ 8589934592) :
    Calls Tryz.prog 20 #[v1, v2] w (LowPost p ys w) := by
  have hs2 : 2 * K ≤ 8589934592 := by omega
  obtain ⟨A, n, c, A', N, c', A'', m, c'', rfl, hc, hv, hr⟩ := id h
  obtain ⟨W, hW, hX, hbe0⟩ := box_lp w (.slice A n c) (.slice A' N c') (.slice A'' m c'')
  obtain ⟨W1, hW1, hR, hbe1⟩ := boxF1 W (.bool false) (.slice none 0 0) (.bool false) (.slice none 0 0)
  have hX := hX.later hbe1
  have hbe := below_then hbe0 hbe1 hbe0.size
  have hsz : W.heap.size = w.heap.size + 1 := by rw [← hW]; simp
  rw [hsz] at hR
  obtain ⟨x0, x1, x2⟩ := hX.three
  obtain ⟨m1, m2, m3⟩ := hv.len
  obtain ⟨r1, r2, r3⟩ := hr.len
  obtain ⟨k1, k2, k3⟩ := hc.len
  obtain ⟨Ay, cy, rfl, hy1, hy2⟩ := h2.shape
  have HM1 := Lib.hid m1
  have HR1 := Lib.hid r1
  have HK1 := Lib.hid k1
  have HOK := Lib.hid ok
  generalize hyl : ys.length = L at *
  have HYL := Lib.hid hyl
  clear m1 r1 k1 hyl ok hbe0 hbe1
  go_enter Tryz.func20, Tryz.ntmps20
  go_wp2_with fail
  clear hW hW1 hsz x0 x1 x2
  refine (rvalidate_any _ p K _ (h.below hbe) HOK.out (by omega)).mono ?_
  rintro _ w1 ⟨rfl, hb1⟩
  have hX1 := hX.later hb1
  have hR1 := hR.later hb1
  have hbe1 := below_then hbe hb1 hbe.size
  clear hX hR hbe hb1
  by_cases hz : lpErr p = 0
  rotate_left
  · have hz' : (lpErr p != 0) = true := by simpa using hz
    have HLB := Lib.hid (lowB_1 (ys := ys) hz)
    clear hz
    obtain ⟨c0, c1, c2, c3⟩ := hR1.four
    obtain ⟨f0, f1, f2, f3⟩ := hR1.fourF
    go_wp2
    refine ret_ct Tryz.results20 Tryz.underlying47 (by kernel_rfl) rfl (g := w.heap.size + 1) (hR1.set4 _ _ _ _) rfl ?_
    exact fin_low hR1 (FracM.zero w1) hbe1 (by omega) ⟨HLB.out, lowF_no HLB.out⟩
  have hz' : (lpErr p != 0) = false := by simpa using hz
  have HZ := Lib.hid hz
  clear hz
  by_cases hl : L = m
  rotate_left
  · have hl' : ((L : Int) != (m : Int)) = true := by simp; omega
    have HLB : Hid (lowB p ys = false) := Lib.hid (lowB_2 (by rw [HYL.out, ← HR1.out]; exact hl))
    clear hl
    obtain ⟨x0, x1, x2⟩ := hX1.three
    obtain ⟨c0, c1, c2, c3⟩ := hR1.four
    obtain ⟨f0, f1, f2, f3⟩ := hR1.fourF
    go_wp2
    refine ret_ct Tryz.results20 Tryz.underlying47 (by kernel_rfl) rfl (g := w.heap.size + 1) (hR1.set4 _ _ _ _) rfl ?_
    exact fin_low hR1 (FracM.zero w1) hbe1 (by omega) ⟨HLB.out, lowF_no HLB.out⟩
  have hl' : ((L : Int) != (m : Int)) = false := by simp; omega
  have HLM : Hid (ys.length = p.right.length) := Lib.hid (by rw [HYL.out, ← HR1.out]; exact hl)
  clear hl
  obtain ⟨x0, x1, x2⟩ := hX1.three
  go_wp2
  clear x0 x1 x2 hl' hz'
  go_loopw [6] (fun i wr => ∃ j : Nat, j ≤ N ∧ i = .int .i64 j ∧ Below w.heap.size w wr ∧ Bk wr w.heap.size 26 [.slice A n c, .slice A' N c', .slice A'' m c''] ∧ Bk wr (w.heap.size + 1) 47 [.bool false, .slice none 0 0, .bool false, .slice none 0 0] ∧ lowTo p ys j) (fun i _ => N - (intOf i).toNat)
  case atStart => exact ⟨0, by omega, rfl, hbe1, hX1, hR1, lowTo_zero _ _⟩
  case round =>
    clear hbe1 hX1 hR1
    obtain ⟨j, hj, rfl, hbe, hX, hR, hlow⟩ := hrel
    have HLOW := Lib.hid hlow
    clear hlow
    rcases Nat.lt_or_ge j N with hjl | hjl
    · obtain ⟨z1, z2, z3, z4, z5⟩ := lpErr_zero HZ.out
      obtain ⟨f, hf⟩ := get_some (fs := p.cost) (i := j) (by rw [z3, ← HM1.out]; exact hjl)
      obtain ⟨b, off, A1, n1, k1, A2, n2, k2, rfl, hlt, hcA, hmf⟩ := hc.elem hbe hf
      have hsE : 1 + p.right.length * (2 * K + 1) ≤ 34359738368 := by
        have := Nat.mul_le_mul_right (2 * K + 1) z1; omega
      have hsC : RsL K (canL p.right.length (p.col (j : Int))) := canL_rs fun i _ => LPd.Sz_col HOK.out hK j i
      have hsf : ShH f := (HOK.out.1 j f hf).shH (by omega)
      have szA : ShH (canF (dotC ys (p.col (j : Int)) p.right.length)) := by
        have h1 := Sz_sum (n := p.right.length) (f := fun i => qAt ys i * p.col (j : Int) i) (K := 2 * K) fun i _ => (Sz_mul (hy.qAt hK i) (LPd.Sz_col HOK.out hK j i)).mono (by omega)
        exact Sz.shH h1 (by have := Nat.mul_le_mul_right (2 * K + 1) z1; omega)
      have HQ := Lib.hid (qAt_some hf)
      have hj1 : (j : Int) < N := by omega
      have hj2 : (j : Int) < n := by rw [HK1.out, z3, ← HM1.out]; exact hj1
      clear z2 z3 z5 hf
      obtain ⟨x0, x1, x2⟩ := hX.three
      obtain ⟨b0, b1, b2, b3⟩ := hcA
      go_wp2_with fail
      have C1 := stab x0
      have C6 := stab x1
      have C7 := stab x2
      have C2 := stab b0
      have C3 := stab b1
      have C4 := stab b2
      have C5 := stab b3
      have hS0 := below_drew' wr
      clear x0 x1 x2 b0 b1 b2 b3
      refine region_seq 12 [0, 1, 2, 5, 6, 7, 8, 9, 3, 4, 10, 11] (by kernel_rfl) (by kernel_rfl) ?_
      repeat (first | (refine seq_takeP (v := ?_) rfl rfl rfl ?_ ?_; rotate_left; (· (intro _ hSw; go_simp; (try go_bits); (try with_reducible rfl))); (try simp only [Act.put, List.setIfInBounds_toArray, List.set_cons_zero, List.set_cons_succ, List.getElem_toArray, List.getElem_cons_zero, List.getElem_cons_succ])) | (refine seq_take (v := ?_) rfl rfl rfl ?_ ?_; rotate_left; (· (intro _ hSw; go_simp; (try go_bits); (try with_reducible rfl))); (try simp only [Act.put, List.setIfInBounds_toArray, List.set_cons_zero, List.set_cons_succ, List.getElem_toArray, List.getElem_cons_zero, List.getElem_cons_succ])) | (refine seq_skip rfl rfl rfl ?_; (try simp only [Act.put, List.setIfInBounds_toArray, List.set_cons_zero, List.set_cons_succ, List.getElem_toArray, List.getElem_cons_zero, List.getElem_cons_succ])))
      refine seq_step rfl rfl (fun KR hKR => ?_)
      go_simp
      with_reducible refine (rcolumn_pos _ p K j _ ((h.below hbe).below hS0) HOK.out (by omega) z4 (by rw [← HM1.out]; exact hjl) z1).mono ?_
      rintro _ w7 ⟨v7, rfl, e7, hb7⟩
      have hS7 := below_then hS0 hb7 hS0.size
      have hl7 := e7.frs.shape
      obtain ⟨B7, d7, rfl, _, _⟩ := hl7
      refine hKR.out _ _ (Or.inr hS7) ?_
      clear hKR KR
      (try simp only [Act.put, List.setIfInBounds_toArray, List.set_cons_zero, List.set_cons_succ, List.getElem_toArray, List.getElem_cons_zero, List.getElem_cons_succ])
      repeat (first | (refine seq_takeP (v := ?_) rfl rfl rfl ?_ ?_; rotate_left; (· (intro _ hSw; go_simp; (try go_bits); (try with_reducible rfl))); (try simp only [Act.put, List.setIfInBounds_toArray, List.set_cons_zero, List.set_cons_succ, List.getElem_toArray, List.getElem_cons_zero, List.getElem_cons_succ])) | (refine seq_take (v := ?_) rfl rfl rfl ?_ ?_; rotate_left; (· (intro _ hSw; go_simp; (try go_bits); (try with_reducible rfl))); (try simp only [Act.put, List.setIfInBounds_toArray, List.set_cons_zero, List.set_cons_succ, List.getElem_toArray, List.getElem_cons_zero, List.getElem_cons_succ])) | (refine seq_skip rfl rfl rfl ?_; (try simp only [Act.put, List.setIfInBounds_toArray, List.set_cons_zero, List.set_cons_succ, List.getElem_toArray, List.getElem_cons_zero, List.getElem_cons_succ])))
      refine seq_step rfl rfl (fun KR hKR => ?_)
      go_simp
      with_reducible refine (rdot_own _ _ ys (canL p.right.length (p.col (j : Int))) K _ ((h2.below hbe).below hS7) e7.frs hK hy hsC (by rw [canL_length, HLM.out, Nat.min_self]; exact hsE) (by omega)).mono ?_
      rw [canL_length, HLM.out, Nat.min_self, dotC_canL]
      rintro _ w8 ⟨v8, rfl, e8, hb8⟩
      have hS8 := below_then hS7 hb8 hS7.size
      refine hKR.out _ _ (Or.inr hS8) ?_
      clear hKR KR
      (try simp only [Act.put, List.setIfInBounds_toArray, List.set_cons_zero, List.set_cons_succ, List.getElem_toArray, List.getElem_cons_zero, List.getElem_cons_succ])
      repeat (first | (refine seq_takeP (v := ?_) rfl rfl rfl ?_ ?_; rotate_left; (· (intro _ hSw; go_simp; (try go_bits); (try with_reducible rfl))); (try simp only [Act.put, List.setIfInBounds_toArray, List.set_cons_zero, List.set_cons_succ, List.getElem_toArray, List.getElem_cons_zero, List.getElem_cons_succ])) | (refine seq_take (v := ?_) rfl rfl rfl ?_ ?_; rotate_left; (· (intro _ hSw; go_simp; (try go_bits); (try with_reducible rfl))); (try simp only [Act.put, List.setIfInBounds_toArray, List.set_cons_zero, List.set_cons_succ, List.getElem_toArray, List.getElem_cons_zero, List.getElem_cons_succ])) | (refine seq_skip rfl rfl rfl ?_; (try simp only [Act.put, List.setIfInBounds_toArray, List.set_cons_zero, List.set_cons_succ, List.getElem_toArray, List.getElem_cons_zero, List.getElem_cons_succ])))
      refine seq_step rfl rfl (fun KR hKR => ?_)
      go_simp
      with_reducible refine (rcompareF_any _ _ _ f _ e8 (hmf.below hS8) szA hsf).mono ?_
      rw [canF_q]
      rintro _ w9 ⟨rfl, hb9⟩
      have hS9 := below_then hS8 hb9 hS8.size
      refine hKR.out _ _ (Or.inr hS9) ?_
      clear hKR KR
      (try simp only [Act.put, List.setIfInBounds_toArray, List.set_cons_zero, List.set_cons_succ, List.getElem_toArray, List.getElem_cons_zero, List.getElem_cons_succ])
      repeat (first | (refine seq_takeP (v := ?_) rfl rfl rfl ?_ ?_; rotate_left; (· (intro _ hSw; go_simp; (try go_bits); (try with_reducible rfl))); (try simp only [Act.put, List.setIfInBounds_toArray, List.set_cons_zero, List.set_cons_succ, List.getElem_toArray, List.getElem_cons_zero, List.getElem_cons_succ])) | (refine seq_take (v := ?_) rfl rfl rfl ?_ ?_; rotate_left; (· (intro _ hSw; go_simp; (try go_bits); (try with_reducible rfl))); (try simp only [Act.put, List.setIfInBounds_toArray, List.set_cons_zero, List.set_cons_succ, List.getElem_toArray, List.getElem_cons_zero, List.getElem_cons_succ])) | (refine seq_skip rfl rfl rfl ?_; (try simp only [Act.put, List.setIfInBounds_toArray, List.set_cons_zero, List.set_cons_succ, List.getElem_toArray, List.getElem_cons_zero, List.getElem_cons_succ])))
      refine seq_done ?_
      have hX9 := hX.later hS9
      have hR9 := hR.later hS9
      have hbe9 := below_then hbe hS9 hbe.size
      clear C1 C2 C3 C4 C5 C6 C7
      by_cases hgt : dotC ys (p.col (j : Int)) p.right.length ≤ f.q
      · have hsg : qs (dotC ys (p.col (j : Int)) p.right.length - f.q) ≤ 0 := Int.not_lt.1 fun h => (qs_sub_pos.1 h) hgt
        have HL2 := Lib.hid (lowTo_next HLOW.out (by rw [HQ.out]; exact hgt))
        clear hgt
        go_wp2
        go_roundw
        case rel => exact ⟨j + 1, by omega, by go_num, hbe9, hX9, hR9, HL2.out⟩
        case measure => simp [intOf]; omega
      · have hsg : 0 < qs (dotC ys (p.col (j : Int)) p.right.length - f.q) := qs_sub_pos.2 hgt
        have HLB : Hid (lowB p ys = false) := Lib.hid (lowB_3 (by rw [← HM1.out]; exact hjl) (by rw [HQ.out]; exact hgt))
        clear hgt
        obtain ⟨c0, c1, c2, c3⟩ := hR9.four
        obtain ⟨f0, f1, f2, f3⟩ := hR9.fourF
        go_wp2
        refine ret_ct Tryz.results20 Tryz.underlying47 (by kernel_rfl) rfl (g := w.heap.size + 1) (hR9.set4 _ _ _ _) rfl ?_
        exact fin_low hR9 (FracM.zero w9) hbe9 (by omega) ⟨HLB.out, lowF_no HLB.out⟩
    · obtain rfl : j = N := by omega
      have HLB : Hid (lowB p ys = true) := Lib.hid (lowB_4 HZ.out HLM.out (by rw [← HM1.out]; exact HLOW.out))
      obtain ⟨x0, x1, x2⟩ := hX.three
      obtain ⟨z1, _, _, _, _⟩ := lpErr_zero HZ.out
      have hsD : 1 + min ys.length p.right.length * (2 * K + 1) ≤ 34359738368 := by
        rw [HLM.out, Nat.min_self]
        have := Nat.mul_le_mul_right (2 * K + 1) z1; omega
      clear z1
      go_wp2_with fail
      refine (rdot_own _ _ ys p.right K _ (h2.below hbe) (hr.below hbe) hK hy HOK.out.2.1 hsD (by omega)).mono ?_
      rintro _ w2 ⟨v2, rfl, e2, hb2⟩
      rw [HLM.out, Nat.min_self] at e2
      have hR2 := hR.later hb2
      have hbe2 := below_then hbe hb2 hbe.size
      clear hX hR hbe hb2 x0 x1 x2
      obtain ⟨B, q, d, B', q', d', rfl, _, _⟩ := id e2
      have HE := Lib.hid e2
      have HLF := Lib.hid (lowF_yes HLB.out)
      clear e2
      generalize canF (dotQ ys p.right p.right.length) = DF at *
      obtain ⟨c0, c1, c2, c3⟩ := hR2.four
      obtain ⟨f0, f1, f2, f3⟩ := hR2.fourF
      go_wp2
      refine ret_ct Tryz.results20 Tryz.underlying47 (by kernel_rfl) rfl (g := w.heap.size + 1) (hR2.set4 _ _ _ _) rfl ?_
      exact fin_low hR2 HE.out hbe2 (by omega) ⟨HLB.out, HLF.out⟩
end Go.Proofs.YtpanffbgihhjnaaGreat

/- Walks: package proof: feasible, IsFeasible. -/
namespace Go.Proofs.YtpanffbgihhjnaaGreat
open Go.RowKit Pl
attribute [local go_sem ↓] Go.wp_at_zero Go.wp_at_succ

namespace Pl
theorem feasB_eq {p : LPd} {xs : List RF} (h : lpErr p = 0) : feasB p xs = ((decide (xs.length = p.cols.length) && nnB xs) && combB p.right.length (timesQ p xs p.cols.length) p.right) := by
  unfold feasB
  rw [decide_eq_true h, Bool.true_and, Bool.and_assoc]
  congr 2
  unfold eqB combB
  apply decide_eq_decide.2
  rw [canL_length]
  constructor
  · intro g i hi; rw [← g.2 i hi, canL_qAt hi]
  · intro g; exact ⟨rfl, fun i hi => by rw [canL_qAt hi]; exact g i hi⟩
end Pl

set_option maxHeartbeats 2000000 in
theorem feasible_any (v1 v2 : Value) (p : LPd) (xs : List RF) (K : Nat) (w : World) (h : LpM w v1 p) (h2 : FrsM w v2 xs) (ok : p.Ok K) (hx : RsL K xs) (hK : 1 ≤ K) (hz : lpErr p = 0) (hs : 1 + 1201 * (2 * K + 1) ≤ 34359738368) :
    Calls Tryz.prog 55 #[v1, v2] w fun e w' => e = .returned (.bool (feasB p xs)) ∧ Below w.heap.size w w' := by
  obtain ⟨A, n, c, A', N, c', A'', m, c'', rfl, hc, hv, hr⟩ := id h
  obtain ⟨W, hW, hX, hbe⟩ := box_lp w (.slice A n c) (.slice A' N c') (.slice A'' m c'')
  obtain ⟨x0, x1, x2⟩ := hX.three
  obtain ⟨m1, m2, m3⟩ := hv.len
  obtain ⟨Ax, cx, rfl, hx1, hx2⟩ := h2.shape
  obtain ⟨z1, z2, z3, z4, z5⟩ := lpErr_zero hz
  have hsN : 1 + (p.cols.length + 1) * (2 * K + 1) ≤ 34359738368 := by
    have := Nat.mul_le_mul_right (2 * K + 1) (show p.cols.length + 1 ≤ 1201 by omega); omega
  have HFE := Lib.hid (feasB_eq (xs := xs) hz)
  have HOK := Lib.hid ok
  have HX := Lib.hid hx
  have HM1 := Lib.hid m1
  have HZ := Lib.hid hz
  have h' := h.below hbe
  have h2' := h2.below hbe
  have hr' := hr.below hbe
  clear ok hx m1 hz z1 z2 z3 z4 z5 h h2 hr hc hv
  generalize hxl : xs.length = L at *
  have HXL := Lib.hid hxl
  clear hxl
  go_enter Tryz.func55, Tryz.ntmps55
  go_wp2_with fail
  clear hW x0 x1 x2
  refine (nonneg_any _ xs N _ h2' (by omega)).mono ?_
  rw [HXL.out, HM1.out]
  rintro _ w1 ⟨rfl, hb1⟩
  have hX1 := hX.later hb1
  have hbe1 := below_then hbe hb1 hbe.size
  obtain ⟨x0, x1, x2⟩ := hX1.three
  cases hnn : (decide (L = p.cols.length) && nnB xs)
  · have HR : Hid (feasB p xs = false) := Lib.hid (by rw [HFE.out, hnn]; rfl)
    clear hnn
    go_wp2
    go_ret
    exact ⟨ret_bool HR.out, hbe1⟩
  · have HR : Hid (feasB p xs = combB p.right.length (timesQ p xs p.cols.length) p.right) := Lib.hid (by rw [HFE.out, hnn]; rfl)
    have HXN : Hid (xs.length = p.cols.length) := Lib.hid (by rw [HXL.out]; simpa using (Bool.and_eq_true_iff.1 hnn).1)
    clear hnn
    go_wp2_with fail
    refine (combines_any _ _ _ p xs p.right K _ (h'.below hb1) (h2'.below hb1) (hr'.below hb1) HOK.out HX.out HOK.out.2.1 hK HZ.out HXN.out (Nat.le_refl _) hsN (by omega)).mono ?_
    rintro _ w2 ⟨rfl, hb2⟩
    have hbe2 := below_then hbe1 hb2 hbe1.size
    clear hX1 hX hbe1 hbe hb1 hb2 x0 x1 x2
    go_wp2
    go_ret
    exact ⟨ret_bool HR.out, hbe2⟩

set_option maxHeartbeats 2000000 in
theorem isFeasible_any (v1 v2 : Value) (p : LPd) (xs : List RF) (K : Nat) (w : World) (h : LpM w v1 p) (h2 : FrsM w v2 xs) (ok : p.Ok K) (hx : RsL K xs) (hK : 1 ≤ K) (hs : 1 + 1201 * (2 * K + 1) ≤ 34359738368) :
    Calls Tryz.prog 23 #[v1, v2] w fun e w' => e = .returned (.bool (feasB p xs)) ∧ Below w.heap.size w w' := by
  obtain ⟨A, n, c, A', N, c', A'', m, c'', rfl, hc, hv, hr⟩ := id h
  obtain ⟨W, hW, hX, hbe⟩ := box_lp w (.slice A n c) (.slice A' N c') (.slice A'' m c'')
  obtain ⟨x0, x1, x2⟩ := hX.three
  obtain ⟨Ax, cx, rfl, hx1, hx2⟩ := h2.shape
  have HOK := Lib.hid ok
  have HX := Lib.hid hx
  have h' := h.below hbe
  have h2' := h2.below hbe
  clear ok hx h h2 hr hc hv
  generalize hxl : xs.length = L at *
  clear hxl
  go_enter Tryz.func23, Tryz.ntmps23
  go_wp2_with fail
  clear hW x0 x1 x2
  refine (validate_any _ p K _ h' HOK.out).mono ?_
  rintro _ w1 ⟨rfl, hb1⟩
  have hX1 := hX.later hb1
  have hbe1 := below_then hbe hb1 hbe.size
  obtain ⟨x0, x1, x2⟩ := hX1.three
  by_cases hz : lpErr p = 0
  · have HZ := Lib.hid hz
    have hz' : (lpErr p == 0) = true := by simpa using hz
    clear hz
    go_wp2_with fail
    refine (feasible_any _ _ p xs K _ (h'.below hb1) (h2'.below hb1) HOK.out HX.out hK HZ.out hs).mono ?_
    rintro _ w2 ⟨rfl, hb2⟩
    have hbe2 := below_then hbe1 hb2 hbe1.size
    clear hX1 hX hbe1 hbe hb1 hb2 x0 x1 x2
    go_wp2
    go_ret
    exact ⟨rfl, hbe2⟩
  · have HR := Lib.hid (feasB_1 (xs := xs) hz)
    have hz' : (lpErr p == 0) = false := by simpa using hz
    clear hz
    go_wp2
    go_ret
    exact ⟨ret_bool HR.out, hbe1⟩
end Go.Proofs.YtpanffbgihhjnaaGreat

/- Memory: slices of ints. Walks: package pairingdata: At. -/
namespace Go.Proofs.YtpanffbgihhjnaaGreat
open Go.RowKit Pl
attribute [local go_sem ↓] Go.wp_at_zero Go.wp_at_succ

theorem i64_and1 (n : Int) : bits .and .i64 n 1 = n % 2 := by
  have hc : (BitVec.ofInt 64 1).toNat = 2 ^ 1 - 1 := by decide
  have key : (BitVec.ofInt 64 n &&& BitVec.ofInt 64 1).toNat = (n % ((2 ^ 64 : Nat) : Int)).toNat % 2 ^ 1 := by
    rw [BitVec.toNat_and, BitVec.toNat_ofInt, hc, Nat.and_two_pow_sub_one_eq_mod]
  show IntKind.i64.wrap ((BitVec.ofInt 64 n &&& BitVec.ofInt 64 1).toNat : Nat) = n % 2
  rw [key, IntKind.wrap_i64]
  omega
theorem i64_and3 (n : Int) : bits .and .i64 n 3 = n % 4 := by
  have hc : (BitVec.ofInt 64 3).toNat = 2 ^ 2 - 1 := by decide
  have key : (BitVec.ofInt 64 n &&& BitVec.ofInt 64 3).toNat = (n % ((2 ^ 64 : Nat) : Int)).toNat % 2 ^ 2 := by
    rw [BitVec.toNat_and, BitVec.toNat_ofInt, hc, Nat.and_two_pow_sub_one_eq_mod]
  show IntKind.i64.wrap ((BitVec.ofInt 64 n &&& BitVec.ofInt 64 3).toNat : Nat) = n % 4
  rw [key, IntKind.wrap_i64]
  omega
theorem i64_and7 (n : Int) : bits .and .i64 n 7 = n % 8 := by
  have hc : (BitVec.ofInt 64 7).toNat = 2 ^ 3 - 1 := by decide
  have key : (BitVec.ofInt 64 n &&& BitVec.ofInt 64 7).toNat = (n % ((2 ^ 64 : Nat) : Int)).toNat % 2 ^ 3 := by
    rw [BitVec.toNat_and, BitVec.toNat_ofInt, hc, Nat.and_two_pow_sub_one_eq_mod]
  show IntKind.i64.wrap ((BitVec.ofInt 64 n &&& BitVec.ofInt 64 7).toNat : Nat) = n % 8
  rw [key, IntKind.wrap_i64]
  omega
theorem i64_and15 (n : Int) : bits .and .i64 n 15 = n % 16 := by
  have hc : (BitVec.ofInt 64 15).toNat = 2 ^ 4 - 1 := by decide
  have key : (BitVec.ofInt 64 n &&& BitVec.ofInt 64 15).toNat = (n % ((2 ^ 64 : Nat) : Int)).toNat % 2 ^ 4 := by
    rw [BitVec.toNat_and, BitVec.toNat_ofInt, hc, Nat.and_two_pow_sub_one_eq_mod]
  show IntKind.i64.wrap ((BitVec.ofInt 64 n &&& BitVec.ofInt 64 15).toNat : Nat) = n % 16
  rw [key, IntKind.wrap_i64]
  omega
theorem i64_and31 (n : Int) : bits .and .i64 n 31 = n % 32 := by
  have hc : (BitVec.ofInt 64 31).toNat = 2 ^ 5 - 1 := by decide
  have key : (BitVec.ofInt 64 n &&& BitVec.ofInt 64 31).toNat = (n % ((2 ^ 64 : Nat) : Int)).toNat % 2 ^ 5 := by
    rw [BitVec.toNat_and, BitVec.toNat_ofInt, hc, Nat.and_two_pow_sub_one_eq_mod]
  show IntKind.i64.wrap ((BitVec.ofInt 64 n &&& BitVec.ofInt 64 31).toNat : Nat) = n % 32
  rw [key, IntKind.wrap_i64]
  omega
theorem i64_and63 (n : Int) : bits .and .i64 n 63 = n % 64 := by
  have hc : (BitVec.ofInt 64 63).toNat = 2 ^ 6 - 1 := by decide
  have key : (BitVec.ofInt 64 n &&& BitVec.ofInt 64 63).toNat = (n % ((2 ^ 64 : Nat) : Int)).toNat % 2 ^ 6 := by
    rw [BitVec.toNat_and, BitVec.toNat_ofInt, hc, Nat.and_two_pow_sub_one_eq_mod]
  show IntKind.i64.wrap ((BitVec.ofInt 64 n &&& BitVec.ofInt 64 63).toNat : Nat) = n % 64
  rw [key, IntKind.wrap_i64]
  omega
theorem i64_and1023 (n : Int) : bits .and .i64 n 1023 = n % 1024 := by
  have hc : (BitVec.ofInt 64 1023).toNat = 2 ^ 10 - 1 := by decide
  have key : (BitVec.ofInt 64 n &&& BitVec.ofInt 64 1023).toNat = (n % ((2 ^ 64 : Nat) : Int)).toNat % 2 ^ 10 := by
    rw [BitVec.toNat_and, BitVec.toNat_ofInt, hc, Nat.and_two_pow_sub_one_eq_mod]
  show IntKind.i64.wrap ((BitVec.ofInt 64 n &&& BitVec.ofInt 64 1023).toNat : Nat) = n % 1024
  rw [key, IntKind.wrap_i64]
  omega
theorem i64_and65535 (n : Int) : bits .and .i64 n 65535 = n % 65536 := by
  have hc : (BitVec.ofInt 64 65535).toNat = 2 ^ 16 - 1 := by decide
  have key : (BitVec.ofInt 64 n &&& BitVec.ofInt 64 65535).toNat = (n % ((2 ^ 64 : Nat) : Int)).toNat % 2 ^ 16 := by
    rw [BitVec.toNat_and, BitVec.toNat_ofInt, hc, Nat.and_two_pow_sub_one_eq_mod]
  show IntKind.i64.wrap ((BitVec.ofInt 64 n &&& BitVec.ofInt 64 65535).toNat : Nat) = n % 65536
  rw [key, IntKind.wrap_i64]
  omega
/-- the slice value v reads in w as the numbers zs -/
def IntsM (w : World) (v : Value) (zs : List Int) : Prop :=
  ∃ a cap, v = .slice a zs.length cap ∧ zs.length ≤ cap ∧ cap ≤ maxLen ∧ (0 < zs.length → ∃ b off, a = some ⟨b, off, none⟩ ∧ ∀ i, i < zs.length → w.cell? ⟨b, off + i, none⟩ = some (.int .i64 (zs.getD i 0))) ∧ ∀ z ∈ zs, -9223372036854775808 ≤ z ∧ z ≤ 9223372036854775807
theorem IntsM.below {w w' : World} {v : Value} {zs : List Int} (h : IntsM w v zs) (hb : Below w.heap.size w w') : IntsM w' v zs := by
  obtain ⟨a, cap, h1, h2, h3, h4, h5⟩ := h
  refine ⟨a, cap, h1, h2, h3, fun hp => ?_, h5⟩
  obtain ⟨b, off, g1, g2⟩ := h4 hp
  exact ⟨b, off, g1, fun i hi => cell_keep hb (g2 i hi)⟩
theorem IntsM.shape {w : World} {v : Value} {zs : List Int} (h : IntsM w v zs) : ∃ a cap, v = .slice a zs.length cap ∧ zs.length ≤ cap ∧ cap ≤ 9223372036854775807 := by
  obtain ⟨a, cap, h1, h2, h3, h4, h5⟩ := h
  unfold maxLen at h3
  exact ⟨a, cap, h1, h2, by omega⟩
theorem IntsM.at_ {w : World} {a : Option Addr} {n cap : Nat} {zs : List Int} (h : IntsM w (.slice a n cap) zs) {i : Nat} (hi : i < n) :
    ∃ b off z, a = some ⟨b, off, none⟩ ∧ w.cell? ⟨b, off + i, none⟩ = some (.int .i64 z) ∧ zs[i]? = some z ∧ -9223372036854775808 ≤ z ∧ z ≤ 9223372036854775807 := by
  obtain ⟨a', cap', h1, h2, h3, h4, h5⟩ := h
  injection h1 with e1 e2 e3
  subst e1
  obtain ⟨b, off, g1, g2⟩ := h4 (by omega)
  have hg : zs[i]? = some (zs.getD i 0) := by simp [List.getD, List.getElem?_eq_getElem (show i < zs.length by omega)]
  have hm := h5 _ (List.mem_of_getElem? hg)
  exact ⟨b, off, _, g1, g2 i (by omega), hg, hm⟩

set_option maxHeartbeats 2000000 in
theorem at_any (v : Value) (zs : List Int) (i : Nat) (w : World) (h : IntsM w v zs) (hi : i ≤ 1099511627776) :
    Calls Tryz.prog 18 #[v, .int .i64 (i : Int)] w fun e w' => ∃ z : Int, e = .returned (.int .i64 z) ∧ 0 ≤ z ∧ z ≤ 65535 + i ∧ Below w.heap.size w w' := by
  obtain ⟨a, cap, rfl, hc1, hc2⟩ := h.shape
  generalize hn : zs.length = n at *
  clear hn
  have hm := i64_and65535
  rcases Nat.eq_zero_or_pos n with h0 | h0
  · subst h0
    go_enter Tryz.func18, Tryz.ntmps18
    go_wp2
    go_ret
    exact ⟨_, rfl, by omega, by omega, Below.refl _ _⟩
  · have hlt : i % n < n := Nat.mod_lt _ h0
    obtain ⟨b, off, z, rfl, hcell, _, hz1, hz2⟩ := h.at_ hlt
    have hne : ((n : Int) == 0) = false := by simp; omega
    have hq : i / n ≤ i := Nat.div_le_self _ _
    have hn0 : ¬ n = 0 := by omega
    have hr1 : (i : Int) % n < n := by omega
    have hr2 : 0 ≤ (i : Int) % n := by omega
    have hq1 : (i : Int) / n ≤ i := Int.ediv_le_self _ (by omega)
    have hq2 : 0 ≤ (i : Int) / n := Int.ediv_nonneg (by omega) (by omega)
    go_enter Tryz.func18, Tryz.ntmps18
    go_wp2_with fail
    have C1 := stab hcell
    refine region_seq 14 [0, 1, 2, 3, 4, 5, 6, 7, 8, 9, 10, 11, 12, 13] (by kernel_rfl) (by kernel_rfl) ?_
    repeat (first | (refine seq_takeP (v := ?_) rfl rfl rfl ?_ ?_; rotate_left; (· (intro _ hSw; go_simp; (try go_bits); (try with_reducible rfl))); (try simp only [Act.put, List.setIfInBounds_toArray, List.set_cons_zero, List.set_cons_succ, List.getElem_toArray, List.getElem_cons_zero, List.getElem_cons_succ])) | (refine seq_take (v := ?_) rfl rfl rfl ?_ ?_; rotate_left; (· (intro _ hSw; go_simp; (try go_bits); (try with_reducible rfl))); (try simp only [Act.put, List.setIfInBounds_toArray, List.set_cons_zero, List.set_cons_succ, List.getElem_toArray, List.getElem_cons_zero, List.getElem_cons_succ])) | (refine seq_skip rfl rfl rfl ?_; (try simp only [Act.put, List.setIfInBounds_toArray, List.set_cons_zero, List.set_cons_succ, List.getElem_toArray, List.getElem_cons_zero, List.getElem_cons_succ])))
    refine seq_done ?_
    clear C1
    go_wp2
    go_ret
    exact ⟨_, rfl, by omega, by omega, below_drew' _⟩
end Go.Proofs.YtpanffbgihhjnaaGreat

/- Walks: package pairingdata: Frac, times. -/
namespace Go.Proofs.YtpanffbgihhjnaaGreat
open Go.RowKit Pl
attribute [local go_sem ↓] Go.wp_at_zero Go.wp_at_succ

namespace Pl
theorem divInt_1 (z : Int) : Rat.divInt z 1 = (z : Rat) := by
  rw [Rat.divInt_eq_div, Rat.intCast_one]; grind
theorem Sz_int {z : Int} (h : -4294967296 < z) (h2 : z < 4294967296) : Sz 1 (z : Rat) := by
  unfold Sz
  exact ⟨digs_lt (by rw [Rat.num_intCast]; unfold B32; omega), digs_lt (by rw [Rat.den_intCast]; decide)⟩
end Pl
theorem FracO.numO {base : Nat} {w : World} {b s b' s' : Value} {f : RF} (h : FracO base w (.agg #[b, s, b', s']) f) : IntO base w (.agg #[b, s]) f.num := by
  obtain ⟨⟨A, n, c, A', n', c', e, d1, _⟩, x, t, x', t', e2, o⟩ := h
  simp at e e2
  obtain ⟨rfl, rfl, rfl, rfl⟩ := e
  obtain ⟨_, rfl, _, _⟩ := e2
  exact ⟨_, rfl, o, d1.ok⟩

set_option maxHeartbeats 1000000 in
theorem frac_own (n : Int) (w : World) :
    Calls Tryz.prog 27 #[.int .i64 n] w fun e w' => ∃ v' q, e = .returned v' ∧ FracO w.heap.size w' v' (canF q) ∧ Sz 2 q ∧ Below w.heap.size w w' := by
  obtain ⟨W, hW, hR, hbe⟩ := boxF1 w (.bool false) (.slice none 0 0) (.bool false) (.slice none 0 0)
  have m1 := i64_and15
  have m2 := i64_and3
  have r1 : 0 ≤ n % 16 := by omega
  have r2 : n % 16 ≤ 15 := by omega
  go_enter Tryz.func27, Tryz.ntmps27
  go_wp2_with fail
  clear hW
  refine (rint_own (n % 16 - 5) _ (by omega) (by omega)).mono ?_
  rintro _ w1 ⟨v1, rfl, e1, hb1⟩
  have r3 : 0 ≤ n / 16 % 4 := by omega
  have r4 : n / 16 % 4 ≤ 3 := by omega
  go_wp2_with fail
  refine (rint_own (1 + n / 16 % 4) _ (by omega) (by omega)).mono ?_
  rintro _ w2 ⟨v2, rfl, e2, hb2⟩
  have hb12 := below_then hb1 hb2 hb1.size
  have s1 : Sz 1 (((n % 16 - 5 : Int)) : Rat) := Sz_int (by omega) (by omega)
  have s2 : Sz 1 (((1 + n / 16 % 4 : Int)) : Rat) := Sz_int (by omega) (by omega)
  go_wp2_with fail
  refine (rdivF_own _ _ _ _ _ (e1.frac.below hb2) e2.frac (s1.sh (by decide)) (s2.sh (by decide))).mono ?_
  rw [canF_q, canF_q]
  rintro _ w3 ⟨v3, rfl, e3, hb3⟩
  have SQ := Lib.hid (Sz_div s1 s2)
  clear s1 s2
  generalize (((n % 16 - 5 : Int)) : Rat) / (((1 + n / 16 % 4 : Int)) : Rat) = q at *
  have hb13 := below_then hb12 hb3 hb12.size
  have hR3 := hR.later hb13
  have hbe3 := below_then hbe hb13 hbe.size
  have hE3 := e3.mono (show w.heap.size ≤ w2.heap.size from by have := hbe.size; have := hb12.size; omega)
  obtain ⟨B, l, d, B', l', d', rfl, _, _⟩ := id e3.frac
  obtain ⟨c0, c1, c2, c3⟩ := hR3.four
  obtain ⟨f0, f1, f2, f3⟩ := hR3.fourF
  clear e1 e2 e3 hR hb1 hb2 hb3 hb12
  generalize hQ : canF q = Q at *
  have HQ := Lib.hid hQ
  clear hQ
  go_wp2
  refine ret_cell Tryz.results27 Tryz.underlying47 (by kernel_rfl) rfl (hR3.set4 _ _ _ _) rfl ?_
  obtain ⟨v', q1, q2, q3⟩ := fin_fracO hR3 hE3 hbe3 (Nat.le_refl _)
  exact ⟨v', q, q1, by rw [HQ.out]; exact q2, SQ.out, q3⟩

set_option maxRecDepth 100000 in
set_option maxHeartbeats 2000000 in
theorem ptimes_own (v1 v2 : Value) (a b : RI) (w : World) (ha : IntM w v1 a) (hb : IntM w v2 b) (hs1 : (digs (val a.ds)).length ≤ 1000) (hs2 : (digs (val b.ds)).length ≤ 1000) :
    Calls Tryz.prog 54 #[v1, v2] w fun e w' => ∃ v', e = .returned v' ∧ IntO w.heap.size w' v' (canI (a.z * b.z)) ∧ Below w.heap.size w w' := by
  obtain ⟨A, n, c, rfl, hd⟩ := ha.shape
  obtain ⟨A', n', c', rfl, hd'⟩ := hb.shape
  obtain ⟨W, hW, hX, hX', hR, hbe⟩ := box2 w (.bool a.neg) (.slice A n c) (.bool b.neg) (.slice A' n' c')
  have ha := ha.below hbe
  have hb := hb.below hbe
  clear hd hd'
  obtain ⟨x0, x1, _, _⟩ := hX.two
  obtain ⟨y0, y1, _, _⟩ := hX'.two
  obtain ⟨Q, hQ⟩ : ∃ Q : Rat, ((a.z * b.z : Int) : Rat) = Q := ⟨_, rfl⟩
  have HQ : Hid ((⟨a, canI 1⟩ : RF).q * (⟨b, canI 1⟩ : RF).q = Q) := Lib.hid (by unfold RF.q; simp only [canI_z]; rw [divInt_1, divInt_1, ← hQ, Rat.intCast_mul])
  have l1 : (digs (val (canI 1).ds)).length ≤ 34359738368 := by rw [val_canI]; exact Nat.le_trans (digs_lt (k := 1) (by decide)) (by decide)
  have sh1 : (⟨a, canI 1⟩ : RF).Sh := ⟨by simp only; omega, l1⟩
  have sh2 : (⟨b, canI 1⟩ : RF).Sh := ⟨by simp only; omega, l1⟩
  have HN : Hid ((canF Q).num = canI (a.z * b.z)) := Lib.hid (by rw [← hQ]; unfold canF; rw [Rat.num_intCast])
  clear l1 hQ
  go_enter Tryz.func54, Tryz.ntmps54
  go_wp2_with fail
  clear hW
  have C1 := stab x0
  have C2 := stab x1
  have C3 := stab y0
  have C4 := stab y1
  have hS0 := below_drew' W
  have hf0 := fun b s b' s' (w : World) => run_num b s b' s' w
  clear x0 x1 y0 y1
  refine region_seq 10 [0, 4, 1, 2, 3, 5, 6, 7, 8, 9, 10] (by kernel_rfl) (by kernel_rfl) ?_
  repeat (first | (refine seq_takeP (v := ?_) rfl rfl rfl ?_ ?_; rotate_left; (· (intro _ hSw; go_simp; (try go_bits); (try with_reducible rfl))); (try simp only [Act.put, List.setIfInBounds_toArray, List.set_cons_zero, List.set_cons_succ, List.getElem_toArray, List.getElem_cons_zero, List.getElem_cons_succ])) | (refine seq_take (v := ?_) rfl rfl rfl ?_ ?_; rotate_left; (· (intro _ hSw; go_simp; (try go_bits); (try with_reducible rfl))); (try simp only [Act.put, List.setIfInBounds_toArray, List.set_cons_zero, List.set_cons_succ, List.getElem_toArray, List.getElem_cons_zero, List.getElem_cons_succ])) | (refine seq_skip rfl rfl rfl ?_; (try simp only [Act.put, List.setIfInBounds_toArray, List.set_cons_zero, List.set_cons_succ, List.getElem_toArray, List.getElem_cons_zero, List.getElem_cons_succ])))
  refine seq_step rfl rfl (fun KR hKR => ?_)
  go_simp
  with_reducible refine (rint_own 1 _ (by omega) (by omega)).mono ?_
  rintro _ w1 ⟨v1, rfl, e1, hb1⟩
  have hS1 := below_then hS0 hb1 hS0.size
  obtain ⟨B, l, d, B', l', d', rfl, _, _⟩ := id e1.frac
  refine hKR.out _ _ (Or.inr hS1) ?_
  clear hKR KR
  (try simp only [Act.put, List.setIfInBounds_toArray, List.set_cons_zero, List.set_cons_succ, List.getElem_toArray, List.getElem_cons_zero, List.getElem_cons_succ])
  repeat (first | (refine seq_takeP (v := ?_) rfl rfl rfl ?_ ?_; rotate_left; (· (intro _ hSw; go_simp; (try go_bits); (try with_reducible rfl))); (try simp only [Act.put, List.setIfInBounds_toArray, List.set_cons_zero, List.set_cons_succ, List.getElem_toArray, List.getElem_cons_zero, List.getElem_cons_succ])) | (refine seq_take (v := ?_) rfl rfl rfl ?_ ?_; rotate_left; (· (intro _ hSw; go_simp; (try go_bits); (try with_reducible rfl))); (try simp only [Act.put, List.setIfInBounds_toArray, List.set_cons_zero, List.set_cons_succ, List.getElem_toArray, List.getElem_cons_zero, List.getElem_cons_succ])) | (refine seq_skip rfl rfl rfl ?_; (try simp only [Act.put, List.setIfInBounds_toArray, List.set_cons_zero, List.set_cons_succ, List.getElem_toArray, List.getElem_cons_zero, List.getElem_cons_succ])))
  refine seq_step rfl rfl (fun KR hKR => ?_)
  go_simp
  with_reducible refine (rint_own 1 _ (by omega) (by omega)).mono ?_
  rintro _ w2 ⟨v2, rfl, e2, hb2⟩
  have hS2 := below_then hS1 hb2 hS1.size
  obtain ⟨D, k, f, D', k', f', rfl, _, _⟩ := id e2.frac
  have hm1 := (FracM.mk (ha.below hS2) (e1.frac.below hb2).num.1)
  have hm2 := (FracM.mk (hb.below hS2) e2.frac.num.1)
  refine hKR.out _ _ (Or.inr hS2) ?_
  clear hKR KR
  (try simp only [Act.put, List.setIfInBounds_toArray, List.set_cons_zero, List.set_cons_succ, List.getElem_toArray, List.getElem_cons_zero, List.getElem_cons_succ])
  repeat (first | (refine seq_takeP (v := ?_) rfl rfl rfl ?_ ?_; rotate_left; (· (intro _ hSw; go_simp; (try go_bits); (try with_reducible rfl))); (try simp only [Act.put, List.setIfInBounds_toArray, List.set_cons_zero, List.set_cons_succ, List.getElem_toArray, List.getElem_cons_zero, List.getElem_cons_succ])) | (refine seq_take (v := ?_) rfl rfl rfl ?_ ?_; rotate_left; (· (intro _ hSw; go_simp; (try go_bits); (try with_reducible rfl))); (try simp only [Act.put, List.setIfInBounds_toArray, List.set_cons_zero, List.set_cons_succ, List.getElem_toArray, List.getElem_cons_zero, List.getElem_cons_succ])) | (refine seq_skip rfl rfl rfl ?_; (try simp only [Act.put, List.setIfInBounds_toArray, List.set_cons_zero, List.set_cons_succ, List.getElem_toArray, List.getElem_cons_zero, List.getElem_cons_succ])))
  refine seq_step rfl rfl (fun KR hKR => ?_)
  go_simp
  with_reducible refine (rmulF_own _ _ ⟨a, canI 1⟩ ⟨b, canI 1⟩ _ hm1 hm2 sh1 sh2).mono ?_
  rw [HQ.out]
  rintro _ w3 ⟨v3, rfl, e3, hb3⟩
  have hS3 := below_then hS2 hb3 hS2.size
  obtain ⟨E, k3, f3, E', k3', f3', rfl, _, _⟩ := id e3.frac
  have hR3 := hR.later hS3
  obtain ⟨c0, c1, f0, f1⟩ := hR3.two
  refine hKR.out _ _ (Or.inr hS3) ?_
  clear hKR KR
  (try simp only [Act.put, List.setIfInBounds_toArray, List.set_cons_zero, List.set_cons_succ, List.getElem_toArray, List.getElem_cons_zero, List.getElem_cons_succ])
  repeat (first | (refine seq_takeP (v := ?_) rfl rfl rfl ?_ ?_; rotate_left; (· (intro _ hSw; go_simp; (try go_bits); (try with_reducible rfl))); (try simp only [Act.put, List.setIfInBounds_toArray, List.set_cons_zero, List.set_cons_succ, List.getElem_toArray, List.getElem_cons_zero, List.getElem_cons_succ])) | (refine seq_take (v := ?_) rfl rfl rfl ?_ ?_; rotate_left; (· (intro _ hSw; go_simp; (try go_bits); (try with_reducible rfl))); (try simp only [Act.put, List.setIfInBounds_toArray, List.set_cons_zero, List.set_cons_succ, List.getElem_toArray, List.getElem_cons_zero, List.getElem_cons_succ])) | (refine seq_skip rfl rfl rfl ?_; (try simp only [Act.put, List.setIfInBounds_toArray, List.set_cons_zero, List.set_cons_succ, List.getElem_toArray, List.getElem_cons_zero, List.getElem_cons_succ])))
  refine seq_step rfl rfl (fun KR hKR => ?_)
  go_simp
  refine hKR.out _ _ (Or.inl (by decide)) ?_
  clear hKR KR
  (try simp only [Act.put, List.setIfInBounds_toArray, List.set_cons_zero, List.set_cons_succ, List.getElem_toArray, List.getElem_cons_zero, List.getElem_cons_succ])
  refine seq_done ?_
  clear C1 C2 C3 C4
  have hbe3 := below_then hbe hS3 hbe.size
  have eN := (e3.numO).mono (show w.heap.size ≤ w2.heap.size from by have := hbe.size; have := hS2.size; omega)
  rw [HN.out] at eN
  have HE := Lib.hid eN
  clear e1 e2 e3 hm1 hm2 eN hb1 hb2 hb3 hS0 hS1 hS2 hS3 ha hb hX hX' hR
  go_wp2
  refine ret_cell Tryz.results54 Tryz.underlying45 (by kernel_rfl) rfl (hR3.set2 _ _) rfl ?_
  have HE := HE.out
  rw [← HN.out] at HE ⊢
  exact fin_intO hR3 HE hbe3 (by omega)
end Go.Proofs.YtpanffbgihhjnaaGreat

/- Memory: vectors and lists of vectors in rows of the call's own; append in a region that draws its order. -/
namespace Go.Proofs.YtpanffbgihhjnaaGreat
open Go.RowKit Pl

/-- an append of one element, in a region that draws its order -/
theorem seq_append_one {ops : Array Oper} {Q : Exit → Act → World → Prop} {S : World → Prop} {m : Nat} {i : Nat} {is : List Nat} {o : Oper} {a : Act} (hoi : ops[i]? = some o) (hf : floatI ops m i = false) (hgd : o.guard = none) (hl0 : m ≤ i) (s x : Operand) (t : TypeId)
    (ho : o.op = .call { callee := .builtin .append, args := #[s, x], argTypes := #[t, t] })
    (e : TypeId) (inf : TypeInfo) (z : Value) (size bytes : Nat) (ht : Tryz.prog.underlying t = some (.slice e)) (hi : Tryz.prog.info? e = some inf) (hz : inf.zero = some z)
    (hsize : inf.size = size) (hby : inf.bytes = bytes) (hzs : z.cells.size = size) (hsz : 0 < size) (W : World) (base : Nat) (v : Value) (n : Nat) (xs news : List Value) (hs : a.eval s = v) (hown : W.ownsRow base e size v n xs)
    (hx : a.eval x = .slice (some ⟨W.heap.size, 0, none⟩) 1 1) (hl : news.length = size) (h1 : ∀ u ∈ news, u.oneCell' = true) (hn : n + 1 ≤ maxLen) (hb : (n + 1) * bytes ≤ 140737488355328) (hbase : base ≤ W.heap.size)
    (h : ∀ v' w', w'.ownsRow base e size v' (n + 1) (xs ++ news) → KeepBut e W w' → Below base W w' → wpSeq Tryz.prog ops Q S m is (a.put o.dst v') w') :
    wpSeq Tryz.prog ops Q S m (i :: is) a (W.alloc (.cells news.toArray e)) := by
  refine seq_step hoi hf fun K hK => ?_
  obtain ⟨v', w', hr, h2, h3, h4⟩ := run_append_one o.type t e inf z size bytes ht hi hz hsize hby hzs hsz W base v n xs news hown hl h1 hn hb hbase
  rw [if_pos (by simp [Region.wanted, hgd])]
  unfold Oper.wp execOp
  simp only [ho, resolve, invoke, builtin, Sem.run_bind, Sem.run_pure, Result.andThen_ok, List.map_toArray, List.map_cons, List.map_nil, hs, hx, hr]
  exact hK _ _ (.inl hl0) (h v' w' h2 h3 h4)
theorem seq_append_frac {ops : Array Oper} {Q : Exit → Act → World → Prop} {S : World → Prop} {m : Nat} {i : Nat} {is : List Nat} {o : Oper} {a : Act} (hoi : ops[i]? = some o) (hfl : floatI ops m i = false) (hgd : o.guard = none) (hl0 : m ≤ i) (s x : Operand)
    (ho : o.op = .call { callee := .builtin .append, args := #[s, x], argTypes := #[23, 23] })
    (W : World) (base : Nat) (v : Value) (fs : List RF) (hs : a.eval s = v) (hown : FrsO base W v fs) (b b' : Bool) (A A' : Option Addr) (n c n' c' : Nat) (f : RF) (hf : FracM W (.agg #[.bool b, .slice A n c, .bool b', .slice A' n' c']) f)
    (hx : a.eval x = .slice (some ⟨W.heap.size, 0, none⟩) 1 1) (hn : fs.length + 1 ≤ 1099511627776) (hbase : base ≤ W.heap.size)
    (h : ∀ v' w', FrsO base w' v' (fs ++ [f]) → KeepBut 47 W w' → Below base W w' → wpSeq Tryz.prog ops Q S m is (a.put o.dst v') w') :
    wpSeq Tryz.prog ops Q S m (i :: is) a (W.alloc (.cells #[.bool b, .slice A n c, .bool b', .slice A' n' c'] 47)) := by
  obtain ⟨cs, h1, h2⟩ := hown
  obtain ⟨i0, hi, hz0, hz1, hz2⟩ := info_parts info_frac
  refine seq_append_one hoi hfl hgd hl0 s x 23 ho 47 i0 _ 4 64 Tryz.underlying23 hi hz0 hz1 hz2 rfl (by decide) W base v fs.length cs [.bool b, .slice A n c, .bool b', .slice A' n' c'] hs h1 hx rfl frac_oneCell (by unfold maxLen; omega) (by omega) hbase ?_
  intro v' w' g1 g2 g3
  refine h v' w' ⟨_, by simpa using g1, ?_⟩ g2 g3
  have hk := g2.keep (by decide)
  exact (h2.keep hk).snoc (hf.keep hk)

/-- a vector in a row of the call's own -/
def VecO (base : Nat) (w : World) (v : Value) (es : List En) : Prop := ∃ cs, w.ownsRow base 80 5 v es.length cs ∧ EnC w cs es
theorem VecO.vec {base : Nat} {w : World} {v : Value} {es : List En} (h : VecO base w v es) : VecM w v es := by
  obtain ⟨cs, h1, h2⟩ := h
  exact ⟨cs, RowM.of_own h1, h2⟩
theorem VecO.below {base : Nat} {w w' : World} {v : Value} {es : List En} (h : VecO base w v es) (hb : Below w.heap.size w w') : VecO base w' v es := by
  obtain ⟨cs, h1, h2⟩ := h
  exact ⟨cs, own_below h1 hb, h2.keep (Keep.of_below hb)⟩
theorem VecO.nil (base : Nat) (w : World) : VecO base w (.slice none 0 0) [] := ⟨[], World.ownsRow_nil _ _ _ _, EnC.nil _⟩
theorem info_entry : (Tryz.prog.info? 80).map (fun i => (i.zero, i.size, i.bytes)) = some (some (.agg #[.int .i64 0, .bool false, .slice none 0 0, .bool false, .slice none 0 0]), 5, 72) := by kernel_rfl
theorem entry_oneCell {k : Int} {x y : Bool} {A A' : Option Addr} {n c n' c' : Nat} : ∀ u ∈ [Value.int .i64 k, .bool x, .slice A n c, .bool y, .slice A' n' c'], u.oneCell' = true := by
  intro u hu
  simp at hu
  rcases hu with rfl | rfl | rfl | rfl | rfl <;> rfl
theorem wpList_append_entry {ops : Array Oper} {rest : List Oper} {o : Oper} {a : Act} {Q : Exit → Act → World → Prop} (hgd : o.guard = none) (s x : Operand)
    (ho : o.op = .call { callee := .builtin .append, args := #[s, x], argTypes := #[59, 59] })
    (W : World) (base : Nat) (v : Value) (es : List En) (hs : a.eval s = v) (hown : VecO base W v es) (b b' : Bool) (A A' : Option Addr) (n c n' c' : Nat) (k : Int) (f : RF) (hf : FracM W (.agg #[.bool b, .slice A n c, .bool b', .slice A' n' c']) f)
    (hx : a.eval x = .slice (some ⟨W.heap.size, 0, none⟩) 1 1) (hn : es.length + 1 ≤ 1099511627776) (hbase : base ≤ W.heap.size)
    (h : ∀ v' w', VecO base w' v' (es ++ [⟨k, f⟩]) → KeepBut 80 W w' → Below base W w' → wpList Tryz.prog ops Q rest (a.put o.dst v') w') :
    wpList Tryz.prog ops Q (o :: rest) a (W.alloc (.cells #[.int .i64 k, .bool b, .slice A n c, .bool b', .slice A' n' c'] 80)) := by
  obtain ⟨cs, h1, h2⟩ := hown
  obtain ⟨i0, hi, hz0, hz1, hz2⟩ := info_parts info_entry
  refine wpList_append_one hgd s x 59 ho 80 i0 _ 5 72 Tryz.underlying59 hi hz0 hz1 hz2 rfl (by decide) W base v es.length cs [.int .i64 k, .bool b, .slice A n c, .bool b', .slice A' n' c'] hs h1 hx rfl entry_oneCell (by unfold maxLen; omega) (by omega) hbase ?_
  intro v' w' g1 g2 g3
  refine h v' w' ⟨_, by simpa using g1, ?_⟩ g2 g3
  have hk := g2.keep (by decide)
  exact (h2.keep hk).snoc (e := ⟨k, f⟩) (hf.keep hk)

/-- a list of vectors in a row of the call's own -/
def VecsO (base : Nat) (w : World) (v : Value) (cols : List (List En)) : Prop := ∃ cs, w.ownsRow base 59 1 v cols.length cs ∧ ∀ (k : Nat) (c : List En), cols[k]? = some c → ∃ u, cs[k]? = some u ∧ VecM w u c
theorem VecsO.vecs {base : Nat} {w : World} {v : Value} {cols : List (List En)} (h : VecsO base w v cols) : VecsM w v cols := by
  obtain ⟨cs, h1, h2⟩ := h
  exact ⟨cs, RowM.of_own h1, h2⟩
theorem VecsO.below {base : Nat} {w w' : World} {v : Value} {cols : List (List En)} (h : VecsO base w v cols) (hb : Below w.heap.size w w') : VecsO base w' v cols := by
  obtain ⟨cs, h1, h2⟩ := h
  exact ⟨cs, own_below h1 hb, fun k c hc => by obtain ⟨u, g1, g2⟩ := h2 k c hc; exact ⟨u, g1, g2.below hb⟩⟩
theorem VecsO.but {base : Nat} {w w' : World} {e : TypeId} {v : Value} {cols : List (List En)} (h : VecsO base w v cols) (hk : KeepBut e w w') (h0 : 59 ≠ e) (h1 : 80 ≠ e) (h2 : 85 ≠ e) : VecsO base w' v cols := by
  obtain ⟨cs, g1, g2⟩ := h
  exact ⟨cs, hk.own g1 h0, fun k c hc => by obtain ⟨u, q1, q2⟩ := g2 k c hc; exact ⟨u, q1, q2.but hk h1 h2⟩⟩
theorem VecsM.but {w w' : World} {e : TypeId} {v : Value} {cols : List (List En)} (h : VecsM w v cols) (hk : KeepBut e w w') (h0 : 59 ≠ e) (h1 : 80 ≠ e) (h2 : 85 ≠ e) : VecsM w' v cols := by
  obtain ⟨cs, g1, g2⟩ := h
  exact ⟨cs, hk.row g1 h0, fun k c hc => by obtain ⟨u, q1, q2⟩ := g2 k c hc; exact ⟨u, q1, q2.but hk h1 h2⟩⟩
theorem VecsO.nil (base : Nat) (w : World) : VecsO base w (.slice none 0 0) [] := ⟨[], World.ownsRow_nil _ _ _ _, fun k c h => by simp at h⟩
theorem info_vector : (Tryz.prog.info? 59).map (fun i => (i.zero, i.size, i.bytes)) = some (some (.slice none 0 0), 1, 24) := by kernel_rfl
theorem seq_append_vec {ops : Array Oper} {Q : Exit → Act → World → Prop} {S : World → Prop} {m : Nat} {i : Nat} {is : List Nat} {o : Oper} {a : Act} (hoi : ops[i]? = some o) (hfl : floatI ops m i = false) (hgd : o.guard = none) (hl0 : m ≤ i) (s x : Operand)
    (ho : o.op = .call { callee := .builtin .append, args := #[s, x], argTypes := #[24, 24] })
    (W : World) (base : Nat) (v : Value) (cols : List (List En)) (hs : a.eval s = v) (hown : VecsO base W v cols) (A : Option Addr) (n c : Nat) (es : List En) (hf : VecM W (.slice A n c) es)
    (hx : a.eval x = .slice (some ⟨W.heap.size, 0, none⟩) 1 1) (hn : cols.length + 1 ≤ 1099511627776) (hbase : base ≤ W.heap.size)
    (h : ∀ v' w', VecsO base w' v' (cols ++ [es]) → KeepBut 59 W w' → Below base W w' → wpSeq Tryz.prog ops Q S m is (a.put o.dst v') w') :
    wpSeq Tryz.prog ops Q S m (i :: is) a (W.alloc (.cells #[.slice A n c] 59)) := by
  obtain ⟨cs, h1, h2⟩ := hown
  obtain ⟨i0, hi, hz0, hz1, hz2⟩ := info_parts info_vector
  refine seq_append_one hoi hfl hgd hl0 s x 24 ho 59 i0 _ 1 24 Tryz.underlying24 hi hz0 hz1 hz2 rfl (by decide) W base v cols.length cs [.slice A n c] hs h1 hx rfl (fun u hu => by simp at hu; subst hu; rfl) (by unfold maxLen; omega) (by omega) hbase ?_
  intro v' w' g1 g2 g3
  refine h v' w' ⟨_, by simpa using g1, fun k d hd => ?_⟩ g2 g3
  have hlen : cs.length = cols.length := by simpa using h1.1
  rcases Nat.lt_or_ge k cols.length with hk | hk
  · rw [List.getElem?_append_left hk] at hd
    obtain ⟨u, q1, q2⟩ := h2 k d hd
    exact ⟨u, by rw [List.getElem?_append_left (by omega)]; exact q1, q2.but g2 (by decide) (by decide)⟩
  · rw [List.getElem?_append_right hk] at hd
    have hk0 : k - cols.length = 0 := by
      rcases Nat.eq_zero_or_pos (k - cols.length) with e | e
      · exact e
      · rw [List.getElem?_eq_none (by simp; omega)] at hd; cases hd
    rw [hk0] at hd
    simp at hd
    subst hd
    refine ⟨.slice A n c, ?_, hf.but g2 (by decide) (by decide)⟩
    rw [List.getElem?_append_right (by omega), show k - cs.length = 0 by omega]; rfl
theorem KeepBut.of_below {e : TypeId} {w w' : World} (hb : Below w.heap.size w w') : KeepBut e w w' := fun b _ _ _ _ h => (hb.block b (lt_heap h)).trans h
theorem KeepBut.then {e : TypeId} {w W w' : World} (h : KeepBut e w W) (hb : Below w.heap.size W w') : KeepBut e w w' := fun b cs t fz ht hc => (hb.block b (lt_heap hc)).trans (h b cs t fz ht hc)
theorem KeepBut.refl (e : TypeId) (w : World) : KeepBut e w w := fun _ _ _ _ _ h => h
end Go.Proofs.YtpanffbgihhjnaaGreat

/- Walks: package pairingdata: column. -/
namespace Go.Proofs.YtpanffbgihhjnaaGreat
open Go.RowKit Pl
attribute [local go_sem ↓] Go.wp_at_zero Go.wp_at_succ

namespace Pl
theorem Inc_snoc {es : List En} {p : Option Int} {e : En} (h : Inc p es) (hp : es = [] → leP p e.idx = false) (hlt : ∀ (k : Nat) (d : En), es[k]? = some d → d.idx < e.idx) : Inc p (es ++ [e]) := by
  induction es generalizing p with
  | nil => exact ⟨hp rfl, trivial⟩
  | cons d es ih =>
    refine ⟨h.1, ih h.2 (fun _ => ?_) (fun k c hc => hlt (k + 1) c (by simpa using hc))⟩
    have := hlt 0 d rfl
    simp [leP]; omega
/-- a column of small entries in the first m rows -/
def ColOK (m : Nat) (es : List En) : Prop := Inc none es ∧ es.length ≤ m ∧ ∀ (k : Nat) (e : En), es[k]? = some e → 0 ≤ e.idx ∧ e.idx < m ∧ e.f.q ≠ 0 ∧ e.f.Rs 1
theorem ColOK.nil : ColOK 0 [] := ⟨trivial, Nat.le_refl _, fun k e h => by simp at h⟩
theorem ColOK.next {m : Nat} {es : List En} (h : ColOK m es) : ColOK (m + 1) es := ⟨h.1, by have := h.2.1; omega, fun k e he => by have := h.2.2 k e he; exact ⟨this.1, by omega, this.2.2⟩⟩
theorem ColOK.snoc {m : Nat} {es : List En} (h : ColOK m es) {z : Int} (h0 : z ≠ 0) (h1 : -4294967296 < z) (h2 : z < 4294967296) : ColOK (m + 1) (es ++ [⟨(m : Int), canF (z : Rat)⟩]) := by
  refine ⟨Inc_snoc h.1 (fun _ => rfl) (fun k d hd => (h.2.2 k d hd).2.1), by simp; exact h.2.1, fun k e he => ?_⟩
  rcases Nat.lt_or_ge k es.length with hk | hk
  · rw [List.getElem?_append_left hk] at he
    have := h.2.2 k e he
    exact ⟨this.1, by omega, this.2.2⟩
  · rw [List.getElem?_append_right hk] at he
    have hk0 : k - es.length = 0 := by
      rcases Nat.eq_zero_or_pos (k - es.length) with e | e
      · exact e
      · rw [List.getElem?_eq_none (by simp; omega)] at he; cases he
    rw [hk0] at he
    simp at he
    subst he
    refine ⟨by simp only; omega, by simp only; omega, ?_, (Sz_int h1 h2).rs⟩
    simp only [canF_q]
    exact fun e => h0 (by simpa using congrArg Rat.num e)
theorem vErr_of {n : Int} {es : List En} {p : Option Int} (h : Inc p es) (hr : ∀ (k : Nat) (e : En), es[k]? = some e → 0 ≤ e.idx ∧ e.idx < n ∧ e.f.q ≠ 0) : vErr n es p = 0 := by
  induction es generalizing p with
  | nil => rfl
  | cons d es ih =>
    have := hr 0 d rfl
    rw [vErr, if_neg (by omega), if_neg (by rw [h.1]; simp), if_neg this.2.2]
    exact ih h.2 fun k e he => hr (k + 1) e (by simpa using he)
theorem ColOK.err {m : Nat} {es : List En} (h : ColOK m es) (hm : m ≤ 4096) : vecErr es m = 0 := by
  unfold vecErr
  rw [if_neg (by omega)]
  exact vErr_of h.1 fun k e he => by have := h.2.2 k e he; exact ⟨this.1, this.2.1, this.2.2.1⟩
end Pl

def ColPost (m : Nat) (w : World) (e : Ending) (w' : World) : Prop := ∃ v' es, e = .returned v' ∧ VecO w.heap.size w' v' es ∧ ColOK m es ∧ Below w.heap.size w w'

set_option maxRecDepth 100000 in
set_option maxHeartbeats 2000000 in
theorem column_own (v : Value) (zs : List Int) (t m : Nat) (w : World) (h : IntsM w v zs) (ht : t ≤ 1000000) (hm : m ≤ 1000) :
    Calls Tryz.prog 26 #[v, .int .i64 (t : Int), .int .i64 (m : Int)] w (ColPost m w) := by
  obtain ⟨a, cap, rfl, hc1, hc2⟩ := h.shape
  generalize hn : zs.length = n at *
  clear hn
  go_enter Tryz.func26, Tryz.ntmps26
  go_wp2
  go_loopw [7, 8] (fun s i wr => ∃ (k : Nat) (es : List En), k ≤ m ∧ i = .int .i64 k ∧ VecO w.heap.size wr s es ∧ ColOK k es ∧ Below w.heap.size w wr) (fun _ i _ => m - (intOf i).toNat)
  case atStart => exact ⟨0, [], by omega, rfl, VecO.nil _ _, ColOK.nil, Below.refl _ _⟩
  case round =>
    obtain ⟨k, es, hk, rfl, hown, hcol, hbe⟩ := hrel
    have HC := Lib.hid hcol
    clear hcol
    rcases Nat.lt_or_ge k m with hkl | hkl
    · go_wp2_with fail
      refine (at_any _ zs (t + k) _ (h.below hbe) (by omega)).mono ?_
      rintro _ w1 ⟨z, rfl, z0, z1, hb1⟩
      have hown1 := hown.below hb1
      have hbe1 := below_then hbe hb1 hbe.size
      clear hown hbe hb1
      by_cases hz : z % 6 = 2
      · have hz' : (z % 6 - 2 != 0) = false := by simp; omega
        clear hz
        go_wp2
        go_roundw
        case rel => exact ⟨k + 1, es, by omega, by go_num, hown1, HC.out.next, hbe1⟩
        case measure => simp [intOf]; omega
      · have hz' : (z % 6 - 2 != 0) = true := by simp; omega
        have HZ : Hid (z % 6 - 2 ≠ 0) := Lib.hid (by omega)
        have r1 : -2 ≤ z % 6 - 2 := by omega
        have r2 : z % 6 - 2 ≤ 3 := by omega
        clear hz
        go_wp2_with fail
        refine (at_any _ zs (t + k) _ (h.below hbe1) (by omega)).mono ?_
        rintro _ w2 ⟨z', rfl, _, _, hb2⟩
        have hown2 := hown1.below hb2
        have hbe2 := below_then hbe1 hb2 hbe1.size
        clear hown1 hbe1 hb2
        rcases Int.lt_or_le z' 60000 with hlt | hlt
        · go_wp2_with fail
          refine (rint_own (z % 6 - 2) _ (by omega) (by omega)).mono ?_
          rintro _ w3 ⟨v3, rfl, e3, hb3⟩
          have hown3 := hown2.below hb3
          have hbe3 := below_then hbe2 hb3 hbe2.size
          obtain ⟨B, l, d, B', l', d', rfl, _, _⟩ := id e3.frac
          have HF := Lib.hid e3.frac
          have HO := Lib.hid hown3
          have hlen : es.length + 1 ≤ 1099511627776 := by have := HC.out.2.1; omega
          have hbs := hbe3.size
          have HS := Lib.hid (HC.out.snoc (z := z % 6 - 2) HZ.out (by omega) (by omega))
          clear hown2 hown3 hbe2 hb3 e3
          generalize hQ : canF ((z % 6 - 2 : Int) : Rat) = Q at *
          have HQ := Lib.hid hQ
          clear hQ
          go_wp2_with (at_builtin; refine wpList_append_entry rfl (.tmp 32) (.tmp 37) rfl w3 w.heap.size u7 es rfl HO.out _ _ B B' l d l' d' (k : Int) Q HF.out rfl hlen hbs ?_)
          intro v' w4 hown4 hk4 hb4
          go_wp2
          go_roundw
          case rel => exact ⟨k + 1, es ++ [⟨(k : Int), Q⟩], by omega, by go_num, hown4, HS.out, hbe3.trans hb4⟩
          case measure => simp [intOf]; omega
        · go_wp2
          go_roundw
          case rel => exact ⟨k + 1, es, by omega, by go_num, hown2, HC.out.next, hbe2⟩
          case measure => simp [intOf]; omega
    · obtain rfl : k = m := by omega
      go_wp2
      go_ret
      exact ⟨_, es, rfl, hown, HC.out, hbe⟩
end Go.Proofs.YtpanffbgihhjnaaGreat

/- Walks: package pairingdata: LP. -/
namespace Go.Proofs.YtpanffbgihhjnaaGreat
open Go.RowKit Pl
attribute [local go_sem ↓] Go.wp_at_zero Go.wp_at_succ

theorem Bk.threeF {w : World} {g : Nat} {t : TypeId} {cs : List Value} (h : Bk w g t cs) : w.frozen? ⟨g, 0, none⟩ = false ∧ w.frozen? ⟨g, 1, none⟩ = false ∧ w.frozen? ⟨g, 2, none⟩ = false := ⟨h.frozen 0, h.frozen 1, h.frozen 2⟩
theorem FrsO.own_lt {base : Nat} {w : World} {v : Value} {fs : List RF} (h : FrsO base w v fs) : ∀ g, v.ownBlock = some g → g < w.heap.size := by
  obtain ⟨cs, h1, h2⟩ := h
  intro g hg
  rcases h1.2 with ⟨rfl, _⟩ | ⟨g', cap, cur, rfl, _, hgg, _⟩
  · simp [Value.ownBlock] at hg
  · simp [Value.ownBlock] at hg
    subst hg
    exact lt_heap hgg
theorem FrsO.slice {base : Nat} {w : World} {v : Value} {fs : List RF} (h : FrsO base w v fs) : ∃ A c, v = .slice A fs.length c := by
  obtain ⟨A, c, e, _, _⟩ := h.frs.shape; exact ⟨A, c, e⟩
theorem VecsO.slice {base : Nat} {w : World} {v : Value} {fs : List (List En)} (h : VecsO base w v fs) : ∃ A c, v = .slice A fs.length c := by
  obtain ⟨A, c, e, _, _⟩ := h.vecs.shape; exact ⟨A, c, e⟩
theorem FrsO.sliceN {base : Nat} {w : World} {v : Value} {fs : List RF} (h : FrsO base w v fs) : ∃ A n c, v = .slice A n c := by
  obtain ⟨A, c, e⟩ := h.slice; exact ⟨A, _, c, e⟩
theorem VecsO.sliceN {base : Nat} {w : World} {v : Value} {fs : List (List En)} (h : VecsO base w v fs) : ∃ A n c, v = .slice A n c := by
  obtain ⟨A, c, e⟩ := h.slice; exact ⟨A, _, c, e⟩
/-- a program whose costs and right-hand side lie in rows of the call's own, the latter's younger -/
def LpO (base : Nat) (w : World) (v : Value) (p : LPd) : Prop :=
  ∃ s0 s1 s2 b1, v = .agg #[s0, s1, s2] ∧ FrsO base w s0 p.cost ∧ VecsM w s1 p.cols ∧ FrsO b1 w s2 p.right ∧ base ≤ b1 ∧ ∀ g, s0.ownBlock = some g → g < b1
theorem LpO.lp {base : Nat} {w : World} {v : Value} {p : LPd} (h : LpO base w v p) : LpM w v p := by
  obtain ⟨s0, s1, s2, b1, rfl, h0, h1, h2, _, _⟩ := h
  obtain ⟨A, c, rfl⟩ := h0.slice
  obtain ⟨A', c', rfl, _, _⟩ := h1.shape
  obtain ⟨A'', c'', rfl⟩ := h2.slice
  exact ⟨_, _, _, _, _, _, _, _, _, rfl, h0.frs, h1, h2.frs⟩
theorem LpO.below {base : Nat} {w w' : World} {v : Value} {p : LPd} (h : LpO base w v p) (hb : Below w.heap.size w w') : LpO base w' v p := by
  obtain ⟨s0, s1, s2, b1, rfl, h0, h1, h2, h3, h4⟩ := h
  exact ⟨s0, s1, s2, b1, rfl, h0.below hb, h1.below hb, h2.below hb, h3, h4⟩
namespace Pl
theorem RsL.snoc {k : Nat} {fs : List RF} (h : RsL k fs) {f : RF} (hf : f.Rs k) : RsL k (fs ++ [f]) := fun i g hg => by
  rcases Nat.lt_or_ge i fs.length with hi | hi
  · rw [List.getElem?_append_left hi] at hg; exact h i g hg
  · rw [List.getElem?_append_right hi] at hg
    have : i - fs.length = 0 := by
      rcases Nat.eq_zero_or_pos (i - fs.length) with e | e
      · exact e
      · rw [List.getElem?_eq_none (by simp; omega)] at hg; cases hg
    rw [this] at hg; simp at hg; subst hg; exact hf
theorem RsL.nil (k : Nat) : RsL k [] := fun i f h => by simp at h
theorem RsL.mono {j k : Nat} {fs : List RF} (h : RsL j fs) (hk : j ≤ k) : RsL k fs := fun i f hf => (h i f hf).mono hk
theorem cols_snoc {m : Nat} {cols : List (List En)} (h : ∀ (j : Nat) (c : List En), cols[j]? = some c → ColOK m c) {es : List En} (he : ColOK m es) : ∀ (j : Nat) (c : List En), (cols ++ [es])[j]? = some c → ColOK m c := fun j c hc => by
  rcases Nat.lt_or_ge j cols.length with hi | hi
  · rw [List.getElem?_append_left hi] at hc; exact h j c hc
  · rw [List.getElem?_append_right hi] at hc
    have : j - cols.length = 0 := by
      rcases Nat.eq_zero_or_pos (j - cols.length) with e | e
      · exact e
      · rw [List.getElem?_eq_none (by simp; omega)] at hc; cases hc
    rw [this] at hc; simp at hc; subst hc; exact he
/-- a small program -/
def LpOK (p : LPd) : Prop := 1 ≤ p.right.length ∧ p.right.length ≤ 3 ∧ p.cols.length ≤ 5 ∧ p.cost.length = p.cols.length ∧ RsL 1 p.cost ∧ ∀ (j : Nat) (c : List En), p.cols[j]? = some c → ColOK p.right.length c
theorem colsErr_of {n : Int} {cs : List (List En)} (h : ∀ (j : Nat) (c : List En), cs[j]? = some c → vecErr c n = 0) : colsErr n cs = 0 := by
  induction cs with
  | nil => rfl
  | cons c cs ih =>
    rw [colsErr, if_pos (h 0 c rfl)]
    exact ih fun j d hd => h (j + 1) d (by simpa using hd)
theorem LpOK.err {p : LPd} (h : LpOK p) : lpErr p = 0 := by
  obtain ⟨h1, h2, h3, h4, h5, h6⟩ := h
  unfold lpErr
  rw [if_neg (by omega), if_neg (by omega)]
  exact colsErr_of fun j c hc => (h6 j c hc).err (by omega)
theorem LpOK.ok {p : LPd} (h : LpOK p) {K : Nat} (hK : 1 ≤ K) (hr : RsL K p.right) : p.Ok K := by
  obtain ⟨h1, h2, h3, h4, h5, h6⟩ := h
  refine ⟨h5.mono hK, hr, fun j c hc => ⟨fun k e he => ?_, fun k e he => ((h6 j c hc).2.2 k e he).2.2.2.mono hK⟩⟩
  have := (h6 j c hc).2.2 k e he
  omega
end Pl
theorem at_int (v : Value) (zs : List Int) (i : Int) (w : World) (h : IntsM w v zs) (h0 : 0 ≤ i) (hi : i ≤ 1099511627776) :
    Calls Tryz.prog 18 #[v, .int .i64 i] w fun e w' => ∃ z : Int, e = .returned (.int .i64 z) ∧ 0 ≤ z ∧ z ≤ 65535 + i ∧ Below w.heap.size w w' := by
  obtain ⟨k, rfl⟩ := Int.eq_ofNat_of_zero_le h0
  exact at_any v zs k w h (by omega)
theorem column_int (v : Value) (zs : List Int) (t : Int) (m : Nat) (w : World) (h : IntsM w v zs) (h0 : 0 ≤ t) (ht : t ≤ 1000000) (hm : m ≤ 1000) :
    Calls Tryz.prog 26 #[v, .int .i64 t, .int .i64 (m : Int)] w (ColPost m w) := by
  obtain ⟨k, rfl⟩ := Int.eq_ofNat_of_zero_le h0
  exact column_own v zs k m w h (by omega) hm
def LpPost (w : World) (e : Ending) (w' : World) : Prop := ∃ v' p, e = .returned v' ∧ LpO w.heap.size w' v' p ∧ LpOK p ∧ RsL 2 p.right ∧ Below w.heap.size w w'

set_option maxRecDepth 100000 in
set_option maxHeartbeats 8000000 in
theorem lp_own (v : Value) (zs : List Int) (w : World) (h : IntsM w v zs) :
    Calls Tryz.prog 7 #[v] w (LpPost w) := by
  obtain ⟨a, cap, rfl, hc1, hc2⟩ := h.shape
  generalize hn : zs.length = n at *
  clear hn
  obtain ⟨W, hW, hR, hbe0⟩ := box_lp w (.slice none 0 0) (.slice none 0 0) (.slice none 0 0)
  obtain ⟨W1, hW1, hX, hbe1⟩ := box_lp W (.slice none 0 0) (.slice none 0 0) (.slice none 0 0)
  have hR := hR.later hbe1
  have hbe := below_then hbe0 hbe1 hbe0.size
  have hsz : W.heap.size = w.heap.size + 1 := by rw [← hW]; simp
  rw [hsz] at hX
  clear hbe0 hbe1
  go_enter Tryz.func7, Tryz.ntmps7
  go_wp2_with fail
  clear hW hW1 hsz
  refine (at_any _ zs 0 _ (h.below hbe) (by omega)).mono ?_
  rintro _ w1 ⟨z, rfl, z0, z1, hb1⟩
  have hX1 := hX.later hb1
  have hR1 := hR.later hb1
  have hbe1 := below_then hbe hb1 hbe.size
  clear hX hR hbe hb1
  go_wp2_with fail
  refine (at_any _ zs 1 _ (h.below hbe1) (by omega)).mono ?_
  rintro _ w2 ⟨y, rfl, y0, y1, hb2⟩
  have hX2 := hX1.later hb2
  have hR2 := hR1.later hb2
  have hbe2 := below_then hbe1 hb2 hbe1.size
  obtain ⟨m, hm⟩ : ∃ m : Nat, 1 + z % 3 = (m : Int) := ⟨(1 + z % 3).toNat, by omega⟩
  obtain ⟨N, hN1, hN2⟩ : ∃ N : Nat, y % 6 ≤ (N : Int) ∧ (N : Int) ≤ y % 6 := ⟨(y % 6).toNat, by omega, by omega⟩
  have m1 : 1 ≤ m := by omega
  have m2 : m ≤ 3 := by omega
  have n1 : N ≤ 5 := by omega
  clear hX1 hR1 hbe1 hb2
  go_wp2
  clear hm z0 z1
  go_loopw [6] (fun i wr => ∃ (k : Nat) (s0 s1 : Value) (cs : List RF) (cols : List (List En)), k ≤ N ∧ i = .int .i64 k ∧ Below w.heap.size w wr ∧ Bk wr w.heap.size 26 [.slice none 0 0, .slice none 0 0, .slice none 0 0] ∧ Bk wr (w.heap.size + 1) 26 [s0, s1, .slice none 0 0] ∧ FrsO w.heap.size wr s0 cs ∧ VecsO w.heap.size wr s1 cols ∧ cs.length = k ∧ cols.length = k ∧ RsL 1 cs ∧ ∀ (j : Nat) (c : List En), cols[j]? = some c → ColOK m c) (fun i _ => N - (intOf i).toNat)
  case atStart => exact ⟨0, _, _, [], [], by omega, rfl, hbe2, hR2, hX2, FrsO.nil _ _, VecsO.nil _ _, rfl, rfl, RsL.nil _, fun j c h => by simp at h⟩
  case round =>
    clear hbe2 hR2 hX2
    obtain ⟨k, s0, s1, cs, cols, hk, rfl, hbe, hR, hX, hO, hV, hl1, hl2, hrs, hco⟩ := hrel
    have HL1 := Lib.hid hl1
    have HL2 := Lib.hid hl2
    have HR1 := Lib.hid hrs
    have HCO1 := Lib.hid hco
    have hlen : cs.length + 1 ≤ 1099511627776 := by omega
    have hlen2 : cols.length + 1 ≤ 1099511627776 := by omega
    clear hl1 hl2 hrs hco
    rcases Nat.lt_or_ge k N with hkl | hkl
    · obtain ⟨A0, c0, rfl⟩ := hO.slice
      obtain ⟨A1, c1, rfl⟩ := hV.slice
      obtain ⟨x0, x1, x2⟩ := hX.three
      go_wp2_with fail
      have C0 := stab x0
      have hS0 := below_drew' wr
      clear x0 x1 x2
      generalize hs0 : Value.slice A0 cs.length c0 = s0 at *
      generalize hs1 : Value.slice A1 cols.length c1 = s1 at *
      clear hs0 hs1
      refine region_seq 10 [0, 1, 2, 3, 4, 5, 6, 7, 8, 9, 10, 11, 12] (by kernel_rfl) (by kernel_rfl) ?_
      repeat (first | (refine seq_takeP (v := ?_) rfl rfl rfl ?_ ?_; rotate_left; (· (intro _ hSw; go_simp; (try go_bits); (try with_reducible rfl))); (try simp only [Act.put, List.setIfInBounds_toArray, List.set_cons_zero, List.set_cons_succ, List.getElem_toArray, List.getElem_cons_zero, List.getElem_cons_succ])) | (refine seq_take (v := ?_) rfl rfl rfl ?_ ?_; rotate_left; (· (intro _ hSw; go_simp; (try go_bits); (try with_reducible rfl))); (try simp only [Act.put, List.setIfInBounds_toArray, List.set_cons_zero, List.set_cons_succ, List.getElem_toArray, List.getElem_cons_zero, List.getElem_cons_succ])) | (refine seq_skip rfl rfl rfl ?_; (try simp only [Act.put, List.setIfInBounds_toArray, List.set_cons_zero, List.set_cons_succ, List.getElem_toArray, List.getElem_cons_zero, List.getElem_cons_succ])))
      refine seq_step rfl rfl (fun KR hKR => ?_)
      go_simp
      with_reducible refine (at_int _ zs (2 + (k : Int)) _ ((h.below hbe).below hS0) (by omega) (by omega)).mono ?_
      rintro _ w1 ⟨z, rfl, z0, z1, hb1⟩
      have hS1 := below_then hS0 hb1 hS0.size
      refine hKR.out _ _ (Or.inr hS1) ?_
      clear hKR KR
      (try simp only [Act.put, List.setIfInBounds_toArray, List.set_cons_zero, List.set_cons_succ, List.getElem_toArray, List.getElem_cons_zero, List.getElem_cons_succ])
      repeat (first | (refine seq_takeP (v := ?_) rfl rfl rfl ?_ ?_; rotate_left; (· (intro _ hSw; go_simp; (try go_bits); (try with_reducible rfl))); (try simp only [Act.put, List.setIfInBounds_toArray, List.set_cons_zero, List.set_cons_succ, List.getElem_toArray, List.getElem_cons_zero, List.getElem_cons_succ])) | (refine seq_take (v := ?_) rfl rfl rfl ?_ ?_; rotate_left; (· (intro _ hSw; go_simp; (try go_bits); (try with_reducible rfl))); (try simp only [Act.put, List.setIfInBounds_toArray, List.set_cons_zero, List.set_cons_succ, List.getElem_toArray, List.getElem_cons_zero, List.getElem_cons_succ])) | (refine seq_skip rfl rfl rfl ?_; (try simp only [Act.put, List.setIfInBounds_toArray, List.set_cons_zero, List.set_cons_succ, List.getElem_toArray, List.getElem_cons_zero, List.getElem_cons_succ])))
      refine seq_step rfl rfl (fun KR hKR => ?_)
      go_simp
      with_reducible refine (rint_own (z % 10 - 4) _ (by omega) (by omega)).mono ?_
      rintro _ w2 ⟨v2, rfl, e2, hb2⟩
      have hS2 := below_then hS1 hb2 hS1.size
      obtain ⟨B, l, d, B', l', d', rfl, _, _⟩ := id e2.frac
      have HF := Lib.hid e2.frac
      have HRS := Lib.hid (Sz_int (z := z % 10 - 4) (by omega) (by omega)).rs
      clear e2
      generalize canF ((z % 10 - 4 : Int) : Rat) = Q at *
      refine hKR.out _ _ (Or.inr hS2) ?_
      clear hKR KR
      (try simp only [Act.put, List.setIfInBounds_toArray, List.set_cons_zero, List.set_cons_succ, List.getElem_toArray, List.getElem_cons_zero, List.getElem_cons_succ])
      repeat (first | (refine seq_takeP (v := ?_) rfl rfl rfl ?_ ?_; rotate_left; (· (intro _ hSw; go_simp; (try go_bits); (try with_reducible rfl))); (try simp only [Act.put, List.setIfInBounds_toArray, List.set_cons_zero, List.set_cons_succ, List.getElem_toArray, List.getElem_cons_zero, List.getElem_cons_succ])) | (refine seq_take (v := ?_) rfl rfl rfl ?_ ?_; rotate_left; (· (intro _ hSw; go_simp; (try go_bits); (try with_reducible rfl))); (try simp only [Act.put, List.setIfInBounds_toArray, List.set_cons_zero, List.set_cons_succ, List.getElem_toArray, List.getElem_cons_zero, List.getElem_cons_succ])) | (refine seq_skip rfl rfl rfl ?_; (try simp only [Act.put, List.setIfInBounds_toArray, List.set_cons_zero, List.set_cons_succ, List.getElem_toArray, List.getElem_cons_zero, List.getElem_cons_succ])))
      refine seq_step rfl rfl (fun KR hKR => ?_)
      go_simp
      refine hKR.out _ _ (Or.inr (below_then hS2 (below_new _ _) hS2.size)) ?_
      clear hKR KR
      (try simp only [Act.put, List.setIfInBounds_toArray, List.set_cons_zero, List.set_cons_succ, List.getElem_toArray, List.getElem_cons_zero, List.getElem_cons_succ])
      have HO := Lib.hid (hO.below hS2)
      have hbs : w.heap.size ≤ w2.heap.size := by have := hbe.size; have := hS2.size; omega
      refine seq_append_frac rfl rfl rfl (by decide) (.tmp 21) (.tmp 29) rfl w2 w.heap.size s0 cs rfl HO.out _ _ B B' l d l' d' Q HF.out rfl hlen hbs ?_
      intro v' w4 hown4 hk4 hb4
      obtain ⟨A4, n4, c4, rfl⟩ := hown4.sliceN
      (try simp only [Act.put, List.setIfInBounds_toArray, List.set_cons_zero, List.set_cons_succ, List.getElem_toArray, List.getElem_cons_zero, List.getElem_cons_succ])
      have hX4 := hk4.bk (hX.later hS2) (by decide)
      have hR4 := hk4.bk (hR.later hS2) (by decide)
      have hV4 := (hV.below hS2).but hk4 (by decide) (by decide) (by decide)
      have hbe4 := (below_then hbe hS2 hbe.size).trans hb4
      obtain ⟨c0, c1, c2⟩ := hX4.three
      obtain ⟨f0, f1, f2⟩ := hX4.threeF
      refine seq_step rfl rfl (fun KR hKR => ?_)
      go_simp
      refine hKR.out _ _ (Or.inl (by decide)) ?_
      clear hKR KR
      (try simp only [Act.put, List.setIfInBounds_toArray, List.set_cons_zero, List.set_cons_succ, List.getElem_toArray, List.getElem_cons_zero, List.getElem_cons_succ])
      refine seq_step rfl rfl (fun KR hKR => ?_)
      go_simp
      refine hKR.out _ _ (Or.inl (by decide)) ?_
      clear hKR KR
      (try simp only [Act.put, List.setIfInBounds_toArray, List.set_cons_zero, List.set_cons_succ, List.getElem_toArray, List.getElem_cons_zero, List.getElem_cons_succ])
      refine seq_done ?_
      generalize hv' : Value.slice A4 n4 c4 = v' at *
      clear hv'
      have hX5 := hX4.set_ 0 v'
      have hR5 := hR4.far (p := ⟨w.heap.size + 1, 0, none⟩) (by simp) v'
      have hk5 := KeepBut.setCell hX4 0 v'
      have hO5 := hown4.but hk5 (by decide) (by decide)
      have hV5 := hV4.but hk5 (by decide) (by decide) (by decide)
      have hbe5 := hbe4.setCell (p := ⟨w.heap.size + 1, 0, none⟩) (by simp) v'
      generalize w4.setCell ⟨w.heap.size + 1, 0, none⟩ v' = W5 at *
      clear hX4 hR4 hk5 hown4 hV4 hbe4 hk4 hb4 c0 c1 c2 f0 f1 f2 hX hR hO hV hS0 hS1 hS2 hb1 hb2 HO HF C0 hbs hbe
      have HRS2 := Lib.hid (HR1.out.snoc HRS.out)
      simp only [List.set_cons_zero] at hX5
      obtain ⟨x0, x1, x2⟩ := hX5.three
      go_wp2_with fail
      have C1 := stab x1
      have hS0 := below_drew' W5
      clear x0 x1 x2
      refine region_seq 9 [0, 1, 2, 3, 4, 5, 6, 7, 8, 9, 10, 11] (by kernel_rfl) (by kernel_rfl) ?_
      repeat (first | (refine seq_takeP (v := ?_) rfl rfl rfl ?_ ?_; rotate_left; (· (intro _ hSw; go_simp; (try go_bits); (try with_reducible rfl))); (try simp only [Act.put, List.setIfInBounds_toArray, List.set_cons_zero, List.set_cons_succ, List.getElem_toArray, List.getElem_cons_zero, List.getElem_cons_succ])) | (refine seq_take (v := ?_) rfl rfl rfl ?_ ?_; rotate_left; (· (intro _ hSw; go_simp; (try go_bits); (try with_reducible rfl))); (try simp only [Act.put, List.setIfInBounds_toArray, List.set_cons_zero, List.set_cons_succ, List.getElem_toArray, List.getElem_cons_zero, List.getElem_cons_succ])) | (refine seq_skip rfl rfl rfl ?_; (try simp only [Act.put, List.setIfInBounds_toArray, List.set_cons_zero, List.set_cons_succ, List.getElem_toArray, List.getElem_cons_zero, List.getElem_cons_succ])))
      refine seq_step rfl rfl (fun KR hKR => ?_)
      go_simp
      with_reducible refine (column_int _ zs (8 + 3 * (k : Int)) m _ ((h.below hbe5).below hS0) (by omega) (by omega) (by omega)).mono ?_
      rintro _ w1 ⟨v1, es, rfl, e1, hcol, hb1⟩
      have hS1 := below_then hS0 hb1 hS0.size
      obtain ⟨Ae, ce, rfl, _, _⟩ := e1.vec.shape
      have HE := Lib.hid e1.vec
      have HCO := Lib.hid hcol
      clear e1 hcol
      refine hKR.out _ _ (Or.inr hS1) ?_
      clear hKR KR
      (try simp only [Act.put, List.setIfInBounds_toArray, List.set_cons_zero, List.set_cons_succ, List.getElem_toArray, List.getElem_cons_zero, List.getElem_cons_succ])
      repeat (first | (refine seq_takeP (v := ?_) rfl rfl rfl ?_ ?_; rotate_left; (· (intro _ hSw; go_simp; (try go_bits); (try with_reducible rfl))); (try simp only [Act.put, List.setIfInBounds_toArray, List.set_cons_zero, List.set_cons_succ, List.getElem_toArray, List.getElem_cons_zero, List.getElem_cons_succ])) | (refine seq_take (v := ?_) rfl rfl rfl ?_ ?_; rotate_left; (· (intro _ hSw; go_simp; (try go_bits); (try with_reducible rfl))); (try simp only [Act.put, List.setIfInBounds_toArray, List.set_cons_zero, List.set_cons_succ, List.getElem_toArray, List.getElem_cons_zero, List.getElem_cons_succ])) | (refine seq_skip rfl rfl rfl ?_; (try simp only [Act.put, List.setIfInBounds_toArray, List.set_cons_zero, List.set_cons_succ, List.getElem_toArray, List.getElem_cons_zero, List.getElem_cons_succ])))
      refine seq_step rfl rfl (fun KR hKR => ?_)
      go_simp
      refine hKR.out _ _ (Or.inr (below_then hS1 (below_new _ _) hS1.size)) ?_
      clear hKR KR
      (try simp only [Act.put, List.setIfInBounds_toArray, List.set_cons_zero, List.set_cons_succ, List.getElem_toArray, List.getElem_cons_zero, List.getElem_cons_succ])
      have HO := Lib.hid (hV5.below hS1)
      have hbs : w.heap.size ≤ w1.heap.size := by have := hbe5.size; have := hS1.size; omega
      refine seq_append_vec rfl rfl rfl (by decide) (.tmp 33) (.tmp 40) rfl w1 w.heap.size s1 cols rfl HO.out Ae es.length ce es HE.out rfl hlen2 hbs ?_
      intro v'' w6 hown6 hk6 hb6
      obtain ⟨A6, n6, c6, rfl⟩ := hown6.sliceN
      (try simp only [Act.put, List.setIfInBounds_toArray, List.set_cons_zero, List.set_cons_succ, List.getElem_toArray, List.getElem_cons_zero, List.getElem_cons_succ])
      have hX6 := hk6.bk (hX5.later hS1) (by decide)
      have hR6 := hk6.bk (hR5.later hS1) (by decide)
      have hO6 := (hO5.below hS1).but hk6 (by decide) (by decide)
      have hbe6 := (below_then hbe5 hS1 hbe5.size).trans hb6
      obtain ⟨c0, c1, c2⟩ := hX6.three
      obtain ⟨f0, f1, f2⟩ := hX6.threeF
      refine seq_step rfl rfl (fun KR hKR => ?_)
      go_simp
      refine hKR.out _ _ (Or.inl (by decide)) ?_
      clear hKR KR
      (try simp only [Act.put, List.setIfInBounds_toArray, List.set_cons_zero, List.set_cons_succ, List.getElem_toArray, List.getElem_cons_zero, List.getElem_cons_succ])
      refine seq_step rfl rfl (fun KR hKR => ?_)
      go_simp
      refine hKR.out _ _ (Or.inl (by decide)) ?_
      clear hKR KR
      (try simp only [Act.put, List.setIfInBounds_toArray, List.set_cons_zero, List.set_cons_succ, List.getElem_toArray, List.getElem_cons_zero, List.getElem_cons_succ])
      refine seq_done ?_
      generalize hv'' : Value.slice A6 n6 c6 = v'' at *
      clear hv''
      have hX7 := hX6.set_ 1 v''
      have hR7 := hR6.far (p := ⟨w.heap.size + 1, 1, none⟩) (by simp) v''
      have hk7 := KeepBut.setCell hX6 1 v''
      have hO7 := hO6.but hk7 (by decide) (by decide)
      have hV7 := hown6.but hk7 (by decide) (by decide) (by decide)
      have hbe7 := hbe6.setCell (p := ⟨w.heap.size + 1, 1, none⟩) (by simp) v''
      generalize w6.setCell ⟨w.heap.size + 1, 1, none⟩ v'' = W7 at *
      clear hX6 hR6 hk7 hown6 hO6 hbe6 hk6 hb6 c0 c1 c2 f0 f1 f2 hX5 hR5 hO5 hV5 hS0 hS1 hb1 HO HE C1 hbs hbe5
      simp only [List.set_cons_zero, List.set_cons_succ] at hX7
      go_wp2
      go_roundw
      case rel => exact ⟨k + 1, v', v'', cs ++ [Q], cols ++ [es], by omega, by go_num, hbe7, hR7, hX7, hO7, hV7, by rw [List.length_append, HL1.out]; rfl, by rw [List.length_append, HL2.out]; rfl, HRS2.out, cols_snoc HCO1.out HCO.out⟩
      case measure => simp [intOf]; omega
    · obtain rfl : k = N := by omega
      have hblk := hO.own_lt
      have HBLK := Lib.hid hblk
      clear hblk
      go_wp2
      generalize hw9 : wr = w9 at *
      clear hw9
      have hK9 := KeepBut.refl 26 w9
      go_loopw [7] (fun i wr => ∃ (k : Nat) (s2 : Value) (rs : List RF), k ≤ m ∧ i = .int .i64 k ∧ Below w.heap.size w wr ∧ KeepBut 26 w9 wr ∧ w9.heap.size ≤ wr.heap.size ∧ Bk wr w.heap.size 26 [.slice none 0 0, .slice none 0 0, .slice none 0 0] ∧ Bk wr (w.heap.size + 1) 26 [s0, s1, s2] ∧ FrsO w9.heap.size wr s2 rs ∧ rs.length = k ∧ RsL 2 rs) (fun i _ => m - (intOf i).toNat)
      case atStart => exact ⟨0, _, [], by omega, rfl, hbe, hK9, Nat.le_refl _, hR, hX, FrsO.nil _ _, rfl, RsL.nil _⟩
      case round =>
        have h90 := hbe.size
        have HO9 := Lib.hid hO
        have HV9 := Lib.hid hV
        clear hbe hR hX hO hV hK9
        obtain ⟨i, s2, rs, hi, rfl, hbe, hK, h9, hR, hX, hO, hl, hrs⟩ := hrel
        have HL := Lib.hid hl
        have HRR := Lib.hid hrs
        have hlen : rs.length + 1 ≤ 1099511627776 := by omega
        clear hl hrs
        rcases Nat.lt_or_ge i m with hil | hil
        · obtain ⟨x0, x1, x2⟩ := hX.three
          obtain ⟨A2, c2, rfl⟩ := hO.slice
          go_wp2_with fail
          have C2 := stab x2
          have hS0 := below_drew' wr
          clear x0 x1 x2
          generalize hs2 : Value.slice A2 rs.length c2 = s2 at *
          clear hs2
          refine region_seq 8 [0, 1, 2, 3, 4, 5, 6, 7, 8, 9, 10] (by kernel_rfl) (by kernel_rfl) ?_
          repeat (first | (refine seq_takeP (v := ?_) rfl rfl rfl ?_ ?_; rotate_left; (· (intro _ hSw; go_simp; (try go_bits); (try with_reducible rfl))); (try simp only [Act.put, List.setIfInBounds_toArray, List.set_cons_zero, List.set_cons_succ, List.getElem_toArray, List.getElem_cons_zero, List.getElem_cons_succ])) | (refine seq_take (v := ?_) rfl rfl rfl ?_ ?_; rotate_left; (· (intro _ hSw; go_simp; (try go_bits); (try with_reducible rfl))); (try simp only [Act.put, List.setIfInBounds_toArray, List.set_cons_zero, List.set_cons_succ, List.getElem_toArray, List.getElem_cons_zero, List.getElem_cons_succ])) | (refine seq_skip rfl rfl rfl ?_; (try simp only [Act.put, List.setIfInBounds_toArray, List.set_cons_zero, List.set_cons_succ, List.getElem_toArray, List.getElem_cons_zero, List.getElem_cons_succ])))
          refine seq_step rfl rfl (fun KR hKR => ?_)
          go_simp
          with_reducible refine (at_int _ zs (30 + (i : Int)) _ ((h.below hbe).below hS0) (by omega) (by omega)).mono ?_
          rintro _ w1 ⟨z, rfl, z0, z1, hb1⟩
          have hS1 := below_then hS0 hb1 hS0.size
          refine hKR.out _ _ (Or.inr hS1) ?_
          clear hKR KR
          (try simp only [Act.put, List.setIfInBounds_toArray, List.set_cons_zero, List.set_cons_succ, List.getElem_toArray, List.getElem_cons_zero, List.getElem_cons_succ])
          repeat (first | (refine seq_takeP (v := ?_) rfl rfl rfl ?_ ?_; rotate_left; (· (intro _ hSw; go_simp; (try go_bits); (try with_reducible rfl))); (try simp only [Act.put, List.setIfInBounds_toArray, List.set_cons_zero, List.set_cons_succ, List.getElem_toArray, List.getElem_cons_zero, List.getElem_cons_succ])) | (refine seq_take (v := ?_) rfl rfl rfl ?_ ?_; rotate_left; (· (intro _ hSw; go_simp; (try go_bits); (try with_reducible rfl))); (try simp only [Act.put, List.setIfInBounds_toArray, List.set_cons_zero, List.set_cons_succ, List.getElem_toArray, List.getElem_cons_zero, List.getElem_cons_succ])) | (refine seq_skip rfl rfl rfl ?_; (try simp only [Act.put, List.setIfInBounds_toArray, List.set_cons_zero, List.set_cons_succ, List.getElem_toArray, List.getElem_cons_zero, List.getElem_cons_succ])))
          refine seq_step rfl rfl (fun KR hKR => ?_)
          go_simp
          with_reducible refine (frac_own z _).mono ?_
          rintro _ w2 ⟨v2, q, rfl, e2, sq, hb2⟩
          have hS2 := below_then hS1 hb2 hS1.size
          obtain ⟨B, l, d, B', l', d', rfl, _, _⟩ := id e2.frac
          have HF := Lib.hid e2.frac
          have HRS := Lib.hid sq.rs
          clear e2 sq
          generalize canF q = Q at *
          refine hKR.out _ _ (Or.inr hS2) ?_
          clear hKR KR
          (try simp only [Act.put, List.setIfInBounds_toArray, List.set_cons_zero, List.set_cons_succ, List.getElem_toArray, List.getElem_cons_zero, List.getElem_cons_succ])
          repeat (first | (refine seq_takeP (v := ?_) rfl rfl rfl ?_ ?_; rotate_left; (· (intro _ hSw; go_simp; (try go_bits); (try with_reducible rfl))); (try simp only [Act.put, List.setIfInBounds_toArray, List.set_cons_zero, List.set_cons_succ, List.getElem_toArray, List.getElem_cons_zero, List.getElem_cons_succ])) | (refine seq_take (v := ?_) rfl rfl rfl ?_ ?_; rotate_left; (· (intro _ hSw; go_simp; (try go_bits); (try with_reducible rfl))); (try simp only [Act.put, List.setIfInBounds_toArray, List.set_cons_zero, List.set_cons_succ, List.getElem_toArray, List.getElem_cons_zero, List.getElem_cons_succ])) | (refine seq_skip rfl rfl rfl ?_; (try simp only [Act.put, List.setIfInBounds_toArray, List.set_cons_zero, List.set_cons_succ, List.getElem_toArray, List.getElem_cons_zero, List.getElem_cons_succ])))
          refine seq_step rfl rfl (fun KR hKR => ?_)
          go_simp
          refine hKR.out _ _ (Or.inr (below_then hS2 (below_new _ _) hS2.size)) ?_
          clear hKR KR
          (try simp only [Act.put, List.setIfInBounds_toArray, List.set_cons_zero, List.set_cons_succ, List.getElem_toArray, List.getElem_cons_zero, List.getElem_cons_succ])
          have HO := Lib.hid (hO.below hS2)
          have hbs : w9.heap.size ≤ w2.heap.size := by have := hS2.size; omega
          refine seq_append_frac rfl rfl rfl (by decide) (.tmp 49) (.tmp 55) rfl w2 w9.heap.size s2 rs rfl HO.out _ _ B B' l d l' d' Q HF.out rfl hlen hbs ?_
          intro v' w4 hown4 hk4 hb4
          obtain ⟨A4, n4, c4, rfl⟩ := hown4.sliceN
          (try simp only [Act.put, List.setIfInBounds_toArray, List.set_cons_zero, List.set_cons_succ, List.getElem_toArray, List.getElem_cons_zero, List.getElem_cons_succ])
          have hX4 := hk4.bk (hX.later hS2) (by decide)
          have hR4 := hk4.bk (hR.later hS2) (by decide)
          have hK4 := (hK.then (hS2.mono h9)).then hb4
          have hbe4 := (below_then hbe hS2 hbe.size).trans (hb4.mono h90)
          obtain ⟨c0, c1, c2⟩ := hX4.three
          obtain ⟨f0, f1, f2⟩ := hX4.threeF
          refine seq_step rfl rfl (fun KR hKR => ?_)
          go_simp
          refine hKR.out _ _ (Or.inl (by decide)) ?_
          clear hKR KR
          (try simp only [Act.put, List.setIfInBounds_toArray, List.set_cons_zero, List.set_cons_succ, List.getElem_toArray, List.getElem_cons_zero, List.getElem_cons_succ])
          refine seq_step rfl rfl (fun KR hKR => ?_)
          go_simp
          refine hKR.out _ _ (Or.inl (by decide)) ?_
          clear hKR KR
          (try simp only [Act.put, List.setIfInBounds_toArray, List.set_cons_zero, List.set_cons_succ, List.getElem_toArray, List.getElem_cons_zero, List.getElem_cons_succ])
          refine seq_done ?_
          generalize hv' : Value.slice A4 n4 c4 = v' at *
          clear hv'
          have hX5 := hX4.set_ 2 v'
          have hR5 := hR4.far (p := ⟨w.heap.size + 1, 2, none⟩) (by simp) v'
          have hk5 := KeepBut.setCell hX4 2 v'
          have hO5 := hown4.but hk5 (by decide) (by decide)
          have hK5 := hK4.trans hk5
          have hbe5 := hbe4.setCell (p := ⟨w.heap.size + 1, 2, none⟩) (by simp) v'
          have h95 : w9.heap.size ≤ (w4.setCell ⟨w.heap.size + 1, 2, none⟩ v').heap.size := by
            have := hb4.size; simp; omega
          generalize w4.setCell ⟨w.heap.size + 1, 2, none⟩ v' = W5 at *
          clear hX4 hR4 hk5 hown4 hbe4 hk4 hb4 c0 c1 c2 f0 f1 f2 hX hR hO hS0 hS1 hS2 hb1 hb2 HO HF C2 hbs hbe hK hK4 h9
          simp only [List.set_cons_zero, List.set_cons_succ] at hX5
          go_wp2
          go_roundw
          case rel => exact ⟨i + 1, v', rs ++ [Q], by omega, by go_num, hbe5, hK5, h95, hR5, hX5, hO5, by rw [List.length_append, HL.out]; rfl, HRR.out.snoc HRS.out⟩
          case measure => simp [intOf]; omega
        · obtain rfl : i = m := by omega
          have hO9 := HO9.out.but hK (by decide) (by decide)
          have hV9 := HV9.out.but hK (by decide) (by decide) (by decide)
          obtain ⟨x0, x1, x2⟩ := hX.three
          obtain ⟨c0, c1, c2⟩ := hR.three
          obtain ⟨f0, f1, f2⟩ := hR.threeF
          obtain ⟨A0, d0, rfl⟩ := hO9.slice
          obtain ⟨A1, d1, rfl⟩ := hV9.slice
          obtain ⟨A2, d2, rfl⟩ := hO.slice
          go_wp2
          generalize hs0 : Value.slice A0 cs.length d0 = s0 at *
          generalize hs1 : Value.slice A1 cols.length d1 = s1 at *
          generalize hs2 : Value.slice A2 rs.length d2 = s2 at *
          have hR5 := ((hR.set_ 0 s0).set_ 1 s1).set_ 2 s2
          refine ret_cell Tryz.results7 Tryz.underlying26 (by kernel_rfl) rfl hR5 rfl ?_
          have k1 := KeepBut.setCell hR 0 s0
          have k2 := KeepBut.setCell (hR.set_ 0 s0) 1 s1
          have k3 := KeepBut.setCell ((hR.set_ 0 s0).set_ 1 s1) 2 s2
          have k4 := (k1.trans k2).trans k3
          refine ⟨_, ⟨cs, cols, rs⟩, rfl, ⟨s0, s1, s2, w9.heap.size, rfl, hO9.but k4 (by decide) (by decide), (hV9.but k4 (by decide) (by decide) (by decide)).vecs, hO.but k4 (by decide) (by decide), h90, HBLK.out⟩, ⟨by rw [HL.out]; exact m1, by rw [HL.out]; exact m2, by rw [HL2.out]; exact n1, by rw [HL1.out, HL2.out], HR1.out, fun j c hc => by rw [HL.out]; exact HCO1.out j c hc⟩, HRR.out, ?_⟩
          exact ((hbe.setCell (p := ⟨w.heap.size, 0, none⟩) (Nat.le_refl _) s0).setCell (p := ⟨w.heap.size, 1, none⟩) (Nat.le_refl _) s1).setCell (p := ⟨w.heap.size, 2, none⟩) (Nat.le_refl _) s2
end Go.Proofs.YtpanffbgihhjnaaGreat

/- Memory: an append that says which blocks it leaves alone. Walks: package pairingdata: Fracs. -/
namespace Go.Proofs.YtpanffbgihhjnaaGreat
open Go.RowKit Pl
attribute [local go_sem ↓] Go.wp_at_zero Go.wp_at_succ

/-- all blocks but one are as they were -/
def Others (g : Option Nat) (w w' : World) : Prop := w.heap.size ≤ w'.heap.size ∧ ∀ b, b < w.heap.size → some b ≠ g → w'.heap[b]? = w.heap[b]?
theorem Others.bk {g : Option Nat} {w w' : World} {b : Nat} {t : TypeId} {cs : List Value} (h : Others g w w') (hb : Bk w b t cs) (hne : some b ≠ g) : Bk w' b t cs := (h.2 b hb.lt hne).trans hb
theorem Others.of_set {g i : Nat} {w : World} {v : Value} : Others (some g) w (w.setCell ⟨g, i, none⟩ v) := ⟨by simp, fun b _ hne => heap_setCell_other w _ _ _ (fun e => hne (by rw [e]))⟩
theorem Others.trans {g : Option Nat} {a b c : World} (h : Others g a b) (k : Others g b c) : Others g a c := ⟨Nat.le_trans h.1 k.1, fun x hx hne => (k.2 x (Nat.lt_of_lt_of_le hx h.1) hne).trans (h.2 x hx hne)⟩
theorem FrsO.others {base : Nat} {w w' : World} {g : Option Nat} {v : Value} {fs : List RF} (h : FrsO base w v fs) (ho : Others g w w') (hk : Keep w w') (hne : ∀ b, v.ownBlock = some b → some b ≠ g) : FrsO base w' v fs := by
  obtain ⟨cs, h1, h2⟩ := h
  refine ⟨cs, ⟨h1.1, ?_⟩, h2.keep hk⟩
  rcases h1.2 with hn | ⟨g', cap, cur, rfl, hb', hgg, rest⟩
  · exact .inl hn
  · exact .inr ⟨g', cap, cur, rfl, hb', (ho.2 g' (lt_heap hgg) (hne g' (by simp [Value.ownBlock]))).trans hgg, rest⟩
theorem run_append_oneG (ty t e : TypeId) (i : TypeInfo) (z : Value) (size bytes : Nat) (ht : Tryz.prog.underlying t = some (.slice e)) (hi : Tryz.prog.info? e = some i) (hz : i.zero = some z)
    (hsize : i.size = size) (hby : i.bytes = bytes) (hzs : z.cells.size = size) (hsz : 0 < size) (W : World) (base : Nat) (v : Value) (n : Nat) (xs news : List Value) (hown : W.ownsRow base e size v n xs)
    (hl : news.length = size) (h1 : ∀ u ∈ news, u.oneCell' = true) (hn : n + 1 ≤ maxLen) (hb : (n + 1) * bytes ≤ 140737488355328) (hbase : base ≤ W.heap.size) :
    ∃ v' w', (Builtin.append_ #[t, t] ty #[v, .slice (some ⟨W.heap.size, 0, none⟩) 1 1]).run Tryz.prog (W.alloc (.cells news.toArray e)) = .ok v' w' ∧ w'.ownsRow base e size v' (n + 1) (xs ++ news) ∧ KeepBut e W w' ∧ Below base W w' ∧ Others v.ownBlock W w' ∧ (v'.ownBlock = v.ownBlock ∨ ∀ g, v'.ownBlock = some g → W.heap.size ≤ g) := by
  have hnew : Bk (W.alloc (.cells news.toArray e)) W.heap.size e news := Bk.new W e news
  obtain ⟨v', w', hrun, h2, h3, _, h5⟩ := run_append_own_at (P := Tryz.prog) (W.alloc (.cells news.toArray e)) base t ty e i z size bytes ht hi hz hsize hby hzs hsz v n xs (hown.alloc _) ⟨W.heap.size, 0, none⟩ 1 1 news (by omega) (fun j u hj => by rw [addr_add, Nat.zero_add, hnew.cell]; exact hj) h1 hn hb (by simp; omega)
  refine ⟨v', w', hrun, h2, ?_, ?_, ⟨?_, ?_⟩, ?_⟩
  · intro b cs t' fz hne hc
    have hlt := lt_heap hc
    refine (h3.block b (by simp; omega) ?_).trans ((Below.heap_alloc W _ b hlt).trans hc)
    intro e1
    rcases hown.2 with ⟨rfl, _⟩ | ⟨g, cap, cur, rfl, _, hg, _⟩
    · simp [Value.ownBlock] at e1
    · simp [Value.ownBlock] at e1
      subst e1
      rw [hg] at hc
      injection hc with hc
      injection hc with _ h2 _
      exact hne h2.symm
  · refine ((Below.refl _ _).alloc hbase _).grown h3 (by simp; omega) (fun k hk => ?_)
    exact (hown.lt k hk).1
  · have := h3.size; simp at this; omega
  · intro b hb hne
    exact (h3.block b (by simp; omega) hne).trans (Below.heap_alloc W _ b hb)
  · rcases h5 with h5 | h5
    · exact .inl h5
    · right; intro g hg; rw [h5] at hg; injection hg with hg; simp at hg; omega
 where
  addr_add (g j : Nat) : (⟨g, 0, none⟩ : Addr).add j = ⟨g, 0 + j, none⟩ := by
    unfold Addr.add
    split
    · rename_i h; subst h; rfl
    · rfl
theorem wpList_append_fracG {ops : Array Oper} {rest : List Oper} {o : Oper} {a : Act} {Q : Exit → Act → World → Prop} (hgd : o.guard = none) (s x : Operand)
    (ho : o.op = .call { callee := .builtin .append, args := #[s, x], argTypes := #[23, 23] })
    (W : World) (base : Nat) (v : Value) (fs : List RF) (hs : a.eval s = v) (hown : FrsO base W v fs) (b b' : Bool) (A A' : Option Addr) (n c n' c' : Nat) (f : RF) (hf : FracM W (.agg #[.bool b, .slice A n c, .bool b', .slice A' n' c']) f)
    (hx : a.eval x = .slice (some ⟨W.heap.size, 0, none⟩) 1 1) (hn : fs.length + 1 ≤ 1099511627776) (hbase : base ≤ W.heap.size)
    (h : ∀ v' w', FrsO base w' v' (fs ++ [f]) → KeepBut 47 W w' → Below base W w' → Others v.ownBlock W w' → (v'.ownBlock = v.ownBlock ∨ ∀ g, v'.ownBlock = some g → W.heap.size ≤ g) → wpList Tryz.prog ops Q rest (a.put o.dst v') w') :
    wpList Tryz.prog ops Q (o :: rest) a (W.alloc (.cells #[.bool b, .slice A n c, .bool b', .slice A' n' c'] 47)) := by
  obtain ⟨cs, h1, h2⟩ := hown
  obtain ⟨i0, hi, hz0, hz1, hz2⟩ := info_parts info_frac
  refine wpList_plain hgd fun K hK => ?_
  obtain ⟨v', w', hr, g1, g2, g3, g4, g5⟩ := run_append_oneG o.type 23 47 i0 _ 4 64 Tryz.underlying23 hi hz0 hz1 hz2 rfl (by decide) W base v fs.length cs [.bool b, .slice A n c, .bool b', .slice A' n' c'] h1 rfl frac_oneCell (by unfold maxLen; omega) (by omega) hbase
  unfold Oper.wp execOp
  simp only [ho, resolve, invoke, builtin, Sem.run_bind, Sem.run_pure, Result.andThen_ok, List.map_toArray, List.map_cons, List.map_nil, hs, hx]
  rw [show (Obj.cells #[.bool b, .slice A n c, .bool b', .slice A' n' c'] 47) = (Obj.cells [.bool b, .slice A n c, .bool b', .slice A' n' c'].toArray 47) from rfl]
  simp only [hr, Result.andThen_ok]
  have hk := g2.keep (by decide)
  exact hK _ _ (h v' w' ⟨_, by simpa using g1, (h2.keep hk).snoc (hf.keep hk)⟩ g2 g3 g4 g5)

set_option maxHeartbeats 1000000 in
theorem fracs_own (v : Value) (zs : List Int) (m : Nat) (w : World) (h : IntsM w v zs) (hm : m ≤ 1000) :
    Calls Tryz.prog 17 #[v, .int .i64 (m : Int)] w fun e w' => ∃ v' fs, e = .returned v' ∧ FrsO w.heap.size w' v' fs ∧ fs.length = m ∧ RsL 2 fs ∧ Below w.heap.size w w' := by
  obtain ⟨a, cap, rfl, hc1, hc2⟩ := h.shape
  generalize hn : zs.length = n at *
  clear hn
  go_enter Tryz.func17, Tryz.ntmps17
  go_wp2
  go_loopw [5, 6] (fun s i wr => ∃ (k : Nat) (fs : List RF), k ≤ m ∧ i = .int .i64 k ∧ FrsO w.heap.size wr s fs ∧ fs.length = k ∧ RsL 2 fs ∧ Below w.heap.size w wr) (fun _ i _ => m - (intOf i).toNat)
  case atStart => exact ⟨0, [], by omega, rfl, FrsO.nil _ _, rfl, RsL.nil _, Below.refl _ _⟩
  case round =>
    obtain ⟨k, fs, hk, rfl, hown, hl, hrs, hbe⟩ := hrel
    have HL := Lib.hid hl
    have HR := Lib.hid hrs
    have hlen : fs.length + 1 ≤ 1099511627776 := by omega
    clear hl hrs
    rcases Nat.lt_or_ge k m with hkl | hkl
    · go_wp2_with fail
      refine (at_any _ zs k _ (h.below hbe) (by omega)).mono ?_
      rintro _ w1 ⟨z, rfl, z0, z1, hb1⟩
      go_wp2_with fail
      refine (frac_own z _).mono ?_
      rintro _ w2 ⟨v2, q, rfl, e2, sq, hb2⟩
      have hb12 := below_then hb1 hb2 hb1.size
      have HO := Lib.hid (hown.below hb12)
      have hbe2 := below_then hbe hb12 hbe.size
      obtain ⟨B, l, d, B', l', d', rfl, _, _⟩ := id e2.frac
      have HF := Lib.hid e2.frac
      have HRS := Lib.hid sq.rs
      have hbs := hbe2.size
      clear hown hbe hb1 hb2 e2 sq hb12
      generalize canF q = Q at *
      go_wp2_with (at_builtin; refine wpList_append_frac rfl (.tmp 12) (.tmp 17) rfl w2 w.heap.size u5 fs rfl HO.out _ _ B B' l d l' d' Q HF.out rfl hlen hbs ?_)
      intro v' w4 hown4 hk4 hb4
      go_wp2
      go_roundw
      case rel => exact ⟨k + 1, fs ++ [Q], by omega, by go_num, hown4, by rw [List.length_append, HL.out]; rfl, HR.out.snoc HRS.out, hbe2.trans hb4⟩
      case measure => simp [intOf]; omega
    · obtain rfl : k = m := by omega
      go_wp2
      go_ret
      exact ⟨_, fs, rfl, hown, HL.out, HR.out, hbe⟩
end Go.Proofs.YtpanffbgihhjnaaGreat

/- Walks: package pairingdata: Feasible. -/
namespace Go.Proofs.YtpanffbgihhjnaaGreat
open Go.RowKit Pl
attribute [local go_sem ↓] Go.wp_at_zero Go.wp_at_succ

namespace Pl
def colC (cols : List (List En)) (j : Nat) : Nat → Rat := match cols[j]? with | some c => colQ c | none => fun _ => 0
theorem col_colC (p : LPd) (j : Nat) : p.col (j : Int) = colC p.cols j := by
  unfold LPd.col colC
  rw [if_pos (by omega), Int.toNat_natCast]
  cases p.cols[j]? <;> rfl
def timesC (cols : List (List En)) (xs : List RF) (k i : Nat) : Rat := sumN (fun j => qAt xs j * colC cols j i) k
theorem timesQ_C (p : LPd) (xs : List RF) (k i : Nat) : timesQ p xs k i = timesC p.cols xs k i := sumN_congr fun j _ => by rw [col_colC]
theorem qAt_left {xs : List RF} {f : RF} {j : Nat} (h : j < xs.length) : qAt (xs ++ [f]) j = qAt xs j := by unfold qAt; rw [List.getElem?_append_left h]
theorem qAt_end {xs : List RF} {f : RF} : qAt (xs ++ [f]) xs.length = f.q := by unfold qAt; rw [List.getElem?_append_right (Nat.le_refl _), Nat.sub_self]; rfl
theorem timesC_snoc (cols : List (List En)) {xs : List RF} (f : RF) {k : Nat} (hk : xs.length = k) (i : Nat) : timesC cols (xs ++ [f]) (k + 1) i = timesC cols xs k i + f.q * colC cols k i := by
  subst hk
  unfold timesC
  rw [sumN_succ, qAt_end, sumN_congr fun j hj => by rw [qAt_left hj]]
def NN (xs : List RF) : Prop := ∀ (j : Nat) (f : RF), xs[j]? = some f → 0 ≤ f.q
theorem NN.nil : NN [] := fun j f h => by simp at h
theorem NN.snoc {xs : List RF} (h : NN xs) {f : RF} (hf : 0 ≤ f.q) : NN (xs ++ [f]) := fun i g hg => by
  rcases Nat.lt_or_ge i xs.length with hi | hi
  · rw [List.getElem?_append_left hi] at hg; exact h i g hg
  · rw [List.getElem?_append_right hi] at hg
    have : i - xs.length = 0 := by
      rcases Nat.eq_zero_or_pos (i - xs.length) with e | e
      · exact e
      · rw [List.getElem?_eq_none (by simp; omega)] at hg; cases hg
    rw [this] at hg; simp at hg; subst hg; exact hf
/-- the first r rows are done -/
def mixR (T : Nat → Rat) (q : Rat) (C : Nat → Rat) (r i : Nat) : Rat := if i < r then T i + q * C i else T i
theorem mixR_zero (T : Nat → Rat) (q : Rat) (C : Nat → Rat) : mixR T q C 0 = T := by funext i; simp [mixR]
theorem mixR_at (T : Nat → Rat) (q : Rat) (C : Nat → Rat) (r : Nat) : mixR T q C r r + q * C r = mixR T q C (r + 1) r := by simp [mixR]
theorem mixR_next (T : Nat → Rat) (q : Rat) (C : Nat → Rat) (r : Nat) : (fun i => if i = r then mixR T q C (r + 1) r else mixR T q C r i) = mixR T q C (r + 1) := by
  funext i
  by_cases h : i = r
  · subst h; rw [if_pos rfl]
  · rw [if_neg h]; unfold mixR
    by_cases h2 : i < r
    · rw [if_pos h2, if_pos (by omega)]
    · rw [if_neg h2, if_neg (by omega)]
theorem Sz_colC {m : Nat} {cols : List (List En)} (h : ∀ (j : Nat) (c : List En), cols[j]? = some c → ColOK m c) (j i : Nat) : Sz 1 (colC cols j i) := by
  unfold colC
  cases hc : cols[j]? with
  | some c => exact Sz_col (fun k e he => ((h j c hc).2.2 k e he).2.2.2) (Nat.le_refl _) i
  | none => exact Sz_zero
theorem Sz_timesC {m : Nat} {cols : List (List En)} (h : ∀ (j : Nat) (c : List En), cols[j]? = some c → ColOK m c) {xs : List RF} (hx : RsL 2 xs) {k : Nat} (hk : k ≤ 5) (i : Nat) : Sz 21 (timesC cols xs k i) :=
  (Sz_sum (K := 3) fun j _ => (Sz_mul (hx.qAt (by decide) j) (Sz_colC h j i)).mono (by omega)).mono (by omega)
theorem Sz_mixR {T C : Nat → Rat} {q : Rat} {r i : Nat} (h1 : Sz 21 (T i)) (h2 : Sz 2 q) (h3 : Sz 1 (C i)) : Sz 32 (mixR T q C r i) := by
  unfold mixR
  split
  · exact (Sz_add h1 (Sz_mul h2 h3)).mono (by omega)
  · exact h1.mono (by omega)
end Pl
theorem FrsO.monoB {base base' : Nat} {w : World} {v : Value} {fs : List RF} (h : FrsO base w v fs) (hb : base' ≤ base) : FrsO base' w v fs := by
  obtain ⟨cs, h1, h2⟩ := h; exact ⟨cs, row_mono h1 hb, h2⟩
theorem Bk.far4' {w : World} {g g' : Nat} {t : TypeId} {cs : List Value} (h : Bk w g t cs) (hne : g ≠ g') (i j k l : Nat) (x y z u : Value) : Bk ((((w.setCell ⟨g', i, none⟩ x).setCell ⟨g', j, none⟩ y).setCell ⟨g', k, none⟩ z).setCell ⟨g', l, none⟩ u) g t cs :=
  (((h.far (p := ⟨g', i, none⟩) hne x).far (p := ⟨g', j, none⟩) hne y).far (p := ⟨g', k, none⟩) hne z).far (p := ⟨g', l, none⟩) hne u
theorem FrsO.own_ge {base : Nat} {w : World} {v : Value} {fs : List RF} (h : FrsO base w v fs) : ∀ g, v.ownBlock = some g → base ≤ g := by
  obtain ⟨cs, h1, h2⟩ := h
  intro g hg
  exact (h1.lt g hg).1

def FeasPost (w : World) (e : Ending) (w' : World) : Prop :=
  ∃ v1 v2 p xs, e = .returned (.tuple #[v1, v2]) ∧ LpO w.heap.size w' v1 p ∧ FrsO w.heap.size w' v2 xs ∧ LpOK p ∧ RsL 32 p.right ∧ RsL 2 xs ∧ xs.length = p.cols.length ∧ NN xs ∧ (∀ i, i < p.right.length → qAt p.right i = timesQ p xs p.cols.length i) ∧ Below w.heap.size w w'

set_option maxRecDepth 100000 in
set_option maxHeartbeats 16000000 in
theorem feasibleData_own (v : Value) (zs : List Int) (w : World) (h : IntsM w v zs) :
    Calls Tryz.prog 14 #[v] w (FeasPost w) := by
  obtain ⟨a, cap, rfl, hc1, hc2⟩ := h.shape
  generalize hn : zs.length = n at *
  clear hn
  obtain ⟨W, hW, hR, hbe0⟩ := box_lp w (.slice none 0 0) (.slice none 0 0) (.slice none 0 0)
  have hsz0 := hbe0.size
  go_enter Tryz.func14, Tryz.ntmps14
  go_wp2_with fail
  clear hW
  refine (lp_own _ zs _ (h.below hbe0)).mono ?_
  rintro _ w1 ⟨v1, p, rfl, hp, hok, hr2, hb1⟩
  obtain ⟨s0, s1, s2, b1, rfl, hO0, hV0, hO2, hbb, hlt0⟩ := hp
  have HOK := Lib.hid hok
  have hR1 := hR.later hb1
  have hbe1 := below_then hbe0 hb1 hbe0.size
  have hI1 := h.below hbe1
  obtain ⟨A0, n0, c0, rfl⟩ := hO0.sliceN
  obtain ⟨A1, n1, c1, rfl⟩ : ∃ A n c, s1 = .slice A n c := by obtain ⟨A, c, e, _⟩ := hV0.shape; exact ⟨A, _, c, e⟩
  obtain ⟨A2, m, c2, rfl⟩ := hO2.sliceN
  obtain ⟨N1, N2, N3⟩ := hV0.len
  obtain ⟨M1, M2, M3⟩ := hO2.frs.len
  have m1 : 1 ≤ m := by rw [M1]; exact hok.1
  have m2 : m ≤ 3 := by rw [M1]; exact hok.2.1
  have nN : n1 ≤ 5 := by rw [N1]; exact hok.2.2.1
  have HN1 := Lib.hid N1
  have HM1 := Lib.hid M1
  have HO0 := Lib.hid hO0
  have HV0 := Lib.hid hV0
  have HLT := Lib.hid hlt0
  clear hok hr2 hO2 hbb hb1 hR hbe0 N1 M1 hO0 hV0 hlt0 h
  obtain ⟨W2, hW2, hX, hbn⟩ := box_lp w1 (.slice A0 n0 c0) (.slice A1 n1 c1) (.slice A2 m c2)
  have hsz2 : W2.heap.size = w1.heap.size + 1 := by rw [← hW2]; simp
  obtain ⟨x0, x1, x2⟩ := hX.three
  go_wp2_with fail
  clear hW2 x0 x1 x2
  refine (zeros_own m _ (by omega)).mono ?_
  rintro _ w3 ⟨z2, rfl, hZ, hb3⟩
  rw [hsz2] at hZ
  obtain ⟨gz, cz, rfl, hgz1, hgz2, hcz1, hcz2⟩ := hZ.shape (by simp; omega)
  simp only [List.length_replicate] at hZ hcz1 ⊢
  rw [canL_zero] at hZ
  have hX3 := hX.later hb3
  have hbe3 := below_then hbn hb3 hbn.size
  obtain ⟨x0, x1, x2⟩ := hX3.three
  obtain ⟨f0, f1, f2⟩ := hX3.threeF
  clear hX hbn hb3 hsz2
  go_wp2
  clear x0 x1 x2 f0 f1 f2
  have hX4 := hX3.set_ 2 (.slice (some ⟨gz, 0, none⟩) m cz)
  have hZ4 := hZ.but (KeepBut.setCell hX3 2 (.slice (some ⟨gz, 0, none⟩) m cz)) (by decide) (by decide)
  have hbe4 := hbe3.setCell (p := ⟨w1.heap.size, 2, none⟩) (Nat.le_refl _) (.slice (some ⟨gz, 0, none⟩) m cz)
  have hbx : gz < (w3.setCell ⟨w1.heap.size, 2, none⟩ (.slice (some ⟨gz, 0, none⟩) m cz)).heap.size := by simp; exact hgz2
  have hbx1 : w1.heap.size ≤ (w3.setCell ⟨w1.heap.size, 2, none⟩ (.slice (some ⟨gz, 0, none⟩) m cz)).heap.size := by have := hbe3.size; simp; exact this
  generalize w3.setCell ⟨w1.heap.size, 2, none⟩ (.slice (some ⟨gz, 0, none⟩) m cz) = w4 at *
  simp only [List.set_cons_zero, List.set_cons_succ] at hX4
  clear hX3 hZ hbe3 hgz2
  generalize hbxe : w4.heap.size = bx at *
  have hw4 : bx ≤ w4.heap.size := by omega
  clear hbxe
  go_loopw [5, 6] (fun s i wr => ∃ (k : Nat) (xs : List RF), k ≤ n1 ∧ i = .int .i64 k ∧ Below w1.heap.size w1 wr ∧ Bk wr w1.heap.size 26 [.slice A0 n0 c0, .slice A1 n1 c1, .slice (some ⟨gz, 0, none⟩) m cz] ∧ FrsO (w1.heap.size + 1) wr (.slice (some ⟨gz, 0, none⟩) m cz) (canL m (timesC p.cols xs k)) ∧ FrsO bx wr s xs ∧ xs.length = k ∧ RsL 2 xs ∧ NN xs ∧ bx ≤ wr.heap.size) (fun _ i _ => n1 - (intOf i).toNat)
  case atStart => exact ⟨0, [], by omega, rfl, hbe4, hX4, hZ4, FrsO.nil _ _, rfl, RsL.nil _, NN.nil, hw4⟩
  case round =>
    clear hbe4 hX4 hZ4 hw4 w4
    obtain ⟨k, xs, hk, rfl, hbe, hX, hZ, hO, hl, hrs, hnn, hbw⟩ := hrel
    have HL := Lib.hid hl
    have HRX := Lib.hid hrs
    have HNN := Lib.hid hnn
    have hlen : xs.length + 1 ≤ 1099511627776 := by omega
    clear hl hrs hnn
    obtain ⟨x0, x1, x2⟩ := hX.three
    rcases Nat.lt_or_ge k n1 with hkl | hkl
    · go_wp2_with fail
      clear x0 x1 x2
      refine (at_int _ zs (40 + (k : Int)) _ (hI1.below hbe) (by omega) (by omega)).mono ?_
      rintro _ w2 ⟨z, rfl, z0, z1, hb2⟩
      go_wp2_with fail
      refine (frac_own z _).mono ?_
      rintro _ w3 ⟨v3, q, rfl, e3, sq, hb3⟩
      have hbw3 := below_then hb2 hb3 hb2.size
      obtain ⟨Bg, lg, dg, Bg', lg', dg', rfl, _, _⟩ := id e3.frac
      obtain ⟨Wv, hWv, hVv, hbn⟩ := boxF1 w3 (.bool (canF q).num.neg) (.slice Bg lg dg) (.bool (canF q).den.neg) (.slice Bg' lg' dg')
      have hbv := below_then hbw3 hbn hbw3.size
      have hgv := hbw3.size
      have hFv := e3.frac.below hbn
      obtain ⟨y0, y1, y2, y3⟩ := hVv.four
      have SQ := Lib.hid sq
      clear hb2 hb3 e3 hbn sq hbw3
      go_wp2_with fail
      clear hWv y0 y1 y2 y3
      refine (rsignF_any _ (canF q) _ hFv (SQ.out.sh (by decide))).mono ?_
      rw [canF_q]
      rintro _ w4 ⟨rfl, hb4⟩
      have hbv4 := below_then hbv hb4 hbv.size
      have hVv4 := hVv.later hb4
      have hFv4 := hFv.below hb4
      clear hbv hVv hFv hb4
      generalize hgve : w3.heap.size = gv at *
      clear hgve
      obtain ⟨f5, hfd⟩ : ∃ f5, canF q = f5 := ⟨_, rfl⟩
      have HFD := Lib.hid hfd
      have HQ0 : Hid (0 ≤ qs q → 0 ≤ f5.q) := Lib.hid (fun g => by
        rw [← hfd, canF_q]
        have := @qs_neg q
        rcases Rat.le_total (a := 0) (b := q) with e | e
        · exact e
        · rw [← Rat.not_lt]; exact fun g2 => by have := qs_neg.2 g2; omega)
      have HFR : Hid (f5.Rs 2) := Lib.hid (by rw [← hfd]; exact SQ.out.rs)
      rw [hfd] at hVv4 hFv4 ⊢
      clear hfd
      rcases Int.lt_or_le (qs q) 0 with hq | hq
      case' inr =>
        go_wp2_with fail
        refine (at_int _ zs (40 + (k : Int)) _ ((hI1.below hbe).below hbv4) (by omega) (by omega)).mono ?_
        rintro _ W6 ⟨z', rfl, z0', z1', hb4'⟩
        have hbv4x := below_then hbv4 hb4' hbv4.size
        have hVv4x := hVv4.later hb4'
        have hFv4 := hFv4.below hb4'
        clear hbv4 hVv4 hb4'
        by_cases hz : z' % 3 = 0
        case' pos =>
          have hz' : (z' % 3 == 0) = true := by simpa using hz
          clear hz
          go_wp2_with fail
          refine (rint_own 0 _ (by omega) (by omega)).mono ?_
          rw [show ((0 : Int) : Rat) = 0 from rfl]
          rintro _ w5 ⟨v5, rfl, e5, hb5⟩
          have hbv5 := below_then hbv4x hb5 hbv4x.size
          have hVv5 := hVv4x.later hb5
          have hF5 := Lib.hid e5.frac
          have HF0 : Hid (0 ≤ (canF 0).q) := Lib.hid (by rw [canF_q]; exact Rat.le_refl)
          have HF2 : Hid ((canF 0).Rs 2) := Lib.hid (Sz_zero.mono (by decide)).rs
          generalize canF 0 = f5 at *
          obtain ⟨Bg, lg, dg, Bg', lg', dg', rfl, _, _⟩ := id hF5.out
          obtain ⟨y0, y1, y2, y3⟩ := hVv5.four
          obtain ⟨g0, g1, g2, g3⟩ := hVv5.fourF
          clear e5 hb5 hbv4x hVv4x hFv4 HQ0 HFR HFD
          go_upto_region 10 with (fail)
          have hVg := hVv5.set4 (.bool f5.num.neg) (.slice Bg lg dg) (.bool f5.den.neg) (.slice Bg' lg' dg')
          have hFg := Lib.hid (hF5.out.keep (hVv5.keep4 (by decide) (.bool f5.num.neg) (.slice Bg lg dg) (.bool f5.den.neg) (.slice Bg' lg' dg')))
          have hbg := below_set4 hbv5 hgv (.bool f5.num.neg) (.slice Bg lg dg) (.bool f5.den.neg) (.slice Bg' lg' dg')
          clear y0 y1 y2 y3 g0 g1 g2 g3 hVv5 hF5 hbv5
          generalize (((w5.setCell ⟨gv, 0, none⟩ (.bool f5.num.neg)).setCell ⟨gv, 1, none⟩ (.slice Bg lg dg)).setCell ⟨gv, 2, none⟩ (.bool f5.den.neg)).setCell ⟨gv, 3, none⟩ (.slice Bg' lg' dg') = W6 at *
        case' neg =>
          have hz' : (z' % 3 == 0) = false := by simpa using hz
          have HF0 := Lib.hid (HQ0.out hq)
          clear hz
          go_upto_region 10 with (fail)
          have hVg := hVv4x
          have hFg := Lib.hid hFv4
          have hbg := hbv4x
          have HF2 := HFR
          clear hVv4x hFv4 hbv4x HFR HFD HQ0 hz' z0' z1' hq
      case' inl =>
        go_wp2_with fail
        refine (rint_own 0 _ (by omega) (by omega)).mono ?_
        rw [show ((0 : Int) : Rat) = 0 from rfl]
        rintro _ w5 ⟨v5, rfl, e5, hb5⟩
        have hbv5 := below_then hbv4 hb5 hbv4.size
        have hVv5 := hVv4.later hb5
        have hF5 := Lib.hid e5.frac
        have HF0 : Hid (0 ≤ (canF 0).q) := Lib.hid (by rw [canF_q]; exact Rat.le_refl)
        have HF2 : Hid ((canF 0).Rs 2) := Lib.hid (Sz_zero.mono (by decide)).rs
        generalize canF 0 = f5 at *
        obtain ⟨Bg, lg, dg, Bg', lg', dg', rfl, _, _⟩ := id hF5.out
        obtain ⟨y0, y1, y2, y3⟩ := hVv5.four
        obtain ⟨g0, g1, g2, g3⟩ := hVv5.fourF
        clear e5 hb5 hbv4 hVv4 hFv4 HQ0 HFR HFD
        go_upto_region 10 with (fail)
        have hVg := hVv5.set4 (.bool f5.num.neg) (.slice Bg lg dg) (.bool f5.den.neg) (.slice Bg' lg' dg')
        have hFg := Lib.hid (hF5.out.keep (hVv5.keep4 (by decide) (.bool f5.num.neg) (.slice Bg lg dg) (.bool f5.den.neg) (.slice Bg' lg' dg')))
        have hbg := below_set4 hbv5 hgv (.bool f5.num.neg) (.slice Bg lg dg) (.bool f5.den.neg) (.slice Bg' lg' dg')
        clear y0 y1 y2 y3 g0 g1 g2 g3 hVv5 hF5 hbv5
        generalize (((w5.setCell ⟨gv, 0, none⟩ (.bool f5.num.neg)).setCell ⟨gv, 1, none⟩ (.slice Bg lg dg)).setCell ⟨gv, 2, none⟩ (.bool f5.den.neg)).setCell ⟨gv, 3, none⟩ (.slice Bg' lg' dg') = W6 at *
      all_goals
        have hgW : gv < W6.heap.size := hVg.lt
        have hbeg := below_then hbe hbg hbe.size
        have HO := Lib.hid (hO.below hbg)
        have hbs : bx ≤ W6.heap.size := by have := hbg.size; omega
        have hX6 := hX.later hbg
        have hZ6 := hZ.below hbg
        have hown := hO.own_lt
        have hown2 := hO.own_ge
        have HNE1 : Hid (some gv ≠ u5.ownBlock) := Lib.hid fun e => by have := hown gv e.symm; omega
        have HNE2 : Hid (some gz ≠ u5.ownBlock) := Lib.hid fun e => by have := hown2 gz e.symm; omega
        obtain ⟨y0, y1, y2, y3⟩ := hVg.four
        clear hX hZ hO hbe hown hown2 hbg
        go_wp2_with (at_builtin; refine wpList_append_fracG rfl (.tmp 41) (.tmp 43) rfl W6 bx u5 xs rfl HO.out _ _ Bg Bg' lg dg lg' dg' f5 hFg.out rfl hlen hbs ?_)
        intro v' w7 hO7 hk7 hb7 hoth7 hblk7
        have hbe7 := hbeg.trans (hb7.mono hbx1)
        have hX7 := hk7.bk hX6 (by decide)
        have hV7 := hoth7.bk hVg HNE1.out
        have hF7 := hFg.out.keep (hk7.keep (by decide))
        have hZ7 := hZ6.others hoth7 (hk7.keep (by decide)) (fun b hb => by simp [Value.ownBlock] at hb; subst hb; exact HNE2.out)
        have hbs7 : bx ≤ w7.heap.size := by have := hoth7.1; omega
        clear hbeg HO hX6 hZ6 HNE1 HNE2 y0 y1 y2 y3 hVg hFg hk7 hb7 hoth7 hblk7 hgW hbs
        obtain ⟨Av, nv, cv, rfl⟩ := hO7.sliceN
        obtain ⟨x0, x1, x2⟩ := hX7.three
        generalize hvv : Value.slice Av nv cv = v' at *
        clear hvv
        have hok' : LpOK ⟨p.cost, p.cols, canL m (timesC p.cols xs k)⟩ := by
          have o := HOK.out
          refine ⟨?_, ?_, o.2.2.1, o.2.2.2.1, o.2.2.2.2.1, fun j c hc => ?_⟩
          · simp only [canL_length]; exact m1
          · simp only [canL_length]; exact m2
          · have := o.2.2.2.2.2 j c hc; simp only [canL_length]; rw [HM1.out]; exact this
        have hcols := HOK.out.2.2.2.2.2
        have hsT : ∀ i, Sz 21 (timesC p.cols xs k i) := fun i => Sz_timesC hcols HRX.out (by omega) i
        have hsr : RsL 32 (canL m (timesC p.cols xs k)) := canL_rs fun i _ => (hsT i).mono (by decide)
        have HOK2 := Lib.hid (hok'.ok (K := 32) (by decide) hsr)
        have HIN : Hid (LPd.In ⟨p.cost, p.cols, canL m (timesC p.cols xs k)⟩) := Lib.hid (lpErr_zero hok'.err).2.2.2.1
        have hLp : LpM w7 (.agg #[.slice A0 n0 c0, .slice A1 n1 c1, (.slice (some ⟨gz, 0, none⟩) m cz)]) ⟨p.cost, p.cols, canL m (timesC p.cols xs k)⟩ := ⟨_, _, _, _, _, _, _, _, _, rfl, (HO0.out.below hbe7).frs, HV0.out.below hbe7, hZ7.frs⟩
        have hc1 : ∀ i, Sz 1 (colC p.cols k i) := fun i => Sz_colC hcols k i
        have HC1 := Lib.hid hc1
        have HST := Lib.hid hsT
        clear hok' hcols hsT hsr hc1
        go_wp2_with fail
        clear x0 x1 x2
        refine (rcolumn_pos _ ⟨p.cost, p.cols, canL m (timesC p.cols xs k)⟩ 32 k _ hLp HOK2.out (by decide) HIN.out (by rw [← HN1.out]; exact hkl) (by simp only [canL_length]; omega)).mono ?_
        rw [show canL (LPd.mk p.cost p.cols (canL m (timesC p.cols xs k))).right.length ((LPd.mk p.cost p.cols (canL m (timesC p.cols xs k))).col (k : Int)) = canL m (colC p.cols k) from by rw [col_colC]; simp only [canL_length]]
        rintro _ w8 ⟨vc, rfl, hC, hb8⟩
        obtain ⟨Ac, cc, rfl, hcc1, hcc2⟩ := hC.frs.shape
        simp only [canL_length] at hC hcc1 ⊢
        have hbe8 := below_then hbe7 hb8 hbe7.size
        have hX8 := hX7.later hb8
        have hV8 := hV7.later hb8
        have hF8 := hF7.below hb8
        have hZ8 := hZ7.below hb8
        have hO8 := hO7.below hb8
        have hbs8 : bx ≤ w8.heap.size := by have := hb8.size; omega
        have hC8 : gz < w7.heap.size := by omega
        clear hbe7 hX7 hV7 hF7 hZ7 hO7 hLp HOK2 HIN hb8
        rw [← mixR_zero (timesC p.cols xs k) f5.q (colC p.cols k)] at hZ8
        generalize hTT : timesC p.cols xs k = TT at *
        generalize hCC : colC p.cols k = CC at *
        have HTT := Lib.hid hTT
        have HCC := Lib.hid hCC
        clear hTT hCC
        go_wp2
        go_loopw [9] (fun i wx => ∃ r : Nat, r ≤ m ∧ i = .int .i64 r ∧ Below w1.heap.size w1 wx ∧ Bk wx w1.heap.size 26 [.slice A0 n0 c0, .slice A1 n1 c1, .slice (some ⟨gz, 0, none⟩) m cz] ∧ Bk wx gv 47 [.bool f5.num.neg, .slice Bg lg dg, .bool f5.den.neg, .slice Bg' lg' dg'] ∧ FracM wx (.agg #[.bool f5.num.neg, .slice Bg lg dg, .bool f5.den.neg, .slice Bg' lg' dg']) f5 ∧ FrsO (w1.heap.size + 1) wx (.slice (some ⟨gz, 0, none⟩) m cz) (canL m (mixR TT f5.q CC r)) ∧ FrsO bx wx v' (xs ++ [f5]) ∧ FrsO w7.heap.size wx (.slice Ac m cc) (canL m CC) ∧ bx ≤ wx.heap.size) (fun i _ => m - (intOf i).toNat)
        case atStart => exact ⟨0, by omega, rfl, hbe8, hX8, hV8, hF8, hZ8, hO8, hC, hbs8⟩
        case round =>
          clear hbe8 hX8 hV8 hF8 hZ8 hO8 hC hbs8
          obtain ⟨r, hr, rfl, hbe, hX, hVv, hFm, hZ, hO, hC, hbw⟩ := hrel
          rcases Nat.lt_or_ge r m with hrm | hrm
          · obtain ⟨x0, x1, x2⟩ := hX.three
            obtain ⟨y0, y1, y2, y3⟩ := hVv.four
            obtain ⟨_, _, A3, n3, k3, A4, n4, k4, hAz, _, ⟨t0, t1, t2, t3⟩, hZm⟩ := hZ.frs.elem (Below.refl _ _) (canL_get hrm)
            injection hAz with hAz
            injection hAz with e1 e2
            subst e1 e2
            obtain ⟨bc, oc, A5, n5, k5, A6, n6, k6, rfl, _, ⟨q0, q1, q2, q3⟩, hCm⟩ := hC.frs.elem (Below.refl _ _) (canL_get hrm)
            simp only [Nat.zero_add] at t0 t1 t2 t3
            have hsf : f5.Sh := HF2.out.sh (by decide)
            have hsc : (canF (CC r)).Sh := (HC1.out r).sh (by decide)
            have hsz : (canF (mixR TT f5.q CC r r)).Sh := (Sz_mixR (HST.out r) (HF2.out.sz (by decide)) (HC1.out r)).sh (by decide)
            have hsp : (canF (f5.q * CC r)).Sh := (Sz_mul (HF2.out.sz (by decide)) (HC1.out r)).sh (by decide)
            have HMX := Lib.hid (mixR_at TT f5.q CC r)
            have hrI : (r : Int) < m := by omega
            go_wp2_with fail
            have C1 := stab x2
            have C2 := stab y0
            have C3 := stab y1
            have C4 := stab y2
            have C5 := stab y3
            have C6 := stab t0
            have C7 := stab t1
            have C8 := stab t2
            have C9 := stab t3
            have D6 := stab q0
            have D7 := stab q1
            have D8 := stab q2
            have D9 := stab q3
            have hS0 := below_drew' wr
            clear x0 x1 x2 y0 y1 y2 y3 t0 t1 t2 t3 q0 q1 q2 q3
            refine region_seq 16 [0, 1, 2, 3, 4, 5, 6, 7, 8, 9, 10, 11, 12, 13, 14, 15, 16] (by kernel_rfl) (by kernel_rfl) ?_
            repeat (first | (refine seq_takeP (v := ?_) rfl rfl rfl ?_ ?_; rotate_left; (· (intro _ hSw; go_simp; (try go_bits); (try with_reducible rfl))); (try simp only [Act.put, List.setIfInBounds_toArray, List.set_cons_zero, List.set_cons_succ, List.getElem_toArray, List.getElem_cons_zero, List.getElem_cons_succ])) | (refine seq_take (v := ?_) rfl rfl rfl ?_ ?_; rotate_left; (· (intro _ hSw; go_simp; (try go_bits); (try with_reducible rfl))); (try simp only [Act.put, List.setIfInBounds_toArray, List.set_cons_zero, List.set_cons_succ, List.getElem_toArray, List.getElem_cons_zero, List.getElem_cons_succ])) | (refine seq_skip rfl rfl rfl ?_; (try simp only [Act.put, List.setIfInBounds_toArray, List.set_cons_zero, List.set_cons_succ, List.getElem_toArray, List.getElem_cons_zero, List.getElem_cons_succ])))
            refine seq_step rfl rfl (fun KR hKR => ?_)
            go_simp
            with_reducible refine (rmulF_own _ _ f5 (canF (CC r)) _ (hFm.below hS0) (hCm.below hS0) hsf hsc).mono ?_
            rw [canF_q]
            rintro _ w9 ⟨v9, rfl, e9, hb9⟩
            have hS9 := below_then hS0 hb9 hS0.size
            refine hKR.out _ _ (Or.inr hS9) ?_
            clear hKR KR
            (try simp only [Act.put, List.setIfInBounds_toArray, List.set_cons_zero, List.set_cons_succ, List.getElem_toArray, List.getElem_cons_zero, List.getElem_cons_succ])
            repeat (first | (refine seq_takeP (v := ?_) rfl rfl rfl ?_ ?_; rotate_left; (· (intro _ hSw; go_simp; (try go_bits); (try with_reducible rfl))); (try simp only [Act.put, List.setIfInBounds_toArray, List.set_cons_zero, List.set_cons_succ, List.getElem_toArray, List.getElem_cons_zero, List.getElem_cons_succ])) | (refine seq_take (v := ?_) rfl rfl rfl ?_ ?_; rotate_left; (· (intro _ hSw; go_simp; (try go_bits); (try with_reducible rfl))); (try simp only [Act.put, List.setIfInBounds_toArray, List.set_cons_zero, List.set_cons_succ, List.getElem_toArray, List.getElem_cons_zero, List.getElem_cons_succ])) | (refine seq_skip rfl rfl rfl ?_; (try simp only [Act.put, List.setIfInBounds_toArray, List.set_cons_zero, List.set_cons_succ, List.getElem_toArray, List.getElem_cons_zero, List.getElem_cons_succ])))
            refine seq_step rfl rfl (fun KR hKR => ?_)
            go_simp
            with_reducible refine (raddF_own _ _ _ _ _ (hZm.below hS9) e9.frac hsz hsp).mono ?_
            rw [canF_q, canF_q, HMX.out]
            rintro _ w10 ⟨v10, rfl, e10, hb10⟩
            have hS10 := below_then hS9 hb10 hS9.size
            obtain ⟨E, l9, k9, E', l9', k9', rfl, _, _⟩ := id e10.frac
            have hZ10 := hZ.below hS10
            obtain ⟨_, _, _, _, ⟨c0', c1', c2', c3'⟩, ⟨f0, f1, f2, f3⟩, _⟩ := hZ10.at_ (canL_get hrm)
            refine hKR.out _ _ (Or.inr hS10) ?_
            clear hKR KR
            (try simp only [Act.put, List.setIfInBounds_toArray, List.set_cons_zero, List.set_cons_succ, List.getElem_toArray, List.getElem_cons_zero, List.getElem_cons_succ])
            repeat (first | (refine seq_takeP (v := ?_) rfl rfl rfl ?_ ?_; rotate_left; (· (intro _ hSw; go_simp; (try go_bits); (try with_reducible rfl))); (try simp only [Act.put, List.setIfInBounds_toArray, List.set_cons_zero, List.set_cons_succ, List.getElem_toArray, List.getElem_cons_zero, List.getElem_cons_succ])) | (refine seq_take (v := ?_) rfl rfl rfl ?_ ?_; rotate_left; (· (intro _ hSw; go_simp; (try go_bits); (try with_reducible rfl))); (try simp only [Act.put, List.setIfInBounds_toArray, List.set_cons_zero, List.set_cons_succ, List.getElem_toArray, List.getElem_cons_zero, List.getElem_cons_succ])) | (refine seq_skip rfl rfl rfl ?_; (try simp only [Act.put, List.setIfInBounds_toArray, List.set_cons_zero, List.set_cons_succ, List.getElem_toArray, List.getElem_cons_zero, List.getElem_cons_succ])))
            refine seq_step rfl rfl (fun KR hKR => ?_)
            go_simp
            refine hKR.out _ _ (Or.inl (by decide)) ?_
            clear hKR KR
            (try simp only [Act.put, List.setIfInBounds_toArray, List.set_cons_zero, List.set_cons_succ, List.getElem_toArray, List.getElem_cons_zero, List.getElem_cons_succ])
            refine seq_done ?_
            obtain ⟨hZ11, hk11⟩ := hZ10.set_ (by rw [canL_length]; exact hrm) e10.frac
            rw [canL_set hrm, mixR_next] at hZ11
            have hX11 := hk11.bk (hX.later hS10) (by decide)
            have hV11 := (hVv.later hS10)
            have hbb := below_then hbe hS10 hbe.size
            have hbe11 := below_set4' hbb (show w1.heap.size ≤ gz by omega) (r * 4) (r * 4 + 1) (r * 4 + 2) (r * 4 + 3)
            have hO11 := (hO.below hS10).far4 (i := r * 4) (j := r * 4 + 1) (k := r * 4 + 2) (l := r * 4 + 3) hbx _ rfl hk11
            have hC11 := (hC.below hS10).far4 (i := r * 4) (j := r * 4 + 1) (k := r * 4 + 2) (l := r * 4 + 3) hC8 _ rfl hk11
            have hV12 := hV11.far4' (show gv ≠ gz by omega) (r * 4) (r * 4 + 1) (r * 4 + 2) (r * 4 + 3)
            have hF11 := (hFm.below hS10).keep (hk11.keep (by decide))
            have hbw11 := hS10.size
            clear C1 C2 C3 C4 C5 C6 C7 C8 C9 D6 D7 D8 D9 hX hVv hFm hZ hO hC hbe hZ10 hS0 hS9 hS10 hb9 hb10 e9 e10 hV11 hbb c0' c1' c2' c3' f0 f1 f2 f3
            go_wp2
            go_roundw
            case rel => exact ⟨r + 1, by omega, by go_num, hbe11 _ _ _ _, hX11, hV12 _ _ _ _, hF11, hZ11, hO11, hC11, by simp; omega⟩
            case measure => simp [intOf]; omega
          · obtain rfl : r = m := by omega
            have HMM : Hid (∀ i, i < r → mixR TT f5.q CC r i = timesC p.cols (xs ++ [f5]) (k + 1) i) := Lib.hid fun i hi => by
              rw [timesC_snoc p.cols f5 HL.out, HTT.out, HCC.out]; unfold mixR; rw [if_pos hi]
            have hZ2 := hZ
            rw [canL_congr HMM.out] at hZ2
            clear hZ
            go_wp2
            go_roundw
            case rel => exact ⟨k + 1, xs ++ [f5], by omega, by go_num, hbe, hX, hZ2, hO, by rw [List.length_append, HL.out]; rfl, HRX.out.snoc HF2.out, HNN.out.snoc HF0.out, hbw⟩
            case measure => simp [intOf]; omega
    · obtain rfl : k = n1 := by omega
      have hR9 := hR1.later hbe
      have hbe9 := below_then hbe1 hbe hbe1.size
      obtain ⟨Ax, nx, cx, rfl⟩ := hO.sliceN
      obtain ⟨c0', c1', c2'⟩ := hR9.three
      obtain ⟨f0, f1, f2⟩ := hR9.threeF
      clear hcz1
      go_wp2
      have hR5 := ((hR9.set_ 0 (.slice A0 n0 c0)).set_ 1 (.slice A1 k c1)).set_ 2 (.slice (some ⟨gz, 0, none⟩) m cz)
      refine ret_ct Tryz.results14 Tryz.underlying26 (by kernel_rfl) rfl hR5 rfl ?_
      have k1 := KeepBut.setCell hR9 0 (.slice A0 n0 c0)
      have k2 := KeepBut.setCell (hR9.set_ 0 (.slice A0 n0 c0)) 1 (.slice A1 k c1)
      have k3 := KeepBut.setCell ((hR9.set_ 0 (.slice A0 n0 c0)).set_ 1 (.slice A1 k c1)) 2 (.slice (some ⟨gz, 0, none⟩) m cz)
      have k4 := (k1.trans k2).trans k3
      have hcols := HOK.out.2.2.2.2.2
      refine ⟨_, _, ⟨p.cost, p.cols, canL m (timesC p.cols xs k)⟩, xs, rfl, ⟨_, _, _, w1.heap.size + 1, rfl, ?_, (HV0.out.below hbe).but k4 (by decide) (by decide) (by decide), hZ.but k4 (by decide) (by decide), ?_, ?_⟩, ?_, ?_, ?_, HRX.out, ?_, HNN.out, ?_, ?_⟩
      · exact ((HO0.out.below hbe).but k4 (by decide) (by decide)).monoB hsz0
      · have := hbe1.size; omega
      · intro g hg; have := HO0.out.own_lt g hg; omega
      · exact (hO.but k4 (by decide) (by decide)).monoB (by have := hbe1.size; omega)
      · have o := HOK.out
        refine ⟨?_, ?_, o.2.2.1, o.2.2.2.1, o.2.2.2.2.1, fun j c hc => ?_⟩
        · simp only [canL_length]; exact m1
        · simp only [canL_length]; exact m2
        · have := o.2.2.2.2.2 j c hc; simp only [canL_length]; rw [HM1.out]; exact this
      · exact canL_rs fun i _ => (Sz_timesC hcols HRX.out (by omega) i).mono (by decide)
      · rw [HL.out, HN1.out]
      · intro i hi
        simp only [canL_length] at hi
        simp only
        rw [canL_qAt hi, timesQ_C, ← HN1.out]
      · exact ((hbe9.setCell (p := ⟨w.heap.size, 0, none⟩) (Nat.le_refl _) _).setCell (p := ⟨w.heap.size, 1, none⟩) (Nat.le_refl _) _).setCell (p := ⟨w.heap.size, 2, none⟩) (Nat.le_refl _) _
end Go.Proofs.YtpanffbgihhjnaaGreat

/- Memory: proofs of a status. Walks: package proof: shaped. -/
namespace Go.Proofs.YtpanffbgihhjnaaGreat
open Go.RowKit Pl
attribute [local go_sem ↓] Go.wp_at_zero Go.wp_at_succ

namespace Pl
/-- a proof as it is written -/
structure Prf where
  st : Int
  x : List RF
  y : List RF
  ray : List RF
def shX (p : LPd) (x : Prf) : Prop := x.x.length = if x.st = 2 then 0 else p.cols.length
def shY (p : LPd) (x : Prf) : Prop := x.y.length = if x.st = 3 then 0 else p.right.length
def shR (p : LPd) (x : Prf) : Prop := x.ray.length = if x.st = 3 then p.cols.length else 0
instance (p : LPd) (x : Prf) : Decidable (shX p x) := by unfold shX; infer_instance
instance (p : LPd) (x : Prf) : Decidable (shY p x) := by unfold shY; infer_instance
instance (p : LPd) (x : Prf) : Decidable (shR p x) := by unfold shR; infer_instance
/-- the lists have the lengths of the status -/
def shB (p : LPd) (x : Prf) : Bool := decide (shX p x) && (decide (shY p x) && decide (shR p x))
theorem shB_no1 {p : LPd} {x : Prf} (h : ¬ shX p x) : shB p x = false := by simp [shB, h]
theorem shB_no2 {p : LPd} {x : Prf} (h : ¬ shY p x) : shB p x = false := by simp [shB, h]
theorem shB_no3 {p : LPd} {x : Prf} (h : ¬ shR p x) : shB p x = false := by simp [shB, h]
theorem shB_yes {p : LPd} {x : Prf} (h1 : shX p x) (h2 : shY p x) (h3 : shR p x) : shB p x = true := by simp [shB, h1, h2, h3]
theorem shB_true {p : LPd} {x : Prf} (h : shB p x = true) : shX p x ∧ shY p x ∧ shR p x := by simpa [shB] using h
end Pl
/-- the value v reads in w as the proof x -/
def PrfM (w : World) (v : Value) (x : Prf) : Prop :=
  ∃ A n c A' n' c' A'' n'' c'', v = .agg #[.int .i64 x.st, .slice A n c, .slice A' n' c', .slice A'' n'' c''] ∧ FrsM w (.slice A n c) x.x ∧ FrsM w (.slice A' n' c') x.y ∧ FrsM w (.slice A'' n'' c'') x.ray ∧ -9223372036854775808 ≤ x.st ∧ x.st ≤ 9223372036854775807
theorem PrfM.below {w w' : World} {v : Value} {x : Prf} (h : PrfM w v x) (hb : Below w.heap.size w w') : PrfM w' v x := by
  obtain ⟨A, n, c, A', n', c', A'', n'', c'', h1, h2, h3, h4, h5, h6⟩ := h
  exact ⟨A, n, c, A', n', c', A'', n'', c'', h1, h2.below hb, h3.below hb, h4.below hb, h5, h6⟩
theorem box_prf (w : World) (x y z u : Value) : ∃ W, w.alloc (.cells #[x, y, z, u] 29) = W ∧ Bk W w.heap.size 29 [x, y, z, u] ∧ Below w.heap.size w W := ⟨_, rfl, Bk.new w _ [x, y, z, u], below_new w _⟩
/-- a guarded call whose guard says no -/
theorem seq_skipc {P : Program} {ops : Array Oper} {Q : Exit → Act → World → Prop} {S : World → Prop} {n : Nat} {o : Oper} {i : Nat} {is : List Nat} {a : Act} {w : World} (ho : ops[i]? = some o) (hf : floatI ops n i = false) (hw : Region.wanted o (yielded ops a.tmps) = false) (hS : S w) (h : wpSeq P ops Q S n is (a.put o.dst undef) w) : wpSeq P ops Q S n (i :: is) a w := by
  refine seq_step ho hf fun K hK => ?_
  rw [if_neg (by rw [hw]; simp)]
  exact hK _ _ (.inr hS) h

set_option maxHeartbeats 4000000 in
theorem shaped_1 (v1 v2 : Value) (p : LPd) (x : Prf) (w : World) (h : LpM w v1 p) (h2 : PrfM w v2 x) (hst : x.st = 1) :
    Calls Tryz.prog 38 #[v1, v2] w fun e w' => e = .returned (.bool (shB p x)) ∧ Below w.heap.size w w' := by
  obtain ⟨A, n, c, A', N, c', A'', m, c'', rfl, hc, hv, hr⟩ := id h
  obtain ⟨B, lx, d, B', ly, d', B'', lr, d'', rfl, hxx, hxy, hxr, s1, s2⟩ := id h2
  rw [hst]
  obtain ⟨W, hW, hX, hbe0⟩ := box_lp w (.slice A n c) (.slice A' N c') (.slice A'' m c'')
  obtain ⟨W1, hW1, hY, hbe1⟩ := box_prf W (.int .i64 1) (.slice B lx d) (.slice B' ly d') (.slice B'' lr d'')
  have hX := hX.later hbe1
  have hbe := below_then hbe0 hbe1 hbe0.size
  have hsz : W.heap.size = w.heap.size + 1 := by rw [← hW]; simp
  rw [hsz] at hY
  obtain ⟨x0, x1, x2⟩ := hX.three
  obtain ⟨y0, y1, y2, y3⟩ := hY.four
  obtain ⟨m1, m2, m3⟩ := hv.len
  obtain ⟨r1, r2, r3⟩ := hr.len
  obtain ⟨k1, k2, k3⟩ := hc.len
  obtain ⟨lx1, lx2, lx3⟩ := hxx.len
  obtain ⟨ly1, ly2, ly3⟩ := hxy.len
  obtain ⟨lr1, lr2, lr3⟩ := hxr.len
  have HM1 := Lib.hid m1
  have HR1 := Lib.hid r1
  have HK1 := Lib.hid k1
  have HLX := Lib.hid lx1
  have HLY := Lib.hid ly1
  have HLR := Lib.hid lr1
  clear m1 r1 k1 lx1 ly1 lr1 hbe0 hbe1
  have HST := Lib.hid hst
  clear hst h h2 hc hv hr hxx hxy hxr
  by_cases h0 : lx = N
  rotate_left
  · have e0 : ((lx : Int) == (N : Int)) = false := by simp; omega
    have HR : Hid (shB p x = false) := Lib.hid (shB_no1 (p := p) (x := x) (by unfold shX; rw [HST.out, ← HLX.out, ← HM1.out]; simpa using h0))
    clear h0
    go_enter Tryz.func38, Tryz.ntmps38
    go_wp2
    go_ret
    exact ⟨ret_bool HR.out, hbe⟩
  have e0 : ((lx : Int) == (N : Int)) = true := by simp; omega
  have H0 := Lib.hid h0
  clear h0
  by_cases h1 : ly = m
  rotate_left
  · have e1 : ((ly : Int) == (m : Int)) = false := by simp; omega
    have HR : Hid (shB p x = false) := Lib.hid (shB_no2 (p := p) (x := x) (by unfold shY; rw [HST.out, ← HLY.out, ← HR1.out]; simpa using h1))
    clear h1
    go_enter Tryz.func38, Tryz.ntmps38
    go_wp2
    go_ret
    exact ⟨ret_bool HR.out, hbe⟩
  have e1 : ((ly : Int) == (m : Int)) = true := by simp; omega
  have H1 := Lib.hid h1
  clear h1
  by_cases h2 : lr = 0
  rotate_left
  · have e2 : ((lr : Int) == (0 : Int)) = false := by simp; omega
    have HR : Hid (shB p x = false) := Lib.hid (shB_no3 (p := p) (x := x) (by unfold shR; rw [HST.out, ← HLR.out, ← HM1.out]; simpa using h2))
    clear h2
    go_enter Tryz.func38, Tryz.ntmps38
    go_wp2
    go_ret
    exact ⟨ret_bool HR.out, hbe⟩
  have e2 : ((lr : Int) == (0 : Int)) = true := by simp; omega
  have H2 := Lib.hid h2
  clear h2
  have HR : Hid (shB p x = true) := Lib.hid (shB_yes (by unfold shX; rw [HST.out, ← HLX.out, ← HM1.out]; simpa using H0.out) (by unfold shY; rw [HST.out, ← HLY.out, ← HR1.out]; simpa using H1.out) (by unfold shR; rw [HST.out, ← HLR.out, ← HM1.out]; simpa using H2.out))
  clear H0 H1 H2
  go_enter Tryz.func38, Tryz.ntmps38
  go_wp2
  go_ret
  exact ⟨ret_bool HR.out, hbe⟩

set_option maxHeartbeats 4000000 in
theorem shaped_2 (v1 v2 : Value) (p : LPd) (x : Prf) (w : World) (h : LpM w v1 p) (h2 : PrfM w v2 x) (hst : x.st = 2) :
    Calls Tryz.prog 38 #[v1, v2] w fun e w' => e = .returned (.bool (shB p x)) ∧ Below w.heap.size w w' := by
  obtain ⟨A, n, c, A', N, c', A'', m, c'', rfl, hc, hv, hr⟩ := id h
  obtain ⟨B, lx, d, B', ly, d', B'', lr, d'', rfl, hxx, hxy, hxr, s1, s2⟩ := id h2
  rw [hst]
  obtain ⟨W, hW, hX, hbe0⟩ := box_lp w (.slice A n c) (.slice A' N c') (.slice A'' m c'')
  obtain ⟨W1, hW1, hY, hbe1⟩ := box_prf W (.int .i64 2) (.slice B lx d) (.slice B' ly d') (.slice B'' lr d'')
  have hX := hX.later hbe1
  have hbe := below_then hbe0 hbe1 hbe0.size
  have hsz : W.heap.size = w.heap.size + 1 := by rw [← hW]; simp
  rw [hsz] at hY
  obtain ⟨x0, x1, x2⟩ := hX.three
  obtain ⟨y0, y1, y2, y3⟩ := hY.four
  obtain ⟨m1, m2, m3⟩ := hv.len
  obtain ⟨r1, r2, r3⟩ := hr.len
  obtain ⟨k1, k2, k3⟩ := hc.len
  obtain ⟨lx1, lx2, lx3⟩ := hxx.len
  obtain ⟨ly1, ly2, ly3⟩ := hxy.len
  obtain ⟨lr1, lr2, lr3⟩ := hxr.len
  have HM1 := Lib.hid m1
  have HR1 := Lib.hid r1
  have HK1 := Lib.hid k1
  have HLX := Lib.hid lx1
  have HLY := Lib.hid ly1
  have HLR := Lib.hid lr1
  clear m1 r1 k1 lx1 ly1 lr1 hbe0 hbe1
  have HST := Lib.hid hst
  clear hst h h2 hc hv hr hxx hxy hxr
  by_cases h0 : lx = 0
  rotate_left
  · have e0 : ((lx : Int) == (0 : Int)) = false := by simp; omega
    have HR : Hid (shB p x = false) := Lib.hid (shB_no1 (p := p) (x := x) (by unfold shX; rw [HST.out, ← HLX.out, ← HM1.out]; simpa using h0))
    clear h0
    go_enter Tryz.func38, Tryz.ntmps38
    go_wp2
    go_ret
    exact ⟨ret_bool HR.out, hbe⟩
  have e0 : ((lx : Int) == (0 : Int)) = true := by simp; omega
  have H0 := Lib.hid h0
  clear h0
  by_cases h1 : ly = m
  rotate_left
  · have e1 : ((ly : Int) == (m : Int)) = false := by simp; omega
    have HR : Hid (shB p x = false) := Lib.hid (shB_no2 (p := p) (x := x) (by unfold shY; rw [HST.out, ← HLY.out, ← HR1.out]; simpa using h1))
    clear h1
    go_enter Tryz.func38, Tryz.ntmps38
    go_wp2
    go_ret
    exact ⟨ret_bool HR.out, hbe⟩
  have e1 : ((ly : Int) == (m : Int)) = true := by simp; omega
  have H1 := Lib.hid h1
  clear h1
  by_cases h2 : lr = 0
  rotate_left
  · have e2 : ((lr : Int) == (0 : Int)) = false := by simp; omega
    have HR : Hid (shB p x = false) := Lib.hid (shB_no3 (p := p) (x := x) (by unfold shR; rw [HST.out, ← HLR.out, ← HM1.out]; simpa using h2))
    clear h2
    go_enter Tryz.func38, Tryz.ntmps38
    go_wp2
    go_ret
    exact ⟨ret_bool HR.out, hbe⟩
  have e2 : ((lr : Int) == (0 : Int)) = true := by simp; omega
  have H2 := Lib.hid h2
  clear h2
  have HR : Hid (shB p x = true) := Lib.hid (shB_yes (by unfold shX; rw [HST.out, ← HLX.out, ← HM1.out]; simpa using H0.out) (by unfold shY; rw [HST.out, ← HLY.out, ← HR1.out]; simpa using H1.out) (by unfold shR; rw [HST.out, ← HLR.out, ← HM1.out]; simpa using H2.out))
  clear H0 H1 H2
  go_enter Tryz.func38, Tryz.ntmps38
  go_wp2
  go_ret
  exact ⟨ret_bool HR.out, hbe⟩

set_option maxHeartbeats 4000000 in
theorem shaped_3 (v1 v2 : Value) (p : LPd) (x : Prf) (w : World) (h : LpM w v1 p) (h2 : PrfM w v2 x) (hst : x.st = 3) :
    Calls Tryz.prog 38 #[v1, v2] w fun e w' => e = .returned (.bool (shB p x)) ∧ Below w.heap.size w w' := by
  obtain ⟨A, n, c, A', N, c', A'', m, c'', rfl, hc, hv, hr⟩ := id h
  obtain ⟨B, lx, d, B', ly, d', B'', lr, d'', rfl, hxx, hxy, hxr, s1, s2⟩ := id h2
  rw [hst]
  obtain ⟨W, hW, hX, hbe0⟩ := box_lp w (.slice A n c) (.slice A' N c') (.slice A'' m c'')
  obtain ⟨W1, hW1, hY, hbe1⟩ := box_prf W (.int .i64 3) (.slice B lx d) (.slice B' ly d') (.slice B'' lr d'')
  have hX := hX.later hbe1
  have hbe := below_then hbe0 hbe1 hbe0.size
  have hsz : W.heap.size = w.heap.size + 1 := by rw [← hW]; simp
  rw [hsz] at hY
  obtain ⟨x0, x1, x2⟩ := hX.three
  obtain ⟨y0, y1, y2, y3⟩ := hY.four
  obtain ⟨m1, m2, m3⟩ := hv.len
  obtain ⟨r1, r2, r3⟩ := hr.len
  obtain ⟨k1, k2, k3⟩ := hc.len
  obtain ⟨lx1, lx2, lx3⟩ := hxx.len
  obtain ⟨ly1, ly2, ly3⟩ := hxy.len
  obtain ⟨lr1, lr2, lr3⟩ := hxr.len
  have HM1 := Lib.hid m1
  have HR1 := Lib.hid r1
  have HK1 := Lib.hid k1
  have HLX := Lib.hid lx1
  have HLY := Lib.hid ly1
  have HLR := Lib.hid lr1
  clear m1 r1 k1 lx1 ly1 lr1 hbe0 hbe1
  have HST := Lib.hid hst
  clear hst h h2 hc hv hr hxx hxy hxr
  by_cases h0 : lx = N
  rotate_left
  · have e0 : ((lx : Int) == (N : Int)) = false := by simp; omega
    have HR : Hid (shB p x = false) := Lib.hid (shB_no1 (p := p) (x := x) (by unfold shX; rw [HST.out, ← HLX.out, ← HM1.out]; simpa using h0))
    clear h0
    go_enter Tryz.func38, Tryz.ntmps38
    go_wp2
    go_ret
    exact ⟨ret_bool HR.out, hbe⟩
  have e0 : ((lx : Int) == (N : Int)) = true := by simp; omega
  have H0 := Lib.hid h0
  clear h0
  by_cases h1 : ly = 0
  rotate_left
  · have e1 : ((ly : Int) == (0 : Int)) = false := by simp; omega
    have HR : Hid (shB p x = false) := Lib.hid (shB_no2 (p := p) (x := x) (by unfold shY; rw [HST.out, ← HLY.out, ← HR1.out]; simpa using h1))
    clear h1
    go_enter Tryz.func38, Tryz.ntmps38
    go_wp2
    go_ret
    exact ⟨ret_bool HR.out, hbe⟩
  have e1 : ((ly : Int) == (0 : Int)) = true := by simp; omega
  have H1 := Lib.hid h1
  clear h1
  by_cases h2 : lr = N
  rotate_left
  · have e2 : ((lr : Int) == (N : Int)) = false := by simp; omega
    have HR : Hid (shB p x = false) := Lib.hid (shB_no3 (p := p) (x := x) (by unfold shR; rw [HST.out, ← HLR.out, ← HM1.out]; simpa using h2))
    clear h2
    go_enter Tryz.func38, Tryz.ntmps38
    go_wp2
    go_ret
    exact ⟨ret_bool HR.out, hbe⟩
  have e2 : ((lr : Int) == (N : Int)) = true := by simp; omega
  have H2 := Lib.hid h2
  clear h2
  have HR : Hid (shB p x = true) := Lib.hid (shB_yes (by unfold shX; rw [HST.out, ← HLX.out, ← HM1.out]; simpa using H0.out) (by unfold shY; rw [HST.out, ← HLY.out, ← HR1.out]; simpa using H1.out) (by unfold shR; rw [HST.out, ← HLR.out, ← HM1.out]; simpa using H2.out))
  clear H0 H1 H2
  go_enter Tryz.func38, Tryz.ntmps38
  go_wp2
  go_ret
  exact ⟨ret_bool HR.out, hbe⟩
end Go.Proofs.YtpanffbgihhjnaaGreat

/- Walks: package proof: holds. -/
namespace Go.Proofs.YtpanffbgihhjnaaGreat
open Go.RowKit Pl
attribute [local go_sem ↓] Go.wp_at_zero Go.wp_at_succ

namespace Pl
/-- no column has a positive product with y, up to k -/
def nonTo (p : LPd) (ys : List RF) (k : Nat) : Prop := ∀ j, j < k → dotC ys (p.col (j : Int)) p.right.length ≤ 0
instance (p : LPd) (ys : List RF) (k : Nat) : Decidable (nonTo p ys k) := by unfold nonTo; infer_instance
theorem nonTo_zero (p : LPd) (ys : List RF) : nonTo p ys 0 := fun j h => by omega
theorem nonTo_next {p : LPd} {ys : List RF} {k : Nat} (h : nonTo p ys k) (h1 : dotC ys (p.col (k : Int)) p.right.length ≤ 0) : nonTo p ys (k + 1) := fun j hj => by
  rcases Nat.eq_or_lt_of_le (Nat.le_of_lt_succ hj) with e | e
  · subst e; exact h1
  · exact h j e
def hold1 (p : LPd) (x : Prf) : Bool := lowB p x.y && (feasB p x.x && (qs (dotQ x.y p.right p.right.length - dotQ p.cost x.x p.cols.length) == 0))
def hold2 (p : LPd) (x : Prf) : Bool := decide (nonTo p x.y p.cols.length) && decide (0 < qs (dotQ x.y p.right p.right.length))
def hold3 (p : LPd) (x : Prf) : Bool := feasB p x.x && (nnB x.ray && (combB p.right.length (timesQ p x.ray p.cols.length) [] && decide (qs (dotQ p.cost x.ray p.cols.length) < 0)))
/-- the proof proves its status -/
def holdB (p : LPd) (x : Prf) : Bool := if x.st = 1 then hold1 p x else if x.st = 2 then hold2 p x else hold3 p x
end Pl

set_option maxRecDepth 100000 in
set_option maxHeartbeats 4000000 in
theorem holds_1 (v1 v2 : Value) (p : LPd) (x : Prf) (K : Nat) (w : World) (h : LpM w v1 p) (h2 : PrfM w v2 x) (ok : p.Ok K) (hkx : RsL K x.x) (hky : RsL K x.y) (hkr : RsL K x.ray) (hK : 1 ≤ K) (hz : lpErr p = 0) (hcl : ∀ (j : Nat) (c : List En), p.cols[j]? = some c → c.length ≤ 64) (hs : 1 + 1201 * (2 * K + 1) ≤ 34359738368) (hst : x.st = 1) (hl1 : x.x.length = p.cols.length) (hl2 : x.y.length = p.right.length) :
    Calls Tryz.prog 39 #[v1, v2] w fun e w' => e = .returned (.bool (hold1 p x)) ∧ Below w.heap.size w w' := by
  obtain ⟨A, n, c, A', N, c', A'', m, c'', rfl, hc, hv, hr⟩ := id h
  obtain ⟨B, lx, d, B', ly, d', B'', lr, d'', rfl, hxx, hxy, hxr, s1, s2⟩ := id h2
  rw [hst]
  obtain ⟨W, hW, hX, hbe0⟩ := box_lp w (.slice A n c) (.slice A' N c') (.slice A'' m c'')
  obtain ⟨W1, hW1, hY, hbe1⟩ := box_prf W (.int .i64 1) (.slice B lx d) (.slice B' ly d') (.slice B'' lr d'')
  have hX := hX.later hbe1
  have hbe := below_then hbe0 hbe1 hbe0.size
  have hsz : W.heap.size = w.heap.size + 1 := by rw [← hW]; simp
  rw [hsz] at hY
  obtain ⟨x0, x1, x2⟩ := hX.three
  obtain ⟨y0, y1, y2, y3⟩ := hY.four
  obtain ⟨m1, m2, m3⟩ := hv.len
  obtain ⟨r1, r2, r3⟩ := hr.len
  obtain ⟨k1, k2, k3⟩ := hc.len
  obtain ⟨lx1, lx2, lx3⟩ := hxx.len
  obtain ⟨ly1, ly2, ly3⟩ := hxy.len
  obtain ⟨lr1, lr2, lr3⟩ := hxr.len
  have HM1 := Lib.hid m1
  have HR1 := Lib.hid r1
  have HK1 := Lib.hid k1
  have HLX := Lib.hid lx1
  have HLY := Lib.hid ly1
  have HLR := Lib.hid lr1
  clear m1 r1 k1 lx1 ly1 lr1 hbe0 hbe1
  have HOK := Lib.hid ok
  have HZ := Lib.hid hz
  have HCL := Lib.hid hcl
  have HKX := Lib.hid hkx
  have HKY := Lib.hid hky
  have HKR := Lib.hid hkr
  have hs2 : 2 * K ≤ 34359738368 := by omega
  have HS1 : Hid (1 + 64 * (2 * K + 1) ≤ 34359738368) := Lib.hid (by omega)
  have HS := Lib.hid hs
  clear hst hcl ok hz hkx hky hkr h2 hs
  have HL1 := Lib.hid hl1
  have HL2 := Lib.hid hl2
  clear hl1 hl2
  obtain ⟨z1, z2, z3, z4, z5⟩ := lpErr_zero HZ.out
  have HZ3 := Lib.hid z3
  clear z3 z4 z5
  go_enter Tryz.func39, Tryz.ntmps39
  go_wp2_with fail
  clear hW hW1 hsz x0 x1 x2 y0 y1 y2 y3
  refine (lowerBound_any _ _ p x.y K _ (h.below hbe) (hxy.below hbe) HOK.out HKY.out hK HCL.out HS1.out).mono ?_
  rintro _ w1 ⟨v1, rfl, e1, hb1⟩
  obtain ⟨Bl, ll, dl, Bl', ll', dl', rfl, _, _⟩ := id e1
  have hX1 := hX.later hb1
  have hY1 := hY.later hb1
  have hbe1 := below_then hbe hb1 hbe.size
  clear hX hY hbe hb1
  cases hlb : lowB p x.y
  · have HR : Hid (hold1 p x = false) := Lib.hid (by simp [hold1, hlb])
    rw [lowF_no hlb] at e1 ⊢
    clear hlb e1
    go_wp2_with fail
    have hS0 := below_drew' (w1.alloc (.cells #[.bool zeroF.num.neg, .slice Bl ll dl, .bool zeroF.den.neg, .slice Bl' ll' dl'] 47))
    have hbe3 := below_then (below_then hbe1 (below_new w1 _) hbe1.size) hS0 (by simp; have := hbe1.size; omega)
    refine region_seq 18 [0, 1, 2, 3, 4, 5, 6, 7, 8, 9, 10, 11, 12, 13, 14, 15, 16, 17] (by kernel_rfl) (by kernel_rfl) ?_
    repeat (first | (refine seq_takeP (v := ?_) rfl rfl rfl ?_ ?_; rotate_left; (· (intro _ hSw; go_simp; (try go_bits); (try with_reducible rfl))); (try simp only [Act.put, List.setIfInBounds_toArray, List.set_cons_zero, List.set_cons_succ, List.getElem_toArray, List.getElem_cons_zero, List.getElem_cons_succ])) | (refine seq_take (v := ?_) rfl rfl rfl ?_ ?_; rotate_left; (· (intro _ hSw; go_simp; (try go_bits); (try with_reducible rfl))); (try simp only [Act.put, List.setIfInBounds_toArray, List.set_cons_zero, List.set_cons_succ, List.getElem_toArray, List.getElem_cons_zero, List.getElem_cons_succ])) | (refine seq_skip rfl rfl rfl ?_; (try simp only [Act.put, List.setIfInBounds_toArray, List.set_cons_zero, List.set_cons_succ, List.getElem_toArray, List.getElem_cons_zero, List.getElem_cons_succ])) | (refine seq_skipc rfl rfl rfl (by assumption) ?_; (try simp only [Act.put, List.setIfInBounds_toArray, List.set_cons_zero, List.set_cons_succ, List.getElem_toArray, List.getElem_cons_zero, List.getElem_cons_succ])))
    refine seq_done ?_
    go_wp2
    go_ret
    exact ⟨ret_bool HR.out, hbe3⟩
  · have HLT := Lib.hid (lowB_true hlb)
    rw [lowF_yes hlb] at e1 ⊢
    have HLB := Lib.hid hlb
    clear hlb
    have HE1 := Lib.hid e1
    clear e1
    have hkR : RsL K p.right := HOK.out.2.1
    have HSL : Hid ((canF (dotQ x.y p.right p.right.length)).Sm) := Lib.hid (((Sz_dot HKY.out hkR hK).mono (by have := HS1.out; have := Nat.mul_le_mul_right (2 * K + 1) z1; omega : 1 + p.right.length * (2 * K + 1) ≤ 34359738368)).rs.sm (Nat.le_refl _))
    have HQL := Lib.hid (canF_q (dotQ x.y p.right p.right.length))
    generalize canF (dotQ x.y p.right p.right.length) = LF at *
    obtain ⟨W2, hW2, hL, hbn⟩ := boxF1 w1 (.bool LF.num.neg) (.slice Bl ll dl) (.bool LF.den.neg) (.slice Bl' ll' dl')
    have hX2 := hX1.later hbn
    have hY2 := hY1.later hbn
    have hbe2 := below_then hbe1 hbn hbe1.size
    have hE2 := HE1.out.below hbn
    obtain ⟨x0, x1, x2⟩ := hX2.three
    obtain ⟨y0, y1, y2, y3⟩ := hY2.four
    obtain ⟨l0, l1, l2, l3⟩ := hL.four
    clear hX1 hY1 hbe1 hbn HE1
    go_wp2_with fail
    clear hW2
    have C0 := stab x0
    have C1 := stab x1
    have C2 := stab x2
    have D0 := stab y0
    have D1 := stab y1
    have D2 := stab y2
    have D3 := stab y3
    have E0 := stab l0
    have E1 := stab l1
    have E2 := stab l2
    have E3 := stab l3
    have hS0 := below_drew' W2
    clear x0 x1 x2 y0 y1 y2 y3 l0 l1 l2 l3
    refine region_seq 18 [0, 1, 2, 3, 4, 5, 6, 7, 8, 9, 10, 11, 12, 13, 14, 15, 16, 17] (by kernel_rfl) (by kernel_rfl) ?_
    repeat (first | (refine seq_takeP (v := ?_) rfl rfl rfl ?_ ?_; rotate_left; (· (intro _ hSw; go_simp; (try go_bits); (try with_reducible rfl))); (try simp only [Act.put, List.setIfInBounds_toArray, List.set_cons_zero, List.set_cons_succ, List.getElem_toArray, List.getElem_cons_zero, List.getElem_cons_succ])) | (refine seq_take (v := ?_) rfl rfl rfl ?_ ?_; rotate_left; (· (intro _ hSw; go_simp; (try go_bits); (try with_reducible rfl))); (try simp only [Act.put, List.setIfInBounds_toArray, List.set_cons_zero, List.set_cons_succ, List.getElem_toArray, List.getElem_cons_zero, List.getElem_cons_succ])) | (refine seq_skip rfl rfl rfl ?_; (try simp only [Act.put, List.setIfInBounds_toArray, List.set_cons_zero, List.set_cons_succ, List.getElem_toArray, List.getElem_cons_zero, List.getElem_cons_succ])) | (refine seq_skipc rfl rfl rfl (by assumption) ?_; (try simp only [Act.put, List.setIfInBounds_toArray, List.set_cons_zero, List.set_cons_succ, List.getElem_toArray, List.getElem_cons_zero, List.getElem_cons_succ])))
    refine seq_step rfl rfl (fun KR hKR => ?_)
    go_simp
    with_reducible refine (feasible_any _ _ p x.x K _ ((h.below hbe2).below hS0) ((hxx.below hbe2).below hS0) HOK.out HKX.out hK HZ.out HS.out).mono ?_
    rintro _ w3 ⟨rfl, hb3⟩
    have hS3 := below_then hS0 hb3 hS0.size
    refine hKR.out _ _ (Or.inr hS3) ?_
    clear hKR KR
    (try simp only [Act.put, List.setIfInBounds_toArray, List.set_cons_zero, List.set_cons_succ, List.getElem_toArray, List.getElem_cons_zero, List.getElem_cons_succ])
    cases hfb : feasB p x.x
    · have HR : Hid (hold1 p x = false) := Lib.hid (by simp [hold1, hfb])
      clear hfb
      repeat (first | (refine seq_takeP (v := ?_) rfl rfl rfl ?_ ?_; rotate_left; (· (intro _ hSw; go_simp; (try go_bits); (try with_reducible rfl))); (try simp only [Act.put, List.setIfInBounds_toArray, List.set_cons_zero, List.set_cons_succ, List.getElem_toArray, List.getElem_cons_zero, List.getElem_cons_succ])) | (refine seq_take (v := ?_) rfl rfl rfl ?_ ?_; rotate_left; (· (intro _ hSw; go_simp; (try go_bits); (try with_reducible rfl))); (try simp only [Act.put, List.setIfInBounds_toArray, List.set_cons_zero, List.set_cons_succ, List.getElem_toArray, List.getElem_cons_zero, List.getElem_cons_succ])) | (refine seq_skip rfl rfl rfl ?_; (try simp only [Act.put, List.setIfInBounds_toArray, List.set_cons_zero, List.set_cons_succ, List.getElem_toArray, List.getElem_cons_zero, List.getElem_cons_succ])) | (refine seq_skipc rfl rfl rfl (by assumption) ?_; (try simp only [Act.put, List.setIfInBounds_toArray, List.set_cons_zero, List.set_cons_succ, List.getElem_toArray, List.getElem_cons_zero, List.getElem_cons_succ])))
      refine seq_done ?_
      clear C0 C1 C2 D0 D1 D2 D3 E0 E1 E2 E3
      have hbe3 := below_then hbe2 hS3 hbe2.size
      go_wp2
      go_ret
      exact ⟨ret_bool HR.out, hbe3⟩
    · have HR : Hid (hold1 p x = (qs (dotQ x.y p.right p.right.length - dotQ p.cost x.x p.cols.length) == 0)) := Lib.hid (by simp [hold1, hfb, HLB.out])
      have hsD : 1 + p.cost.length * (2 * K + 1) ≤ 34359738368 := by
        rw [HZ3.out]
        have := HS.out; have := Nat.mul_le_mul_right (2 * K + 1) z2; omega
      have hkC : RsL K p.cost := HOK.out.1
      have HSP : Hid ((canF (dotQ p.cost x.x p.cost.length)).Sm) := Lib.hid (((Sz_dot HOK.out.1 HKX.out hK).mono hsD).rs.sm (Nat.le_refl _))
      clear hfb
      repeat (first | (refine seq_takeP (v := ?_) rfl rfl rfl ?_ ?_; rotate_left; (· (intro _ hSw; go_simp; (try go_bits); (try with_reducible rfl))); (try simp only [Act.put, List.setIfInBounds_toArray, List.set_cons_zero, List.set_cons_succ, List.getElem_toArray, List.getElem_cons_zero, List.getElem_cons_succ])) | (refine seq_take (v := ?_) rfl rfl rfl ?_ ?_; rotate_left; (· (intro _ hSw; go_simp; (try go_bits); (try with_reducible rfl))); (try simp only [Act.put, List.setIfInBounds_toArray, List.set_cons_zero, List.set_cons_succ, List.getElem_toArray, List.getElem_cons_zero, List.getElem_cons_succ])) | (refine seq_skip rfl rfl rfl ?_; (try simp only [Act.put, List.setIfInBounds_toArray, List.set_cons_zero, List.set_cons_succ, List.getElem_toArray, List.getElem_cons_zero, List.getElem_cons_succ])) | (refine seq_skipc rfl rfl rfl (by assumption) ?_; (try simp only [Act.put, List.setIfInBounds_toArray, List.set_cons_zero, List.set_cons_succ, List.getElem_toArray, List.getElem_cons_zero, List.getElem_cons_succ])))
      refine seq_step rfl rfl (fun KR hKR => ?_)
      go_simp
      with_reducible refine (product_any _ _ p.cost x.x K _ ((hc.below hbe2).below hS3) ((hxx.below hbe2).below hS3) (by rw [HZ3.out, HL1.out]; exact Nat.le_refl _) hK hkC HKX.out hsD (by omega)).mono ?_
      rintro _ w4 ⟨v4, rfl, e4, hb4⟩
      have hS4 := below_then hS3 hb4 hS3.size
      refine hKR.out _ _ (Or.inr hS4) ?_
      clear hKR KR
      (try simp only [Act.put, List.setIfInBounds_toArray, List.set_cons_zero, List.set_cons_succ, List.getElem_toArray, List.getElem_cons_zero, List.getElem_cons_succ])
      repeat (first | (refine seq_takeP (v := ?_) rfl rfl rfl ?_ ?_; rotate_left; (· (intro _ hSw; go_simp; (try go_bits); (try with_reducible rfl))); (try simp only [Act.put, List.setIfInBounds_toArray, List.set_cons_zero, List.set_cons_succ, List.getElem_toArray, List.getElem_cons_zero, List.getElem_cons_succ])) | (refine seq_take (v := ?_) rfl rfl rfl ?_ ?_; rotate_left; (· (intro _ hSw; go_simp; (try go_bits); (try with_reducible rfl))); (try simp only [Act.put, List.setIfInBounds_toArray, List.set_cons_zero, List.set_cons_succ, List.getElem_toArray, List.getElem_cons_zero, List.getElem_cons_succ])) | (refine seq_skip rfl rfl rfl ?_; (try simp only [Act.put, List.setIfInBounds_toArray, List.set_cons_zero, List.set_cons_succ, List.getElem_toArray, List.getElem_cons_zero, List.getElem_cons_succ])) | (refine seq_skipc rfl rfl rfl (by assumption) ?_; (try simp only [Act.put, List.setIfInBounds_toArray, List.set_cons_zero, List.set_cons_succ, List.getElem_toArray, List.getElem_cons_zero, List.getElem_cons_succ])))
      refine seq_step rfl rfl (fun KR hKR => ?_)
      go_simp
      with_reducible refine (compareF_any _ _ LF _ _ (hE2.below hS4) e4 HSL.out HSP.out).mono ?_
      rw [canF_q, HQL.out, HZ3.out]
      generalize qs (dotQ x.y p.right p.right.length - dotQ p.cost x.x p.cols.length) = sD at *
      rintro _ w5 ⟨rfl, hb5⟩
      have hS5 := below_then hS4 hb5 hS4.size
      refine hKR.out _ _ (Or.inr hS5) ?_
      clear hKR KR
      (try simp only [Act.put, List.setIfInBounds_toArray, List.set_cons_zero, List.set_cons_succ, List.getElem_toArray, List.getElem_cons_zero, List.getElem_cons_succ])
      repeat (first | (refine seq_takeP (v := ?_) rfl rfl rfl ?_ ?_; rotate_left; (· (intro _ hSw; go_simp; (try go_bits); (try with_reducible rfl))); (try simp only [Act.put, List.setIfInBounds_toArray, List.set_cons_zero, List.set_cons_succ, List.getElem_toArray, List.getElem_cons_zero, List.getElem_cons_succ])) | (refine seq_take (v := ?_) rfl rfl rfl ?_ ?_; rotate_left; (· (intro _ hSw; go_simp; (try go_bits); (try with_reducible rfl))); (try simp only [Act.put, List.setIfInBounds_toArray, List.set_cons_zero, List.set_cons_succ, List.getElem_toArray, List.getElem_cons_zero, List.getElem_cons_succ])) | (refine seq_skip rfl rfl rfl ?_; (try simp only [Act.put, List.setIfInBounds_toArray, List.set_cons_zero, List.set_cons_succ, List.getElem_toArray, List.getElem_cons_zero, List.getElem_cons_succ])) | (refine seq_skipc rfl rfl rfl (by assumption) ?_; (try simp only [Act.put, List.setIfInBounds_toArray, List.set_cons_zero, List.set_cons_succ, List.getElem_toArray, List.getElem_cons_zero, List.getElem_cons_succ])))
      refine seq_done ?_
      clear C0 C1 C2 D0 D1 D2 D3 E0 E1 E2 E3
      have hbe3 := below_then hbe2 hS5 hbe2.size
      go_wp2
      go_ret
      exact ⟨ret_bool HR.out, hbe3⟩

set_option maxRecDepth 100000 in
set_option maxHeartbeats 4000000 in
theorem holds_2 (v1 v2 : Value) (p : LPd) (x : Prf) (K : Nat) (w : World) (h : LpM w v1 p) (h2 : PrfM w v2 x) (ok : p.Ok K) (hkx : RsL K x.x) (hky : RsL K x.y) (hkr : RsL K x.ray) (hK : 1 ≤ K) (hz : lpErr p = 0) (hcl : ∀ (j : Nat) (c : List En), p.cols[j]? = some c → c.length ≤ 64) (hs : 1 + 1201 * (2 * K + 1) ≤ 34359738368) (hst : x.st = 2) (hl2 : x.y.length = p.right.length) :
    Calls Tryz.prog 39 #[v1, v2] w fun e w' => e = .returned (.bool (hold2 p x)) ∧ Below w.heap.size w w' := by
  obtain ⟨A, n, c, A', N, c', A'', m, c'', rfl, hc, hv, hr⟩ := id h
  obtain ⟨B, lx, d, B', ly, d', B'', lr, d'', rfl, hxx, hxy, hxr, s1, s2⟩ := id h2
  rw [hst]
  obtain ⟨W, hW, hX, hbe0⟩ := box_lp w (.slice A n c) (.slice A' N c') (.slice A'' m c'')
  obtain ⟨W1, hW1, hY, hbe1⟩ := box_prf W (.int .i64 2) (.slice B lx d) (.slice B' ly d') (.slice B'' lr d'')
  have hX := hX.later hbe1
  have hbe := below_then hbe0 hbe1 hbe0.size
  have hsz : W.heap.size = w.heap.size + 1 := by rw [← hW]; simp
  rw [hsz] at hY
  obtain ⟨x0, x1, x2⟩ := hX.three
  obtain ⟨y0, y1, y2, y3⟩ := hY.four
  obtain ⟨m1, m2, m3⟩ := hv.len
  obtain ⟨r1, r2, r3⟩ := hr.len
  obtain ⟨k1, k2, k3⟩ := hc.len
  obtain ⟨lx1, lx2, lx3⟩ := hxx.len
  obtain ⟨ly1, ly2, ly3⟩ := hxy.len
  obtain ⟨lr1, lr2, lr3⟩ := hxr.len
  have HM1 := Lib.hid m1
  have HR1 := Lib.hid r1
  have HK1 := Lib.hid k1
  have HLX := Lib.hid lx1
  have HLY := Lib.hid ly1
  have HLR := Lib.hid lr1
  clear m1 r1 k1 lx1 ly1 lr1 hbe0 hbe1
  have HOK := Lib.hid ok
  have HZ := Lib.hid hz
  have HCL := Lib.hid hcl
  have HKX := Lib.hid hkx
  have HKY := Lib.hid hky
  have HKR := Lib.hid hkr
  have hs2 : 2 * K ≤ 34359738368 := by omega
  have HS1 : Hid (1 + 64 * (2 * K + 1) ≤ 34359738368) := Lib.hid (by omega)
  have HS := Lib.hid hs
  clear hst hcl ok hz hkx hky hkr h2 hs
  have HL2 := Lib.hid hl2
  clear hl2
  go_enter Tryz.func39, Tryz.ntmps39
  go_wp2
  clear hW hW1 hsz x0 x1 x2 y0 y1 y2 y3
  go_loopw [43] (fun i wr => ∃ j : Nat, j ≤ N ∧ i = .int .i64 j ∧ Below w.heap.size w wr ∧ Bk wr w.heap.size 26 [.slice A n c, .slice A' N c', .slice A'' m c''] ∧ Bk wr (w.heap.size + 1) 29 [.int .i64 2, .slice B lx d, .slice B' ly d', .slice B'' lr d''] ∧ nonTo p x.y j) (fun i _ => N - (intOf i).toNat)
  case atStart => exact ⟨0, by omega, rfl, hbe, hX, hY, nonTo_zero _ _⟩
  case round =>
    clear hbe hX hY
    obtain ⟨j, hj, rfl, hbe, hX, hY, hnon⟩ := hrel
    have HNON := Lib.hid hnon
    clear hnon
    obtain ⟨z1, z2, z3, z4, z5⟩ := lpErr_zero HZ.out
    obtain ⟨x0, x1, x2⟩ := hX.three
    obtain ⟨y0, y1, y2, y3⟩ := hY.four
    rcases Nat.lt_or_ge j N with hjl | hjl
    · obtain ⟨es, hes⟩ := get_someC (cs := p.cols) (i := j) (by rw [← HM1.out]; exact hjl)
      obtain ⟨bc, offc, Ac, cc, rfl, hltc, hcellc, hvm⟩ := hv.elem (Below.refl _ _) hes
      have hcell1 := cell_keep hbe hcellc
      have hin : inR x.y.length es := by rw [HL2.out]; exact z4 j es hes
      have hse := (HOK.out.2.2 j es hes).2
      have hsE : 1 + es.length * (2 * K + 1) ≤ 34359738368 := by
        have := HS1.out; have := Nat.mul_le_mul_right (2 * K + 1) (HCL.out j es hes); omega
      have HAL : Hid (alongQ es x.y es.length = dotC x.y (p.col (j : Int)) p.right.length) := Lib.hid (by rw [LPd.col_pos hes]; exact alongQ_all (z4 j es hes) (z5 j es hes).2)
      have hj1 : (j : Int) < N := by omega
      clear z1 z2 z3 z4 z5 hes hltc
      go_wp2_with fail
      refine (along_any _ _ es x.y K _ (hvm.below hbe) (hxy.below hbe) hin hK hse HKY.out hsE (by omega)).mono ?_
      rintro _ w2 ⟨v2, rfl, e2, hb2⟩
      go_wp2_with fail
      refine (signF_any _ _ _ e2).mono ?_
      rw [canF_q, HAL.out]
      generalize hD : dotC x.y (p.col (j : Int)) p.right.length = D
      have HD := Lib.hid hD
      clear hD HAL
      rintro _ w3 ⟨rfl, hb3⟩
      have hb23 := below_then hb2 hb3 hb2.size
      have hX3 := hX.later hb23
      have hY3 := hY.later hb23
      have hbe3 := below_then hbe hb23 hbe.size
      clear hX hY hbe hb2 hb3 hb23 x0 x1 x2 y0 y1 y2 y3 hcellc hcell1 e2 hsE hse hin hs2 hvm
      by_cases hgt : D ≤ 0
      · have hsg : qs D ≤ 0 := qs_le.2 hgt
        have HN2 := Lib.hid (nonTo_next HNON.out (by rw [HD.out]; exact hgt))
        clear hgt
        generalize qs D = sD at *
        go_wp2
        go_roundw
        case rel => exact ⟨j + 1, by omega, by go_num, hbe3, hX3, hY3, HN2.out⟩
        case measure => simp [intOf]; omega
      · have hsg : 0 < qs D := Int.not_le.1 fun g => hgt (qs_le.1 g)
        have HR : Hid (hold2 p x = false) := Lib.hid (by
          have : ¬ nonTo p x.y p.cols.length := fun g => hgt (by rw [← HD.out]; exact g j (by rw [← HM1.out]; exact hjl))
          simp [hold2, this])
        clear hgt
        generalize qs D = sD at *
        go_wp2
        go_ret
        exact ⟨ret_bool HR.out, hbe3⟩
    · obtain rfl : j = N := by omega
      have HR : Hid (hold2 p x = decide (0 < qs (dotQ x.y p.right p.right.length))) := Lib.hid (by
        have : nonTo p x.y p.cols.length := by rw [← HM1.out]; exact HNON.out
        simp [hold2, this])
      have hsD : 1 + x.y.length * (2 * K + 1) ≤ 34359738368 := by
        rw [HL2.out]
        have := HS1.out; have := Nat.mul_le_mul_right (2 * K + 1) z1; omega
      clear z1 z2 z3 z4 z5
      go_wp2_with fail
      refine (product_any _ _ x.y p.right K _ (hxy.below hbe) (hr.below hbe) (by rw [HL2.out]; exact Nat.le_refl _) hK HKY.out HOK.out.2.1 hsD (by omega)).mono ?_
      rw [HL2.out]
      rintro _ w2 ⟨v2, rfl, e2, hb2⟩
      go_wp2_with fail
      refine (signF_any _ _ _ e2).mono ?_
      rw [canF_q]
      generalize qs (dotQ x.y p.right p.right.length) = sD at *
      rintro _ w3 ⟨rfl, hb3⟩
      have hb23 := below_then hb2 hb3 hb2.size
      have hbe3 := below_then hbe hb23 hbe.size
      clear hX hY hbe hb2 hb3 hb23 x0 x1 x2 y0 y1 y2 y3 e2
      go_wp2
      go_ret
      exact ⟨ret_bool HR.out, hbe3⟩

set_option maxRecDepth 100000 in
set_option maxHeartbeats 4000000 in
theorem holds_3 (v1 v2 : Value) (p : LPd) (x : Prf) (K : Nat) (w : World) (h : LpM w v1 p) (h2 : PrfM w v2 x) (ok : p.Ok K) (hkx : RsL K x.x) (hky : RsL K x.y) (hkr : RsL K x.ray) (hK : 1 ≤ K) (hz : lpErr p = 0) (hcl : ∀ (j : Nat) (c : List En), p.cols[j]? = some c → c.length ≤ 64) (hs : 1 + 1201 * (2 * K + 1) ≤ 34359738368) (hst : x.st = 3) (hl1 : x.x.length = p.cols.length) (hl3 : x.ray.length = p.cols.length) :
    Calls Tryz.prog 39 #[v1, v2] w fun e w' => e = .returned (.bool (hold3 p x)) ∧ Below w.heap.size w w' := by
  obtain ⟨A, n, c, A', N, c', A'', m, c'', rfl, hc, hv, hr⟩ := id h
  obtain ⟨B, lx, d, B', ly, d', B'', lr, d'', rfl, hxx, hxy, hxr, s1, s2⟩ := id h2
  rw [hst]
  obtain ⟨W, hW, hX, hbe0⟩ := box_lp w (.slice A n c) (.slice A' N c') (.slice A'' m c'')
  obtain ⟨W1, hW1, hY, hbe1⟩ := box_prf W (.int .i64 3) (.slice B lx d) (.slice B' ly d') (.slice B'' lr d'')
  have hX := hX.later hbe1
  have hbe := below_then hbe0 hbe1 hbe0.size
  have hsz : W.heap.size = w.heap.size + 1 := by rw [← hW]; simp
  rw [hsz] at hY
  obtain ⟨x0, x1, x2⟩ := hX.three
  obtain ⟨y0, y1, y2, y3⟩ := hY.four
  obtain ⟨m1, m2, m3⟩ := hv.len
  obtain ⟨r1, r2, r3⟩ := hr.len
  obtain ⟨k1, k2, k3⟩ := hc.len
  obtain ⟨lx1, lx2, lx3⟩ := hxx.len
  obtain ⟨ly1, ly2, ly3⟩ := hxy.len
  obtain ⟨lr1, lr2, lr3⟩ := hxr.len
  have HM1 := Lib.hid m1
  have HR1 := Lib.hid r1
  have HK1 := Lib.hid k1
  have HLX := Lib.hid lx1
  have HLY := Lib.hid ly1
  have HLR := Lib.hid lr1
  clear m1 r1 k1 lx1 ly1 lr1 hbe0 hbe1
  have HOK := Lib.hid ok
  have HZ := Lib.hid hz
  have HCL := Lib.hid hcl
  have HKX := Lib.hid hkx
  have HKY := Lib.hid hky
  have HKR := Lib.hid hkr
  have hs2 : 2 * K ≤ 34359738368 := by omega
  have HS1 : Hid (1 + 64 * (2 * K + 1) ≤ 34359738368) := Lib.hid (by omega)
  have HS := Lib.hid hs
  clear hst hcl ok hz hkx hky hkr h2 hs
  have HL1 := Lib.hid hl1
  have HL3 := Lib.hid hl3
  clear hl1 hl3
  obtain ⟨z1, z2, z3, z4, z5⟩ := lpErr_zero HZ.out
  have HZ3 := Lib.hid z3
  have hsN : 1 + (p.cols.length + 1) * (2 * K + 1) ≤ 34359738368 := by
    have := HS.out; have := Nat.mul_le_mul_right (2 * K + 1) (show p.cols.length + 1 ≤ 1201 by omega); omega
  have hmm : m ≤ 64 := by rw [HR1.out]; exact z1
  have hmk := make_frac m (by omega)
  have hfz := FrsO.zeros W1 m (by unfold maxLen; omega)
  have hbz := below_new W1 (.cells (zfc m) 47)
  have hX2 := hX.later hbz
  have hY2 := hY.later hbz
  have hbe2 := below_then hbe hbz hbe.size
  obtain ⟨p0, p1, p2⟩ := hX2.three
  obtain ⟨q0, q1, q2, q3⟩ := hY2.four
  clear z1 z3 z4 z5 hbz
  go_enter Tryz.func39, Tryz.ntmps39
  go_wp2_with fail
  clear hW hW1 hsz x0 x1 x2 y0 y1 y2 y3 hmk hX hY p0 p1 p2 q0 q1 q2 q3 hbe
  generalize W1.alloc (.cells (zfc m) 47) = W3 at *
  refine (feasible_any _ _ p x.x K _ (h.below hbe2) (hxx.below hbe2) HOK.out HKX.out hK HZ.out HS.out).mono ?_
  rintro _ w1 ⟨rfl, hb1⟩
  have hX1 := hX2.later hb1
  have hY1 := hY2.later hb1
  have hf1 := hfz.below hb1
  have hbe1 := below_then hbe2 hb1 hbe2.size
  obtain ⟨x0, x1, x2⟩ := hX1.three
  obtain ⟨y0, y1, y2, y3⟩ := hY1.four
  clear hX2 hY2 hfz hb1 hbe2
  cases hfb : feasB p x.x
  · have HR : Hid (hold3 p x = false) := Lib.hid (by simp [hold3, hfb])
    clear hfb
    go_wp2
    go_ret
    exact ⟨ret_bool HR.out, hbe1⟩
  have HFB := Lib.hid hfb
  clear hfb
  go_wp2_with fail
  refine (nonneg_any _ x.ray N _ (hxr.below hbe1) (by omega)).mono ?_
  rw [decide_eq_true (show x.ray.length = N by rw [HL3.out, HM1.out]), Bool.true_and]
  rintro _ w2 ⟨rfl, hb2⟩
  have hX2 := hX1.later hb2
  have hY2 := hY1.later hb2
  have hf2 := hf1.below hb2
  have hbe2 := below_then hbe1 hb2 hbe1.size
  clear x0 x1 x2 y0 y1 y2 y3 hX1 hY1 hf1 hb2 hbe1
  obtain ⟨x0, x1, x2⟩ := hX2.three
  obtain ⟨y0, y1, y2, y3⟩ := hY2.four
  cases hnn : nnB x.ray
  · have HR : Hid (hold3 p x = false) := Lib.hid (by simp [hold3, hnn])
    clear hnn
    go_wp2
    go_ret
    exact ⟨ret_bool HR.out, hbe2⟩
  have HNN := Lib.hid hnn
  clear hnn
  go_wp2_with fail
  refine (combines_any _ _ _ p x.ray (List.replicate m zeroF) K _ (h.below hbe2) (hxr.below hbe2) hf2.frs HOK.out HKR.out (RsL_zeros _ _) hK HZ.out HL3.out (by rw [List.length_replicate, HR1.out]; exact Nat.le_refl _) hsN (by omega)).mono ?_
  rw [show combB p.right.length (timesQ p x.ray p.cols.length) (List.replicate m zeroF) = combB p.right.length (timesQ p x.ray p.cols.length) [] from by unfold combB; apply decide_eq_decide.2; constructor <;> (intro g i hi; rw [g i hi, qAt_zeros]; simp [qAt])]
  rintro _ w3 ⟨rfl, hb3⟩
  have hX3 := hX2.later hb3
  have hY3 := hY2.later hb3
  have hbe3 := below_then hbe2 hb3 hbe2.size
  clear x0 x1 x2 y0 y1 y2 y3 hX2 hY2 hf2 hb3 hbe2
  obtain ⟨x0, x1, x2⟩ := hX3.three
  obtain ⟨y0, y1, y2, y3⟩ := hY3.four
  cases hcb : combB p.right.length (timesQ p x.ray p.cols.length) []
  · have HR : Hid (hold3 p x = false) := Lib.hid (by simp [hold3, hcb])
    clear hcb
    go_wp2
    go_ret
    exact ⟨ret_bool HR.out, hbe3⟩
  have HR : Hid (hold3 p x = decide (qs (dotQ p.cost x.ray p.cols.length) < 0)) := Lib.hid (by simp [hold3, hcb, HNN.out, HFB.out])
  have hsD : 1 + p.cost.length * (2 * K + 1) ≤ 34359738368 := by
    rw [HZ3.out]
    have := HS.out; have := Nat.mul_le_mul_right (2 * K + 1) z2; omega
  clear hcb
  go_wp2_with fail
  refine (product_any _ _ p.cost x.ray K _ (hc.below hbe3) (hxr.below hbe3) (by rw [HZ3.out, HL3.out]; exact Nat.le_refl _) hK HOK.out.1 HKR.out hsD (by omega)).mono ?_
  rw [HZ3.out]
  rintro _ w4 ⟨v4, rfl, e4, hb4⟩
  go_wp2_with fail
  refine (signF_any _ _ _ e4).mono ?_
  rw [canF_q]
  generalize qs (dotQ p.cost x.ray p.cols.length) = sD at *
  rintro _ w5 ⟨rfl, hb5⟩
  have hb45 := below_then hb4 hb5 hb4.size
  have hbe5 := below_then hbe3 hb45 hbe3.size
  clear hX3 hY3 hbe3 hb4 hb5 hb45 x0 x1 x2 y0 y1 y2 y3 e4
  go_wp2
  go_ret
  exact ⟨ret_bool HR.out, hbe5⟩
end Go.Proofs.YtpanffbgihhjnaaGreat

/- Walks: package proof: Verify. -/
namespace Go.Proofs.YtpanffbgihhjnaaGreat
open Go.RowKit Pl
attribute [local go_sem ↓] Go.wp_at_zero Go.wp_at_succ

namespace Pl
/-- the verdict about a proof -/
def verQ (p : LPd) (x : Prf) : Int := if lpErr p ≠ 0 then lpErr p else if x.st < 1 ∨ 3 < x.st then 5 else if shB p x = false then 12 else if holdB p x = false then 24 else 0
theorem verQ_1 {p : LPd} {x : Prf} (h : lpErr p ≠ 0) : verQ p x = lpErr p := by unfold verQ; rw [if_pos h]
theorem verQ_2 {p : LPd} {x : Prf} (h : lpErr p = 0) (h2 : x.st < 1 ∨ 3 < x.st) : verQ p x = 5 := by unfold verQ; rw [if_neg (by simpa using h), if_pos h2]
theorem verQ_3 {p : LPd} {x : Prf} (h : lpErr p = 0) (h2 : ¬ (x.st < 1 ∨ 3 < x.st)) (h3 : shB p x = false) : verQ p x = 12 := by unfold verQ; rw [if_neg (by simpa using h), if_neg h2, if_pos h3]
theorem verQ_4 {p : LPd} {x : Prf} (h : lpErr p = 0) (h2 : ¬ (x.st < 1 ∨ 3 < x.st)) (h3 : shB p x = true) (h4 : holdB p x = false) : verQ p x = 24 := by unfold verQ; rw [if_neg (by simpa using h), if_neg h2, if_neg (by simp [h3]), if_pos h4]
theorem verQ_5 {p : LPd} {x : Prf} (h : lpErr p = 0) (h2 : ¬ (x.st < 1 ∨ 3 < x.st)) (h3 : shB p x = true) (h4 : holdB p x = true) : verQ p x = 0 := by unfold verQ; rw [if_neg (by simpa using h), if_neg h2, if_neg (by simp [h3]), if_neg (by simp [h4])]
end Pl
/-- all three statuses at once -/
theorem shaped_any (v1 v2 : Value) (p : LPd) (x : Prf) (w : World) (h : LpM w v1 p) (h2 : PrfM w v2 x) (hst : ¬ (x.st < 1 ∨ 3 < x.st)) :
    Calls Tryz.prog 38 #[v1, v2] w fun e w' => e = .returned (.bool (shB p x)) ∧ Below w.heap.size w w' := by
  have : x.st = 1 ∨ x.st = 2 ∨ x.st = 3 := by omega
  rcases this with e | e | e
  · exact shaped_1 v1 v2 p x w h h2 e
  · exact shaped_2 v1 v2 p x w h h2 e
  · exact shaped_3 v1 v2 p x w h h2 e
theorem holds_any (v1 v2 : Value) (p : LPd) (x : Prf) (K : Nat) (w : World) (h : LpM w v1 p) (h2 : PrfM w v2 x) (ok : p.Ok K) (hkx : RsL K x.x) (hky : RsL K x.y) (hkr : RsL K x.ray) (hK : 1 ≤ K) (hz : lpErr p = 0) (hcl : ∀ (j : Nat) (c : List En), p.cols[j]? = some c → c.length ≤ 64) (hs : 1 + 1201 * (2 * K + 1) ≤ 34359738368) (hst : ¬ (x.st < 1 ∨ 3 < x.st)) (hsh : shB p x = true) :
    Calls Tryz.prog 39 #[v1, v2] w fun e w' => e = .returned (.bool (holdB p x)) ∧ Below w.heap.size w w' := by
  obtain ⟨s1, s2, s3⟩ := shB_true hsh
  unfold shX at s1
  unfold shY at s2
  unfold shR at s3
  have : x.st = 1 ∨ x.st = 2 ∨ x.st = 3 := by omega
  unfold holdB
  rcases this with e | e | e
  · rw [if_pos e]
    rw [if_neg (by omega)] at s1 s2
    exact holds_1 v1 v2 p x K w h h2 ok hkx hky hkr hK hz hcl hs e s1 s2
  · rw [if_neg (by omega), if_pos e]
    rw [if_neg (by omega)] at s2
    exact holds_2 v1 v2 p x K w h h2 ok hkx hky hkr hK hz hcl hs e s2
  · rw [if_neg (by omega), if_neg (by omega)]
    rw [if_neg (by omega)] at s1
    rw [if_pos e] at s3
    exact holds_3 v1 v2 p x K w h h2 ok hkx hky hkr hK hz hcl hs e s1 s3
theorem ret_int' {a b : Int} (h : b = a) : Ending.returned (.int .i64 a) = .returned (.int .i64 b) := by rw [h]

set_option maxRecDepth 100000 in
set_option maxHeartbeats 4000000 in
theorem verify_any (v1 v2 : Value) (p : LPd) (x : Prf) (K : Nat) (w : World) (h : LpM w v1 p) (h2 : PrfM w v2 x) (ok : p.Ok K) (hkx : RsL K x.x) (hky : RsL K x.y) (hkr : RsL K x.ray) (hK : 1 ≤ K) (hcl : ∀ (j : Nat) (c : List En), p.cols[j]? = some c → c.length ≤ 64) (hs : 1 + 1201 * (2 * K + 1) ≤ 34359738368) :
    Calls Tryz.prog 11 #[v1, v2] w fun e w' => e = .returned (.int .i64 (verQ p x)) ∧ Below w.heap.size w w' := by
  obtain ⟨A, n, c, A', N, c', A'', m, c'', rfl, hc, hv, hr⟩ := id h
  obtain ⟨B, lx, d, B', ly, d', B'', lr, d'', rfl, hxx, hxy, hxr, s1, s2⟩ := id h2
  obtain ⟨W, hW, hX, hbe0⟩ := box_lp w (.slice A n c) (.slice A' N c') (.slice A'' m c'')
  obtain ⟨W1, hW1, hY, hbe1⟩ := box_prf W (.int .i64 x.st) (.slice B lx d) (.slice B' ly d') (.slice B'' lr d'')
  have hX := hX.later hbe1
  have hbe := below_then hbe0 hbe1 hbe0.size
  have hsz : W.heap.size = w.heap.size + 1 := by rw [← hW]; simp
  rw [hsz] at hY
  obtain ⟨x0, x1, x2⟩ := hX.three
  obtain ⟨y0, y1, y2, y3⟩ := hY.four
  obtain ⟨m1, m2, m3⟩ := hv.len
  obtain ⟨r1, r2, r3⟩ := hr.len
  obtain ⟨k1, k2, k3⟩ := hc.len
  obtain ⟨lx1, lx2, lx3⟩ := hxx.len
  obtain ⟨ly1, ly2, ly3⟩ := hxy.len
  obtain ⟨lr1, lr2, lr3⟩ := hxr.len
  have HM1 := Lib.hid m1
  have HR1 := Lib.hid r1
  have HK1 := Lib.hid k1
  have HLX := Lib.hid lx1
  have HLY := Lib.hid ly1
  have HLR := Lib.hid lr1
  clear m1 r1 k1 lx1 ly1 lr1 hbe0 hbe1
  have HOK := Lib.hid ok
  have HCL := Lib.hid hcl
  have HKX := Lib.hid hkx
  have HKY := Lib.hid hky
  have HKR := Lib.hid hkr
  clear ok hcl hkx hky hkr hc hv hr hxx hxy hxr lx2 lx3 ly2 ly3 lr2 lr3 m2 m3 r2 r3 k2 k3
  go_enter Tryz.func11, Tryz.ntmps11
  go_wp2_with fail
  clear hW hW1 hsz x0 x1 x2 y0 y1 y2 y3
  refine (validate_any _ p K _ (h.below hbe) HOK.out).mono ?_
  rintro _ w1 ⟨rfl, hb1⟩
  have hX1 := hX.later hb1
  have hY1 := hY.later hb1
  have hbe1 := below_then hbe hb1 hbe.size
  clear hX hY hbe hb1
  by_cases hz : lpErr p = 0
  rotate_left
  · have hz' : (lpErr p != 0) = true := by simpa using hz
    have HR := Lib.hid (verQ_1 (x := x) hz)
    clear hz
    generalize lpErr p = le at *
    go_wp2
    go_ret
    exact ⟨ret_int' HR.out, hbe1⟩
  have HZ := Lib.hid hz
  rw [hz]
  clear hz
  obtain ⟨y0, y1, y2, y3⟩ := hY1.four
  obtain ⟨x0, x1, x2⟩ := hX1.three
  by_cases hst : x.st < 1 ∨ 3 < x.st
  · have HR := Lib.hid (verQ_2 HZ.out hst)
    have n1 : (x.st != 1) = true := by simp; omega
    have n2 : (x.st != 2) = true := by simp; omega
    have n3 : (x.st != 3) = true := by simp; omega
    clear hst
    go_wp2
    go_ret
    exact ⟨ret_int' HR.out, hbe1⟩
  have HST := Lib.hid hst
  have key : ∀ s : Int, x.st = s → (s = 1 ∨ s = 2 ∨ s = 3) → (s != 1) = true ∨ (s != 1) = false := fun s _ _ => by cases (s != 1) <;> simp
  clear key
  have hc3 : x.st = 1 ∨ x.st = 2 ∨ x.st = 3 := by omega
  clear hst
  rcases hc3 with e | e | e
  case' inl =>
    have n1 : (x.st != 1) = false := by simp [e]
  case' inr.inl =>
    have n1 : (x.st != 1) = true := by simp [e]
    have n2 : (x.st != 2) = false := by simp [e]
  case' inr.inr =>
    have n1 : (x.st != 1) = true := by simp [e]
    have n2 : (x.st != 2) = true := by simp [e]
    have n3 : (x.st != 3) = false := by simp [e]
  all_goals
    clear e
    go_wp2_with fail
    clear x0 x1 x2 y0 y1 y2 y3
    refine (shaped_any _ _ p x _ (h.below hbe1) (h2.below hbe1) HST.out).mono ?_
    rintro _ w2 ⟨rfl, hb2⟩
    have hX2 := hX1.later hb2
    have hY2 := hY1.later hb2
    have hbe2 := below_then hbe1 hb2 hbe1.size
    clear hX1 hY1 hbe1 hb2
    cases hsh : shB p x
    · have HR := Lib.hid (verQ_3 HZ.out HST.out hsh)
      clear hsh
      go_wp2
      go_ret
      exact ⟨ret_int' HR.out, hbe2⟩
    · have HSH := Lib.hid hsh
      clear hsh
      obtain ⟨y0, y1, y2, y3⟩ := hY2.four
      obtain ⟨x0, x1, x2⟩ := hX2.three
      go_wp2_with fail
      clear x0 x1 x2 y0 y1 y2 y3
      refine (holds_any _ _ p x K _ (h.below hbe2) (h2.below hbe2) HOK.out HKX.out HKY.out HKR.out hK HZ.out HCL.out hs HST.out HSH.out).mono ?_
      rintro _ w3 ⟨rfl, hb3⟩
      have hbe3 := below_then hbe2 hb3 hbe2.size
      clear hX2 hY2 hbe2 hb3
      cases hho : holdB p x
      · have HR := Lib.hid (verQ_4 HZ.out HST.out HSH.out hho)
        clear hho
        go_wp2
        go_ret
        exact ⟨ret_int' HR.out, hbe3⟩
      · have HR := Lib.hid (verQ_5 HZ.out HST.out HSH.out hho)
        clear hho
        go_wp2
        go_ret
        exact ⟨ret_int' HR.out, hbe3⟩
end Go.Proofs.YtpanffbgihhjnaaGreat

/- A region that draws its order, where now and then two operations may come up: a plan with forks. -/
namespace Go.Proofs.YtpanffbgihhjnaaGreat
open Go.RowKit Pl

inductive Plan where
  | done
  | go (i : Nat) (p : Plan)
  | fork (i : Nat) (p : Plan) (j : Nat) (q : Plan)
def Plan.of : List Nat → Plan → Plan
  | [], p => p
  | i :: is, p => .go i (Plan.of is p)
def planGo (md : Region.Mode) (ops : Array Oper) (n : Nat) : Bool → Plan → Array Bool → Bool
  | _, .done, listed => Region.ready md ops listed == []
  | d, .go i p, listed => seqAt md ops n listed i && (!(d && (floatI ops n i && !pureI ops i)) && planGo md ops n (d || decide (n ≤ i)) p (listed.setIfInBounds i true))
  | d, .fork i p j q, listed => (!floatI ops n i && !floatI ops n j) && (Region.ready md ops listed == [i, j] && (planGo md ops n (d || decide (n ≤ i)) p (listed.setIfInBounds i true) && planGo md ops n (d || decide (n ≤ j)) q (listed.setIfInBounds j true)))
section
variable {P : Program} {ops : Array Oper} {Q : Exit → Act → World → Prop} {md : Region.Mode} {S : World → Prop} {n : Nat}
def wpAlone (P : Program) (ops : Array Oper) (Q : Exit → Act → World → Prop) (S : World → Prop) (n i : Nat) (K : Act → World → Prop) (a : Act) (w : World) : Prop := match ops[i]? with
  | none => True
  | some o => if Region.wanted o (yielded ops a.tmps) = true then Oper.wp P o a w (fun a' w' => (n ≤ i ∨ S w') ∧ K a' w') Q else (n ≤ i ∨ S w) ∧ K (a.put o.dst undef) w
def wpPlan (P : Program) (ops : Array Oper) (Q : Exit → Act → World → Prop) (S : World → Prop) (n : Nat) : Plan → Act → World → Prop
  | .done, a, w => Q .normal a w
  | .go i p, a, w => match ops[i]? with
    | none => True
    | some o => if floatI ops n i = true then ∃ v, (if pureI ops i = true then YieldsIf P ops (fun _ => True) o v a else YieldsIf P ops S o v a) ∧ wpPlan P ops Q S n p (a.put o.dst v) w else wpAlone P ops Q S n i (wpPlan P ops Q S n p) a w
  | .fork i p j q, a, w => wpAlone P ops Q S n i (wpPlan P ops Q S n p) a w ∧ wpAlone P ops Q S n j (wpPlan P ops Q S n q) a w
theorem wpAlone.wpOp {i : Nat} {o : Oper} {K : Act → World → Prop} {a : Act} {w : World} (ho : ops[i]? = some o) (h : wpAlone P ops Q S n i K a w) : Go.wpOp P ops Q i (fun a' w' => (n ≤ i ∨ S w') ∧ K a' w') a w := by
  unfold wpAlone at h
  rw [ho] at h
  unfold Go.wpOp
  rw [ho]
  show if Region.wanted o (yielded ops a.tmps) = true then _ else _
  have h : if Region.wanted o (yielded ops a.tmps) = true then Oper.wp P o a w (fun a' w' => (n ≤ i ∨ S w') ∧ K a' w') Q else (n ≤ i ∨ S w) ∧ K (a.put o.dst undef) w := h
  split
  · rename_i hw; rw [if_pos hw] at h; exact .inl h
  · rename_i hw; rw [if_neg hw] at h; exact h
/-- how many operations a plan lists -/
def Plan.len : Plan → Nat
  | .done => 0
  | .go _ p => p.len + 1
  | .fork _ p _ _ => p.len + 1
def Plan.even : Plan → Bool
  | .done => true
  | .go _ p => p.even
  | .fork _ p _ q => p.even && (q.even && (p.len == q.len))
def planOK (md : Region.Mode) (ops : Array Oper) (n : Nat) (p : Plan) : Bool := Region.noSelect ops && (planGo md ops n false p (Array.replicate ops.size false) && (p.even && decide (p.len = ops.size)))
theorem AnyG.of_plan (hQ : ∀ c a d v w, Q (.panic c) (a.put d v) w → Q (.panic c) a w) (hs : Region.noSelect ops = true) :
    ∀ (p : Plan) (listed : Array Bool) (a : Act) (w : World) (d : Bool), p.even = true → planGo md ops n d p listed = true → (d = false → S w) → wpPlan P ops Q S n p a w → AnyG P md ops Q S n p.len listed a w := by
  intro p
  induction p with
  | done =>
    intro listed a w d _ hgo _ h
    exact ⟨by simpa [planGo] using hgo, h⟩
  | go i p ih =>
    intro listed a w d hev hgo hS h
    simp only [planGo, Bool.and_eq_true] at hgo
    obtain ⟨hat, hd, hgo⟩ := hgo
    unfold wpPlan at h
    unfold seqAt at hat
    split at hat
    · rename_i hf
      simp only [Bool.and_eq_true] at hat
      obtain ⟨h1, h2, h3⟩ := hat
      have hf' := hf
      simp only [floatI, Bool.and_eq_true, decide_eq_true_eq] at hf'
      obtain ⟨o, ho⟩ : ∃ o, ops[i]? = some o := by
        cases hc : ops[i]? with
        | none => rw [hc] at hf'; simp at hf'
        | some o => exact ⟨o, rfl⟩
      simp only [ho] at h
      rw [if_pos hf] at h
      obtain ⟨v, hy, hr⟩ := h
      by_cases hp : pureI ops i = true
      · rw [if_pos hp] at hy
        exact anyG_takeP ho hs h1 h2 (fun c a w => hQ c a o.dst v w) hy (ih _ _ w _ hev hgo (fun hd' => hS (by simp at hd'; exact hd'.1)) hr)
      · rw [if_neg hp] at hy
        have hdf : d = false := by rw [hf] at hd; simpa [hp] using hd
        have hw := hS hdf
        exact anyG_takeT ho hs h1 h2 (by simpa [hp] using h3) (fun c a w => hQ c a o.dst v w) hy hw (ih _ _ w _ hev hgo (fun _ => hw) hr)
    · rename_i hf
      have hr : Region.ready md ops listed = [i] := by simpa using hat
      have hi : i ∈ Region.ready md ops listed := by rw [hr]; exact List.mem_singleton.2 rfl
      obtain ⟨_, o, ho, _⟩ := mem_ready.1 hi
      simp only [ho] at h
      rw [if_neg hf] at h
      refine ⟨fun h0 => (by rw [hr] at h0; cases h0), fun j hj => ?_⟩
      rw [hr] at hj
      obtain rfl : j = i := by simpa using hj
      exact wpOp_mono (fun a' w' h' => ⟨h'.1.imp id (fun h _ => h), ih _ a' w' _ hev hgo (fun hle => h'.1.resolve_left (by simp at hle; omega)) h'.2⟩) (h.wpOp ho)
  | fork i p j q ihp ihq =>
    intro listed a w d hev hgo hS h
    simp only [planGo, Bool.and_eq_true] at hgo
    obtain ⟨_, hr, hg1, hg2⟩ := hgo
    simp only [Plan.even, Bool.and_eq_true, beq_iff_eq] at hev
    obtain ⟨ev1, ev2, hlen⟩ := hev
    have hr : Region.ready md ops listed = [i, j] := by simpa using hr
    obtain ⟨h1, h2⟩ := h
    have hi : i ∈ Region.ready md ops listed := by rw [hr]; simp
    have hj : j ∈ Region.ready md ops listed := by rw [hr]; simp
    obtain ⟨_, oi, hoi, _⟩ := mem_ready.1 hi
    obtain ⟨_, oj, hoj, _⟩ := mem_ready.1 hj
    refine ⟨fun h0 => (by rw [hr] at h0; cases h0), fun k hk => ?_⟩
    rw [hr] at hk
    simp only [List.mem_cons, List.not_mem_nil, or_false] at hk
    rcases hk with rfl | rfl
    · exact wpOp_mono (fun a' w' h' => ⟨h'.1.imp id (fun h _ => h), ihp _ a' w' _ ev1 hg1 (fun hle => h'.1.resolve_left (by simp at hle; omega)) h'.2⟩) (h1.wpOp hoi)
    · exact wpOp_mono (fun a' w' h' => ⟨h'.1.imp id (fun h _ => h), by rw [hlen]; exact ihq _ a' w' _ ev2 hg2 (fun hle => h'.1.resolve_left (by simp at hle; omega)) h'.2⟩) (h2.wpOp hoj)
theorem region_plan {id : Nat} {l : List Oper} {a : Act} {w : World} (n : Nat) (p : Plan) (hm : P.follows .mixedOrders = true) (hok : planOK .any l.toArray n p = true)
    (h : wpPlan P l.toArray (NoPanic Q) (fun w' => Below w.heap.size w w') n p a w.drew) : (Code.region id l.toArray true).wp P Q a w := by
  simp only [planOK, Bool.and_eq_true, decide_eq_true_eq] at hok
  obtain ⟨hs, hgo, hev, hl⟩ := hok
  refine wp_region_noPanic (wp_region_any hm (AnyG.any _ _ _ _ (S := fun w' => Below w.heap.size w w') (n := n) ?_))
  have := AnyG.of_plan (P := P) (Q := NoPanic Q) (S := fun w' => Below w.heap.size w w') (fun c a d v w h => h) hs p _ a w.drew false hev hgo (fun _ => (Below.refl _ _).drew) h
  rwa [hl] at this
theorem plan_done {a : Act} {w : World} (h : Q .normal a w) : wpPlan P ops (NoPanic Q) S n .done a w := h
theorem plan_take {o : Oper} {i : Nat} {p : Plan} {a : Act} {w : World} {v : Value} (ho : ops[i]? = some o) (hf : (floatI ops n i && !pureI ops i) = true) (hw : Region.wanted o (yielded ops a.tmps) = true) (hy : ∀ w', S w' → (execOp a.eval o).run P w' = .ok (.value v) w') (h : wpPlan P ops Q S n p (a.put o.dst v) w) : wpPlan P ops Q S n (.go i p) a w := by
  simp only [Bool.and_eq_true, Bool.not_eq_true'] at hf
  unfold wpPlan
  rw [ho]
  show if _ then _ else _
  rw [if_pos hf.1]
  exact ⟨v, by rw [if_neg (by simp [hf.2])]; exact .inl ⟨hw, hy⟩, h⟩
theorem plan_takeP {o : Oper} {i : Nat} {p : Plan} {a : Act} {w : World} {v : Value} (ho : ops[i]? = some o) (hf : (floatI ops n i && pureI ops i) = true) (hw : Region.wanted o (yielded ops a.tmps) = true) (hy : ∀ w', True → (execOp a.eval o).run P w' = .ok (.value v) w') (h : wpPlan P ops Q S n p (a.put o.dst v) w) : wpPlan P ops Q S n (.go i p) a w := by
  simp only [Bool.and_eq_true] at hf
  unfold wpPlan
  rw [ho]
  show if _ then _ else _
  rw [if_pos hf.1]
  exact ⟨v, by rw [if_pos hf.2]; exact .inl ⟨hw, hy⟩, h⟩
theorem plan_skip {o : Oper} {i : Nat} {p : Plan} {a : Act} {w : World} (ho : ops[i]? = some o) (hf : floatI ops n i = true) (hw : Region.wanted o (yielded ops a.tmps) = false) (h : wpPlan P ops Q S n p (a.put o.dst undef) w) : wpPlan P ops Q S n (.go i p) a w := by
  unfold wpPlan
  rw [ho]
  show if _ then _ else _
  rw [if_pos hf]
  exact ⟨undef, by split <;> exact .inr ⟨hw, rfl⟩, h⟩
theorem alone_step {o : Oper} {i : Nat} {K : Act → World → Prop} {a : Act} {w : World} (ho : ops[i]? = some o)
    (h : ∀ K' : Act → World → Prop, Shut (∀ a w, (n ≤ i ∨ S w) → K a w → K' a w) → if Region.wanted o (yielded ops a.tmps) = true then Oper.wp P o a w K' Q else K' (a.put o.dst undef) w) : wpAlone P ops Q S n i K a w := by
  have h1 := h (fun a' w' => (n ≤ i ∨ S w') ∧ K a' w') (fun a w h1 h2 => ⟨h1, h2⟩)
  unfold wpAlone
  rw [ho]
  exact h1
theorem plan_step {o : Oper} {i : Nat} {p : Plan} {a : Act} {w : World} (ho : ops[i]? = some o) (hf : floatI ops n i = false)
    (h : ∀ K' : Act → World → Prop, Shut (∀ a w, (n ≤ i ∨ S w) → wpPlan P ops Q S n p a w → K' a w) → if Region.wanted o (yielded ops a.tmps) = true then Oper.wp P o a w K' Q else K' (a.put o.dst undef) w) : wpPlan P ops Q S n (.go i p) a w := by
  unfold wpPlan
  rw [ho]
  show if _ then _ else _
  rw [if_neg (by simp [hf])]
  exact alone_step ho h
theorem plan_skipc {o : Oper} {i : Nat} {p : Plan} {a : Act} {w : World} (ho : ops[i]? = some o) (hf : floatI ops n i = false) (hw : Region.wanted o (yielded ops a.tmps) = false) (hS : S w) (h : wpPlan P ops Q S n p (a.put o.dst undef) w) : wpPlan P ops Q S n (.go i p) a w := by
  refine plan_step ho hf fun K hK => ?_
  rw [if_neg (by rw [hw]; simp)]
  exact hK _ _ (.inr hS) h
theorem plan_fork {oi oj : Oper} {i j : Nat} {p q : Plan} {a : Act} {w : World} (hi : ops[i]? = some oi) (hj : ops[j]? = some oj)
    (h1 : ∀ K' : Act → World → Prop, Shut (∀ a w, (n ≤ i ∨ S w) → wpPlan P ops Q S n p a w → K' a w) → if Region.wanted oi (yielded ops a.tmps) = true then Oper.wp P oi a w K' Q else K' (a.put oi.dst undef) w)
    (h2 : ∀ K' : Act → World → Prop, Shut (∀ a w, (n ≤ j ∨ S w) → wpPlan P ops Q S n q a w → K' a w) → if Region.wanted oj (yielded ops a.tmps) = true then Oper.wp P oj a w K' Q else K' (a.put oj.dst undef) w) : wpPlan P ops Q S n (.fork i p j q) a w := ⟨alone_step hi h1, alone_step hj h2⟩
end
end Go.Proofs.YtpanffbgihhjnaaGreat

/- Plain: the known example. -/
namespace Go.Proofs.YtpanffbgihhjnaaGreat
open Go.RowKit Pl
namespace Pl
def kI (z : Int) : RF := canF (z : Rat)
theorem kI_q (z : Int) : (kI z).q = (z : Rat) := canF_q _
theorem kI_rs {z : Int} (h : -4294967296 < z) (h2 : z < 4294967296) : (kI z).Rs 1 := (Sz_int h h2).rs
def kp : LPd := ⟨[kI 0], [[⟨0, kI 1⟩]], [kI (-1)]⟩
theorem qAt_one (f : RF) : qAt [f] 0 = f.q := rfl
theorem kp_err : lpErr kp = 0 := by
  have h1 : (kI 1).q ≠ 0 := by rw [kI_q]; decide
  unfold lpErr kp
  simp [colsErr, vecErr, vErr, leP, h1]
theorem one_rs {k : Nat} {f : RF} (h : f.Rs k) : RsL k [f] := fun i g hg => by
  match i, hg with
  | 0, hg => simp at hg; subst hg; exact h
theorem kp_ok {K : Nat} (hK : 1 ≤ K) : kp.Ok K := by
  refine ⟨one_rs ((kI_rs (by decide) (by decide)).mono hK), one_rs ((kI_rs (by decide) (by decide)).mono hK), fun j c hc => ?_⟩
  match j, hc with
  | 0, hc =>
    simp [kp] at hc
    subst hc
    refine ⟨fun k e he => ?_, fun k e he => ?_⟩
    · match k, he with
      | 0, he => simp at he; subst he; decide
    · match k, he with
      | 0, he => simp at he; subst he; exact (kI_rs (by decide) (by decide)).mono hK
theorem kp_len : ∀ (j : Nat) (c : List En), kp.cols[j]? = some c → c.length ≤ 64 := fun j c hc => by
  match j, hc with
  | 0, hc => simp [kp] at hc; subst hc; decide
theorem kp_col (i : Nat) : kp.col ((0 : Nat) : Int) i = if i = 0 then 1 else 0 := by
  rw [col_colC]
  show dQ [⟨0, kI 1⟩] (fun _ => 0) i = _
  simp only [dQ, kI_q]
  by_cases h : i = 0
  · subst h; rfl
  · rw [if_neg (show ¬ (0 : Int) = (i : Int) by omega), if_neg h]
theorem kp_dot (z : Int) : dotC [kI z] (kp.col ((0 : Nat) : Int)) kp.right.length = (z : Rat) := by
  show 0 + qAt [kI z] 0 * kp.col ((0 : Nat) : Int) 0 = _
  rw [kp_col, qAt_one, kI_q]; simp; grind
theorem kp_right (z : Int) : dotQ [kI z] kp.right kp.right.length = ((-z : Int) : Rat) := by
  show 0 + qAt [kI z] 0 * qAt [kI (-1)] 0 = _
  rw [qAt_one, qAt_one, kI_q, kI_q, Rat.intCast_neg]; grind
theorem kp_ver1 : verQ kp ⟨2, [], [kI (-1)], []⟩ = 0 := by
  refine verQ_5 kp_err (by decide) (by decide) ?_
  unfold holdB hold2
  simp only [if_neg (show ¬ (2 : Int) = 1 by decide), if_true]
  rw [Bool.and_eq_true]
  refine ⟨decide_eq_true fun j hj => ?_, ?_⟩
  · obtain rfl : j = 0 := by have : kp.cols.length = 1 := rfl; omega
    rw [kp_dot]; decide
  · rw [kp_right]; decide
theorem kp_ver2 : verQ kp ⟨2, [], [kI 1], []⟩ = 24 := by
  refine verQ_4 kp_err (by decide) (by decide) ?_
  unfold holdB hold2
  simp only [if_neg (show ¬ (2 : Int) = 1 by decide), if_true]
  rw [Bool.and_eq_false_iff]
  refine .inl (decide_eq_false fun g => ?_)
  have := g 0 (by decide)
  rw [kp_dot] at this
  exact absurd this (by decide)
theorem kp_low : lowB kp [kI (-2)] = true := by
  refine lowB_4 kp_err rfl fun j hj => ?_
  obtain rfl : j = 0 := by have : kp.cols.length = 1 := rfl; omega
  rw [kp_dot]
  show _ ≤ qAt [kI 0] 0
  rw [qAt_one, kI_q]; decide
theorem kp_lowF : lowF kp [kI (-2)] = kI 2 := by
  rw [lowF_yes kp_low, kp_right]; rfl
theorem kp_feas : feasB kp [kI 1] = false := by
  rw [feasB_eq kp_err, Bool.and_eq_false_iff]
  refine .inr (combB_false (i := 0) (by decide) ?_)
  show 0 + qAt [kI 1] 0 * kp.col ((0 : Nat) : Int) 0 ≠ qAt [kI (-1)] 0
  rw [kp_col, qAt_one, qAt_one, kI_q, kI_q, if_pos rfl, Rat.mul_one, Rat.zero_add]; decide
end Pl
section
variable {w : World} {g : Nat}
theorem FrsM.one {b b' : Bool} {A A' : Option Addr} {n c n' c' : Nat} {f : RF} (hB : Bk w g 47 [.bool b, .slice A n c, .bool b', .slice A' n' c']) (h : FracM w (.agg #[.bool b, .slice A n c, .bool b', .slice A' n' c']) f) : FrsM w (.slice (some ⟨g, 0, none⟩) 1 1) [f] := by
  refine ⟨[.bool b, .slice A n c, .bool b', .slice A' n' c'], ⟨_, 1, rfl, rfl, Nat.le_refl _, by unfold maxLen; omega, fun _ => ⟨g, 0, _, _, rfl, hB, fun j u hj => by simpa using hj⟩⟩, rfl, fun k f' hf => ?_⟩
  match k, hf with
  | 0, hf => simp at hf; subst hf; exact ⟨_, _, _, _, rfl, rfl, rfl, rfl, h⟩
theorem VecM.one {k : Int} {b b' : Bool} {A A' : Option Addr} {n c n' c' : Nat} {f : RF} (hB : Bk w g 80 [.int .i64 k, .bool b, .slice A n c, .bool b', .slice A' n' c']) (h : FracM w (.agg #[.bool b, .slice A n c, .bool b', .slice A' n' c']) f) : VecM w (.slice (some ⟨g, 0, none⟩) 1 1) [⟨k, f⟩] := by
  refine ⟨[.int .i64 k, .bool b, .slice A n c, .bool b', .slice A' n' c'], ⟨_, 1, rfl, rfl, Nat.le_refl _, by unfold maxLen; omega, fun _ => ⟨g, 0, _, _, rfl, hB, fun j u hj => by simpa using hj⟩⟩, rfl, fun j f' hf => ?_⟩
  match j, hf with
  | 0, hf => simp at hf; subst hf; exact ⟨_, _, _, _, rfl, rfl, rfl, rfl, rfl, h⟩
theorem VecsM.one {v : Value} {es : List En} (hB : Bk w g 59 [v]) (h : VecM w v es) : VecsM w (.slice (some ⟨g, 0, none⟩) 1 1) [es] := by
  refine ⟨[v], ⟨_, 1, rfl, rfl, Nat.le_refl _, by unfold maxLen; omega, fun _ => ⟨g, 0, _, _, rfl, hB, fun j u hj => by simpa using hj⟩⟩, fun j f' hf => ?_⟩
  match j, hf with
  | 0, hf => simp at hf; subst hf; exact ⟨_, rfl, h⟩
theorem FrsM.nil (w : World) : FrsM w (.slice none 0 0) [] := ⟨[], RowM.nil w _ _ none 0 (by simp), FrC.nil w⟩
end
end Go.Proofs.YtpanffbgihhjnaaGreat

/- Walks: pairinglaw26.known. -/
namespace Go.Proofs.YtpanffbgihhjnaaGreat
open Go.RowKit Pl
attribute [local go_sem ↓] Go.wp_at_zero Go.wp_at_succ

theorem box_v (w : World) (x : Value) : ∃ W, w.alloc (.cells #[x] 59) = W ∧ Bk W w.heap.size 59 [x] ∧ Below w.heap.size w W := ⟨_, rfl, Bk.new w _ [x], below_new w _⟩
theorem Bk.drewB {w : World} {g : Nat} {t : TypeId} {cs : List Value} (_h : Bk w g t cs) : Below w.heap.size w w.drew := below_drew' w
/-- what holds behind the bound -/
def KnownAt (U : World) (s4 s5 : Value) (wx : World) : Prop :=
  ∃ g A n c A' n' c', s4 = .pointer (some ⟨g, 0, none⟩) ∧ s5 = .bool true ∧ Bk wx g 47 [.bool (kI 2).num.neg, .slice A n c, .bool (kI 2).den.neg, .slice A' n' c'] ∧ FracM wx (.agg #[.bool (kI 2).num.neg, .slice A n c, .bool (kI 2).den.neg, .slice A' n' c']) (kI 2) ∧ Below U.heap.size U wx
theorem KnownAt.mk {U w : World} {g : Nat} {x y z u : Value} {A A' : Option Addr} {n c n' c' : Nat} (hB : Bk w g 47 [x, y, z, u]) (hF : FracM w (.agg #[.bool (kI 2).num.neg, .slice A n c, .bool (kI 2).den.neg, .slice A' n' c']) (kI 2)) (hb : Below U.heap.size U w) (hg : U.heap.size ≤ g) :
    KnownAt U (.pointer (some ⟨g, 0, none⟩)) (.bool true) ((((w.setCell ⟨g, 0, none⟩ (.bool (kI 2).num.neg)).setCell ⟨g, 1, none⟩ (.slice A n c)).setCell ⟨g, 2, none⟩ (.bool (kI 2).den.neg)).setCell ⟨g, 3, none⟩ (.slice A' n' c')) :=
  ⟨g, A, n, c, A', n', c', rfl, rfl, hB.set4 _ _ _ _, hF.keep (hB.keep4 (by decide) _ _ _ _), below_set4 hb hg _ _ _ _⟩

set_option maxRecDepth 100000 in
set_option maxHeartbeats 8000000 in
theorem known_any (w : World) : Calls Tryz.prog 13 #[] w fun e w' => e = .returned (.bool true) ∧ Below w.heap.size w w' := by
  go_enter Tryz.func13, Tryz.ntmps13
  go_wp2_with fail
  refine (rint_own (0) _ (by omega) (by omega)).mono ?_
  rw [show canF ((0 : Int) : Rat) = kI (0) from rfl]
  rintro _ w1 ⟨v1, rfl, e1, hb1⟩
  have HF1 := Lib.hid e1.frac
  clear e1
  generalize hk1 : kI (0) = k1 at *
  have HK1 := Lib.hid hk1
  clear hk1
  obtain ⟨A1, n1, c1, B1, m1, d1, rfl, _, _⟩ := id HF1.out
  obtain ⟨U1, hU1, hL1, hu1⟩ := boxF1 w1 (.bool k1.num.neg) (.slice A1 n1 c1) (.bool k1.den.neg) (.slice B1 m1 d1)
  have bU1 := below_then hb1 hu1 hb1.size
  go_wp2_with fail
  clear hU1
  refine (rint_own (1) _ (by omega) (by omega)).mono ?_
  rw [show canF ((1 : Int) : Rat) = kI (1) from rfl]
  rintro _ w2 ⟨v2, rfl, e2, hb2⟩
  have HF2 := Lib.hid e2.frac
  clear e2
  generalize hk2 : kI (1) = k2 at *
  have HK2 := Lib.hid hk2
  clear hk2
  obtain ⟨A2, n2, c2, B2, m2, d2, rfl, _, _⟩ := id HF2.out
  have bw2 := below_then bU1 hb2 bU1.size
  obtain ⟨U2, hU2, hL2, hu2⟩ := box_en w2 (.int .i64 0) (.bool k2.num.neg) (.slice A2 n2 c2) (.bool k2.den.neg) (.slice B2 m2 d2)
  have bU2 := below_then bw2 hu2 bw2.size
  obtain ⟨U3, hU3, hL3, hu3⟩ := box_v U2 (.slice (some ⟨w2.heap.size, 0, none⟩) 1 1)
  have bU3 := below_then bU2 hu3 bU2.size
  go_wp2_with fail
  clear hU2 hU3
  refine (rint_own (-1) _ (by omega) (by omega)).mono ?_
  rw [show canF ((-1 : Int) : Rat) = kI (-1) from rfl]
  rintro _ w3 ⟨v3, rfl, e3, hb3⟩
  have HF3 := Lib.hid e3.frac
  clear e3
  generalize hk3 : kI (-1) = k3 at *
  have HK3 := Lib.hid hk3
  clear hk3
  obtain ⟨A3, n3, c3, B3, m3, d3, rfl, _, _⟩ := id HF3.out
  have bw3 := below_then bU3 hb3 bU3.size
  obtain ⟨U4, hU4, hL4, hu4⟩ := boxF1 w3 (.bool k3.num.neg) (.slice A3 n3 c3) (.bool k3.den.neg) (.slice B3 m3 d3)
  have bU4 := below_then bw3 hu4 bw3.size
  obtain ⟨U5, hU5, hP, hu5⟩ := box_lp U4 (.slice (some ⟨w1.heap.size, 0, none⟩) 1 1) (.slice (some ⟨U2.heap.size, 0, none⟩) 1 1) (.slice (some ⟨w3.heap.size, 0, none⟩) 1 1)
  have bU5 := below_then bU4 hu5 bU4.size
  go_wp2_with fail
  clear hU4 hU5
  have b15 := below_then (below_then (below_then (below_then (below_then hb2 hu2 hb2.size) hu3 (by have := hb2.size; have := hu2.size; omega)) hb3 (by have := hb2.size; have := hu2.size; have := hu3.size; omega)) hu4 (by have := hb2.size; have := hu2.size; have := hu3.size; have := hb3.size; omega)) hu5 (by have := hb2.size; have := hu2.size; have := hu3.size; have := hb3.size; have := hu4.size; omega)
  have b25 := below_then (below_then (below_then hu3 hb3 hu3.size) hu4 (by have := hu3.size; have := hb3.size; omega)) hu5 (by have := hu3.size; have := hb3.size; have := hu4.size; omega)
  have b35 := below_then (below_then hb3 hu4 hb3.size) hu5 (by have := hb3.size; have := hu4.size; omega)
  have hp : LpM U5 (.agg #[.slice (some ⟨w1.heap.size, 0, none⟩) 1 1, .slice (some ⟨U2.heap.size, 0, none⟩) 1 1, .slice (some ⟨w3.heap.size, 0, none⟩) 1 1]) kp := by
    unfold kp
    rw [HK1.out, HK2.out, HK3.out]
    exact ⟨_, _, _, _, _, _, _, _, _, rfl, (FrsM.one hL1 (HF1.out.below hu1)).below b15, ((VecsM.one hL3 ((VecM.one hL2 (HF2.out.below hu2)).below hu3)).below b35), (FrsM.one hL4 (HF3.out.below hu4)).below hu5⟩
  have HP := Lib.hid hp
  clear hp b15 b25 b35 hL1 hL2 hL3 hL4 hu1 hu2 hu3 hu4 hu5 hb1 hb2 hb3 bU1 bw2 bU2 bU3 bw3 bU4 HF1 HF2 HF3
  generalize hg1 : U4.heap.size = gp at *
  clear hg1
  refine (rint_own (-1) _ (by omega) (by omega)).mono ?_
  rw [show canF ((-1 : Int) : Rat) = kI (-1) from rfl]
  rintro _ w4 ⟨v4, rfl, e4, hb4⟩
  have HF4 := Lib.hid e4.frac
  clear e4
  generalize hk4 : kI (-1) = k4 at *
  have HK4 := Lib.hid hk4
  clear hk4
  obtain ⟨A4, n4, c4, B4, m4, d4, rfl, _, _⟩ := id HF4.out
  obtain ⟨U6, hU6, hL6, hu6⟩ := boxF1 w4 (.bool k4.num.neg) (.slice A4 n4 c4) (.bool k4.den.neg) (.slice B4 m4 d4)
  obtain ⟨Z7, hZ7, hX10, hz7⟩ := box_prf U6 (.int .i64 0) (.slice none 0 0) (.slice none 0 0) (.slice none 0 0)
  obtain ⟨q0, q1, q2, q3⟩ := hX10.four
  obtain ⟨h0, h1, h2, h3⟩ := hX10.fourF
  have hX1 := hX10.set4 (.int .i64 2) (.slice none 0 0) (.slice (some ⟨w4.heap.size, 0, none⟩) 1 1) (.slice none 0 0)
  have hu7 := below_set4 hz7 (Nat.le_refl _) (.int .i64 2) (.slice none 0 0) (.slice (some ⟨w4.heap.size, 0, none⟩) 1 1) (.slice none 0 0)
  have b47 := below_then (below_then hb4 hu6 hb4.size) hu7 (by have := hb4.size; have := hu6.size; omega)
  go_wp2_with fail
  clear hU6 hZ7 q0 q1 q2 q3 h0 h1 h2 h3 hX10 hz7
  generalize (((Z7.setCell ⟨U6.heap.size, 0, none⟩ (.int .i64 2)).setCell ⟨U6.heap.size, 1, none⟩ (.slice none 0 0)).setCell ⟨U6.heap.size, 2, none⟩ (.slice (some ⟨w4.heap.size, 0, none⟩) 1 1)).setCell ⟨U6.heap.size, 3, none⟩ (.slice none 0 0) = U7 at *
  have hx1 : PrfM U7 (.agg #[.int .i64 2, .slice none 0 0, .slice (some ⟨w4.heap.size, 0, none⟩) 1 1, .slice none 0 0]) ⟨2, [], [kI (-1)], []⟩ := by
    rw [HK4.out]
    exact ⟨_, _, _, _, _, _, _, _, _, rfl, FrsM.nil _, (FrsM.one hL6 (HF4.out.below hu6)).below hu7, FrsM.nil _, by simp, by simp⟩
  have HX1 := Lib.hid hx1
  have bU7 := below_then bU5 b47 bU5.size
  have hP7 := hP.later b47
  have HP7 := Lib.hid (HP.out.below b47)
  clear hx1 hL6 hu6 hu7 hb4 HF4 hP HP b47 bU5
  generalize hg2 : U6.heap.size = g1 at *
  clear hg2
  generalize hg3 : w4.heap.size = gy1 at *
  clear hg3
  refine (rint_own (1) _ (by omega) (by omega)).mono ?_
  rw [show canF ((1 : Int) : Rat) = kI (1) from rfl]
  rintro _ w5 ⟨v5, rfl, e5, hb5⟩
  have HF5 := Lib.hid e5.frac
  clear e5
  generalize hk5 : kI (1) = k5 at *
  have HK5 := Lib.hid hk5
  clear hk5
  obtain ⟨A5, n5, c5, B5, m5, d5, rfl, _, _⟩ := id HF5.out
  obtain ⟨U8, hU8, hL8, hu8⟩ := boxF1 w5 (.bool k5.num.neg) (.slice A5 n5 c5) (.bool k5.den.neg) (.slice B5 m5 d5)
  obtain ⟨Z9, hZ9, hX20, hz9⟩ := box_prf U8 (.int .i64 0) (.slice none 0 0) (.slice none 0 0) (.slice none 0 0)
  obtain ⟨q0, q1, q2, q3⟩ := hX20.four
  obtain ⟨h0, h1, h2, h3⟩ := hX20.fourF
  have hX2 := hX20.set4 (.int .i64 2) (.slice none 0 0) (.slice (some ⟨w5.heap.size, 0, none⟩) 1 1) (.slice none 0 0)
  have hu9 := below_set4 hz9 (Nat.le_refl _) (.int .i64 2) (.slice none 0 0) (.slice (some ⟨w5.heap.size, 0, none⟩) 1 1) (.slice none 0 0)
  have b59 := below_then (below_then hb5 hu8 hb5.size) hu9 (by have := hb5.size; have := hu8.size; omega)
  go_upto_region 4 with (fail)
  clear hU8 hZ9 q0 q1 q2 q3 h0 h1 h2 h3 hX20 hz9
  generalize (((Z9.setCell ⟨U8.heap.size, 0, none⟩ (.int .i64 2)).setCell ⟨U8.heap.size, 1, none⟩ (.slice none 0 0)).setCell ⟨U8.heap.size, 2, none⟩ (.slice (some ⟨w5.heap.size, 0, none⟩) 1 1)).setCell ⟨U8.heap.size, 3, none⟩ (.slice none 0 0) = U9 at *
  have hx2 : PrfM U9 (.agg #[.int .i64 2, .slice none 0 0, .slice (some ⟨w5.heap.size, 0, none⟩) 1 1, .slice none 0 0]) ⟨2, [], [kI 1], []⟩ := by
    rw [HK5.out]
    exact ⟨_, _, _, _, _, _, _, _, _, rfl, FrsM.nil _, (FrsM.one hL8 (HF5.out.below hu8)).below hu9, FrsM.nil _, by simp, by simp⟩
  have HX2 := Lib.hid hx2
  have bU9 := below_then bU7 b59 bU7.size
  have hP9 := hP7.later b59
  have HP9 := Lib.hid (HP7.out.below b59)
  have hX19 := hX1.later b59
  have HX19 := Lib.hid (HX1.out.below b59)
  clear hx2 hL8 hu8 hu9 hb5 HF5 hP7 HP7 hX1 HX1 b59 bU7
  generalize hg4 : U8.heap.size = g2 at *
  clear hg4
  generalize hg5 : w5.heap.size = gy2 at *
  clear hg5
  go_cut [4, 5] (fun s4 s5 wx => KnownAt U9 s4 s5 wx)
  case first =>
    obtain ⟨x0, x1, x2⟩ := hP9.three
    have C0 := stab x0
    have C1 := stab x1
    have C2 := stab x2
    have hS0 := below_drew' U9
    clear x0 x1 x2
    refine region_plan 8 (.go 0 (.fork 1 (.fork 2 (.fork 3 (.go 4 (.go 5 (.go 6 (.go 7 (.go 8 (.go 9 .done)))))) 7 (.go 3 (.go 4 (.go 5 (.go 6 (.go 8 (.go 9 .done))))))) 7 (.go 2 (.go 3 (.go 4 (.go 5 (.go 6 (.go 8 (.go 9 .done)))))))) 7 (.go 1 (.go 2 (.go 3 (.go 4 (.go 5 (.go 6 (.go 8 (.go 9 .done)))))))))) (by kernel_rfl) (by kernel_rfl) ?_
    repeat (first | (refine plan_takeP (v := ?_) rfl rfl rfl ?_ ?_; rotate_left; (· (intro _ hSw; go_simp; (try go_bits); (try with_reducible rfl))); (try simp only [Act.put, List.setIfInBounds_toArray, List.set_cons_zero, List.set_cons_succ, List.getElem_toArray, List.getElem_cons_zero, List.getElem_cons_succ])) | (refine plan_take (v := ?_) rfl rfl rfl ?_ ?_; rotate_left; (· (intro _ hSw; go_simp; (try go_bits); (try with_reducible rfl))); (try simp only [Act.put, List.setIfInBounds_toArray, List.set_cons_zero, List.set_cons_succ, List.getElem_toArray, List.getElem_cons_zero, List.getElem_cons_succ])) | (refine plan_skip rfl rfl rfl ?_; (try simp only [Act.put, List.setIfInBounds_toArray, List.set_cons_zero, List.set_cons_succ, List.getElem_toArray, List.getElem_cons_zero, List.getElem_cons_succ])) | (refine plan_skipc rfl rfl rfl (by assumption) ?_; (try simp only [Act.put, List.setIfInBounds_toArray, List.set_cons_zero, List.set_cons_succ, List.getElem_toArray, List.getElem_cons_zero, List.getElem_cons_succ])))
    refine plan_fork rfl rfl (fun KR hKR => ?_) (fun KR hKR => ?_)
    · go_simp
      with_reducible refine (rint_own (-2) _ (by omega) (by omega)).mono ?_
      rw [show canF ((-2 : Int) : Rat) = kI (-2) from rfl]
      rintro _ wA ⟨vA, rfl, eA, hbA⟩
      have hSA := below_then hS0 hbA hS0.size
      obtain ⟨A6, n6, c6, B6, m6, d6, rfl, _, _⟩ := id eA.frac
      have hFA := eA.frac
      clear eA
      refine hKR.out _ _ (Or.inr hSA) ?_
      clear hKR KR
      (try simp only [Act.put, List.setIfInBounds_toArray, List.set_cons_zero, List.set_cons_succ, List.getElem_toArray, List.getElem_cons_zero, List.getElem_cons_succ])
      refine plan_fork rfl rfl (fun KR hKR => ?_) (fun KR hKR => ?_)
      · obtain ⟨WB, hWB, hLB, hbB⟩ := boxF1 wA (.bool (kI (-2)).num.neg) (.slice A6 n6 c6) (.bool (kI (-2)).den.neg) (.slice B6 m6 d6)
        go_simp
        have hSB := below_then hSA hbB hSA.size
        refine hKR.out _ _ (Or.inr hSB) ?_
        clear hKR KR hWB
        (try simp only [Act.put, List.setIfInBounds_toArray, List.set_cons_zero, List.set_cons_succ, List.getElem_toArray, List.getElem_cons_zero, List.getElem_cons_succ])
        have hYB := FrsM.one hLB (hFA.below hbB)
        clear hLB
        refine plan_fork rfl rfl (fun KR hKR => ?_) (fun KR hKR => ?_)
        · go_simp
          with_reducible refine (lowerBound_any _ _ kp [kI (-2)] 1 _ (HP9.out.below hSB) hYB (kp_ok (by decide)) (one_rs (kI_rs (by decide) (by decide))) (by decide) kp_len (by decide)).mono ?_
          rintro _ wC ⟨vC, rfl, eC, hbC⟩
          rw [kp_lowF] at eC
          rw [kp_low]
          have hSC := below_then hSB hbC hSB.size
          obtain ⟨A7, n7, c7, B7, m7, d7, rfl, _, _⟩ := id eC
          refine hKR.out _ _ (Or.inr hSC) ?_
          clear hKR KR
          (try simp only [Act.put, List.setIfInBounds_toArray, List.set_cons_zero, List.set_cons_succ, List.getElem_toArray, List.getElem_cons_zero, List.getElem_cons_succ])
          repeat (first | (refine plan_takeP (v := ?_) rfl rfl rfl ?_ ?_; rotate_left; (· (intro _ hSw; go_simp; (try go_bits); (try with_reducible rfl))); (try simp only [Act.put, List.setIfInBounds_toArray, List.set_cons_zero, List.set_cons_succ, List.getElem_toArray, List.getElem_cons_zero, List.getElem_cons_succ])) | (refine plan_take (v := ?_) rfl rfl rfl ?_ ?_; rotate_left; (· (intro _ hSw; go_simp; (try go_bits); (try with_reducible rfl))); (try simp only [Act.put, List.setIfInBounds_toArray, List.set_cons_zero, List.set_cons_succ, List.getElem_toArray, List.getElem_cons_zero, List.getElem_cons_succ])) | (refine plan_skip rfl rfl rfl ?_; (try simp only [Act.put, List.setIfInBounds_toArray, List.set_cons_zero, List.set_cons_succ, List.getElem_toArray, List.getElem_cons_zero, List.getElem_cons_succ])) | (refine plan_skipc rfl rfl rfl (by assumption) ?_; (try simp only [Act.put, List.setIfInBounds_toArray, List.set_cons_zero, List.set_cons_succ, List.getElem_toArray, List.getElem_cons_zero, List.getElem_cons_succ])))
          obtain ⟨WG, hWG, hGG, hbG⟩ := boxF1 wC (.bool false) (.slice none 0 0) (.bool false) (.slice none 0 0)
          refine plan_step rfl rfl (fun KR hKR => ?_)
          go_simp
          have hge := hSC.size
          have hSG := below_then hSC hbG hSC.size
          refine hKR.out _ _ (Or.inr hSG) ?_
          clear hKR KR hWG
          (try simp only [Act.put, List.setIfInBounds_toArray, List.set_cons_zero, List.set_cons_succ, List.getElem_toArray, List.getElem_cons_zero, List.getElem_cons_succ])
          have hLG := eC.below hbG
          obtain ⟨t0, t1, t2, t3⟩ := hGG.four
          obtain ⟨f0, f1, f2, f3⟩ := hGG.fourF
          refine plan_step rfl rfl (fun KR hKR => ?_)
          go_simp
          refine hKR.out _ _ (Or.inl (by decide)) ?_
          clear hKR KR
          (try simp only [Act.put, List.setIfInBounds_toArray, List.set_cons_zero, List.set_cons_succ, List.getElem_toArray, List.getElem_cons_zero, List.getElem_cons_succ])
          refine plan_step rfl rfl (fun KR hKR => ?_)
          go_simp
          refine hKR.out _ _ (Or.inl (by decide)) ?_
          clear hKR KR
          (try simp only [Act.put, List.setIfInBounds_toArray, List.set_cons_zero, List.set_cons_succ, List.getElem_toArray, List.getElem_cons_zero, List.getElem_cons_succ])
          refine plan_done ?_
          go_wp2_with fail
          go_meet
          exact KnownAt.mk hGG hLG hSG hge
        · obtain ⟨WG, hWG, hGG, hbG⟩ := boxF1 WB (.bool false) (.slice none 0 0) (.bool false) (.slice none 0 0)
          go_simp
          have hge := hSB.size
          have hSG := below_then hSB hbG hSB.size
          refine hKR.out _ _ (Or.inr hSG) ?_
          clear hKR KR hWG
          (try simp only [Act.put, List.setIfInBounds_toArray, List.set_cons_zero, List.set_cons_succ, List.getElem_toArray, List.getElem_cons_zero, List.getElem_cons_succ])
          have hYG := hYB.below hbG
          refine plan_step rfl rfl (fun KR hKR => ?_)
          go_simp
          with_reducible refine (lowerBound_any _ _ kp [kI (-2)] 1 _ (HP9.out.below hSG) hYG (kp_ok (by decide)) (one_rs (kI_rs (by decide) (by decide))) (by decide) kp_len (by decide)).mono ?_
          rintro _ wC ⟨vC, rfl, eC, hbC⟩
          rw [kp_lowF] at eC
          rw [kp_low]
          have hSC := below_then hSG hbC hSG.size
          obtain ⟨A7, n7, c7, B7, m7, d7, rfl, _, _⟩ := id eC
          refine hKR.out _ _ (Or.inr hSC) ?_
          clear hKR KR
          (try simp only [Act.put, List.setIfInBounds_toArray, List.set_cons_zero, List.set_cons_succ, List.getElem_toArray, List.getElem_cons_zero, List.getElem_cons_succ])
          have hG3 := hGG.later hbC
          repeat (first | (refine plan_takeP (v := ?_) rfl rfl rfl ?_ ?_; rotate_left; (· (intro _ hSw; go_simp; (try go_bits); (try with_reducible rfl))); (try simp only [Act.put, List.setIfInBounds_toArray, List.set_cons_zero, List.set_cons_succ, List.getElem_toArray, List.getElem_cons_zero, List.getElem_cons_succ])) | (refine plan_take (v := ?_) rfl rfl rfl ?_ ?_; rotate_left; (· (intro _ hSw; go_simp; (try go_bits); (try with_reducible rfl))); (try simp only [Act.put, List.setIfInBounds_toArray, List.set_cons_zero, List.set_cons_succ, List.getElem_toArray, List.getElem_cons_zero, List.getElem_cons_succ])) | (refine plan_skip rfl rfl rfl ?_; (try simp only [Act.put, List.setIfInBounds_toArray, List.set_cons_zero, List.set_cons_succ, List.getElem_toArray, List.getElem_cons_zero, List.getElem_cons_succ])) | (refine plan_skipc rfl rfl rfl (by assumption) ?_; (try simp only [Act.put, List.setIfInBounds_toArray, List.set_cons_zero, List.set_cons_succ, List.getElem_toArray, List.getElem_cons_zero, List.getElem_cons_succ])))
          obtain ⟨t0, t1, t2, t3⟩ := hG3.four
          obtain ⟨f0, f1, f2, f3⟩ := hG3.fourF
          refine plan_step rfl rfl (fun KR hKR => ?_)
          go_simp
          refine hKR.out _ _ (Or.inl (by decide)) ?_
          clear hKR KR
          (try simp only [Act.put, List.setIfInBounds_toArray, List.set_cons_zero, List.set_cons_succ, List.getElem_toArray, List.getElem_cons_zero, List.getElem_cons_succ])
          refine plan_step rfl rfl (fun KR hKR => ?_)
          go_simp
          refine hKR.out _ _ (Or.inl (by decide)) ?_
          clear hKR KR
          (try simp only [Act.put, List.setIfInBounds_toArray, List.set_cons_zero, List.set_cons_succ, List.getElem_toArray, List.getElem_cons_zero, List.getElem_cons_succ])
          refine plan_done ?_
          go_wp2_with fail
          go_meet
          exact KnownAt.mk hG3 eC hSC hge
      · obtain ⟨WG, hWG, hGG, hbG⟩ := boxF1 wA (.bool false) (.slice none 0 0) (.bool false) (.slice none 0 0)
        go_simp
        have hge := hSA.size
        have hSG := below_then hSA hbG hSA.size
        refine hKR.out _ _ (Or.inr hSG) ?_
        clear hKR KR hWG
        (try simp only [Act.put, List.setIfInBounds_toArray, List.set_cons_zero, List.set_cons_succ, List.getElem_toArray, List.getElem_cons_zero, List.getElem_cons_succ])
        have hFG := hFA.below hbG
        obtain ⟨WB, hWB, hLB, hbB⟩ := boxF1 WG (.bool (kI (-2)).num.neg) (.slice A6 n6 c6) (.bool (kI (-2)).den.neg) (.slice B6 m6 d6)
        refine plan_step rfl rfl (fun KR hKR => ?_)
        go_simp
        have hSB := below_then hSG hbB hSG.size
        refine hKR.out _ _ (Or.inr hSB) ?_
        clear hKR KR hWB
        (try simp only [Act.put, List.setIfInBounds_toArray, List.set_cons_zero, List.set_cons_succ, List.getElem_toArray, List.getElem_cons_zero, List.getElem_cons_succ])
        have hYB := FrsM.one hLB (hFG.below hbB)
        clear hLB
        have hG2 := hGG.later hbB
        refine plan_step rfl rfl (fun KR hKR => ?_)
        go_simp
        with_reducible refine (lowerBound_any _ _ kp [kI (-2)] 1 _ (HP9.out.below hSB) hYB (kp_ok (by decide)) (one_rs (kI_rs (by decide) (by decide))) (by decide) kp_len (by decide)).mono ?_
        rintro _ wC ⟨vC, rfl, eC, hbC⟩
        rw [kp_lowF] at eC
        rw [kp_low]
        have hSC := below_then hSB hbC hSB.size
        obtain ⟨A7, n7, c7, B7, m7, d7, rfl, _, _⟩ := id eC
        refine hKR.out _ _ (Or.inr hSC) ?_
        clear hKR KR
        (try simp only [Act.put, List.setIfInBounds_toArray, List.set_cons_zero, List.set_cons_succ, List.getElem_toArray, List.getElem_cons_zero, List.getElem_cons_succ])
        have hG3 := hG2.later hbC
        repeat (first | (refine plan_takeP (v := ?_) rfl rfl rfl ?_ ?_; rotate_left; (· (intro _ hSw; go_simp; (try go_bits); (try with_reducible rfl))); (try simp only [Act.put, List.setIfInBounds_toArray, List.set_cons_zero, List.set_cons_succ, List.getElem_toArray, List.getElem_cons_zero, List.getElem_cons_succ])) | (refine plan_take (v := ?_) rfl rfl rfl ?_ ?_; rotate_left; (· (intro _ hSw; go_simp; (try go_bits); (try with_reducible rfl))); (try simp only [Act.put, List.setIfInBounds_toArray, List.set_cons_zero, List.set_cons_succ, List.getElem_toArray, List.getElem_cons_zero, List.getElem_cons_succ])) | (refine plan_skip rfl rfl rfl ?_; (try simp only [Act.put, List.setIfInBounds_toArray, List.set_cons_zero, List.set_cons_succ, List.getElem_toArray, List.getElem_cons_zero, List.getElem_cons_succ])) | (refine plan_skipc rfl rfl rfl (by assumption) ?_; (try simp only [Act.put, List.setIfInBounds_toArray, List.set_cons_zero, List.set_cons_succ, List.getElem_toArray, List.getElem_cons_zero, List.getElem_cons_succ])))
        obtain ⟨t0, t1, t2, t3⟩ := hG3.four
        obtain ⟨f0, f1, f2, f3⟩ := hG3.fourF
        refine plan_step rfl rfl (fun KR hKR => ?_)
        go_simp
        refine hKR.out _ _ (Or.inl (by decide)) ?_
        clear hKR KR
        (try simp only [Act.put, List.setIfInBounds_toArray, List.set_cons_zero, List.set_cons_succ, List.getElem_toArray, List.getElem_cons_zero, List.getElem_cons_succ])
        refine plan_step rfl rfl (fun KR hKR => ?_)
        go_simp
        refine hKR.out _ _ (Or.inl (by decide)) ?_
        clear hKR KR
        (try simp only [Act.put, List.setIfInBounds_toArray, List.set_cons_zero, List.set_cons_succ, List.getElem_toArray, List.getElem_cons_zero, List.getElem_cons_succ])
        refine plan_done ?_
        go_wp2_with fail
        go_meet
        exact KnownAt.mk hG3 eC hSC hge
    · obtain ⟨WG, hWG, hGG, hbG⟩ := boxF1 U9.drew (.bool false) (.slice none 0 0) (.bool false) (.slice none 0 0)
      go_simp
      have hge := hS0.size
      have hSG := below_then hS0 hbG hS0.size
      refine hKR.out _ _ (Or.inr hSG) ?_
      clear hKR KR hWG
      (try simp only [Act.put, List.setIfInBounds_toArray, List.set_cons_zero, List.set_cons_succ, List.getElem_toArray, List.getElem_cons_zero, List.getElem_cons_succ])
      change Bk WG U9.heap.size 47 _ at hGG
      refine plan_step rfl rfl (fun KR hKR => ?_)
      go_simp
      with_reducible refine (rint_own (-2) _ (by omega) (by omega)).mono ?_
      rw [show canF ((-2 : Int) : Rat) = kI (-2) from rfl]
      rintro _ wA ⟨vA, rfl, eA, hbA⟩
      have hSA := below_then hSG hbA hSG.size
      obtain ⟨A6, n6, c6, B6, m6, d6, rfl, _, _⟩ := id eA.frac
      have hFA := eA.frac
      clear eA
      refine hKR.out _ _ (Or.inr hSA) ?_
      clear hKR KR
      (try simp only [Act.put, List.setIfInBounds_toArray, List.set_cons_zero, List.set_cons_succ, List.getElem_toArray, List.getElem_cons_zero, List.getElem_cons_succ])
      have hG := hGG.later hbA
      obtain ⟨WB, hWB, hLB, hbB⟩ := boxF1 wA (.bool (kI (-2)).num.neg) (.slice A6 n6 c6) (.bool (kI (-2)).den.neg) (.slice B6 m6 d6)
      refine plan_step rfl rfl (fun KR hKR => ?_)
      go_simp
      have hSB := below_then hSA hbB hSA.size
      refine hKR.out _ _ (Or.inr hSB) ?_
      clear hKR KR hWB
      (try simp only [Act.put, List.setIfInBounds_toArray, List.set_cons_zero, List.set_cons_succ, List.getElem_toArray, List.getElem_cons_zero, List.getElem_cons_succ])
      have hYB := FrsM.one hLB (hFA.below hbB)
      clear hLB
      have hG2 := hG.later hbB
      refine plan_step rfl rfl (fun KR hKR => ?_)
      go_simp
      with_reducible refine (lowerBound_any _ _ kp [kI (-2)] 1 _ (HP9.out.below hSB) hYB (kp_ok (by decide)) (one_rs (kI_rs (by decide) (by decide))) (by decide) kp_len (by decide)).mono ?_
      rintro _ wC ⟨vC, rfl, eC, hbC⟩
      rw [kp_lowF] at eC
      rw [kp_low]
      have hSC := below_then hSB hbC hSB.size
      obtain ⟨A7, n7, c7, B7, m7, d7, rfl, _, _⟩ := id eC
      refine hKR.out _ _ (Or.inr hSC) ?_
      clear hKR KR
      (try simp only [Act.put, List.setIfInBounds_toArray, List.set_cons_zero, List.set_cons_succ, List.getElem_toArray, List.getElem_cons_zero, List.getElem_cons_succ])
      have hG3 := hG2.later hbC
      repeat (first | (refine plan_takeP (v := ?_) rfl rfl rfl ?_ ?_; rotate_left; (· (intro _ hSw; go_simp; (try go_bits); (try with_reducible rfl))); (try simp only [Act.put, List.setIfInBounds_toArray, List.set_cons_zero, List.set_cons_succ, List.getElem_toArray, List.getElem_cons_zero, List.getElem_cons_succ])) | (refine plan_take (v := ?_) rfl rfl rfl ?_ ?_; rotate_left; (· (intro _ hSw; go_simp; (try go_bits); (try with_reducible rfl))); (try simp only [Act.put, List.setIfInBounds_toArray, List.set_cons_zero, List.set_cons_succ, List.getElem_toArray, List.getElem_cons_zero, List.getElem_cons_succ])) | (refine plan_skip rfl rfl rfl ?_; (try simp only [Act.put, List.setIfInBounds_toArray, List.set_cons_zero, List.set_cons_succ, List.getElem_toArray, List.getElem_cons_zero, List.getElem_cons_succ])) | (refine plan_skipc rfl rfl rfl (by assumption) ?_; (try simp only [Act.put, List.setIfInBounds_toArray, List.set_cons_zero, List.set_cons_succ, List.getElem_toArray, List.getElem_cons_zero, List.getElem_cons_succ])))
      obtain ⟨t0, t1, t2, t3⟩ := hG3.four
      obtain ⟨f0, f1, f2, f3⟩ := hG3.fourF
      refine plan_step rfl rfl (fun KR hKR => ?_)
      go_simp
      refine hKR.out _ _ (Or.inl (by decide)) ?_
      clear hKR KR
      (try simp only [Act.put, List.setIfInBounds_toArray, List.set_cons_zero, List.set_cons_succ, List.getElem_toArray, List.getElem_cons_zero, List.getElem_cons_succ])
      refine plan_step rfl rfl (fun KR hKR => ?_)
      go_simp
      refine hKR.out _ _ (Or.inl (by decide)) ?_
      clear hKR KR
      (try simp only [Act.put, List.setIfInBounds_toArray, List.set_cons_zero, List.set_cons_succ, List.getElem_toArray, List.getElem_cons_zero, List.getElem_cons_succ])
      refine plan_done ?_
      go_wp2_with fail
      go_meet
      exact KnownAt.mk hG3 eC hSC hge
  case rest =>
    obtain ⟨g, A, n, c, A', n', c', rfl, rfl, hB, hF, hbK⟩ := hcut
    have bUx := below_then bU9 hbK bU9.size
    have hPx := hP9.later hbK
    have hX1x := hX19.later hbK
    have hX2x := hX2.later hbK
    have HPx := Lib.hid (HP9.out.below hbK)
    have HX1x := Lib.hid (HX19.out.below hbK)
    have HX2x := Lib.hid (HX2.out.below hbK)
    obtain ⟨x0, x1, x2⟩ := hPx.three
    obtain ⟨p0, p1, p2, p3⟩ := hX1x.four
    obtain ⟨q0, q1, q2, q3⟩ := hX2x.four
    obtain ⟨r0, r1, r2, r3⟩ := hB.four
    clear hP9 hX19 hX2 HP9 HX19 HX2 bU9
    go_wp2_with fail
    have C0 := stab x0
    have C1 := stab x1
    have C2 := stab x2
    have C3 := stab p0
    have C4 := stab p1
    have C5 := stab p2
    have C6 := stab p3
    have C7 := stab q0
    have C8 := stab q1
    have C9 := stab q2
    have C10 := stab q3
    have C11 := stab r0
    have C12 := stab r1
    have C13 := stab r2
    have C14 := stab r3
    have hS0 := hB.drewB
    clear x0 x1 x2 p0 p1 p2 p3 q0 q1 q2 q3 r0 r1 r2 r3
    refine region_seq 26 [0, 1, 2, 3, 4, 5, 6, 7, 8, 9, 10, 11, 12, 13, 14, 15, 16, 17, 18, 19, 20, 21, 22, 23, 24, 25] (by kernel_rfl) (by kernel_rfl) ?_
    repeat (first | (refine seq_takeP (v := ?_) rfl rfl rfl ?_ ?_; rotate_left; (· (intro _ hSw; go_simp; (try go_bits); (try with_reducible rfl))); (try simp only [Act.put, List.setIfInBounds_toArray, List.set_cons_zero, List.set_cons_succ, List.getElem_toArray, List.getElem_cons_zero, List.getElem_cons_succ])) | (refine seq_take (v := ?_) rfl rfl rfl ?_ ?_; rotate_left; (· (intro _ hSw; go_simp; (try go_bits); (try with_reducible rfl))); (try simp only [Act.put, List.setIfInBounds_toArray, List.set_cons_zero, List.set_cons_succ, List.getElem_toArray, List.getElem_cons_zero, List.getElem_cons_succ])) | (refine seq_skip rfl rfl rfl ?_; (try simp only [Act.put, List.setIfInBounds_toArray, List.set_cons_zero, List.set_cons_succ, List.getElem_toArray, List.getElem_cons_zero, List.getElem_cons_succ])) | (refine seq_skipc rfl rfl rfl (by assumption) ?_; (try simp only [Act.put, List.setIfInBounds_toArray, List.set_cons_zero, List.set_cons_succ, List.getElem_toArray, List.getElem_cons_zero, List.getElem_cons_succ])))
    refine seq_step rfl rfl (fun KR hKR => ?_)
    go_simp
    with_reducible refine (verify_any _ _ kp ⟨2, [], [kI (-1)], []⟩ 1 _ (HPx.out.below hS0) (HX1x.out.below hS0) (kp_ok (by decide)) (RsL.nil 1) (one_rs (kI_rs (by decide) (by decide))) (RsL.nil 1) (by decide) kp_len (by decide)).mono ?_
    rw [kp_ver1]
    rintro _ y1 ⟨rfl, hb1⟩
    have hS1 := below_then hS0 hb1 hS0.size
    refine hKR.out _ _ (Or.inr hS1) ?_
    clear hKR KR
    (try simp only [Act.put, List.setIfInBounds_toArray, List.set_cons_zero, List.set_cons_succ, List.getElem_toArray, List.getElem_cons_zero, List.getElem_cons_succ])
    repeat (first | (refine seq_takeP (v := ?_) rfl rfl rfl ?_ ?_; rotate_left; (· (intro _ hSw; go_simp; (try go_bits); (try with_reducible rfl))); (try simp only [Act.put, List.setIfInBounds_toArray, List.set_cons_zero, List.set_cons_succ, List.getElem_toArray, List.getElem_cons_zero, List.getElem_cons_succ])) | (refine seq_take (v := ?_) rfl rfl rfl ?_ ?_; rotate_left; (· (intro _ hSw; go_simp; (try go_bits); (try with_reducible rfl))); (try simp only [Act.put, List.setIfInBounds_toArray, List.set_cons_zero, List.set_cons_succ, List.getElem_toArray, List.getElem_cons_zero, List.getElem_cons_succ])) | (refine seq_skip rfl rfl rfl ?_; (try simp only [Act.put, List.setIfInBounds_toArray, List.set_cons_zero, List.set_cons_succ, List.getElem_toArray, List.getElem_cons_zero, List.getElem_cons_succ])) | (refine seq_skipc rfl rfl rfl (by assumption) ?_; (try simp only [Act.put, List.setIfInBounds_toArray, List.set_cons_zero, List.set_cons_succ, List.getElem_toArray, List.getElem_cons_zero, List.getElem_cons_succ])))
    refine seq_step rfl rfl (fun KR hKR => ?_)
    go_simp
    with_reducible refine (verify_any _ _ kp ⟨2, [], [kI 1], []⟩ 1 _ (HPx.out.below hS1) (HX2x.out.below hS1) (kp_ok (by decide)) (RsL.nil 1) (one_rs (kI_rs (by decide) (by decide))) (RsL.nil 1) (by decide) kp_len (by decide)).mono ?_
    rw [kp_ver2]
    rintro _ y2 ⟨rfl, hb2⟩
    have hS2 := below_then hS1 hb2 hS1.size
    refine hKR.out _ _ (Or.inr hS2) ?_
    clear hKR KR
    (try simp only [Act.put, List.setIfInBounds_toArray, List.set_cons_zero, List.set_cons_succ, List.getElem_toArray, List.getElem_cons_zero, List.getElem_cons_succ])
    repeat (first | (refine seq_takeP (v := ?_) rfl rfl rfl ?_ ?_; rotate_left; (· (intro _ hSw; go_simp; (try go_bits); (try with_reducible rfl))); (try simp only [Act.put, List.setIfInBounds_toArray, List.set_cons_zero, List.set_cons_succ, List.getElem_toArray, List.getElem_cons_zero, List.getElem_cons_succ])) | (refine seq_take (v := ?_) rfl rfl rfl ?_ ?_; rotate_left; (· (intro _ hSw; go_simp; (try go_bits); (try with_reducible rfl))); (try simp only [Act.put, List.setIfInBounds_toArray, List.set_cons_zero, List.set_cons_succ, List.getElem_toArray, List.getElem_cons_zero, List.getElem_cons_succ])) | (refine seq_skip rfl rfl rfl ?_; (try simp only [Act.put, List.setIfInBounds_toArray, List.set_cons_zero, List.set_cons_succ, List.getElem_toArray, List.getElem_cons_zero, List.getElem_cons_succ])) | (refine seq_skipc rfl rfl rfl (by assumption) ?_; (try simp only [Act.put, List.setIfInBounds_toArray, List.set_cons_zero, List.set_cons_succ, List.getElem_toArray, List.getElem_cons_zero, List.getElem_cons_succ])))
    refine seq_step rfl rfl (fun KR hKR => ?_)
    go_simp
    with_reducible refine (rint_own 2 _ (by omega) (by omega)).mono ?_
    rw [show canF ((2 : Int) : Rat) = kI 2 from rfl]
    rintro _ y3 ⟨v3, rfl, e3, hb3⟩
    have hS3 := below_then hS2 hb3 hS2.size
    refine hKR.out _ _ (Or.inr hS3) ?_
    clear hKR KR
    (try simp only [Act.put, List.setIfInBounds_toArray, List.set_cons_zero, List.set_cons_succ, List.getElem_toArray, List.getElem_cons_zero, List.getElem_cons_succ])
    repeat (first | (refine seq_takeP (v := ?_) rfl rfl rfl ?_ ?_; rotate_left; (· (intro _ hSw; go_simp; (try go_bits); (try with_reducible rfl))); (try simp only [Act.put, List.setIfInBounds_toArray, List.set_cons_zero, List.set_cons_succ, List.getElem_toArray, List.getElem_cons_zero, List.getElem_cons_succ])) | (refine seq_take (v := ?_) rfl rfl rfl ?_ ?_; rotate_left; (· (intro _ hSw; go_simp; (try go_bits); (try with_reducible rfl))); (try simp only [Act.put, List.setIfInBounds_toArray, List.set_cons_zero, List.set_cons_succ, List.getElem_toArray, List.getElem_cons_zero, List.getElem_cons_succ])) | (refine seq_skip rfl rfl rfl ?_; (try simp only [Act.put, List.setIfInBounds_toArray, List.set_cons_zero, List.set_cons_succ, List.getElem_toArray, List.getElem_cons_zero, List.getElem_cons_succ])) | (refine seq_skipc rfl rfl rfl (by assumption) ?_; (try simp only [Act.put, List.setIfInBounds_toArray, List.set_cons_zero, List.set_cons_succ, List.getElem_toArray, List.getElem_cons_zero, List.getElem_cons_succ])))
    refine seq_step rfl rfl (fun KR hKR => ?_)
    go_simp
    with_reducible refine (sameF_any _ _ (kI 2) (kI 2) _ (hF.below hS3) e3.frac).mono ?_
    rw [sameF_refl]
    rintro _ y4 ⟨rfl, hb4⟩
    have hS4 := below_then hS3 hb4 hS3.size
    refine hKR.out _ _ (Or.inr hS4) ?_
    clear hKR KR
    (try simp only [Act.put, List.setIfInBounds_toArray, List.set_cons_zero, List.set_cons_succ, List.getElem_toArray, List.getElem_cons_zero, List.getElem_cons_succ])
    repeat (first | (refine seq_takeP (v := ?_) rfl rfl rfl ?_ ?_; rotate_left; (· (intro _ hSw; go_simp; (try go_bits); (try with_reducible rfl))); (try simp only [Act.put, List.setIfInBounds_toArray, List.set_cons_zero, List.set_cons_succ, List.getElem_toArray, List.getElem_cons_zero, List.getElem_cons_succ])) | (refine seq_take (v := ?_) rfl rfl rfl ?_ ?_; rotate_left; (· (intro _ hSw; go_simp; (try go_bits); (try with_reducible rfl))); (try simp only [Act.put, List.setIfInBounds_toArray, List.set_cons_zero, List.set_cons_succ, List.getElem_toArray, List.getElem_cons_zero, List.getElem_cons_succ])) | (refine seq_skip rfl rfl rfl ?_; (try simp only [Act.put, List.setIfInBounds_toArray, List.set_cons_zero, List.set_cons_succ, List.getElem_toArray, List.getElem_cons_zero, List.getElem_cons_succ])) | (refine seq_skipc rfl rfl rfl (by assumption) ?_; (try simp only [Act.put, List.setIfInBounds_toArray, List.set_cons_zero, List.set_cons_succ, List.getElem_toArray, List.getElem_cons_zero, List.getElem_cons_succ])))
    refine seq_step rfl rfl (fun KR hKR => ?_)
    go_simp
    with_reducible refine (rint_own 1 _ (by omega) (by omega)).mono ?_
    rw [show canF ((1 : Int) : Rat) = kI 1 from rfl]
    rintro _ y5 ⟨v5, rfl, e5, hb5⟩
    have hS5 := below_then hS4 hb5 hS4.size
    obtain ⟨A8, n8, c8, B8, m8, d8, rfl, _, _⟩ := id e5.frac
    refine hKR.out _ _ (Or.inr hS5) ?_
    clear hKR KR
    (try simp only [Act.put, List.setIfInBounds_toArray, List.set_cons_zero, List.set_cons_succ, List.getElem_toArray, List.getElem_cons_zero, List.getElem_cons_succ])
    repeat (first | (refine seq_takeP (v := ?_) rfl rfl rfl ?_ ?_; rotate_left; (· (intro _ hSw; go_simp; (try go_bits); (try with_reducible rfl))); (try simp only [Act.put, List.setIfInBounds_toArray, List.set_cons_zero, List.set_cons_succ, List.getElem_toArray, List.getElem_cons_zero, List.getElem_cons_succ])) | (refine seq_take (v := ?_) rfl rfl rfl ?_ ?_; rotate_left; (· (intro _ hSw; go_simp; (try go_bits); (try with_reducible rfl))); (try simp only [Act.put, List.setIfInBounds_toArray, List.set_cons_zero, List.set_cons_succ, List.getElem_toArray, List.getElem_cons_zero, List.getElem_cons_succ])) | (refine seq_skip rfl rfl rfl ?_; (try simp only [Act.put, List.setIfInBounds_toArray, List.set_cons_zero, List.set_cons_succ, List.getElem_toArray, List.getElem_cons_zero, List.getElem_cons_succ])) | (refine seq_skipc rfl rfl rfl (by assumption) ?_; (try simp only [Act.put, List.setIfInBounds_toArray, List.set_cons_zero, List.set_cons_succ, List.getElem_toArray, List.getElem_cons_zero, List.getElem_cons_succ])))
    obtain ⟨WB, hWB, hLB, hbB⟩ := boxF1 y5 (.bool (kI 1).num.neg) (.slice A8 n8 c8) (.bool (kI 1).den.neg) (.slice B8 m8 d8)
    refine seq_step rfl rfl (fun KR hKR => ?_)
    go_simp
    have hSB := below_then hS5 hbB hS5.size
    refine hKR.out _ _ (Or.inr hSB) ?_
    clear hKR KR hWB
    (try simp only [Act.put, List.setIfInBounds_toArray, List.set_cons_zero, List.set_cons_succ, List.getElem_toArray, List.getElem_cons_zero, List.getElem_cons_succ])
    repeat (first | (refine seq_takeP (v := ?_) rfl rfl rfl ?_ ?_; rotate_left; (· (intro _ hSw; go_simp; (try go_bits); (try with_reducible rfl))); (try simp only [Act.put, List.setIfInBounds_toArray, List.set_cons_zero, List.set_cons_succ, List.getElem_toArray, List.getElem_cons_zero, List.getElem_cons_succ])) | (refine seq_take (v := ?_) rfl rfl rfl ?_ ?_; rotate_left; (· (intro _ hSw; go_simp; (try go_bits); (try with_reducible rfl))); (try simp only [Act.put, List.setIfInBounds_toArray, List.set_cons_zero, List.set_cons_succ, List.getElem_toArray, List.getElem_cons_zero, List.getElem_cons_succ])) | (refine seq_skip rfl rfl rfl ?_; (try simp only [Act.put, List.setIfInBounds_toArray, List.set_cons_zero, List.set_cons_succ, List.getElem_toArray, List.getElem_cons_zero, List.getElem_cons_succ])) | (refine seq_skipc rfl rfl rfl (by assumption) ?_; (try simp only [Act.put, List.setIfInBounds_toArray, List.set_cons_zero, List.set_cons_succ, List.getElem_toArray, List.getElem_cons_zero, List.getElem_cons_succ])))
    refine seq_step rfl rfl (fun KR hKR => ?_)
    go_simp
    with_reducible refine (isFeasible_any _ _ kp [kI 1] 1 _ (HPx.out.below hSB) (FrsM.one hLB (e5.frac.below hbB)) (kp_ok (by decide)) (one_rs (kI_rs (by decide) (by decide))) (by decide) (by decide)).mono ?_
    rw [kp_feas]
    rintro _ y6 ⟨rfl, hb6⟩
    have hS6 := below_then hSB hb6 hSB.size
    refine hKR.out _ _ (Or.inr hS6) ?_
    clear hKR KR
    (try simp only [Act.put, List.setIfInBounds_toArray, List.set_cons_zero, List.set_cons_succ, List.getElem_toArray, List.getElem_cons_zero, List.getElem_cons_succ])
    repeat (first | (refine seq_takeP (v := ?_) rfl rfl rfl ?_ ?_; rotate_left; (· (intro _ hSw; go_simp; (try go_bits); (try with_reducible rfl))); (try simp only [Act.put, List.setIfInBounds_toArray, List.set_cons_zero, List.set_cons_succ, List.getElem_toArray, List.getElem_cons_zero, List.getElem_cons_succ])) | (refine seq_take (v := ?_) rfl rfl rfl ?_ ?_; rotate_left; (· (intro _ hSw; go_simp; (try go_bits); (try with_reducible rfl))); (try simp only [Act.put, List.setIfInBounds_toArray, List.set_cons_zero, List.set_cons_succ, List.getElem_toArray, List.getElem_cons_zero, List.getElem_cons_succ])) | (refine seq_skip rfl rfl rfl ?_; (try simp only [Act.put, List.setIfInBounds_toArray, List.set_cons_zero, List.set_cons_succ, List.getElem_toArray, List.getElem_cons_zero, List.getElem_cons_succ])) | (refine seq_skipc rfl rfl rfl (by assumption) ?_; (try simp only [Act.put, List.setIfInBounds_toArray, List.set_cons_zero, List.set_cons_succ, List.getElem_toArray, List.getElem_cons_zero, List.getElem_cons_succ])))
    refine seq_done ?_
    have bfin := below_then bUx hS6 bUx.size
    clear C0 C1 C2 C3 C4 C5 C6 C7 C8 C9 C10 C11 C12 C13 C14
    go_wp2
    go_ret
    exact ⟨rfl, bfin⟩
end Go.Proofs.YtpanffbgihhjnaaGreat
