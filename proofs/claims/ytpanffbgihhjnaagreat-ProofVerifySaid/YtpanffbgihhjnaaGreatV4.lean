/- Contracts and plain facts that the claim is built on, joined out of smaller texts. -/
import Derived.OpenShut
import Derived.Test.YtpanffbgihhjnaaGreatV3
set_option linter.unusedVariables false
set_option linter.unusedSimpArgs false
/- A region that draws its order, walked in one order: what only reads and yields may float, all else must come up alone. While it runs nothing older than the region changes, but by its last operations. -/
namespace Go.Proofs.YtpanffbgihhjnaaGreat
open Go.RowKit Pl

def floats (o : Oper) : Bool := match o.op with
  | .move .. => true
  | .assign .. => true
  | .pick .. => true
  | .load .. => true
  | .binOp .. => true
  | .unOp .. => true
  | .convert .. => true
  | .fieldAddr .. => true
  | .field .. => true
  | .indexAddr .. => true
  | .index .. => true
  | .extract .. => true
  | .slice .. => true
  | .nilCheck .. => true
  | .build .. => true
  | .call c => match c.callee with | .builtin .len => true | _ => false
  | _ => false
def pures (o : Oper) : Bool := match o.op with
  | .move .. => true
  | .assign .. => true
  | .pick .. => true
  | .binOp .. => true
  | .unOp .. => true
  | .fieldAddr .. => true
  | .field .. => true
  | .indexAddr .. => true
  | .extract .. => true
  | .build .. => true
  | _ => false
def pureI (ops : Array Oper) (i : Nat) : Bool := ((ops[i]?).map pures).getD false
section
variable {P : Program} {ops : Array Oper} {Q : Exit → Act → World → Prop} {md : Region.Mode} {S : World → Prop} {n : Nat}
def AnyG (P : Program) (md : Region.Mode) (ops : Array Oper) (Q : Exit → Act → World → Prop) (S : World → Prop) (n : Nat) : Nat → Array Bool → Act → World → Prop
  | 0, listed, a, w => Region.ready md ops listed = [] ∧ Q .normal a w
  | fuel + 1, listed, a, w => (Region.ready md ops listed = [] → Q .normal a w) ∧
      ∀ i ∈ Region.ready md ops listed, wpOp P ops Q i (fun a' w' => (n ≤ i ∨ (S w → S w')) ∧ AnyG P md ops Q S n fuel (listed.setIfInBounds i true) a' w') a w
theorem AnyG.any : ∀ (fuel : Nat) (listed : Array Bool) (a : Act) (w : World), AnyG P md ops Q S n fuel listed a w → wpAny P md ops Q fuel listed a w
  | 0, _, _, _, h => h
  | fuel + 1, _, _, _, h => ⟨h.1, fun i hi => wpOp_mono (fun a' w' h' => AnyG.any fuel _ a' w' h'.2) (h.2 i hi)⟩
theorem notl (listed : Array Bool) (k : Nat) (h0 : listed.getD k true = false) (h1 : listed.getD k false = true) : False := by
  rcases Nat.lt_or_ge k listed.size with h' | h'
  · simp [h'] at h0 h1; rw [h0] at h1; cases h1
  · simp [Array.getElem?_eq_none h'] at h1
theorem anyG_firstP {i : Nat} {oi : Oper} {v : Value} (hi : ops[i]? = some oi) (hsel : ∀ (j : Nat) (o : Oper) cs b, ops[j]? = some o → o.op ≠ .select cs b)
    (hQ : ∀ c a w, Q (.panic c) (a.put oi.dst v) w → Q (.panic c) a w) :
    ∀ (fuel : Nat) (listed : Array Bool) (a : Act) (w : World),
      (∀ j oj, ops[j]? = some oj → j ≠ i → listed.getD j true = false → (∀ e ∈ oj.after, Region.binds md e = true → e.on ≠ i) → oi.apart ops oj = true) →
      i ∈ Region.ready md ops listed → YieldsIf P ops (fun _ => True) oi v a →
      AnyG P md ops Q S n fuel (listed.setIfInBounds i true) (a.put oi.dst v) w → AnyG P md ops Q S n (fuel + 1) listed a w := by
  intro fuel
  induction fuel with
  | zero =>
    intro listed a w _ hr hy H
    refine ⟨fun h => (by rw [h] at hr; cases hr), fun j hj => ?_⟩
    by_cases hji : j = i
    · subst hji; exact hy.wpOp hi trivial ⟨.inr fun h => h, H⟩
    · have := ready_mono hj hji
      rw [H.1] at this
      cases this
  | succ fuel ih =>
    intro listed a w hfree hr hy H
    refine ⟨fun h => (by rw [h] at hr; cases hr), fun j hj => ?_⟩
    by_cases hji : j = i
    · subst hji; exact hy.wpOp hi trivial ⟨.inr fun h => h, H⟩
    · have h1 := H.2 j (ready_mono hj hji)
      obtain ⟨hjun, oj, hoj, hall⟩ := mem_ready.1 hj
      have hnot : ∀ e ∈ oj.after, Region.binds md e = true → e.on ≠ i := fun e he hb heq => by
        have h1 := hall e he hb
        rw [heq] at h1
        exact notl listed i (mem_ready.1 hr).1 h1
      have h2 := wpOp_putIf hoj (hfree j oj hoj hji hjun hnot) (fun cs b => hsel i oi cs b hi) (fun cs b => hsel j oj cs b hoj) hQ hy h1
      have hfree' : ∀ k ok, ops[k]? = some ok → k ≠ i → (listed.setIfInBounds j true).getD k true = false →
          (∀ e ∈ ok.after, Region.binds md e = true → e.on ≠ i) → oi.apart ops ok = true := fun k ok hk hki hun hno => by
        refine hfree k ok hk hki ?_ hno
        by_cases hjk : j = k
        · subst hjk; exact hjun
        · rw [getD_set_ne true hjk] at hun; exact hun
      refine wpOp_mono (fun a' w' h3 => ⟨h3.2.1, ih (listed.setIfInBounds j true) a' w' hfree' (ready_mono hr (Ne.symm hji)) h3.1 ?_⟩) h2
      rw [Array.setIfInBounds_comm _ _ hji]
      exact h3.2.2
theorem anyG_takeP {i : Nat} {oi : Oper} {v : Value} {fuel : Nat} {listed : Array Bool} {a : Act} {w : World} (hi : ops[i]? = some oi)
    (hs : Region.noSelect ops = true) (hf : Region.free md ops listed i = true) (hr : (Region.ready md ops listed).contains i = true)
    (hQ : ∀ c a w, Q (.panic c) (a.put oi.dst v) w → Q (.panic c) a w) (hy : YieldsIf P ops (fun _ => True) oi v a)
    (h : AnyG P md ops Q S n fuel (listed.setIfInBounds i true) (a.put oi.dst v) w) : AnyG P md ops Q S n (fuel + 1) listed a w :=
  anyG_firstP hi (Region.noSelect_spec hs) hQ fuel listed a w (Region.free_spec hi hf) (by simpa using hr) hy h
end
def depD (md : Region.Mode) (ops : Array Oper) (i : Nat) : Array Bool := (List.range ops.size).foldl (fun d j => d.push (((ops[j]?).map fun o => o.after.any fun e => Region.binds md e && (e.on == i || d.getD e.on false)).getD false)) #[]
def depOK (md : Region.Mode) (ops : Array Oper) (i : Nat) (d : Array Bool) (j : Nat) : Bool := !d.getD j false || ((ops[j]?).map fun o => o.after.any fun e => Region.binds md e && (e.on == i || d.getD e.on false)).getD false
def lastWaitT (md : Region.Mode) (ops : Array Oper) (n : Nat) (listed : Array Bool) (i : Nat) : Bool :=
  (List.range ops.size).all fun j => (decide (j < n) || (depD md ops i).getD j false) && (depOK md ops i (depD md ops i) j && (!(depD md ops i).getD j false || !listed.getD j true))
def floatI (ops : Array Oper) (n i : Nat) : Bool := decide (i < n) && ((ops[i]?).map floats).getD false
def seqAt (md : Region.Mode) (ops : Array Oper) (n : Nat) (listed : Array Bool) (i : Nat) : Bool :=
  if floatI ops n i = true then Region.free md ops listed i && ((Region.ready md ops listed).contains i && (pureI ops i || lastWaitT md ops n listed i)) else Region.ready md ops listed == [i]
def seqGo (md : Region.Mode) (ops : Array Oper) (n : Nat) : Bool → List Nat → Array Bool → Bool
  | _, [], listed => Region.ready md ops listed == []
  | d, i :: is, listed => seqAt md ops n listed i && (!(d && (floatI ops n i && !pureI ops i)) && seqGo md ops n (d || decide (n ≤ i)) is (listed.setIfInBounds i true))
def seqOK (md : Region.Mode) (ops : Array Oper) (n : Nat) (is : List Nat) : Bool := Region.noSelect ops && (seqGo md ops n false is (Array.replicate ops.size false) && decide (is.length = ops.size))

section
variable {P : Program} {ops : Array Oper} {Q : Exit → Act → World → Prop} {md : Region.Mode} {S : World → Prop} {n : Nat}
def wpSeq (P : Program) (ops : Array Oper) (Q : Exit → Act → World → Prop) (S : World → Prop) (n : Nat) : List Nat → Act → World → Prop
  | [], a, w => Q .normal a w
  | i :: is, a, w => match ops[i]? with
    | none => True
    | some o => if floatI ops n i = true then ∃ v, (if pureI ops i = true then YieldsIf P ops (fun _ => True) o v a else YieldsIf P ops S o v a) ∧ wpSeq P ops Q S n is (a.put o.dst v) w
      else if Region.wanted o (yielded ops a.tmps) = true then Oper.wp P o a w (fun a' w' => (n ≤ i ∨ S w') ∧ wpSeq P ops Q S n is a' w') Q
      else (n ≤ i ∨ S w) ∧ wpSeq P ops Q S n is (a.put o.dst undef) w
theorem anyG_firstT {i : Nat} {oi : Oper} {v : Value} {d : Array Bool} (hi : ops[i]? = some oi) (hsel : ∀ (j : Nat) (o : Oper) cs b, ops[j]? = some o → o.op ≠ .select cs b)
    (hd1 : ∀ j, n ≤ j → j < ops.size → d.getD j false = true) (hd2 : ∀ j o, ops[j]? = some o → d.getD j false = true → ∃ e ∈ o.after, Region.binds md e = true ∧ (e.on = i ∨ (e.on < ops.size ∧ d.getD e.on false = true)))
    (hQ : ∀ c a w, Q (.panic c) (a.put oi.dst v) w → Q (.panic c) a w) :
    ∀ (fuel : Nat) (listed : Array Bool) (a : Act) (w : World),
      (∀ j oj, ops[j]? = some oj → j ≠ i → listed.getD j true = false → (∀ e ∈ oj.after, Region.binds md e = true → e.on ≠ i) → oi.apart ops oj = true) →
      (∀ j, j < ops.size → d.getD j false = true → listed.getD j true = false) →
      i ∈ Region.ready md ops listed → YieldsIf P ops S oi v a → S w →
      AnyG P md ops Q S n fuel (listed.setIfInBounds i true) (a.put oi.dst v) w → AnyG P md ops Q S n (fuel + 1) listed a w := by
  intro fuel
  induction fuel with
  | zero =>
    intro listed a w _ _ hr hy hS H
    refine ⟨fun h => (by rw [h] at hr; cases hr), fun j hj => ?_⟩
    by_cases hji : j = i
    · subst hji; exact hy.wpOp hi hS ⟨.inr fun h => h, H⟩
    · have := ready_mono hj hji
      rw [H.1] at this
      cases this
  | succ fuel ih =>
    intro listed a w hfree hun hr hy hS H
    refine ⟨fun h => (by rw [h] at hr; cases hr), fun j hj => ?_⟩
    by_cases hji : j = i
    · subst hji; exact hy.wpOp hi hS ⟨.inr fun h => h, H⟩
    · have h1 := H.2 j (ready_mono hj hji)
      obtain ⟨hjun, oj, hoj, hall⟩ := mem_ready.1 hj
      have hiun := (mem_ready.1 hr).1
      have hnot : ∀ e ∈ oj.after, Region.binds md e = true → e.on ≠ i := fun e he hb heq => by
        have h1 := hall e he hb
        rw [heq] at h1
        exact notl listed i hiun h1
      have hjd : d.getD j false = false := by
        cases hc : d.getD j false with
        | false => rfl
        | true =>
          obtain ⟨e, he, hb, hor⟩ := hd2 j oj hoj hc
          rcases hor with h2 | ⟨h2, h3⟩
          · exact absurd h2 (hnot e he hb)
          · exact (notl listed e.on (hun e.on h2 h3) (hall e he hb)).elim
      have hjn : ¬ n ≤ j := fun hle => by
        have := hd1 j hle (Array.getElem?_eq_some_iff.1 hoj).1
        rw [hjd] at this; cases this
      have h2 := wpOp_putIf hoj (hfree j oj hoj hji hjun hnot) (fun cs b => hsel i oi cs b hi) (fun cs b => hsel j oj cs b hoj) hQ hy h1
      have hfree' : ∀ k ok, ops[k]? = some ok → k ≠ i → (listed.setIfInBounds j true).getD k true = false →
          (∀ e ∈ ok.after, Region.binds md e = true → e.on ≠ i) → oi.apart ops ok = true := fun k ok hk hki hun hno => by
        refine hfree k ok hk hki ?_ hno
        by_cases hjk : j = k
        · subst hjk; exact hjun
        · rw [getD_set_ne true hjk] at hun; exact hun
      have hun' : ∀ k, k < ops.size → d.getD k false = true → (listed.setIfInBounds j true).getD k true = false := fun k hk hdk => by
        have hjk : j ≠ k := fun e => by subst e; rw [hjd] at hdk; cases hdk
        rw [getD_set_ne true hjk]
        exact hun k hk hdk
      refine wpOp_mono (fun a' w' h3 => ⟨h3.2.1, ih (listed.setIfInBounds j true) a' w' hfree' hun' (ready_mono hr (Ne.symm hji)) h3.1 ((h3.2.1.resolve_left hjn) hS) ?_⟩) h2
      rw [Array.setIfInBounds_comm _ _ hji]
      exact h3.2.2
theorem anyG_takeT {i : Nat} {oi : Oper} {v : Value} {fuel : Nat} {listed : Array Bool} {a : Act} {w : World} (hi : ops[i]? = some oi)
    (hs : Region.noSelect ops = true) (hf : Region.free md ops listed i = true) (hr : (Region.ready md ops listed).contains i = true) (hw : lastWaitT md ops n listed i = true)
    (hQ : ∀ c a w, Q (.panic c) (a.put oi.dst v) w → Q (.panic c) a w) (hy : YieldsIf P ops S oi v a) (hS : S w)
    (h : AnyG P md ops Q S n fuel (listed.setIfInBounds i true) (a.put oi.dst v) w) : AnyG P md ops Q S n (fuel + 1) listed a w := by
  simp only [lastWaitT, List.all_eq_true, List.mem_range, Bool.and_eq_true, Bool.or_eq_true, decide_eq_true_eq] at hw
  refine anyG_firstT (d := depD md ops i) hi (Region.noSelect_spec hs) ?_ ?_ hQ fuel listed a w (Region.free_spec hi hf) ?_ (by simpa using hr) hy hS h
  · intro j hj hjs
    rcases (hw j hjs).1 with h1 | h1
    · omega
    · exact h1
  · intro j o ho hdj
    have hjs := (Array.getElem?_eq_some_iff.1 ho).1
    have h1 := (hw j hjs).2.1
    unfold depOK at h1
    rw [hdj, ho] at h1
    simp only [Bool.not_true, Bool.false_or, Option.map_some, Option.getD_some] at h1
    obtain ⟨e, he, hb⟩ := Array.any_eq_true'.1 h1
    simp only [Bool.and_eq_true, Bool.or_eq_true, beq_iff_eq] at hb
    refine ⟨e, he, hb.1, hb.2.imp id fun h3 => ⟨?_, h3⟩⟩
    rcases Nat.lt_or_ge e.on ops.size with h4 | h4
    · exact h4
    · exfalso
      have hsz : (depD md ops i).size ≤ ops.size := by
        unfold depD
        have : ∀ (l : List Nat) (d : Array Bool) (f : Array Bool → Nat → Bool), (l.foldl (fun d j => d.push (f d j)) d).size = d.size + l.length := by
          intro l
          induction l with
          | nil => intro d f; simp
          | cons x l ih => intro d f; simp [ih]; omega
        have h5 := this (List.range ops.size) #[] (fun d j => ((ops[j]?).map fun o => o.after.any fun e => Region.binds md e && (e.on == i || d.getD e.on false)).getD false)
        simp only [List.size_toArray, List.length_nil, List.length_range, Nat.zero_add] at h5
        exact Nat.le_of_eq h5
      have : (depD md ops i).getD e.on false = false := by
        simp [Array.getElem?_eq_none (show (depD md ops i).size ≤ e.on by omega)]
      rw [this] at h3; cases h3
  · intro j hj hdj
    have h1 := (hw j hj).2.2
    rw [hdj] at h1
    simpa using h1
theorem AnyG.of_seq (hQ : ∀ c a d v w, Q (.panic c) (a.put d v) w → Q (.panic c) a w) (hs : Region.noSelect ops = true) :
    ∀ (is : List Nat) (listed : Array Bool) (a : Act) (w : World) (d : Bool), seqGo md ops n d is listed = true → (d = false → S w) → wpSeq P ops Q S n is a w → AnyG P md ops Q S n is.length listed a w := by
  intro is
  induction is with
  | nil =>
    intro listed a w d hgo _ h
    exact ⟨by simpa [seqGo] using hgo, h⟩
  | cons i is ih =>
    intro listed a w d hgo hS h
    simp only [seqGo, Bool.and_eq_true] at hgo
    obtain ⟨hat, hd, hgo⟩ := hgo
    unfold wpSeq at h
    unfold seqAt at hat
    split at hat
    · rename_i hf
      simp only [Bool.and_eq_true] at hat
      obtain ⟨h1, h2, h3⟩ := hat
      have hf' := hf
      simp only [floatI, Bool.and_eq_true, decide_eq_true_eq] at hf'
      obtain ⟨o, ho⟩ : ∃ o, ops[i]? = some o := by
        cases hc : ops[i]? with
        | none => rw [hc] at hf'; simp at hf'
        | some o => exact ⟨o, rfl⟩
      simp only [ho] at h
      rw [if_pos hf] at h
      obtain ⟨v, hy, hr⟩ := h
      by_cases hp : pureI ops i = true
      · rw [if_pos hp] at hy
        exact anyG_takeP ho hs h1 h2 (fun c a w => hQ c a o.dst v w) hy (ih _ _ w _ hgo (fun hd' => hS (by simp at hd'; exact hd'.1)) hr)
      · rw [if_neg hp] at hy
        have hdf : d = false := by rw [hf] at hd; simpa [hp] using hd
        have hw := hS hdf
        exact anyG_takeT ho hs h1 h2 (by simpa [hp] using h3) (fun c a w => hQ c a o.dst v w) hy hw (ih _ _ w _ hgo (fun _ => hw) hr)
    · rename_i hf
      have hr : Region.ready md ops listed = [i] := by simpa using hat
      have hi : i ∈ Region.ready md ops listed := by rw [hr]; exact List.mem_singleton.2 rfl
      obtain ⟨_, o, ho, _⟩ := mem_ready.1 hi
      simp only [ho] at h
      rw [if_neg hf] at h
      refine ⟨fun h0 => (by rw [hr] at h0; cases h0), fun j hj => ?_⟩
      rw [hr] at hj
      obtain rfl : j = i := by simpa using hj
      have h : wpOp P ops Q j (fun a' w' => (n ≤ j ∨ S w') ∧ wpSeq P ops Q S n is a' w') a w := by
        unfold wpOp
        rw [ho]
        show if Region.wanted o (yielded ops a.tmps) = true then _ else _
        split
        · rename_i hw; rw [if_pos hw] at h; exact .inl h
        · rename_i hw; rw [if_neg hw] at h; exact h
      exact wpOp_mono (fun a' w' h' => ⟨h'.1.imp id (fun h _ => h), ih _ a' w' _ hgo (fun hle => h'.1.resolve_left (by simp at hle; omega)) h'.2⟩) h
theorem region_seq {id : Nat} {l : List Oper} {a : Act} {w : World} (n : Nat) (is : List Nat) (hm : P.follows .mixedOrders = true) (hok : seqOK .any l.toArray n is = true)
    (h : wpSeq P l.toArray (NoPanic Q) (fun w' => Below w.heap.size w w') n is a w.drew) : (Code.region id l.toArray true).wp P Q a w := by
  simp only [seqOK, Bool.and_eq_true, decide_eq_true_eq] at hok
  obtain ⟨hs, hgo, hl⟩ := hok
  refine wp_region_noPanic (wp_region_any hm (AnyG.any _ _ _ _ (S := fun w' => Below w.heap.size w w') (n := n) ?_))
  rw [← hl]
  have := AnyG.of_seq (P := P) (Q := NoPanic Q) (S := fun w' => Below w.heap.size w w') (fun c a d v w h => h) hs is _ a w.drew false hgo (fun _ => (Below.refl _ _).drew) h
  rwa [hl] at this ⊢
theorem seq_done {a : Act} {w : World} (h : Q .normal a w) : wpSeq P ops (NoPanic Q) S n [] a w := h
theorem seq_take {o : Oper} {i : Nat} {is : List Nat} {a : Act} {w : World} {v : Value} (ho : ops[i]? = some o) (hf : (floatI ops n i && !pureI ops i) = true) (hw : Region.wanted o (yielded ops a.tmps) = true) (hy : ∀ w', S w' → (execOp a.eval o).run P w' = .ok (.value v) w') (h : wpSeq P ops Q S n is (a.put o.dst v) w) : wpSeq P ops Q S n (i :: is) a w := by
  simp only [Bool.and_eq_true, Bool.not_eq_true'] at hf
  unfold wpSeq
  rw [ho]
  show if _ then _ else _
  rw [if_pos hf.1]
  exact ⟨v, by rw [if_neg (by simp [hf.2])]; exact .inl ⟨hw, hy⟩, h⟩
theorem seq_takeP {o : Oper} {i : Nat} {is : List Nat} {a : Act} {w : World} {v : Value} (ho : ops[i]? = some o) (hf : (floatI ops n i && pureI ops i) = true) (hw : Region.wanted o (yielded ops a.tmps) = true) (hy : ∀ w', True → (execOp a.eval o).run P w' = .ok (.value v) w') (h : wpSeq P ops Q S n is (a.put o.dst v) w) : wpSeq P ops Q S n (i :: is) a w := by
  simp only [Bool.and_eq_true] at hf
  unfold wpSeq
  rw [ho]
  show if _ then _ else _
  rw [if_pos hf.1]
  exact ⟨v, by rw [if_pos hf.2]; exact .inl ⟨hw, hy⟩, h⟩
theorem seq_skip {o : Oper} {i : Nat} {is : List Nat} {a : Act} {w : World} (ho : ops[i]? = some o) (hf : floatI ops n i = true) (hw : Region.wanted o (yielded ops a.tmps) = false) (h : wpSeq P ops Q S n is (a.put o.dst undef) w) : wpSeq P ops Q S n (i :: is) a w := by
  unfold wpSeq
  rw [ho]
  show if _ then _ else _
  rw [if_pos hf]
  exact ⟨undef, by split <;> exact .inr ⟨hw, rfl⟩, h⟩
theorem seq_step {o : Oper} {i : Nat} {is : List Nat} {a : Act} {w : World} (ho : ops[i]? = some o) (hf : floatI ops n i = false)
    (h : ∀ K' : Act → World → Prop, Shut (∀ a w, (n ≤ i ∨ S w) → wpSeq P ops Q S n is a w → K' a w) → if Region.wanted o (yielded ops a.tmps) = true then Oper.wp P o a w K' Q else K' (a.put o.dst undef) w) : wpSeq P ops Q S n (i :: is) a w := by
  have h1 := h (fun a' w' => (n ≤ i ∨ S w') ∧ wpSeq P ops Q S n is a' w') (fun a w h1 h2 => ⟨h1, h2⟩)
  unfold wpSeq
  rw [ho]
  show if _ then _ else _
  rw [if_neg (by simp [hf])]
  exact h1
end
theorem stab {w : World} {p : Addr} {v : Value} (h : w.cell? p = some v) : ∀ w', Below w.heap.size w w' → w'.cell? p = some v := fun _ hb => cell_keep hb h
end Go.Proofs.YtpanffbgihhjnaaGreat

/- Walks: package proof: LowerBound. -/
namespace Go.Proofs.YtpanffbgihhjnaaGreat
open Go.RowKit Pl
attribute [local go_sem ↓] Go.wp_at_zero Go.wp_at_succ

namespace Pl
def lowF (p : LPd) (ys : List RF) : RF := if lowB p ys = true then canF (dotQ ys p.right p.right.length) else zeroF
theorem lowF_no {p : LPd} {ys : List RF} (h : lowB p ys = false) : lowF p ys = zeroF := by simp [lowF, h]
theorem lowF_yes {p : LPd} {ys : List RF} (h : lowB p ys = true) : lowF p ys = canF (dotQ ys p.right p.right.length) := by simp [lowF, h]
end Pl
def LowPost (p : LPd) (ys : List RF) (w : World) (e : Ending) (w' : World) : Prop :=
  ∃ v', e = .returned (.tuple #[v', .bool (lowB p ys)]) ∧ FracM w' v' (lowF p ys) ∧ Below w.heap.size w w'
theorem fin_low {w w2 : World} {g : Nat} {x y z u b s b' s' : Value} {a : RF} {p : LPd} {ys : List RF} {ok : Bool} (hR : Bk w2 g 47 [x, y, z, u]) (d : FracM w2 (.agg #[b, s, b', s']) a) (hbe : Below w.heap.size w w2) (hg : w.heap.size ≤ g) (h : lowB p ys = ok ∧ lowF p ys = a) :
    LowPost p ys w (.returned (.tuple #[.agg [b, s, b', s'].toArray, .bool ok])) ((((w2.setCell ⟨g, 0, none⟩ b).setCell ⟨g, 1, none⟩ s).setCell ⟨g, 2, none⟩ b').setCell ⟨g, 3, none⟩ s') := by
  obtain ⟨v', q1, q2, q3⟩ := fin_frac hR d hbe hg
  injection q1 with q1
  subst q1
  rw [← h.2] at q2
  exact ⟨_, by rw [h.1], q2, q3⟩

set_option maxRecDepth 100000 in
set_option maxHeartbeats 4000000 in
theorem lowerBound_any (v1 v2 : Value) (p : LPd) (ys : List RF) (K : Nat) (w : World) (h : LpM w v1 p) (h2 : FrsM w v2 ys) (ok : p.Ok K) (hy : RsL K ys) (hK : 1 ≤ K) (hlen : ∀ (j : Nat) (c : List En), p.cols[j]? = some c → c.length ≤ 64) (hs : 1 + 64 * (2 * K + 1) ≤ 34359738368) :
    Calls Tryz.prog 19 #[v1, v2] w (LowPost p ys w) := by
  have hs2 : 2 * K ≤ 34359738368 := by omega
  obtain ⟨A, n, c, A', N, c', A'', m, c'', rfl, hc, hv, hr⟩ := id h
  obtain ⟨W, hW, hX, hbe0⟩ := box_lp w (.slice A n c) (.slice A' N c') (.slice A'' m c'')
  obtain ⟨W1, hW1, hR, hbe1⟩ := boxF1 W (.bool false) (.slice none 0 0) (.bool false) (.slice none 0 0)
  have hX := hX.later hbe1
  have hbe := below_then hbe0 hbe1 hbe0.size
  have hsz : W.heap.size = w.heap.size + 1 := by rw [← hW]; simp
  rw [hsz] at hR
  obtain ⟨x0, x1, x2⟩ := hX.three
  obtain ⟨m1, m2, m3⟩ := hv.len
  obtain ⟨r1, r2, r3⟩ := hr.len
  obtain ⟨k1, k2, k3⟩ := hc.len
  obtain ⟨Ay, cy, rfl, hy1, hy2⟩ := h2.shape
  have HM1 := Lib.hid m1
  have HR1 := Lib.hid r1
  have HK1 := Lib.hid k1
  have HOK := Lib.hid ok
  have HLEN := Lib.hid hlen
  generalize hyl : ys.length = L at *
  have HYL := Lib.hid hyl
  clear m1 r1 k1 hyl ok hlen hbe0 hbe1
  go_enter Tryz.func19, Tryz.ntmps19
  go_wp2_with fail
  clear hW hW1 hsz x0 x1 x2
  refine (validate_any _ p K _ (h.below hbe) HOK.out).mono ?_
  rintro _ w1 ⟨rfl, hb1⟩
  have hX1 := hX.later hb1
  have hR1 := hR.later hb1
  have hbe1 := below_then hbe hb1 hbe.size
  clear hX hR hbe hb1
  by_cases hz : lpErr p = 0
  rotate_left
  · have hz' : (lpErr p != 0) = true := by simpa using hz
    have HLB := Lib.hid (lowB_1 (ys := ys) hz)
    clear hz
    obtain ⟨c0, c1, c2, c3⟩ := hR1.four
    obtain ⟨f0, f1, f2, f3⟩ := hR1.fourF
    go_wp2
    refine ret_ct Tryz.results19 Tryz.underlying47 (by kernel_rfl) rfl (g := w.heap.size + 1) (hR1.set4 _ _ _ _) rfl ?_
    exact fin_low hR1 (FracM.zero w1) hbe1 (by omega) ⟨HLB.out, lowF_no HLB.out⟩
  have hz' : (lpErr p != 0) = false := by simpa using hz
  have HZ := Lib.hid hz
  clear hz
  by_cases hl : L = m
  rotate_left
  · have hl' : ((L : Int) != (m : Int)) = true := by simp; omega
    have HLB : Hid (lowB p ys = false) := Lib.hid (lowB_2 (by rw [HYL.out, ← HR1.out]; exact hl))
    clear hl
    obtain ⟨x0, x1, x2⟩ := hX1.three
    obtain ⟨c0, c1, c2, c3⟩ := hR1.four
    obtain ⟨f0, f1, f2, f3⟩ := hR1.fourF
    go_wp2
    refine ret_ct Tryz.results19 Tryz.underlying47 (by kernel_rfl) rfl (g := w.heap.size + 1) (hR1.set4 _ _ _ _) rfl ?_
    exact fin_low hR1 (FracM.zero w1) hbe1 (by omega) ⟨HLB.out, lowF_no HLB.out⟩
  have hl' : ((L : Int) != (m : Int)) = false := by simp; omega
  have HLM : Hid (ys.length = p.right.length) := Lib.hid (by rw [HYL.out, ← HR1.out]; exact hl)
  clear hl
  obtain ⟨x0, x1, x2⟩ := hX1.three
  go_wp2
  clear x0 x1 x2 hl' hz'
  go_loopw [23] (fun i wr => ∃ j : Nat, j ≤ N ∧ i = .int .i64 j ∧ Below w.heap.size w wr ∧ Bk wr w.heap.size 26 [.slice A n c, .slice A' N c', .slice A'' m c''] ∧ Bk wr (w.heap.size + 1) 47 [.bool false, .slice none 0 0, .bool false, .slice none 0 0] ∧ lowTo p ys j) (fun i _ => N - (intOf i).toNat)
  case atStart => exact ⟨0, by omega, rfl, hbe1, hX1, hR1, lowTo_zero _ _⟩
  case round =>
    clear hbe1 hX1 hR1
    obtain ⟨j, hj, rfl, hbe, hX, hR, hlow⟩ := hrel
    have HLOW := Lib.hid hlow
    clear hlow
    rcases Nat.lt_or_ge j N with hjl | hjl
    · obtain ⟨es, hes⟩ := get_someC (cs := p.cols) (i := j) (by rw [← HM1.out]; exact hjl)
      obtain ⟨z1, z2, z3, z4, z5⟩ := lpErr_zero HZ.out
      obtain ⟨bc, offc, Ac, cc, rfl, hltc, hcellc, hvm⟩ := hv.elem (Below.refl _ _) hes
      have hcell1 := cell_keep hbe hcellc
      obtain ⟨f, hf⟩ := get_some (fs := p.cost) (i := j) (by rw [z3, ← HM1.out]; exact hjl)
      obtain ⟨b, off, A1, n1, k1, A2, n2, k2, rfl, hlt, hcA, hmf⟩ := hc.elem hbe hf
      have hin : inR ys.length es := by rw [HLM.out]; exact z4 j es hes
      have hse := (HOK.out.2.2 j es hes).2
      have hsE : 1 + es.length * (2 * K + 1) ≤ 34359738368 := by
        have := Nat.mul_le_mul_right (2 * K + 1) (HLEN.out j es hes); omega
      have hsf : f.Sm := (HOK.out.1 j f hf).sm (by omega)
      have szA : (canF (alongQ es ys es.length)).Sm := ((Sz_along hse hy hK es.length).mono hsE).rs.sm (Nat.le_refl _)
      have HAL : Hid (alongQ es ys es.length = dotC ys (p.col (j : Int)) p.right.length) := Lib.hid (by rw [LPd.col_pos hes]; exact alongQ_all (z4 j es hes) (z5 j es hes).2)
      have HQ := Lib.hid (qAt_some hf)
      have hj1 : (j : Int) < N := by omega
      have hj2 : (j : Int) < n := by rw [HK1.out, z3, ← HM1.out]; exact hj1
      clear z1 z2 z3 z4 z5 hes hf hltc
      obtain ⟨x0, x1, x2⟩ := hX.three
      obtain ⟨b0, b1, b2, b3⟩ := hcA
      go_wp2_with fail
      have C1 := stab x0
      have C2 := stab b0
      have C3 := stab b1
      have C4 := stab b2
      have C5 := stab b3
      have hS0 := below_drew' wr
      clear x0 x1 x2 b0 b1 b2 b3 hcellc hcell1
      refine region_seq 10 [0, 1, 3, 4, 5, 6, 7, 2, 8, 9] (by kernel_rfl) (by kernel_rfl) ?_
      repeat ((first | (refine seq_takeP (v := ?_) rfl rfl rfl ?_ ?_; rotate_left; (· (intro _ hSw; go_simp; (try go_bits); (try with_reducible rfl)))) | (refine seq_take (v := ?_) rfl rfl rfl ?_ ?_; rotate_left; (· (intro _ hSw; go_simp; (try go_bits); (try with_reducible rfl)))) | refine seq_skip rfl rfl rfl ?_); (try simp only [Act.put, pu1, pu2, pu3, pu4, pu5, pu6]))
      refine seq_step rfl rfl (fun KR hKR => ?_)
      go_simp
      with_reducible refine (along_any _ _ es ys K _ ((hvm.below hbe).below hS0) ((h2.below hbe).below hS0) hin hK hse hy hsE hs2).mono ?_
      rintro _ w8 ⟨v8, rfl, e8, hb8⟩
      have hS8 := below_then hS0 hb8 hS0.size
      refine hKR.out _ _ (Or.inr hS8) ?_
      clear hKR KR
      (try simp only [Act.put, pu1, pu2, pu3, pu4, pu5, pu6])
      repeat ((first | (refine seq_takeP (v := ?_) rfl rfl rfl ?_ ?_; rotate_left; (· (intro _ hSw; go_simp; (try go_bits); (try with_reducible rfl)))) | (refine seq_take (v := ?_) rfl rfl rfl ?_ ?_; rotate_left; (· (intro _ hSw; go_simp; (try go_bits); (try with_reducible rfl)))) | refine seq_skip rfl rfl rfl ?_); (try simp only [Act.put, pu1, pu2, pu3, pu4, pu5, pu6]))
      refine seq_step rfl rfl (fun KR hKR => ?_)
      go_simp
      with_reducible refine (compareF_any _ _ _ f _ e8 (hmf.below hS8) szA hsf).mono ?_
      rw [canF_q, HAL.out]
      rintro _ w9 ⟨rfl, hb9⟩
      have hS9 := below_then hS8 hb9 hS8.size
      refine hKR.out _ _ (Or.inr hS9) ?_
      clear hKR KR
      (try simp only [Act.put, pu1, pu2, pu3, pu4, pu5, pu6])
      repeat ((first | (refine seq_takeP (v := ?_) rfl rfl rfl ?_ ?_; rotate_left; (· (intro _ hSw; go_simp; (try go_bits); (try with_reducible rfl)))) | (refine seq_take (v := ?_) rfl rfl rfl ?_ ?_; rotate_left; (· (intro _ hSw; go_simp; (try go_bits); (try with_reducible rfl)))) | refine seq_skip rfl rfl rfl ?_); (try simp only [Act.put, pu1, pu2, pu3, pu4, pu5, pu6]))
      refine seq_done ?_
      have hX9 := hX.later hS9
      have hR9 := hR.later hS9
      have hbe9 := below_then hbe hS9 hbe.size
      clear C1 C2 C3 C4 C5
      by_cases hgt : dotC ys (p.col (j : Int)) p.right.length ≤ f.q
      · have hsg : qs (dotC ys (p.col (j : Int)) p.right.length - f.q) ≤ 0 := Int.not_lt.1 fun h => (qs_sub_pos.1 h) hgt
        have HL2 := Lib.hid (lowTo_next HLOW.out (by rw [HQ.out]; exact hgt))
        clear hgt
        go_wp2
        go_roundw
        case rel => exact ⟨j + 1, by omega, by go_num, hbe9, hX9, hR9, HL2.out⟩
        case measure => simp [intOf]; omega
      · have hsg : 0 < qs (dotC ys (p.col (j : Int)) p.right.length - f.q) := qs_sub_pos.2 hgt
        have HLB : Hid (lowB p ys = false) := Lib.hid (lowB_3 (by rw [← HM1.out]; exact hjl) (by rw [HQ.out]; exact hgt))
        clear hgt
        obtain ⟨c0, c1, c2, c3⟩ := hR9.four
        obtain ⟨f0, f1, f2, f3⟩ := hR9.fourF
        go_wp2
        refine ret_ct Tryz.results19 Tryz.underlying47 (by kernel_rfl) rfl (g := w.heap.size + 1) (hR9.set4 _ _ _ _) rfl ?_
        exact fin_low hR9 (FracM.zero w9) hbe9 (by omega) ⟨HLB.out, lowF_no HLB.out⟩
    · obtain rfl : j = N := by omega
      have HLB : Hid (lowB p ys = true) := Lib.hid (lowB_4 HZ.out HLM.out (by rw [← HM1.out]; exact HLOW.out))
      obtain ⟨x0, x1, x2⟩ := hX.three
      obtain ⟨z1, _, _, _, _⟩ := lpErr_zero HZ.out
      have hsD : 1 + ys.length * (2 * K + 1) ≤ 34359738368 := by
        have := Nat.mul_le_mul_right (2 * K + 1) (show ys.length ≤ 64 by rw [HLM.out]; exact z1); omega
      clear z1
      go_wp2_with fail
      refine (product_any _ _ ys p.right K _ (h2.below hbe) (hr.below hbe) (by rw [HLM.out]; exact Nat.le_refl _) hK hy HOK.out.2.1 hsD hs2).mono ?_
      rintro _ w2 ⟨v2, rfl, e2, hb2⟩
      rw [HLM.out] at e2
      have hR2 := hR.later hb2
      have hbe2 := below_then hbe hb2 hbe.size
      clear hX hR hbe hb2 x0 x1 x2
      obtain ⟨B, q, d, B', q', d', rfl, _, _⟩ := id e2
      have HE := Lib.hid e2
      have HLF := Lib.hid (lowF_yes HLB.out)
      clear e2
      generalize canF (dotQ ys p.right p.right.length) = DF at *
      obtain ⟨c0, c1, c2, c3⟩ := hR2.four
      obtain ⟨f0, f1, f2, f3⟩ := hR2.fourF
      go_wp2
      refine ret_ct Tryz.results19 Tryz.underlying47 (by kernel_rfl) rfl (g := w.heap.size + 1) (hR2.set4 _ _ _ _) rfl ?_
      exact fin_low hR2 HE.out hbe2 (by omega) ⟨HLB.out, HLF.out⟩
end Go.Proofs.YtpanffbgihhjnaaGreat

/- Walks: package pairingref25: LowerBound. -/
namespace Go.Proofs.YtpanffbgihhjnaaGreat
open Go.RowKit Pl
attribute [local go_sem ↓] Go.wp_at_zero Go.wp_at_succ

set_option maxRecDepth 100000 in
set_option maxHeartbeats 4000000 in
theorem rlowerBound_any (v1 v2 : Value) (p : LPd) (ys : List RF) (K : Nat) (w : World) (h : LpM w v1 p) (h2 : FrsM w v2 ys) (ok : p.Ok K) (hy : RsL K ys) (hK : 1 ≤ K) (hs : 1 + 64 * (2 * K + 1) ≤ 8589934592) :
    Calls Tryz.prog 20 #[v1, v2] w (LowPost p ys w) := by
  have hs2 : 2 * K ≤ 8589934592 := by omega
  obtain ⟨A, n, c, A', N, c', A'', m, c'', rfl, hc, hv, hr⟩ := id h
  obtain ⟨W, hW, hX, hbe0⟩ := box_lp w (.slice A n c) (.slice A' N c') (.slice A'' m c'')
  obtain ⟨W1, hW1, hR, hbe1⟩ := boxF1 W (.bool false) (.slice none 0 0) (.bool false) (.slice none 0 0)
  have hX := hX.later hbe1
  have hbe := below_then hbe0 hbe1 hbe0.size
  have hsz : W.heap.size = w.heap.size + 1 := by rw [← hW]; simp
  rw [hsz] at hR
  obtain ⟨x0, x1, x2⟩ := hX.three
  obtain ⟨m1, m2, m3⟩ := hv.len
  obtain ⟨r1, r2, r3⟩ := hr.len
  obtain ⟨k1, k2, k3⟩ := hc.len
  obtain ⟨Ay, cy, rfl, hy1, hy2⟩ := h2.shape
  have HM1 := Lib.hid m1
  have HR1 := Lib.hid r1
  have HK1 := Lib.hid k1
  have HOK := Lib.hid ok
  generalize hyl : ys.length = L at *
  have HYL := Lib.hid hyl
  clear m1 r1 k1 hyl ok hbe0 hbe1
  go_enter Tryz.func20, Tryz.ntmps20
  go_wp2_with fail
  clear hW hW1 hsz x0 x1 x2
  refine (rvalidate_any _ p K _ (h.below hbe) HOK.out (by omega)).mono ?_
  rintro _ w1 ⟨rfl, hb1⟩
  have hX1 := hX.later hb1
  have hR1 := hR.later hb1
  have hbe1 := below_then hbe hb1 hbe.size
  clear hX hR hbe hb1
  by_cases hz : lpErr p = 0
  rotate_left
  · have hz' : (lpErr p != 0) = true := by simpa using hz
    have HLB := Lib.hid (lowB_1 (ys := ys) hz)
    clear hz
    obtain ⟨c0, c1, c2, c3⟩ := hR1.four
    obtain ⟨f0, f1, f2, f3⟩ := hR1.fourF
    go_wp2
    refine ret_ct Tryz.results20 Tryz.underlying47 (by kernel_rfl) rfl (g := w.heap.size + 1) (hR1.set4 _ _ _ _) rfl ?_
    exact fin_low hR1 (FracM.zero w1) hbe1 (by omega) ⟨HLB.out, lowF_no HLB.out⟩
  have hz' : (lpErr p != 0) = false := by simpa using hz
  have HZ := Lib.hid hz
  clear hz
  by_cases hl : L = m
  rotate_left
  · have hl' : ((L : Int) != (m : Int)) = true := by simp; omega
    have HLB : Hid (lowB p ys = false) := Lib.hid (lowB_2 (by rw [HYL.out, ← HR1.out]; exact hl))
    clear hl
    obtain ⟨x0, x1, x2⟩ := hX1.three
    obtain ⟨c0, c1, c2, c3⟩ := hR1.four
    obtain ⟨f0, f1, f2, f3⟩ := hR1.fourF
    go_wp2
    refine ret_ct Tryz.results20 Tryz.underlying47 (by kernel_rfl) rfl (g := w.heap.size + 1) (hR1.set4 _ _ _ _) rfl ?_
    exact fin_low hR1 (FracM.zero w1) hbe1 (by omega) ⟨HLB.out, lowF_no HLB.out⟩
  have hl' : ((L : Int) != (m : Int)) = false := by simp; omega
  have HLM : Hid (ys.length = p.right.length) := Lib.hid (by rw [HYL.out, ← HR1.out]; exact hl)
  clear hl
  obtain ⟨x0, x1, x2⟩ := hX1.three
  go_wp2
  clear x0 x1 x2 hl' hz'
  go_loopw [6] (fun i wr => ∃ j : Nat, j ≤ N ∧ i = .int .i64 j ∧ Below w.heap.size w wr ∧ Bk wr w.heap.size 26 [.slice A n c, .slice A' N c', .slice A'' m c''] ∧ Bk wr (w.heap.size + 1) 47 [.bool false, .slice none 0 0, .bool false, .slice none 0 0] ∧ lowTo p ys j) (fun i _ => N - (intOf i).toNat)
  case atStart => exact ⟨0, by omega, rfl, hbe1, hX1, hR1, lowTo_zero _ _⟩
  case round =>
    clear hbe1 hX1 hR1
    obtain ⟨j, hj, rfl, hbe, hX, hR, hlow⟩ := hrel
    have HLOW := Lib.hid hlow
    clear hlow
    rcases Nat.lt_or_ge j N with hjl | hjl
    · obtain ⟨z1, z2, z3, z4, z5⟩ := lpErr_zero HZ.out
      obtain ⟨f, hf⟩ := get_some (fs := p.cost) (i := j) (by rw [z3, ← HM1.out]; exact hjl)
      obtain ⟨b, off, A1, n1, k1, A2, n2, k2, rfl, hlt, hcA, hmf⟩ := hc.elem hbe hf
      have hsE : 1 + p.right.length * (2 * K + 1) ≤ 34359738368 := by
        have := Nat.mul_le_mul_right (2 * K + 1) z1; omega
      have hsC : RsL K (canL p.right.length (p.col (j : Int))) := canL_rs fun i _ => LPd.Sz_col HOK.out hK j i
      have hsf : ShH f := (HOK.out.1 j f hf).shH (by omega)
      have szA : ShH (canF (dotC ys (p.col (j : Int)) p.right.length)) := by
        have h1 := Sz_sum (n := p.right.length) (f := fun i => qAt ys i * p.col (j : Int) i) (K := 2 * K) fun i _ => (Sz_mul (hy.qAt hK i) (LPd.Sz_col HOK.out hK j i)).mono (by omega)
        exact Sz.shH h1 (by have := Nat.mul_le_mul_right (2 * K + 1) z1; omega)
      have HQ := Lib.hid (qAt_some hf)
      have hj1 : (j : Int) < N := by omega
      have hj2 : (j : Int) < n := by rw [HK1.out, z3, ← HM1.out]; exact hj1
      clear z2 z3 z5 hf
      obtain ⟨x0, x1, x2⟩ := hX.three
      obtain ⟨b0, b1, b2, b3⟩ := hcA
      go_wp2_with fail
      have C1 := stab x0
      have C6 := stab x1
      have C7 := stab x2
      have C2 := stab b0
      have C3 := stab b1
      have C4 := stab b2
      have C5 := stab b3
      have hS0 := below_drew' wr
      clear x0 x1 x2 b0 b1 b2 b3
      refine region_seq 12 [0, 1, 2, 5, 6, 7, 8, 9, 3, 4, 10, 11] (by kernel_rfl) (by kernel_rfl) ?_
      repeat ((first | (refine seq_takeP (v := ?_) rfl rfl rfl ?_ ?_; rotate_left; (· (intro _ hSw; go_simp; (try go_bits); (try with_reducible rfl)))) | (refine seq_take (v := ?_) rfl rfl rfl ?_ ?_; rotate_left; (· (intro _ hSw; go_simp; (try go_bits); (try with_reducible rfl)))) | refine seq_skip rfl rfl rfl ?_); (try simp only [Act.put, pu1, pu2, pu3, pu4, pu5, pu6]))
      refine seq_step rfl rfl (fun KR hKR => ?_)
      go_simp
      with_reducible refine (rcolumn_pos _ p K j _ ((h.below hbe).below hS0) HOK.out (by omega) z4 (by rw [← HM1.out]; exact hjl) z1).mono ?_
      rintro _ w7 ⟨v7, rfl, e7, hb7⟩
      have hS7 := below_then hS0 hb7 hS0.size
      have hl7 := e7.frs.shape
      obtain ⟨B7, d7, rfl, _, _⟩ := hl7
      refine hKR.out _ _ (Or.inr hS7) ?_
      clear hKR KR
      (try simp only [Act.put, pu1, pu2, pu3, pu4, pu5, pu6])
      repeat ((first | (refine seq_takeP (v := ?_) rfl rfl rfl ?_ ?_; rotate_left; (· (intro _ hSw; go_simp; (try go_bits); (try with_reducible rfl)))) | (refine seq_take (v := ?_) rfl rfl rfl ?_ ?_; rotate_left; (· (intro _ hSw; go_simp; (try go_bits); (try with_reducible rfl)))) | refine seq_skip rfl rfl rfl ?_); (try simp only [Act.put, pu1, pu2, pu3, pu4, pu5, pu6]))
      refine seq_step rfl rfl (fun KR hKR => ?_)
      go_simp
      with_reducible refine (rdot_own _ _ ys (canL p.right.length (p.col (j : Int))) K _ ((h2.below hbe).below hS7) e7.frs hK hy hsC (by rw [canL_length, HLM.out, Nat.min_self]; exact hsE) (by omega)).mono ?_
      rw [canL_length, HLM.out, Nat.min_self, dotC_canL]
      rintro _ w8 ⟨v8, rfl, e8, hb8⟩
      have hS8 := below_then hS7 hb8 hS7.size
      refine hKR.out _ _ (Or.inr hS8) ?_
      clear hKR KR
      (try simp only [Act.put, pu1, pu2, pu3, pu4, pu5, pu6])
      repeat ((first | (refine seq_takeP (v := ?_) rfl rfl rfl ?_ ?_; rotate_left; (· (intro _ hSw; go_simp; (try go_bits); (try with_reducible rfl)))) | (refine seq_take (v := ?_) rfl rfl rfl ?_ ?_; rotate_left; (· (intro _ hSw; go_simp; (try go_bits); (try with_reducible rfl)))) | refine seq_skip rfl rfl rfl ?_); (try simp only [Act.put, pu1, pu2, pu3, pu4, pu5, pu6]))
      refine seq_step rfl rfl (fun KR hKR => ?_)
      go_simp
      with_reducible refine (rcompareF_any _ _ _ f _ e8 (hmf.below hS8) szA hsf).mono ?_
      rw [canF_q]
      rintro _ w9 ⟨rfl, hb9⟩
      have hS9 := below_then hS8 hb9 hS8.size
      refine hKR.out _ _ (Or.inr hS9) ?_
      clear hKR KR
      (try simp only [Act.put, pu1, pu2, pu3, pu4, pu5, pu6])
      repeat ((first | (refine seq_takeP (v := ?_) rfl rfl rfl ?_ ?_; rotate_left; (· (intro _ hSw; go_simp; (try go_bits); (try with_reducible rfl)))) | (refine seq_take (v := ?_) rfl rfl rfl ?_ ?_; rotate_left; (· (intro _ hSw; go_simp; (try go_bits); (try with_reducible rfl)))) | refine seq_skip rfl rfl rfl ?_); (try simp only [Act.put, pu1, pu2, pu3, pu4, pu5, pu6]))
      refine seq_done ?_
      have hX9 := hX.later hS9
      have hR9 := hR.later hS9
      have hbe9 := below_then hbe hS9 hbe.size
      clear C1 C2 C3 C4 C5 C6 C7
      by_cases hgt : dotC ys (p.col (j : Int)) p.right.length ≤ f.q
      · have hsg : qs (dotC ys (p.col (j : Int)) p.right.length - f.q) ≤ 0 := Int.not_lt.1 fun h => (qs_sub_pos.1 h) hgt
        have HL2 := Lib.hid (lowTo_next HLOW.out (by rw [HQ.out]; exact hgt))
        clear hgt
        go_wp2
        go_roundw
        case rel => exact ⟨j + 1, by omega, by go_num, hbe9, hX9, hR9, HL2.out⟩
        case measure => simp [intOf]; omega
      · have hsg : 0 < qs (dotC ys (p.col (j : Int)) p.right.length - f.q) := qs_sub_pos.2 hgt
        have HLB : Hid (lowB p ys = false) := Lib.hid (lowB_3 (by rw [← HM1.out]; exact hjl) (by rw [HQ.out]; exact hgt))
        clear hgt
        obtain ⟨c0, c1, c2, c3⟩ := hR9.four
        obtain ⟨f0, f1, f2, f3⟩ := hR9.fourF
        go_wp2
        refine ret_ct Tryz.results20 Tryz.underlying47 (by kernel_rfl) rfl (g := w.heap.size + 1) (hR9.set4 _ _ _ _) rfl ?_
        exact fin_low hR9 (FracM.zero w9) hbe9 (by omega) ⟨HLB.out, lowF_no HLB.out⟩
    · obtain rfl : j = N := by omega
      have HLB : Hid (lowB p ys = true) := Lib.hid (lowB_4 HZ.out HLM.out (by rw [← HM1.out]; exact HLOW.out))
      obtain ⟨x0, x1, x2⟩ := hX.three
      obtain ⟨z1, _, _, _, _⟩ := lpErr_zero HZ.out
      have hsD : 1 + min ys.length p.right.length * (2 * K + 1) ≤ 34359738368 := by
        rw [HLM.out, Nat.min_self]
        have := Nat.mul_le_mul_right (2 * K + 1) z1; omega
      clear z1
      go_wp2_with fail
      refine (rdot_own _ _ ys p.right K _ (h2.below hbe) (hr.below hbe) hK hy HOK.out.2.1 hsD (by omega)).mono ?_
      rintro _ w2 ⟨v2, rfl, e2, hb2⟩
      rw [HLM.out, Nat.min_self] at e2
      have hR2 := hR.later hb2
      have hbe2 := below_then hbe hb2 hbe.size
      clear hX hR hbe hb2 x0 x1 x2
      obtain ⟨B, q, d, B', q', d', rfl, _, _⟩ := id e2
      have HE := Lib.hid e2
      have HLF := Lib.hid (lowF_yes HLB.out)
      clear e2
      generalize canF (dotQ ys p.right p.right.length) = DF at *
      obtain ⟨c0, c1, c2, c3⟩ := hR2.four
      obtain ⟨f0, f1, f2, f3⟩ := hR2.fourF
      go_wp2
      refine ret_ct Tryz.results20 Tryz.underlying47 (by kernel_rfl) rfl (g := w.heap.size + 1) (hR2.set4 _ _ _ _) rfl ?_
      exact fin_low hR2 HE.out hbe2 (by omega) ⟨HLB.out, HLF.out⟩
end Go.Proofs.YtpanffbgihhjnaaGreat

/- Walks: package proof: feasible, IsFeasible. -/
namespace Go.Proofs.YtpanffbgihhjnaaGreat
open Go.RowKit Pl
attribute [local go_sem ↓] Go.wp_at_zero Go.wp_at_succ

namespace Pl
theorem feasB_eq {p : LPd} {xs : List RF} (h : lpErr p = 0) : feasB p xs = ((decide (xs.length = p.cols.length) && nnB xs) && combB p.right.length (timesQ p xs p.cols.length) p.right) := by
  unfold feasB
  rw [decide_eq_true h, Bool.true_and, Bool.and_assoc]
  congr 2
  unfold eqB combB
  apply decide_eq_decide.2
  rw [canL_length]
  constructor
  · intro g i hi; rw [← g.2 i hi, canL_qAt hi]
  · intro g; exact ⟨rfl, fun i hi => by rw [canL_qAt hi]; exact g i hi⟩
end Pl

set_option maxHeartbeats 2000000 in
theorem feasible_any (v1 v2 : Value) (p : LPd) (xs : List RF) (K : Nat) (w : World) (h : LpM w v1 p) (h2 : FrsM w v2 xs) (ok : p.Ok K) (hx : RsL K xs) (hK : 1 ≤ K) (hz : lpErr p = 0) (hs : 1 + 1201 * (2 * K + 1) ≤ 34359738368) :
    Calls Tryz.prog 55 #[v1, v2] w fun e w' => e = .returned (.bool (feasB p xs)) ∧ Below w.heap.size w w' := by
  obtain ⟨A, n, c, A', N, c', A'', m, c'', rfl, hc, hv, hr⟩ := id h
  obtain ⟨W, hW, hX, hbe⟩ := box_lp w (.slice A n c) (.slice A' N c') (.slice A'' m c'')
  obtain ⟨x0, x1, x2⟩ := hX.three
  obtain ⟨m1, m2, m3⟩ := hv.len
  obtain ⟨Ax, cx, rfl, hx1, hx2⟩ := h2.shape
  obtain ⟨z1, z2, z3, z4, z5⟩ := lpErr_zero hz
  have hsN : 1 + (p.cols.length + 1) * (2 * K + 1) ≤ 34359738368 := by
    have := Nat.mul_le_mul_right (2 * K + 1) (show p.cols.length + 1 ≤ 1201 by omega); omega
  have HFE := Lib.hid (feasB_eq (xs := xs) hz)
  have HOK := Lib.hid ok
  have HX := Lib.hid hx
  have HM1 := Lib.hid m1
  have HZ := Lib.hid hz
  have h' := h.below hbe
  have h2' := h2.below hbe
  have hr' := hr.below hbe
  clear ok hx m1 hz z1 z2 z3 z4 z5 h h2 hr hc hv
  generalize hxl : xs.length = L at *
  have HXL := Lib.hid hxl
  clear hxl
  go_enter Tryz.func55, Tryz.ntmps55
  go_wp2_with fail
  clear hW x0 x1 x2
  refine (nonneg_any _ xs N _ h2' (by omega)).mono ?_
  rw [HXL.out, HM1.out]
  rintro _ w1 ⟨rfl, hb1⟩
  have hX1 := hX.later hb1
  have hbe1 := below_then hbe hb1 hbe.size
  obtain ⟨x0, x1, x2⟩ := hX1.three
  cases hnn : (decide (L = p.cols.length) && nnB xs)
  · have HR : Hid (feasB p xs = false) := Lib.hid (by rw [HFE.out, hnn]; rfl)
    clear hnn
    go_wp2
    go_ret
    exact ⟨ret_bool HR.out, hbe1⟩
  · have HR : Hid (feasB p xs = combB p.right.length (timesQ p xs p.cols.length) p.right) := Lib.hid (by rw [HFE.out, hnn]; rfl)
    have HXN : Hid (xs.length = p.cols.length) := Lib.hid (by rw [HXL.out]; simpa using (Bool.and_eq_true_iff.1 hnn).1)
    clear hnn
    go_wp2_with fail
    refine (combines_any _ _ _ p xs p.right K _ (h'.below hb1) (h2'.below hb1) (hr'.below hb1) HOK.out HX.out HOK.out.2.1 hK HZ.out HXN.out (Nat.le_refl _) hsN (by omega)).mono ?_
    rintro _ w2 ⟨rfl, hb2⟩
    have hbe2 := below_then hbe1 hb2 hbe1.size
    clear hX1 hX hbe1 hbe hb1 hb2 x0 x1 x2
    go_wp2
    go_ret
    exact ⟨ret_bool HR.out, hbe2⟩

set_option maxHeartbeats 2000000 in
theorem isFeasible_any (v1 v2 : Value) (p : LPd) (xs : List RF) (K : Nat) (w : World) (h : LpM w v1 p) (h2 : FrsM w v2 xs) (ok : p.Ok K) (hx : RsL K xs) (hK : 1 ≤ K) (hs : 1 + 1201 * (2 * K + 1) ≤ 34359738368) :
    Calls Tryz.prog 23 #[v1, v2] w fun e w' => e = .returned (.bool (feasB p xs)) ∧ Below w.heap.size w w' := by
  obtain ⟨A, n, c, A', N, c', A'', m, c'', rfl, hc, hv, hr⟩ := id h
  obtain ⟨W, hW, hX, hbe⟩ := box_lp w (.slice A n c) (.slice A' N c') (.slice A'' m c'')
  obtain ⟨x0, x1, x2⟩ := hX.three
  obtain ⟨Ax, cx, rfl, hx1, hx2⟩ := h2.shape
  have HOK := Lib.hid ok
  have HX := Lib.hid hx
  have h' := h.below hbe
  have h2' := h2.below hbe
  clear ok hx h h2 hr hc hv
  generalize hxl : xs.length = L at *
  clear hxl
  go_enter Tryz.func23, Tryz.ntmps23
  go_wp2_with fail
  clear hW x0 x1 x2
  refine (validate_any _ p K _ h' HOK.out).mono ?_
  rintro _ w1 ⟨rfl, hb1⟩
  have hX1 := hX.later hb1
  have hbe1 := below_then hbe hb1 hbe.size
  obtain ⟨x0, x1, x2⟩ := hX1.three
  by_cases hz : lpErr p = 0
  · have HZ := Lib.hid hz
    have hz' : (lpErr p == 0) = true := by simpa using hz
    clear hz
    go_wp2_with fail
    refine (feasible_any _ _ p xs K _ (h'.below hb1) (h2'.below hb1) HOK.out HX.out hK HZ.out hs).mono ?_
    rintro _ w2 ⟨rfl, hb2⟩
    have hbe2 := below_then hbe1 hb2 hbe1.size
    clear hX1 hX hbe1 hbe hb1 hb2 x0 x1 x2
    go_wp2
    go_ret
    exact ⟨rfl, hbe2⟩
  · have HR := Lib.hid (feasB_1 (xs := xs) hz)
    have hz' : (lpErr p == 0) = false := by simpa using hz
    clear hz
    go_wp2
    go_ret
    exact ⟨ret_bool HR.out, hbe1⟩
end Go.Proofs.YtpanffbgihhjnaaGreat

/- Memory: slices of ints. Walks: package pairingdata: At. -/
namespace Go.Proofs.YtpanffbgihhjnaaGreat
open Go.RowKit Pl
attribute [local go_sem ↓] Go.wp_at_zero Go.wp_at_succ

theorem i64_and3 (n : Int) : bits .and .i64 n 3 = n % 4 := by
  have hc : (BitVec.ofInt 64 3).toNat = 2 ^ 2 - 1 := by decide
  have key : (BitVec.ofInt 64 n &&& BitVec.ofInt 64 3).toNat = (n % ((2 ^ 64 : Nat) : Int)).toNat % 2 ^ 2 := by
    rw [BitVec.toNat_and, BitVec.toNat_ofInt, hc, Nat.and_two_pow_sub_one_eq_mod]
  show IntKind.i64.wrap ((BitVec.ofInt 64 n &&& BitVec.ofInt 64 3).toNat : Nat) = n % 4
  rw [key, IntKind.wrap_i64]
  omega
theorem i64_and15 (n : Int) : bits .and .i64 n 15 = n % 16 := by
  have hc : (BitVec.ofInt 64 15).toNat = 2 ^ 4 - 1 := by decide
  have key : (BitVec.ofInt 64 n &&& BitVec.ofInt 64 15).toNat = (n % ((2 ^ 64 : Nat) : Int)).toNat % 2 ^ 4 := by
    rw [BitVec.toNat_and, BitVec.toNat_ofInt, hc, Nat.and_two_pow_sub_one_eq_mod]
  show IntKind.i64.wrap ((BitVec.ofInt 64 n &&& BitVec.ofInt 64 15).toNat : Nat) = n % 16
  rw [key, IntKind.wrap_i64]
  omega
theorem i64_and65535 (n : Int) : bits .and .i64 n 65535 = n % 65536 := by
  have hc : (BitVec.ofInt 64 65535).toNat = 2 ^ 16 - 1 := by decide
  have key : (BitVec.ofInt 64 n &&& BitVec.ofInt 64 65535).toNat = (n % ((2 ^ 64 : Nat) : Int)).toNat % 2 ^ 16 := by
    rw [BitVec.toNat_and, BitVec.toNat_ofInt, hc, Nat.and_two_pow_sub_one_eq_mod]
  show IntKind.i64.wrap ((BitVec.ofInt 64 n &&& BitVec.ofInt 64 65535).toNat : Nat) = n % 65536
  rw [key, IntKind.wrap_i64]
  omega
def IntsM (w : World) (v : Value) (zs : List Int) : Prop :=
  ∃ a cap, v = .slice a zs.length cap ∧ zs.length ≤ cap ∧ cap ≤ maxLen ∧ (0 < zs.length → ∃ b off, a = some ⟨b, off, none⟩ ∧ ∀ i, i < zs.length → w.cell? ⟨b, off + i, none⟩ = some (.int .i64 (zs.getD i 0))) ∧ ∀ z ∈ zs, -9223372036854775808 ≤ z ∧ z ≤ 9223372036854775807
theorem IntsM.below {w w' : World} {v : Value} {zs : List Int} (h : IntsM w v zs) (hb : Below w.heap.size w w') : IntsM w' v zs := by
  obtain ⟨a, cap, h1, h2, h3, h4, h5⟩ := h
  refine ⟨a, cap, h1, h2, h3, fun hp => ?_, h5⟩
  obtain ⟨b, off, g1, g2⟩ := h4 hp
  exact ⟨b, off, g1, fun i hi => cell_keep hb (g2 i hi)⟩
theorem IntsM.shape {w : World} {v : Value} {zs : List Int} (h : IntsM w v zs) : ∃ a cap, v = .slice a zs.length cap ∧ zs.length ≤ cap ∧ cap ≤ 9223372036854775807 := by
  obtain ⟨a, cap, h1, h2, h3, h4, h5⟩ := h
  unfold maxLen at h3
  exact ⟨a, cap, h1, h2, by omega⟩
theorem IntsM.at_ {w : World} {a : Option Addr} {n cap : Nat} {zs : List Int} (h : IntsM w (.slice a n cap) zs) {i : Nat} (hi : i < n) :
    ∃ b off z, a = some ⟨b, off, none⟩ ∧ w.cell? ⟨b, off + i, none⟩ = some (.int .i64 z) ∧ zs[i]? = some z ∧ -9223372036854775808 ≤ z ∧ z ≤ 9223372036854775807 := by
  obtain ⟨a', cap', h1, h2, h3, h4, h5⟩ := h
  injection h1 with e1 e2 e3
  subst e1
  obtain ⟨b, off, g1, g2⟩ := h4 (by omega)
  have hg : zs[i]? = some (zs.getD i 0) := by simp [List.getD, List.getElem?_eq_getElem (show i < zs.length by omega)]
  have hm := h5 _ (List.mem_of_getElem? hg)
  exact ⟨b, off, _, g1, g2 i (by omega), hg, hm⟩

set_option maxHeartbeats 2000000 in
theorem at_any (v : Value) (zs : List Int) (i : Nat) (w : World) (h : IntsM w v zs) (hi : i ≤ 1099511627776) :
    Calls Tryz.prog 18 #[v, .int .i64 (i : Int)] w fun e w' => ∃ z : Int, e = .returned (.int .i64 z) ∧ 0 ≤ z ∧ z ≤ 65535 + i ∧ Below w.heap.size w w' := by
  obtain ⟨a, cap, rfl, hc1, hc2⟩ := h.shape
  generalize hn : zs.length = n at *
  clear hn
  have hm := i64_and65535
  rcases Nat.eq_zero_or_pos n with h0 | h0
  · subst h0
    go_enter Tryz.func18, Tryz.ntmps18
    go_wp2
    go_ret
    exact ⟨_, rfl, by omega, by omega, Below.refl _ _⟩
  · have hlt : i % n < n := Nat.mod_lt _ h0
    obtain ⟨b, off, z, rfl, hcell, _, hz1, hz2⟩ := h.at_ hlt
    have hne : ((n : Int) == 0) = false := by simp; omega
    have hq : i / n ≤ i := Nat.div_le_self _ _
    have hn0 : ¬ n = 0 := by omega
    have hr1 : (i : Int) % n < n := by omega
    have hr2 : 0 ≤ (i : Int) % n := by omega
    have hq1 : (i : Int) / n ≤ i := Int.ediv_le_self _ (by omega)
    have hq2 : 0 ≤ (i : Int) / n := Int.ediv_nonneg (by omega) (by omega)
    go_enter Tryz.func18, Tryz.ntmps18
    go_wp2_with fail
    have C1 := stab hcell
    refine region_seq 14 [0, 1, 2, 3, 4, 5, 6, 7, 8, 9, 10, 11, 12, 13] (by kernel_rfl) (by kernel_rfl) ?_
    repeat ((first | (refine seq_takeP (v := ?_) rfl rfl rfl ?_ ?_; rotate_left; (· (intro _ hSw; go_simp; (try go_bits); (try with_reducible rfl)))) | (refine seq_take (v := ?_) rfl rfl rfl ?_ ?_; rotate_left; (· (intro _ hSw; go_simp; (try go_bits); (try with_reducible rfl)))) | refine seq_skip rfl rfl rfl ?_); (try simp only [Act.put, pu1, pu2, pu3, pu4, pu5, pu6]))
    refine seq_done ?_
    clear C1
    go_wp2
    go_ret
    exact ⟨_, rfl, by omega, by omega, below_drew' _⟩
end Go.Proofs.YtpanffbgihhjnaaGreat

/- Walks: package pairingdata: Frac, times. -/
namespace Go.Proofs.YtpanffbgihhjnaaGreat
open Go.RowKit Pl
attribute [local go_sem ↓] Go.wp_at_zero Go.wp_at_succ

namespace Pl
theorem divInt_1 (z : Int) : Rat.divInt z 1 = (z : Rat) := by
  rw [Rat.divInt_eq_div, Rat.intCast_one]; grind
theorem Sz_int {z : Int} (h : -4294967296 < z) (h2 : z < 4294967296) : Sz 1 (z : Rat) := by
  unfold Sz
  exact ⟨digs_lt (by rw [Rat.num_intCast]; unfold B32; omega), digs_lt (by rw [Rat.den_intCast]; decide)⟩
end Pl
theorem FracO.numO {base : Nat} {w : World} {b s b' s' : Value} {f : RF} (h : FracO base w (.agg #[b, s, b', s']) f) : IntO base w (.agg #[b, s]) f.num := by
  obtain ⟨⟨A, n, c, A', n', c', e, d1, _⟩, x, t, x', t', e2, o⟩ := h
  simp at e e2
  obtain ⟨rfl, rfl, rfl, rfl⟩ := e
  obtain ⟨_, rfl, _, _⟩ := e2
  exact ⟨_, rfl, o, d1.ok⟩

set_option maxHeartbeats 1000000 in
theorem frac_own (n : Int) (w : World) :
    Calls Tryz.prog 27 #[.int .i64 n] w fun e w' => ∃ v' q, e = .returned v' ∧ FracO w.heap.size w' v' (canF q) ∧ Sz 2 q ∧ Below w.heap.size w w' := by
  obtain ⟨W, hW, hR, hbe⟩ := boxF1 w (.bool false) (.slice none 0 0) (.bool false) (.slice none 0 0)
  have m1 := i64_and15
  have m2 := i64_and3
  have r1 : 0 ≤ n % 16 := by omega
  have r2 : n % 16 ≤ 15 := by omega
  go_enter Tryz.func27, Tryz.ntmps27
  go_wp2_with fail
  clear hW
  refine (rint_own (n % 16 - 5) _ (by omega) (by omega)).mono ?_
  rintro _ w1 ⟨v1, rfl, e1, hb1⟩
  have r3 : 0 ≤ n / 16 % 4 := by omega
  have r4 : n / 16 % 4 ≤ 3 := by omega
  go_wp2_with fail
  refine (rint_own (1 + n / 16 % 4) _ (by omega) (by omega)).mono ?_
  rintro _ w2 ⟨v2, rfl, e2, hb2⟩
  have hb12 := below_then hb1 hb2 hb1.size
  have s1 : Sz 1 (((n % 16 - 5 : Int)) : Rat) := Sz_int (by omega) (by omega)
  have s2 : Sz 1 (((1 + n / 16 % 4 : Int)) : Rat) := Sz_int (by omega) (by omega)
  go_wp2_with fail
  refine (rdivF_own _ _ _ _ _ (e1.frac.below hb2) e2.frac (s1.sh (by decide)) (s2.sh (by decide))).mono ?_
  rw [canF_q, canF_q]
  rintro _ w3 ⟨v3, rfl, e3, hb3⟩
  have SQ := Lib.hid (Sz_div s1 s2)
  clear s1 s2
  generalize (((n % 16 - 5 : Int)) : Rat) / (((1 + n / 16 % 4 : Int)) : Rat) = q at *
  have hb13 := below_then hb12 hb3 hb12.size
  have hR3 := hR.later hb13
  have hbe3 := below_then hbe hb13 hbe.size
  have hE3 := e3.mono (show w.heap.size ≤ w2.heap.size from by have := hbe.size; have := hb12.size; omega)
  obtain ⟨B, l, d, B', l', d', rfl, _, _⟩ := id e3.frac
  obtain ⟨c0, c1, c2, c3⟩ := hR3.four
  obtain ⟨f0, f1, f2, f3⟩ := hR3.fourF
  clear e1 e2 e3 hR hb1 hb2 hb3 hb12
  generalize hQ : canF q = Q at *
  have HQ := Lib.hid hQ
  clear hQ
  go_wp2
  refine ret_cell Tryz.results27 Tryz.underlying47 (by kernel_rfl) rfl (hR3.set4 _ _ _ _) rfl ?_
  obtain ⟨v', q1, q2, q3⟩ := fin_fracO hR3 hE3 hbe3 (Nat.le_refl _)
  exact ⟨v', q, q1, by rw [HQ.out]; exact q2, SQ.out, q3⟩

set_option maxRecDepth 100000 in
set_option maxHeartbeats 2000000 in
theorem ptimes_own (v1 v2 : Value) (a b : RI) (w : World) (ha : IntM w v1 a) (hb : IntM w v2 b) (hs1 : (digs (val a.ds)).length ≤ 1000) (hs2 : (digs (val b.ds)).length ≤ 1000) :
    Calls Tryz.prog 54 #[v1, v2] w fun e w' => ∃ v', e = .returned v' ∧ IntO w.heap.size w' v' (canI (a.z * b.z)) ∧ Below w.heap.size w w' := by
  obtain ⟨A, n, c, rfl, hd⟩ := ha.shape
  obtain ⟨A', n', c', rfl, hd'⟩ := hb.shape
  obtain ⟨W, hW, hX, hX', hR, hbe⟩ := box2 w (.bool a.neg) (.slice A n c) (.bool b.neg) (.slice A' n' c')
  have ha := ha.below hbe
  have hb := hb.below hbe
  clear hd hd'
  obtain ⟨x0, x1, _, _⟩ := hX.two
  obtain ⟨y0, y1, _, _⟩ := hX'.two
  obtain ⟨Q, hQ⟩ : ∃ Q : Rat, ((a.z * b.z : Int) : Rat) = Q := ⟨_, rfl⟩
  have HQ : Hid ((⟨a, canI 1⟩ : RF).q * (⟨b, canI 1⟩ : RF).q = Q) := Lib.hid (by unfold RF.q; simp only [canI_z]; rw [divInt_1, divInt_1, ← hQ, Rat.intCast_mul])
  have l1 : (digs (val (canI 1).ds)).length ≤ 34359738368 := by rw [val_canI]; exact Nat.le_trans (digs_lt (k := 1) (by decide)) (by decide)
  have sh1 : (⟨a, canI 1⟩ : RF).Sh := ⟨by simp only; omega, l1⟩
  have sh2 : (⟨b, canI 1⟩ : RF).Sh := ⟨by simp only; omega, l1⟩
  have HN : Hid ((canF Q).num = canI (a.z * b.z)) := Lib.hid (by rw [← hQ]; unfold canF; rw [Rat.num_intCast])
  clear l1 hQ
  go_enter Tryz.func54, Tryz.ntmps54
  go_wp2_with fail
  clear hW
  have C1 := stab x0
  have C2 := stab x1
  have C3 := stab y0
  have C4 := stab y1
  have hS0 := below_drew' W
  have hf0 := fun b s b' s' (w : World) => run_num b s b' s' w
  clear x0 x1 y0 y1
  refine region_seq 10 [0, 4, 1, 2, 3, 5, 6, 7, 8, 9, 10] (by kernel_rfl) (by kernel_rfl) ?_
  repeat ((first | (refine seq_takeP (v := ?_) rfl rfl rfl ?_ ?_; rotate_left; (· (intro _ hSw; go_simp; (try go_bits); (try with_reducible rfl)))) | (refine seq_take (v := ?_) rfl rfl rfl ?_ ?_; rotate_left; (· (intro _ hSw; go_simp; (try go_bits); (try with_reducible rfl)))) | refine seq_skip rfl rfl rfl ?_); (try simp only [Act.put, pu1, pu2, pu3, pu4, pu5, pu6]))
  refine seq_step rfl rfl (fun KR hKR => ?_)
  go_simp
  with_reducible refine (rint_own 1 _ (by omega) (by omega)).mono ?_
  rintro _ w1 ⟨v1, rfl, e1, hb1⟩
  have hS1 := below_then hS0 hb1 hS0.size
  obtain ⟨B, l, d, B', l', d', rfl, _, _⟩ := id e1.frac
  refine hKR.out _ _ (Or.inr hS1) ?_
  clear hKR KR
  (try simp only [Act.put, pu1, pu2, pu3, pu4, pu5, pu6])
  repeat ((first | (refine seq_takeP (v := ?_) rfl rfl rfl ?_ ?_; rotate_left; (· (intro _ hSw; go_simp; (try go_bits); (try with_reducible rfl)))) | (refine seq_take (v := ?_) rfl rfl rfl ?_ ?_; rotate_left; (· (intro _ hSw; go_simp; (try go_bits); (try with_reducible rfl)))) | refine seq_skip rfl rfl rfl ?_); (try simp only [Act.put, pu1, pu2, pu3, pu4, pu5, pu6]))
  refine seq_step rfl rfl (fun KR hKR => ?_)
  go_simp
  with_reducible refine (rint_own 1 _ (by omega) (by omega)).mono ?_
  rintro _ w2 ⟨v2, rfl, e2, hb2⟩
  have hS2 := below_then hS1 hb2 hS1.size
  obtain ⟨D, k, f, D', k', f', rfl, _, _⟩ := id e2.frac
  have hm1 := (FracM.mk (ha.below hS2) (e1.frac.below hb2).num.1)
  have hm2 := (FracM.mk (hb.below hS2) e2.frac.num.1)
  refine hKR.out _ _ (Or.inr hS2) ?_
  clear hKR KR
  (try simp only [Act.put, pu1, pu2, pu3, pu4, pu5, pu6])
  repeat ((first | (refine seq_takeP (v := ?_) rfl rfl rfl ?_ ?_; rotate_left; (· (intro _ hSw; go_simp; (try go_bits); (try with_reducible rfl)))) | (refine seq_take (v := ?_) rfl rfl rfl ?_ ?_; rotate_left; (· (intro _ hSw; go_simp; (try go_bits); (try with_reducible rfl)))) | refine seq_skip rfl rfl rfl ?_); (try simp only [Act.put, pu1, pu2, pu3, pu4, pu5, pu6]))
  refine seq_step rfl rfl (fun KR hKR => ?_)
  go_simp
  with_reducible refine (rmulF_own _ _ ⟨a, canI 1⟩ ⟨b, canI 1⟩ _ hm1 hm2 sh1 sh2).mono ?_
  rw [HQ.out]
  rintro _ w3 ⟨v3, rfl, e3, hb3⟩
  have hS3 := below_then hS2 hb3 hS2.size
  obtain ⟨E, k3, f3, E', k3', f3', rfl, _, _⟩ := id e3.frac
  have hR3 := hR.later hS3
  obtain ⟨c0, c1, f0, f1⟩ := hR3.two
  refine hKR.out _ _ (Or.inr hS3) ?_
  clear hKR KR
  (try simp only [Act.put, pu1, pu2, pu3, pu4, pu5, pu6])
  repeat ((first | (refine seq_takeP (v := ?_) rfl rfl rfl ?_ ?_; rotate_left; (· (intro _ hSw; go_simp; (try go_bits); (try with_reducible rfl)))) | (refine seq_take (v := ?_) rfl rfl rfl ?_ ?_; rotate_left; (· (intro _ hSw; go_simp; (try go_bits); (try with_reducible rfl)))) | refine seq_skip rfl rfl rfl ?_); (try simp only [Act.put, pu1, pu2, pu3, pu4, pu5, pu6]))
  refine seq_step rfl rfl (fun KR hKR => ?_)
  go_simp
  refine hKR.out _ _ (Or.inl (by decide)) ?_
  clear hKR KR
  (try simp only [Act.put, pu1, pu2, pu3, pu4, pu5, pu6])
  refine seq_done ?_
  clear C1 C2 C3 C4
  have hbe3 := below_then hbe hS3 hbe.size
  have eN := (e3.numO).mono (show w.heap.size ≤ w2.heap.size from by have := hbe.size; have := hS2.size; omega)
  rw [HN.out] at eN
  have HE := Lib.hid eN
  clear e1 e2 e3 hm1 hm2 eN hb1 hb2 hb3 hS0 hS1 hS2 hS3 ha hb hX hX' hR
  go_wp2
  refine ret_cell Tryz.results54 Tryz.underlying45 (by kernel_rfl) rfl (hR3.set2 _ _) rfl ?_
  have HE := HE.out
  rw [← HN.out] at HE ⊢
  exact fin_intO hR3 HE hbe3 (by omega)
end Go.Proofs.YtpanffbgihhjnaaGreat

/- Memory: vectors and lists of vectors in rows of the call's own; append in a region that draws its order. -/
namespace Go.Proofs.YtpanffbgihhjnaaGreat
open Go.RowKit Pl

theorem seq_append_one {ops : Array Oper} {Q : Exit → Act → World → Prop} {S : World → Prop} {m : Nat} {i : Nat} {is : List Nat} {o : Oper} {a : Act} (hoi : ops[i]? = some o) (hf : floatI ops m i = false) (hgd : o.guard = none) (hl0 : m ≤ i) (s x : Operand) (t : TypeId)
    (ho : o.op = .call { callee := .builtin .append, args := #[s, x], argTypes := #[t, t] })
    (e : TypeId) (inf : TypeInfo) (z : Value) (size bytes : Nat) (ht : Tryz.prog.underlying t = some (.slice e)) (hi : Tryz.prog.info? e = some inf) (hz : inf.zero = some z)
    (hsize : inf.size = size) (hby : inf.bytes = bytes) (hzs : z.cells.size = size) (hsz : 0 < size) (W : World) (base : Nat) (v : Value) (n : Nat) (xs news : List Value) (hs : a.eval s = v) (hown : W.ownsRow base e size v n xs)
    (hx : a.eval x = .slice (some ⟨W.heap.size, 0, none⟩) 1 1) (hl : news.length = size) (h1 : ∀ u ∈ news, u.oneCell' = true) (hn : n + 1 ≤ maxLen) (hb : (n + 1) * bytes ≤ 140737488355328) (hbase : base ≤ W.heap.size)
    (h : ∀ v' w', w'.ownsRow base e size v' (n + 1) (xs ++ news) → KeepBut e W w' → Below base W w' → wpSeq Tryz.prog ops Q S m is (a.put o.dst v') w') :
    wpSeq Tryz.prog ops Q S m (i :: is) a (W.alloc (.cells news.toArray e)) := by
  refine seq_step hoi hf fun K hK => ?_
  obtain ⟨v', w', hr, h2, h3, h4⟩ := run_append_one o.type t e inf z size bytes ht hi hz hsize hby hzs hsz W base v n xs news hown hl h1 hn hb hbase
  rw [if_pos (by simp [Region.wanted, hgd])]
  unfold Oper.wp execOp
  simp only [ho, resolve, invoke, builtin, Sem.run_bind, Sem.run_pure, Result.andThen_ok, List.map_toArray, List.map_cons, List.map_nil, hs, hx, hr]
  exact hK _ _ (.inl hl0) (h v' w' h2 h3 h4)
theorem seq_append_frac {ops : Array Oper} {Q : Exit → Act → World → Prop} {S : World → Prop} {m : Nat} {i : Nat} {is : List Nat} {o : Oper} {a : Act} (hoi : ops[i]? = some o) (hfl : floatI ops m i = false) (hgd : o.guard = none) (hl0 : m ≤ i) (s x : Operand)
    (ho : o.op = .call { callee := .builtin .append, args := #[s, x], argTypes := #[23, 23] })
    (W : World) (base : Nat) (v : Value) (fs : List RF) (hs : a.eval s = v) (hown : FrsO base W v fs) (b b' : Bool) (A A' : Option Addr) (n c n' c' : Nat) (f : RF) (hf : FracM W (.agg #[.bool b, .slice A n c, .bool b', .slice A' n' c']) f)
    (hx : a.eval x = .slice (some ⟨W.heap.size, 0, none⟩) 1 1) (hn : fs.length + 1 ≤ 1099511627776) (hbase : base ≤ W.heap.size)
    (h : ∀ v' w', FrsO base w' v' (fs ++ [f]) → KeepBut 47 W w' → Below base W w' → wpSeq Tryz.prog ops Q S m is (a.put o.dst v') w') :
    wpSeq Tryz.prog ops Q S m (i :: is) a (W.alloc (.cells #[.bool b, .slice A n c, .bool b', .slice A' n' c'] 47)) := by
  obtain ⟨cs, h1, h2⟩ := hown
  obtain ⟨i0, hi, hz0, hz1, hz2⟩ := info_parts info_frac
  refine seq_append_one hoi hfl hgd hl0 s x 23 ho 47 i0 _ 4 64 Tryz.underlying23 hi hz0 hz1 hz2 rfl (by decide) W base v fs.length cs [.bool b, .slice A n c, .bool b', .slice A' n' c'] hs h1 hx rfl frac_oneCell (by unfold maxLen; omega) (by omega) hbase ?_
  intro v' w' g1 g2 g3
  refine h v' w' ⟨_, by simpa using g1, ?_⟩ g2 g3
  have hk := g2.keep (by decide)
  exact (h2.keep hk).snoc (hf.keep hk)

def VecO (base : Nat) (w : World) (v : Value) (es : List En) : Prop := ∃ cs, w.ownsRow base 80 5 v es.length cs ∧ EnC w cs es
theorem VecO.vec {base : Nat} {w : World} {v : Value} {es : List En} (h : VecO base w v es) : VecM w v es := by
  obtain ⟨cs, h1, h2⟩ := h
  exact ⟨cs, RowM.of_own h1, h2⟩
theorem VecO.below {base : Nat} {w w' : World} {v : Value} {es : List En} (h : VecO base w v es) (hb : Below w.heap.size w w') : VecO base w' v es := by
  obtain ⟨cs, h1, h2⟩ := h
  exact ⟨cs, own_below h1 hb, h2.keep (Keep.of_below hb)⟩
theorem VecO.nil (base : Nat) (w : World) : VecO base w (.slice none 0 0) [] := ⟨[], World.ownsRow_nil _ _ _ _, EnC.nil _⟩
theorem info_entry : (Tryz.prog.info? 80).map (fun i => (i.zero, i.size, i.bytes)) = some (some (.agg #[.int .i64 0, .bool false, .slice none 0 0, .bool false, .slice none 0 0]), 5, 72) := by kernel_rfl
theorem entry_oneCell {k : Int} {x y : Bool} {A A' : Option Addr} {n c n' c' : Nat} : ∀ u ∈ [Value.int .i64 k, .bool x, .slice A n c, .bool y, .slice A' n' c'], u.oneCell' = true := by
  intro u hu
  simp at hu
  rcases hu with rfl | rfl | rfl | rfl | rfl <;> rfl
theorem wpList_append_entry {ops : Array Oper} {rest : List Oper} {o : Oper} {a : Act} {Q : Exit → Act → World → Prop} (hgd : o.guard = none) (s x : Operand)
    (ho : o.op = .call { callee := .builtin .append, args := #[s, x], argTypes := #[59, 59] })
    (W : World) (base : Nat) (v : Value) (es : List En) (hs : a.eval s = v) (hown : VecO base W v es) (b b' : Bool) (A A' : Option Addr) (n c n' c' : Nat) (k : Int) (f : RF) (hf : FracM W (.agg #[.bool b, .slice A n c, .bool b', .slice A' n' c']) f)
    (hx : a.eval x = .slice (some ⟨W.heap.size, 0, none⟩) 1 1) (hn : es.length + 1 ≤ 1099511627776) (hbase : base ≤ W.heap.size)
    (h : ∀ v' w', VecO base w' v' (es ++ [⟨k, f⟩]) → KeepBut 80 W w' → Below base W w' → wpList Tryz.prog ops Q rest (a.put o.dst v') w') :
    wpList Tryz.prog ops Q (o :: rest) a (W.alloc (.cells #[.int .i64 k, .bool b, .slice A n c, .bool b', .slice A' n' c'] 80)) := by
  obtain ⟨cs, h1, h2⟩ := hown
  obtain ⟨i0, hi, hz0, hz1, hz2⟩ := info_parts info_entry
  refine wpList_append_one hgd s x 59 ho 80 i0 _ 5 72 Tryz.underlying59 hi hz0 hz1 hz2 rfl (by decide) W base v es.length cs [.int .i64 k, .bool b, .slice A n c, .bool b', .slice A' n' c'] hs h1 hx rfl entry_oneCell (by unfold maxLen; omega) (by omega) hbase ?_
  intro v' w' g1 g2 g3
  refine h v' w' ⟨_, by simpa using g1, ?_⟩ g2 g3
  have hk := g2.keep (by decide)
  exact (h2.keep hk).snoc (e := ⟨k, f⟩) (hf.keep hk)

def VecsO (base : Nat) (w : World) (v : Value) (cols : List (List En)) : Prop := ∃ cs, w.ownsRow base 59 1 v cols.length cs ∧ ∀ (k : Nat) (c : List En), cols[k]? = some c → ∃ u, cs[k]? = some u ∧ VecM w u c
theorem VecsO.vecs {base : Nat} {w : World} {v : Value} {cols : List (List En)} (h : VecsO base w v cols) : VecsM w v cols := by
  obtain ⟨cs, h1, h2⟩ := h
  exact ⟨cs, RowM.of_own h1, h2⟩
theorem VecsO.below {base : Nat} {w w' : World} {v : Value} {cols : List (List En)} (h : VecsO base w v cols) (hb : Below w.heap.size w w') : VecsO base w' v cols := by
  obtain ⟨cs, h1, h2⟩ := h
  exact ⟨cs, own_below h1 hb, fun k c hc => by obtain ⟨u, g1, g2⟩ := h2 k c hc; exact ⟨u, g1, g2.below hb⟩⟩
theorem VecsO.but {base : Nat} {w w' : World} {e : TypeId} {v : Value} {cols : List (List En)} (h : VecsO base w v cols) (hk : KeepBut e w w') (h0 : 59 ≠ e) (h1 : 80 ≠ e) (h2 : 85 ≠ e) : VecsO base w' v cols := by
  obtain ⟨cs, g1, g2⟩ := h
  exact ⟨cs, hk.own g1 h0, fun k c hc => by obtain ⟨u, q1, q2⟩ := g2 k c hc; exact ⟨u, q1, q2.but hk h1 h2⟩⟩
theorem VecsM.but {w w' : World} {e : TypeId} {v : Value} {cols : List (List En)} (h : VecsM w v cols) (hk : KeepBut e w w') (h0 : 59 ≠ e) (h1 : 80 ≠ e) (h2 : 85 ≠ e) : VecsM w' v cols := by
  obtain ⟨cs, g1, g2⟩ := h
  exact ⟨cs, hk.row g1 h0, fun k c hc => by obtain ⟨u, q1, q2⟩ := g2 k c hc; exact ⟨u, q1, q2.but hk h1 h2⟩⟩
theorem VecsO.nil (base : Nat) (w : World) : VecsO base w (.slice none 0 0) [] := ⟨[], World.ownsRow_nil _ _ _ _, fun k c h => by simp at h⟩
theorem info_vector : (Tryz.prog.info? 59).map (fun i => (i.zero, i.size, i.bytes)) = some (some (.slice none 0 0), 1, 24) := by kernel_rfl
theorem seq_append_vec {ops : Array Oper} {Q : Exit → Act → World → Prop} {S : World → Prop} {m : Nat} {i : Nat} {is : List Nat} {o : Oper} {a : Act} (hoi : ops[i]? = some o) (hfl : floatI ops m i = false) (hgd : o.guard = none) (hl0 : m ≤ i) (s x : Operand)
    (ho : o.op = .call { callee := .builtin .append, args := #[s, x], argTypes := #[24, 24] })
    (W : World) (base : Nat) (v : Value) (cols : List (List En)) (hs : a.eval s = v) (hown : VecsO base W v cols) (A : Option Addr) (n c : Nat) (es : List En) (hf : VecM W (.slice A n c) es)
    (hx : a.eval x = .slice (some ⟨W.heap.size, 0, none⟩) 1 1) (hn : cols.length + 1 ≤ 1099511627776) (hbase : base ≤ W.heap.size)
    (h : ∀ v' w', VecsO base w' v' (cols ++ [es]) → KeepBut 59 W w' → Below base W w' → wpSeq Tryz.prog ops Q S m is (a.put o.dst v') w') :
    wpSeq Tryz.prog ops Q S m (i :: is) a (W.alloc (.cells #[.slice A n c] 59)) := by
  obtain ⟨cs, h1, h2⟩ := hown
  obtain ⟨i0, hi, hz0, hz1, hz2⟩ := info_parts info_vector
  refine seq_append_one hoi hfl hgd hl0 s x 24 ho 59 i0 _ 1 24 Tryz.underlying24 hi hz0 hz1 hz2 rfl (by decide) W base v cols.length cs [.slice A n c] hs h1 hx rfl (fun u hu => by simp at hu; subst hu; rfl) (by unfold maxLen; omega) (by omega) hbase ?_
  intro v' w' g1 g2 g3
  refine h v' w' ⟨_, by simpa using g1, fun k d hd => ?_⟩ g2 g3
  have hlen : cs.length = cols.length := by simpa using h1.1
  rcases Nat.lt_or_ge k cols.length with hk | hk
  · rw [List.getElem?_append_left hk] at hd
    obtain ⟨u, q1, q2⟩ := h2 k d hd
    exact ⟨u, by rw [List.getElem?_append_left (by omega)]; exact q1, q2.but g2 (by decide) (by decide)⟩
  · rw [List.getElem?_append_right hk] at hd
    have hk0 : k - cols.length = 0 := by
      rcases Nat.eq_zero_or_pos (k - cols.length) with e | e
      · exact e
      · rw [List.getElem?_eq_none (by simp; omega)] at hd; cases hd
    rw [hk0] at hd
    simp at hd
    subst hd
    refine ⟨.slice A n c, ?_, hf.but g2 (by decide) (by decide)⟩
    rw [List.getElem?_append_right (by omega), show k - cs.length = 0 by omega]; rfl
theorem KeepBut.of_below {e : TypeId} {w w' : World} (hb : Below w.heap.size w w') : KeepBut e w w' := fun b _ _ _ _ h => (hb.block b (lt_heap h)).trans h
theorem KeepBut.then {e : TypeId} {w W w' : World} (h : KeepBut e w W) (hb : Below w.heap.size W w') : KeepBut e w w' := fun b cs t fz ht hc => (hb.block b (lt_heap hc)).trans (h b cs t fz ht hc)
theorem KeepBut.refl (e : TypeId) (w : World) : KeepBut e w w := fun _ _ _ _ _ h => h
end Go.Proofs.YtpanffbgihhjnaaGreat

/- Walks: package pairingdata: column. -/
namespace Go.Proofs.YtpanffbgihhjnaaGreat
open Go.RowKit Pl
attribute [local go_sem ↓] Go.wp_at_zero Go.wp_at_succ

namespace Pl
theorem Inc_snoc {es : List En} {p : Option Int} {e : En} (h : Inc p es) (hp : es = [] → leP p e.idx = false) (hlt : ∀ (k : Nat) (d : En), es[k]? = some d → d.idx < e.idx) : Inc p (es ++ [e]) := by
  induction es generalizing p with
  | nil => exact ⟨hp rfl, trivial⟩
  | cons d es ih =>
    refine ⟨h.1, ih h.2 (fun _ => ?_) (fun k c hc => hlt (k + 1) c (by simpa using hc))⟩
    have := hlt 0 d rfl
    simp [leP]; omega
def ColOK (m : Nat) (es : List En) : Prop := Inc none es ∧ es.length ≤ m ∧ ∀ (k : Nat) (e : En), es[k]? = some e → 0 ≤ e.idx ∧ e.idx < m ∧ e.f.q ≠ 0 ∧ e.f.Rs 1
theorem ColOK.nil : ColOK 0 [] := ⟨trivial, Nat.le_refl _, fun k e h => by simp at h⟩
theorem ColOK.next {m : Nat} {es : List En} (h : ColOK m es) : ColOK (m + 1) es := ⟨h.1, by have := h.2.1; omega, fun k e he => by have := h.2.2 k e he; exact ⟨this.1, by omega, this.2.2⟩⟩
theorem ColOK.snoc {m : Nat} {es : List En} (h : ColOK m es) {z : Int} (h0 : z ≠ 0) (h1 : -4294967296 < z) (h2 : z < 4294967296) : ColOK (m + 1) (es ++ [⟨(m : Int), canF (z : Rat)⟩]) := by
  refine ⟨Inc_snoc h.1 (fun _ => rfl) (fun k d hd => (h.2.2 k d hd).2.1), by simp; exact h.2.1, fun k e he => ?_⟩
  rcases Nat.lt_or_ge k es.length with hk | hk
  · rw [List.getElem?_append_left hk] at he
    have := h.2.2 k e he
    exact ⟨this.1, by omega, this.2.2⟩
  · rw [List.getElem?_append_right hk] at he
    have hk0 : k - es.length = 0 := by
      rcases Nat.eq_zero_or_pos (k - es.length) with e | e
      · exact e
      · rw [List.getElem?_eq_none (by simp; omega)] at he; cases he
    rw [hk0] at he
    simp at he
    subst he
    refine ⟨by simp only; omega, by simp only; omega, ?_, (Sz_int h1 h2).rs⟩
    simp only [canF_q]
    exact fun e => h0 (by simpa using congrArg Rat.num e)
theorem vErr_of {n : Int} {es : List En} {p : Option Int} (h : Inc p es) (hr : ∀ (k : Nat) (e : En), es[k]? = some e → 0 ≤ e.idx ∧ e.idx < n ∧ e.f.q ≠ 0) : vErr n es p = 0 := by
  induction es generalizing p with
  | nil => rfl
  | cons d es ih =>
    have := hr 0 d rfl
    rw [vErr, if_neg (by omega), if_neg (by rw [h.1]; simp), if_neg this.2.2]
    exact ih h.2 fun k e he => hr (k + 1) e (by simpa using he)
theorem ColOK.err {m : Nat} {es : List En} (h : ColOK m es) (hm : m ≤ 4096) : vecErr es m = 0 := by
  unfold vecErr
  rw [if_neg (by omega)]
  exact vErr_of h.1 fun k e he => by have := h.2.2 k e he; exact ⟨this.1, this.2.1, this.2.2.1⟩
end Pl

def ColPost (m : Nat) (w : World) (e : Ending) (w' : World) : Prop := ∃ v' es, e = .returned v' ∧ VecO w.heap.size w' v' es ∧ ColOK m es ∧ Below w.heap.size w w'

set_option maxRecDepth 100000 in
set_option maxHeartbeats 2000000 in
theorem column_own (v : Value) (zs : List Int) (t m : Nat) (w : World) (h : IntsM w v zs) (ht : t ≤ 1000000) (hm : m ≤ 1000) :
    Calls Tryz.prog 26 #[v, .int .i64 (t : Int), .int .i64 (m : Int)] w (ColPost m w) := by
  obtain ⟨a, cap, rfl, hc1, hc2⟩ := h.shape
  generalize hn : zs.length = n at *
  clear hn
  go_enter Tryz.func26, Tryz.ntmps26
  go_wp2
  go_loopw [7, 8] (fun s i wr => ∃ (k : Nat) (es : List En), k ≤ m ∧ i = .int .i64 k ∧ VecO w.heap.size wr s es ∧ ColOK k es ∧ Below w.heap.size w wr) (fun _ i _ => m - (intOf i).toNat)
  case atStart => exact ⟨0, [], by omega, rfl, VecO.nil _ _, ColOK.nil, Below.refl _ _⟩
  case round =>
    obtain ⟨k, es, hk, rfl, hown, hcol, hbe⟩ := hrel
    have HC := Lib.hid hcol
    clear hcol
    rcases Nat.lt_or_ge k m with hkl | hkl
    · go_wp2_with fail
      refine (at_any _ zs (t + k) _ (h.below hbe) (by omega)).mono ?_
      rintro _ w1 ⟨z, rfl, z0, z1, hb1⟩
      have hown1 := hown.below hb1
      have hbe1 := below_then hbe hb1 hbe.size
      clear hown hbe hb1
      by_cases hz : z % 6 = 2
      · have hz' : (z % 6 - 2 != 0) = false := by simp; omega
        clear hz
        go_wp2
        go_roundw
        case rel => exact ⟨k + 1, es, by omega, by go_num, hown1, HC.out.next, hbe1⟩
        case measure => simp [intOf]; omega
      · have hz' : (z % 6 - 2 != 0) = true := by simp; omega
        have HZ : Hid (z % 6 - 2 ≠ 0) := Lib.hid (by omega)
        have r1 : -2 ≤ z % 6 - 2 := by omega
        have r2 : z % 6 - 2 ≤ 3 := by omega
        clear hz
        go_wp2_with fail
        refine (at_any _ zs (t + k) _ (h.below hbe1) (by omega)).mono ?_
        rintro _ w2 ⟨z', rfl, _, _, hb2⟩
        have hown2 := hown1.below hb2
        have hbe2 := below_then hbe1 hb2 hbe1.size
        clear hown1 hbe1 hb2
        rcases Int.lt_or_le z' 60000 with hlt | hlt
        · go_wp2_with fail
          refine (rint_own (z % 6 - 2) _ (by omega) (by omega)).mono ?_
          rintro _ w3 ⟨v3, rfl, e3, hb3⟩
          have hown3 := hown2.below hb3
          have hbe3 := below_then hbe2 hb3 hbe2.size
          obtain ⟨B, l, d, B', l', d', rfl, _, _⟩ := id e3.frac
          have HF := Lib.hid e3.frac
          have HO := Lib.hid hown3
          have hlen : es.length + 1 ≤ 1099511627776 := by have := HC.out.2.1; omega
          have hbs := hbe3.size
          have HS := Lib.hid (HC.out.snoc (z := z % 6 - 2) HZ.out (by omega) (by omega))
          clear hown2 hown3 hbe2 hb3 e3
          generalize hQ : canF ((z % 6 - 2 : Int) : Rat) = Q at *
          have HQ := Lib.hid hQ
          clear hQ
          go_wp2_with (at_builtin; refine wpList_append_entry rfl (.tmp 32) (.tmp 37) rfl w3 w.heap.size u7 es rfl HO.out _ _ B B' l d l' d' (k : Int) Q HF.out rfl hlen hbs ?_)
          intro v' w4 hown4 hk4 hb4
          go_wp2
          go_roundw
          case rel => exact ⟨k + 1, es ++ [⟨(k : Int), Q⟩], by omega, by go_num, hown4, HS.out, hbe3.trans hb4⟩
          case measure => simp [intOf]; omega
        · go_wp2
          go_roundw
          case rel => exact ⟨k + 1, es, by omega, by go_num, hown2, HC.out.next, hbe2⟩
          case measure => simp [intOf]; omega
    · obtain rfl : k = m := by omega
      go_wp2
      go_ret
      exact ⟨_, es, rfl, hown, HC.out, hbe⟩
end Go.Proofs.YtpanffbgihhjnaaGreat

/- Walks: package pairingdata: LP. -/
namespace Go.Proofs.YtpanffbgihhjnaaGreat
open Go.RowKit Pl
attribute [local go_sem ↓] Go.wp_at_zero Go.wp_at_succ

theorem Bk.threeF {w : World} {g : Nat} {t : TypeId} {cs : List Value} (h : Bk w g t cs) : w.frozen? ⟨g, 0, none⟩ = false ∧ w.frozen? ⟨g, 1, none⟩ = false ∧ w.frozen? ⟨g, 2, none⟩ = false := ⟨h.frozen 0, h.frozen 1, h.frozen 2⟩
theorem FrsO.own_lt {base : Nat} {w : World} {v : Value} {fs : List RF} (h : FrsO base w v fs) : ∀ g, v.ownBlock = some g → g < w.heap.size := by
  obtain ⟨cs, h1, h2⟩ := h
  intro g hg
  rcases h1.2 with ⟨rfl, _⟩ | ⟨g', cap, cur, rfl, _, hgg, _⟩
  · simp [Value.ownBlock] at hg
  · simp [Value.ownBlock] at hg
    subst hg
    exact lt_heap hgg
theorem FrsO.slice {base : Nat} {w : World} {v : Value} {fs : List RF} (h : FrsO base w v fs) : ∃ A c, v = .slice A fs.length c := by
  obtain ⟨A, c, e, _, _⟩ := h.frs.shape; exact ⟨A, c, e⟩
theorem VecsO.slice {base : Nat} {w : World} {v : Value} {fs : List (List En)} (h : VecsO base w v fs) : ∃ A c, v = .slice A fs.length c := by
  obtain ⟨A, c, e, _, _⟩ := h.vecs.shape; exact ⟨A, c, e⟩
theorem FrsO.sliceN {base : Nat} {w : World} {v : Value} {fs : List RF} (h : FrsO base w v fs) : ∃ A n c, v = .slice A n c := by
  obtain ⟨A, c, e⟩ := h.slice; exact ⟨A, _, c, e⟩
theorem VecsO.sliceN {base : Nat} {w : World} {v : Value} {fs : List (List En)} (h : VecsO base w v fs) : ∃ A n c, v = .slice A n c := by
  obtain ⟨A, c, e⟩ := h.slice; exact ⟨A, _, c, e⟩
def LpO (base : Nat) (w : World) (v : Value) (p : LPd) : Prop :=
  ∃ s0 s1 s2 b1, v = .agg #[s0, s1, s2] ∧ FrsO base w s0 p.cost ∧ VecsM w s1 p.cols ∧ FrsO b1 w s2 p.right ∧ base ≤ b1 ∧ ∀ g, s0.ownBlock = some g → g < b1
theorem LpO.lp {base : Nat} {w : World} {v : Value} {p : LPd} (h : LpO base w v p) : LpM w v p := by
  obtain ⟨s0, s1, s2, b1, rfl, h0, h1, h2, _, _⟩ := h
  obtain ⟨A, c, rfl⟩ := h0.slice
  obtain ⟨A', c', rfl, _, _⟩ := h1.shape
  obtain ⟨A'', c'', rfl⟩ := h2.slice
  exact ⟨_, _, _, _, _, _, _, _, _, rfl, h0.frs, h1, h2.frs⟩
theorem LpO.below {base : Nat} {w w' : World} {v : Value} {p : LPd} (h : LpO base w v p) (hb : Below w.heap.size w w') : LpO base w' v p := by
  obtain ⟨s0, s1, s2, b1, rfl, h0, h1, h2, h3, h4⟩ := h
  exact ⟨s0, s1, s2, b1, rfl, h0.below hb, h1.below hb, h2.below hb, h3, h4⟩
namespace Pl
theorem RsL.snoc {k : Nat} {fs : List RF} (h : RsL k fs) {f : RF} (hf : f.Rs k) : RsL k (fs ++ [f]) := fun i g hg => by
  rcases Nat.lt_or_ge i fs.length with hi | hi
  · rw [List.getElem?_append_left hi] at hg; exact h i g hg
  · rw [List.getElem?_append_right hi] at hg
    have : i - fs.length = 0 := by
      rcases Nat.eq_zero_or_pos (i - fs.length) with e | e
      · exact e
      · rw [List.getElem?_eq_none (by simp; omega)] at hg; cases hg
    rw [this] at hg; simp at hg; subst hg; exact hf
theorem RsL.nil (k : Nat) : RsL k [] := fun i f h => by simp at h
theorem RsL.mono {j k : Nat} {fs : List RF} (h : RsL j fs) (hk : j ≤ k) : RsL k fs := fun i f hf => (h i f hf).mono hk
theorem cols_snoc {m : Nat} {cols : List (List En)} (h : ∀ (j : Nat) (c : List En), cols[j]? = some c → ColOK m c) {es : List En} (he : ColOK m es) : ∀ (j : Nat) (c : List En), (cols ++ [es])[j]? = some c → ColOK m c := fun j c hc => by
  rcases Nat.lt_or_ge j cols.length with hi | hi
  · rw [List.getElem?_append_left hi] at hc; exact h j c hc
  · rw [List.getElem?_append_right hi] at hc
    have : j - cols.length = 0 := by
      rcases Nat.eq_zero_or_pos (j - cols.length) with e | e
      · exact e
      · rw [List.getElem?_eq_none (by simp; omega)] at hc; cases hc
    rw [this] at hc; simp at hc; subst hc; exact he
def LpOK (p : LPd) : Prop := 1 ≤ p.right.length ∧ p.right.length ≤ 3 ∧ p.cols.length ≤ 5 ∧ p.cost.length = p.cols.length ∧ RsL 1 p.cost ∧ ∀ (j : Nat) (c : List En), p.cols[j]? = some c → ColOK p.right.length c
theorem colsErr_of {n : Int} {cs : List (List En)} (h : ∀ (j : Nat) (c : List En), cs[j]? = some c → vecErr c n = 0) : colsErr n cs = 0 := by
  induction cs with
  | nil => rfl
  | cons c cs ih =>
    rw [colsErr, if_pos (h 0 c rfl)]
    exact ih fun j d hd => h (j + 1) d (by simpa using hd)
theorem LpOK.err {p : LPd} (h : LpOK p) : lpErr p = 0 := by
  obtain ⟨h1, h2, h3, h4, h5, h6⟩ := h
  unfold lpErr
  rw [if_neg (by omega), if_neg (by omega)]
  exact colsErr_of fun j c hc => (h6 j c hc).err (by omega)
theorem LpOK.ok {p : LPd} (h : LpOK p) {K : Nat} (hK : 1 ≤ K) (hr : RsL K p.right) : p.Ok K := by
  obtain ⟨h1, h2, h3, h4, h5, h6⟩ := h
  refine ⟨h5.mono hK, hr, fun j c hc => ⟨fun k e he => ?_, fun k e he => ((h6 j c hc).2.2 k e he).2.2.2.mono hK⟩⟩
  have := (h6 j c hc).2.2 k e he
  omega
end Pl
theorem at_int (v : Value) (zs : List Int) (i : Int) (w : World) (h : IntsM w v zs) (h0 : 0 ≤ i) (hi : i ≤ 1099511627776) :
    Calls Tryz.prog 18 #[v, .int .i64 i] w fun e w' => ∃ z : Int, e = .returned (.int .i64 z) ∧ 0 ≤ z ∧ z ≤ 65535 + i ∧ Below w.heap.size w w' := by
  obtain ⟨k, rfl⟩ := Int.eq_ofNat_of_zero_le h0
  exact at_any v zs k w h (by omega)
theorem column_int (v : Value) (zs : List Int) (t : Int) (m : Nat) (w : World) (h : IntsM w v zs) (h0 : 0 ≤ t) (ht : t ≤ 1000000) (hm : m ≤ 1000) :
    Calls Tryz.prog 26 #[v, .int .i64 t, .int .i64 (m : Int)] w (ColPost m w) := by
  obtain ⟨k, rfl⟩ := Int.eq_ofNat_of_zero_le h0
  exact column_own v zs k m w h (by omega) hm
def LpPost (w : World) (e : Ending) (w' : World) : Prop := ∃ v' p, e = .returned v' ∧ LpO w.heap.size w' v' p ∧ LpOK p ∧ RsL 2 p.right ∧ Below w.heap.size w w'

set_option maxRecDepth 100000 in
set_option maxHeartbeats 8000000 in
theorem lp_own (v : Value) (zs : List Int) (w : World) (h : IntsM w v zs) :
    Calls Tryz.prog 7 #[v] w (LpPost w) := by
  obtain ⟨a, cap, rfl, hc1, hc2⟩ := h.shape
  generalize hn : zs.length = n at *
  clear hn
  obtain ⟨W, hW, hR, hbe0⟩ := box_lp w (.slice none 0 0) (.slice none 0 0) (.slice none 0 0)
  obtain ⟨W1, hW1, hX, hbe1⟩ := box_lp W (.slice none 0 0) (.slice none 0 0) (.slice none 0 0)
  have hR := hR.later hbe1
  have hbe := below_then hbe0 hbe1 hbe0.size
  have hsz : W.heap.size = w.heap.size + 1 := by rw [← hW]; simp
  rw [hsz] at hX
  clear hbe0 hbe1
  go_enter Tryz.func7, Tryz.ntmps7
  go_wp2_with fail
  clear hW hW1 hsz
  refine (at_any _ zs 0 _ (h.below hbe) (by omega)).mono ?_
  rintro _ w1 ⟨z, rfl, z0, z1, hb1⟩
  have hX1 := hX.later hb1
  have hR1 := hR.later hb1
  have hbe1 := below_then hbe hb1 hbe.size
  clear hX hR hbe hb1
  go_wp2_with fail
  refine (at_any _ zs 1 _ (h.below hbe1) (by omega)).mono ?_
  rintro _ w2 ⟨y, rfl, y0, y1, hb2⟩
  have hX2 := hX1.later hb2
  have hR2 := hR1.later hb2
  have hbe2 := below_then hbe1 hb2 hbe1.size
  obtain ⟨m, hm⟩ : ∃ m : Nat, 1 + z % 3 = (m : Int) := ⟨(1 + z % 3).toNat, by omega⟩
  obtain ⟨N, hN1, hN2⟩ : ∃ N : Nat, y % 6 ≤ (N : Int) ∧ (N : Int) ≤ y % 6 := ⟨(y % 6).toNat, by omega, by omega⟩
  have m1 : 1 ≤ m := by omega
  have m2 : m ≤ 3 := by omega
  have n1 : N ≤ 5 := by omega
  clear hX1 hR1 hbe1 hb2
  go_wp2
  clear hm z0 z1
  go_loopw [6] (fun i wr => ∃ (k : Nat) (s0 s1 : Value) (cs : List RF) (cols : List (List En)), k ≤ N ∧ i = .int .i64 k ∧ Below w.heap.size w wr ∧ Bk wr w.heap.size 26 [.slice none 0 0, .slice none 0 0, .slice none 0 0] ∧ Bk wr (w.heap.size + 1) 26 [s0, s1, .slice none 0 0] ∧ FrsO w.heap.size wr s0 cs ∧ VecsO w.heap.size wr s1 cols ∧ cs.length = k ∧ cols.length = k ∧ RsL 1 cs ∧ ∀ (j : Nat) (c : List En), cols[j]? = some c → ColOK m c) (fun i _ => N - (intOf i).toNat)
  case atStart => exact ⟨0, _, _, [], [], by omega, rfl, hbe2, hR2, hX2, FrsO.nil _ _, VecsO.nil _ _, rfl, rfl, RsL.nil _, fun j c h => by simp at h⟩
  case round =>
    clear hbe2 hR2 hX2
    obtain ⟨k, s0, s1, cs, cols, hk, rfl, hbe, hR, hX, hO, hV, hl1, hl2, hrs, hco⟩ := hrel
    have HL1 := Lib.hid hl1
    have HL2 := Lib.hid hl2
    have HR1 := Lib.hid hrs
    have HCO1 := Lib.hid hco
    have hlen : cs.length + 1 ≤ 1099511627776 := by omega
    have hlen2 : cols.length + 1 ≤ 1099511627776 := by omega
    clear hl1 hl2 hrs hco
    rcases Nat.lt_or_ge k N with hkl | hkl
    · obtain ⟨A0, c0, rfl⟩ := hO.slice
      obtain ⟨A1, c1, rfl⟩ := hV.slice
      obtain ⟨x0, x1, x2⟩ := hX.three
      go_wp2_with fail
      have C0 := stab x0
      have hS0 := below_drew' wr
      clear x0 x1 x2
      generalize hs0 : Value.slice A0 cs.length c0 = s0 at *
      generalize hs1 : Value.slice A1 cols.length c1 = s1 at *
      clear hs0 hs1
      refine region_seq 10 [0, 1, 2, 3, 4, 5, 6, 7, 8, 9, 10, 11, 12] (by kernel_rfl) (by kernel_rfl) ?_
      repeat ((first | (refine seq_takeP (v := ?_) rfl rfl rfl ?_ ?_; rotate_left; (· (intro _ hSw; go_simp; (try go_bits); (try with_reducible rfl)))) | (refine seq_take (v := ?_) rfl rfl rfl ?_ ?_; rotate_left; (· (intro _ hSw; go_simp; (try go_bits); (try with_reducible rfl)))) | refine seq_skip rfl rfl rfl ?_); (try simp only [Act.put, pu1, pu2, pu3, pu4, pu5, pu6]))
      refine seq_step rfl rfl (fun KR hKR => ?_)
      go_simp
      with_reducible refine (at_int _ zs (2 + (k : Int)) _ ((h.below hbe).below hS0) (by omega) (by omega)).mono ?_
      rintro _ w1 ⟨z, rfl, z0, z1, hb1⟩
      have hS1 := below_then hS0 hb1 hS0.size
      refine hKR.out _ _ (Or.inr hS1) ?_
      clear hKR KR
      (try simp only [Act.put, pu1, pu2, pu3, pu4, pu5, pu6])
      repeat ((first | (refine seq_takeP (v := ?_) rfl rfl rfl ?_ ?_; rotate_left; (· (intro _ hSw; go_simp; (try go_bits); (try with_reducible rfl)))) | (refine seq_take (v := ?_) rfl rfl rfl ?_ ?_; rotate_left; (· (intro _ hSw; go_simp; (try go_bits); (try with_reducible rfl)))) | refine seq_skip rfl rfl rfl ?_); (try simp only [Act.put, pu1, pu2, pu3, pu4, pu5, pu6]))
      refine seq_step rfl rfl (fun KR hKR => ?_)
      go_simp
      with_reducible refine (rint_own (z % 10 - 4) _ (by omega) (by omega)).mono ?_
      rintro _ w2 ⟨v2, rfl, e2, hb2⟩
      have hS2 := below_then hS1 hb2 hS1.size
      obtain ⟨B, l, d, B', l', d', rfl, _, _⟩ := id e2.frac
      have HF := Lib.hid e2.frac
      have HRS := Lib.hid (Sz_int (z := z % 10 - 4) (by omega) (by omega)).rs
      clear e2
      generalize canF ((z % 10 - 4 : Int) : Rat) = Q at *
      refine hKR.out _ _ (Or.inr hS2) ?_
      clear hKR KR
      (try simp only [Act.put, pu1, pu2, pu3, pu4, pu5, pu6])
      repeat ((first | (refine seq_takeP (v := ?_) rfl rfl rfl ?_ ?_; rotate_left; (· (intro _ hSw; go_simp; (try go_bits); (try with_reducible rfl)))) | (refine seq_take (v := ?_) rfl rfl rfl ?_ ?_; rotate_left; (· (intro _ hSw; go_simp; (try go_bits); (try with_reducible rfl)))) | refine seq_skip rfl rfl rfl ?_); (try simp only [Act.put, pu1, pu2, pu3, pu4, pu5, pu6]))
      refine seq_step rfl rfl (fun KR hKR => ?_)
      go_simp
      refine hKR.out _ _ (Or.inr (below_then hS2 (below_new _ _) hS2.size)) ?_
      clear hKR KR
      (try simp only [Act.put, pu1, pu2, pu3, pu4, pu5, pu6])
      have HO := Lib.hid (hO.below hS2)
      have hbs : w.heap.size ≤ w2.heap.size := by have := hbe.size; have := hS2.size; omega
      refine seq_append_frac rfl rfl rfl (by decide) (.tmp 21) (.tmp 29) rfl w2 w.heap.size s0 cs rfl HO.out _ _ B B' l d l' d' Q HF.out rfl hlen hbs ?_
      intro v' w4 hown4 hk4 hb4
      obtain ⟨A4, n4, c4, rfl⟩ := hown4.sliceN
      (try simp only [Act.put, pu1, pu2, pu3, pu4, pu5, pu6])
      have hX4 := hk4.bk (hX.later hS2) (by decide)
      have hR4 := hk4.bk (hR.later hS2) (by decide)
      have hV4 := (hV.below hS2).but hk4 (by decide) (by decide) (by decide)
      have hbe4 := (below_then hbe hS2 hbe.size).trans hb4
      obtain ⟨c0, c1, c2⟩ := hX4.three
      obtain ⟨f0, f1, f2⟩ := hX4.threeF
      refine seq_step rfl rfl (fun KR hKR => ?_)
      go_simp
      refine hKR.out _ _ (Or.inl (by decide)) ?_
      clear hKR KR
      (try simp only [Act.put, pu1, pu2, pu3, pu4, pu5, pu6])
      refine seq_step rfl rfl (fun KR hKR => ?_)
      go_simp
      refine hKR.out _ _ (Or.inl (by decide)) ?_
      clear hKR KR
      (try simp only [Act.put, pu1, pu2, pu3, pu4, pu5, pu6])
      refine seq_done ?_
      generalize hv' : Value.slice A4 n4 c4 = v' at *
      clear hv'
      have hX5 := hX4.set_ 0 v'
      have hR5 := hR4.far (p := ⟨w.heap.size + 1, 0, none⟩) (by simp) v'
      have hk5 := KeepBut.setCell hX4 0 v'
      have hO5 := hown4.but hk5 (by decide) (by decide)
      have hV5 := hV4.but hk5 (by decide) (by decide) (by decide)
      have hbe5 := hbe4.setCell (p := ⟨w.heap.size + 1, 0, none⟩) (by simp) v'
      generalize w4.setCell ⟨w.heap.size + 1, 0, none⟩ v' = W5 at *
      clear hX4 hR4 hk5 hown4 hV4 hbe4 hk4 hb4 c0 c1 c2 f0 f1 f2 hX hR hO hV hS0 hS1 hS2 hb1 hb2 HO HF C0 hbs hbe
      have HRS2 := Lib.hid (HR1.out.snoc HRS.out)
      simp only [List.set_cons_zero] at hX5
      obtain ⟨x0, x1, x2⟩ := hX5.three
      go_wp2_with fail
      have C1 := stab x1
      have hS0 := below_drew' W5
      clear x0 x1 x2
      refine region_seq 9 [0, 1, 2, 3, 4, 5, 6, 7, 8, 9, 10, 11] (by kernel_rfl) (by kernel_rfl) ?_
      repeat ((first | (refine seq_takeP (v := ?_) rfl rfl rfl ?_ ?_; rotate_left; (· (intro _ hSw; go_simp; (try go_bits); (try with_reducible rfl)))) | (refine seq_take (v := ?_) rfl rfl rfl ?_ ?_; rotate_left; (· (intro _ hSw; go_simp; (try go_bits); (try with_reducible rfl)))) | refine seq_skip rfl rfl rfl ?_); (try simp only [Act.put, pu1, pu2, pu3, pu4, pu5, pu6]))
      refine seq_step rfl rfl (fun KR hKR => ?_)
      go_simp
      with_reducible refine (column_int _ zs (8 + 3 * (k : Int)) m _ ((h.below hbe5).below hS0) (by omega) (by omega) (by omega)).mono ?_
      rintro _ w1 ⟨v1, es, rfl, e1, hcol, hb1⟩
      have hS1 := below_then hS0 hb1 hS0.size
      obtain ⟨Ae, ce, rfl, _, _⟩ := e1.vec.shape
      have HE := Lib.hid e1.vec
      have HCO := Lib.hid hcol
      clear e1 hcol
      refine hKR.out _ _ (Or.inr hS1) ?_
      clear hKR KR
      (try simp only [Act.put, pu1, pu2, pu3, pu4, pu5, pu6])
      repeat ((first | (refine seq_takeP (v := ?_) rfl rfl rfl ?_ ?_; rotate_left; (· (intro _ hSw; go_simp; (try go_bits); (try with_reducible rfl)))) | (refine seq_take (v := ?_) rfl rfl rfl ?_ ?_; rotate_left; (· (intro _ hSw; go_simp; (try go_bits); (try with_reducible rfl)))) | refine seq_skip rfl rfl rfl ?_); (try simp only [Act.put, pu1, pu2, pu3, pu4, pu5, pu6]))
      refine seq_step rfl rfl (fun KR hKR => ?_)
      go_simp
      refine hKR.out _ _ (Or.inr (below_then hS1 (below_new _ _) hS1.size)) ?_
      clear hKR KR
      (try simp only [Act.put, pu1, pu2, pu3, pu4, pu5, pu6])
      have HO := Lib.hid (hV5.below hS1)
      have hbs : w.heap.size ≤ w1.heap.size := by have := hbe5.size; have := hS1.size; omega
      refine seq_append_vec rfl rfl rfl (by decide) (.tmp 33) (.tmp 40) rfl w1 w.heap.size s1 cols rfl HO.out Ae es.length ce es HE.out rfl hlen2 hbs ?_
      intro v'' w6 hown6 hk6 hb6
      obtain ⟨A6, n6, c6, rfl⟩ := hown6.sliceN
      (try simp only [Act.put, pu1, pu2, pu3, pu4, pu5, pu6])
      have hX6 := hk6.bk (hX5.later hS1) (by decide)
      have hR6 := hk6.bk (hR5.later hS1) (by decide)
      have hO6 := (hO5.below hS1).but hk6 (by decide) (by decide)
      have hbe6 := (below_then hbe5 hS1 hbe5.size).trans hb6
      obtain ⟨c0, c1, c2⟩ := hX6.three
      obtain ⟨f0, f1, f2⟩ := hX6.threeF
      refine seq_step rfl rfl (fun KR hKR => ?_)
      go_simp
      refine hKR.out _ _ (Or.inl (by decide)) ?_
      clear hKR KR
      (try simp only [Act.put, pu1, pu2, pu3, pu4, pu5, pu6])
      refine seq_step rfl rfl (fun KR hKR => ?_)
      go_simp
      refine hKR.out _ _ (Or.inl (by decide)) ?_
      clear hKR KR
      (try simp only [Act.put, pu1, pu2, pu3, pu4, pu5, pu6])
      refine seq_done ?_
      generalize hv'' : Value.slice A6 n6 c6 = v'' at *
      clear hv''
      have hX7 := hX6.set_ 1 v''
      have hR7 := hR6.far (p := ⟨w.heap.size + 1, 1, none⟩) (by simp) v''
      have hk7 := KeepBut.setCell hX6 1 v''
      have hO7 := hO6.but hk7 (by decide) (by decide)
      have hV7 := hown6.but hk7 (by decide) (by decide) (by decide)
      have hbe7 := hbe6.setCell (p := ⟨w.heap.size + 1, 1, none⟩) (by simp) v''
      generalize w6.setCell ⟨w.heap.size + 1, 1, none⟩ v'' = W7 at *
      clear hX6 hR6 hk7 hown6 hO6 hbe6 hk6 hb6 c0 c1 c2 f0 f1 f2 hX5 hR5 hO5 hV5 hS0 hS1 hb1 HO HE C1 hbs hbe5
      simp only [List.set_cons_zero, List.set_cons_succ] at hX7
      go_wp2
      go_roundw
      case rel => exact ⟨k + 1, v', v'', cs ++ [Q], cols ++ [es], by omega, by go_num, hbe7, hR7, hX7, hO7, hV7, by rw [List.length_append, HL1.out]; rfl, by rw [List.length_append, HL2.out]; rfl, HRS2.out, cols_snoc HCO1.out HCO.out⟩
      case measure => simp [intOf]; omega
    · obtain rfl : k = N := by omega
      have hblk := hO.own_lt
      have HBLK := Lib.hid hblk
      clear hblk
      go_wp2
      generalize hw9 : wr = w9 at *
      clear hw9
      have hK9 := KeepBut.refl 26 w9
      go_loopw [7] (fun i wr => ∃ (k : Nat) (s2 : Value) (rs : List RF), k ≤ m ∧ i = .int .i64 k ∧ Below w.heap.size w wr ∧ KeepBut 26 w9 wr ∧ w9.heap.size ≤ wr.heap.size ∧ Bk wr w.heap.size 26 [.slice none 0 0, .slice none 0 0, .slice none 0 0] ∧ Bk wr (w.heap.size + 1) 26 [s0, s1, s2] ∧ FrsO w9.heap.size wr s2 rs ∧ rs.length = k ∧ RsL 2 rs) (fun i _ => m - (intOf i).toNat)
      case atStart => exact ⟨0, _, [], by omega, rfl, hbe, hK9, Nat.le_refl _, hR, hX, FrsO.nil _ _, rfl, RsL.nil _⟩
      case round =>
        have h90 := hbe.size
        have HO9 := Lib.hid hO
        have HV9 := Lib.hid hV
        clear hbe hR hX hO hV hK9
        obtain ⟨i, s2, rs, hi, rfl, hbe, hK, h9, hR, hX, hO, hl, hrs⟩ := hrel
        have HL := Lib.hid hl
        have HRR := Lib.hid hrs
        have hlen : rs.length + 1 ≤ 1099511627776 := by omega
        clear hl hrs
        rcases Nat.lt_or_ge i m with hil | hil
        · obtain ⟨x0, x1, x2⟩ := hX.three
          obtain ⟨A2, c2, rfl⟩ := hO.slice
          go_wp2_with fail
          have C2 := stab x2
          have hS0 := below_drew' wr
          clear x0 x1 x2
          generalize hs2 : Value.slice A2 rs.length c2 = s2 at *
          clear hs2
          refine region_seq 8 [0, 1, 2, 3, 4, 5, 6, 7, 8, 9, 10] (by kernel_rfl) (by kernel_rfl) ?_
          repeat ((first | (refine seq_takeP (v := ?_) rfl rfl rfl ?_ ?_; rotate_left; (· (intro _ hSw; go_simp; (try go_bits); (try with_reducible rfl)))) | (refine seq_take (v := ?_) rfl rfl rfl ?_ ?_; rotate_left; (· (intro _ hSw; go_simp; (try go_bits); (try with_reducible rfl)))) | refine seq_skip rfl rfl rfl ?_); (try simp only [Act.put, pu1, pu2, pu3, pu4, pu5, pu6]))
          refine seq_step rfl rfl (fun KR hKR => ?_)
          go_simp
          with_reducible refine (at_int _ zs (30 + (i : Int)) _ ((h.below hbe).below hS0) (by omega) (by omega)).mono ?_
          rintro _ w1 ⟨z, rfl, z0, z1, hb1⟩
          have hS1 := below_then hS0 hb1 hS0.size
          refine hKR.out _ _ (Or.inr hS1) ?_
          clear hKR KR
          (try simp only [Act.put, pu1, pu2, pu3, pu4, pu5, pu6])
          repeat ((first | (refine seq_takeP (v := ?_) rfl rfl rfl ?_ ?_; rotate_left; (· (intro _ hSw; go_simp; (try go_bits); (try with_reducible rfl)))) | (refine seq_take (v := ?_) rfl rfl rfl ?_ ?_; rotate_left; (· (intro _ hSw; go_simp; (try go_bits); (try with_reducible rfl)))) | refine seq_skip rfl rfl rfl ?_); (try simp only [Act.put, pu1, pu2, pu3, pu4, pu5, pu6]))
          refine seq_step rfl rfl (fun KR hKR => ?_)
          go_simp
          with_reducible refine (frac_own z _).mono ?_
          rintro _ w2 ⟨v2, q, rfl, e2, sq, hb2⟩
          have hS2 := below_then hS1 hb2 hS1.size
          obtain ⟨B, l, d, B', l', d', rfl, _, _⟩ := id e2.frac
          have HF := Lib.hid e2.frac
          have HRS := Lib.hid sq.rs
          clear e2 sq
          generalize canF q = Q at *
          refine hKR.out _ _ (Or.inr hS2) ?_
          clear hKR KR
          (try simp only [Act.put, pu1, pu2, pu3, pu4, pu5, pu6])
          repeat ((first | (refine seq_takeP (v := ?_) rfl rfl rfl ?_ ?_; rotate_left; (· (intro _ hSw; go_simp; (try go_bits); (try with_reducible rfl)))) | (refine seq_take (v := ?_) rfl rfl rfl ?_ ?_; rotate_left; (· (intro _ hSw; go_simp; (try go_bits); (try with_reducible rfl)))) | refine seq_skip rfl rfl rfl ?_); (try simp only [Act.put, pu1, pu2, pu3, pu4, pu5, pu6]))
          refine seq_step rfl rfl (fun KR hKR => ?_)
          go_simp
          refine hKR.out _ _ (Or.inr (below_then hS2 (below_new _ _) hS2.size)) ?_
          clear hKR KR
          (try simp only [Act.put, pu1, pu2, pu3, pu4, pu5, pu6])
          have HO := Lib.hid (hO.below hS2)
          have hbs : w9.heap.size ≤ w2.heap.size := by have := hS2.size; omega
          refine seq_append_frac rfl rfl rfl (by decide) (.tmp 49) (.tmp 55) rfl w2 w9.heap.size s2 rs rfl HO.out _ _ B B' l d l' d' Q HF.out rfl hlen hbs ?_
          intro v' w4 hown4 hk4 hb4
          obtain ⟨A4, n4, c4, rfl⟩ := hown4.sliceN
          (try simp only [Act.put, pu1, pu2, pu3, pu4, pu5, pu6])
          have hX4 := hk4.bk (hX.later hS2) (by decide)
          have hR4 := hk4.bk (hR.later hS2) (by decide)
          have hK4 := (hK.then (hS2.mono h9)).then hb4
          have hbe4 := (below_then hbe hS2 hbe.size).trans (hb4.mono h90)
          obtain ⟨c0, c1, c2⟩ := hX4.three
          obtain ⟨f0, f1, f2⟩ := hX4.threeF
          refine seq_step rfl rfl (fun KR hKR => ?_)
          go_simp
          refine hKR.out _ _ (Or.inl (by decide)) ?_
          clear hKR KR
          (try simp only [Act.put, pu1, pu2, pu3, pu4, pu5, pu6])
          refine seq_step rfl rfl (fun KR hKR => ?_)
          go_simp
          refine hKR.out _ _ (Or.inl (by decide)) ?_
          clear hKR KR
          (try simp only [Act.put, pu1, pu2, pu3, pu4, pu5, pu6])
          refine seq_done ?_
          generalize hv' : Value.slice A4 n4 c4 = v' at *
          clear hv'
          have hX5 := hX4.set_ 2 v'
          have hR5 := hR4.far (p := ⟨w.heap.size + 1, 2, none⟩) (by simp) v'
          have hk5 := KeepBut.setCell hX4 2 v'
          have hO5 := hown4.but hk5 (by decide) (by decide)
          have hK5 := hK4.trans hk5
          have hbe5 := hbe4.setCell (p := ⟨w.heap.size + 1, 2, none⟩) (by simp) v'
          have h95 : w9.heap.size ≤ (w4.setCell ⟨w.heap.size + 1, 2, none⟩ v').heap.size := by
            have := hb4.size; simp; omega
          generalize w4.setCell ⟨w.heap.size + 1, 2, none⟩ v' = W5 at *
          clear hX4 hR4 hk5 hown4 hbe4 hk4 hb4 c0 c1 c2 f0 f1 f2 hX hR hO hS0 hS1 hS2 hb1 hb2 HO HF C2 hbs hbe hK hK4 h9
          simp only [List.set_cons_zero, List.set_cons_succ] at hX5
          go_wp2
          go_roundw
          case rel => exact ⟨i + 1, v', rs ++ [Q], by omega, by go_num, hbe5, hK5, h95, hR5, hX5, hO5, by rw [List.length_append, HL.out]; rfl, HRR.out.snoc HRS.out⟩
          case measure => simp [intOf]; omega
        · obtain rfl : i = m := by omega
          have hO9 := HO9.out.but hK (by decide) (by decide)
          have hV9 := HV9.out.but hK (by decide) (by decide) (by decide)
          obtain ⟨x0, x1, x2⟩ := hX.three
          obtain ⟨c0, c1, c2⟩ := hR.three
          obtain ⟨f0, f1, f2⟩ := hR.threeF
          obtain ⟨A0, d0, rfl⟩ := hO9.slice
          obtain ⟨A1, d1, rfl⟩ := hV9.slice
          obtain ⟨A2, d2, rfl⟩ := hO.slice
          go_wp2
          generalize hs0 : Value.slice A0 cs.length d0 = s0 at *
          generalize hs1 : Value.slice A1 cols.length d1 = s1 at *
          generalize hs2 : Value.slice A2 rs.length d2 = s2 at *
          have hR5 := ((hR.set_ 0 s0).set_ 1 s1).set_ 2 s2
          refine ret_cell Tryz.results7 Tryz.underlying26 (by kernel_rfl) rfl hR5 rfl ?_
          have k1 := KeepBut.setCell hR 0 s0
          have k2 := KeepBut.setCell (hR.set_ 0 s0) 1 s1
          have k3 := KeepBut.setCell ((hR.set_ 0 s0).set_ 1 s1) 2 s2
          have k4 := (k1.trans k2).trans k3
          refine ⟨_, ⟨cs, cols, rs⟩, rfl, ⟨s0, s1, s2, w9.heap.size, rfl, hO9.but k4 (by decide) (by decide), (hV9.but k4 (by decide) (by decide) (by decide)).vecs, hO.but k4 (by decide) (by decide), h90, HBLK.out⟩, ⟨by rw [HL.out]; exact m1, by rw [HL.out]; exact m2, by rw [HL2.out]; exact n1, by rw [HL1.out, HL2.out], HR1.out, fun j c hc => by rw [HL.out]; exact HCO1.out j c hc⟩, HRR.out, ?_⟩
          exact ((hbe.setCell (p := ⟨w.heap.size, 0, none⟩) (Nat.le_refl _) s0).setCell (p := ⟨w.heap.size, 1, none⟩) (Nat.le_refl _) s1).setCell (p := ⟨w.heap.size, 2, none⟩) (Nat.le_refl _) s2
end Go.Proofs.YtpanffbgihhjnaaGreat

/- Memory: an append that says which blocks it leaves alone. Walks: package pairingdata: Fracs. -/
namespace Go.Proofs.YtpanffbgihhjnaaGreat
open Go.RowKit Pl
attribute [local go_sem ↓] Go.wp_at_zero Go.wp_at_succ

def Others (g : Option Nat) (w w' : World) : Prop := w.heap.size ≤ w'.heap.size ∧ ∀ b, b < w.heap.size → some b ≠ g → w'.heap[b]? = w.heap[b]?
theorem Others.bk {g : Option Nat} {w w' : World} {b : Nat} {t : TypeId} {cs : List Value} (h : Others g w w') (hb : Bk w b t cs) (hne : some b ≠ g) : Bk w' b t cs := (h.2 b hb.lt hne).trans hb
theorem Others.of_set {g i : Nat} {w : World} {v : Value} : Others (some g) w (w.setCell ⟨g, i, none⟩ v) := ⟨by simp, fun b _ hne => heap_setCell_other w _ _ _ (fun e => hne (by rw [e]))⟩
theorem Others.trans {g : Option Nat} {a b c : World} (h : Others g a b) (k : Others g b c) : Others g a c := ⟨Nat.le_trans h.1 k.1, fun x hx hne => (k.2 x (Nat.lt_of_lt_of_le hx h.1) hne).trans (h.2 x hx hne)⟩
theorem FrsO.others {base : Nat} {w w' : World} {g : Option Nat} {v : Value} {fs : List RF} (h : FrsO base w v fs) (ho : Others g w w') (hk : Keep w w') (hne : ∀ b, v.ownBlock = some b → some b ≠ g) : FrsO base w' v fs := by
  obtain ⟨cs, h1, h2⟩ := h
  refine ⟨cs, ⟨h1.1, ?_⟩, h2.keep hk⟩
  rcases h1.2 with hn | ⟨g', cap, cur, rfl, hb', hgg, rest⟩
  · exact .inl hn
  · exact .inr ⟨g', cap, cur, rfl, hb', (ho.2 g' (lt_heap hgg) (hne g' (by simp [Value.ownBlock]))).trans hgg, rest⟩
theorem run_append_oneG (ty t e : TypeId) (i : TypeInfo) (z : Value) (size bytes : Nat) (ht : Tryz.prog.underlying t = some (.slice e)) (hi : Tryz.prog.info? e = some i) (hz : i.zero = some z)
    (hsize : i.size = size) (hby : i.bytes = bytes) (hzs : z.cells.size = size) (hsz : 0 < size) (W : World) (base : Nat) (v : Value) (n : Nat) (xs news : List Value) (hown : W.ownsRow base e size v n xs)
    (hl : news.length = size) (h1 : ∀ u ∈ news, u.oneCell' = true) (hn : n + 1 ≤ maxLen) (hb : (n + 1) * bytes ≤ 140737488355328) (hbase : base ≤ W.heap.size) :
    ∃ v' w', (Builtin.append_ #[t, t] ty #[v, .slice (some ⟨W.heap.size, 0, none⟩) 1 1]).run Tryz.prog (W.alloc (.cells news.toArray e)) = .ok v' w' ∧ w'.ownsRow base e size v' (n + 1) (xs ++ news) ∧ KeepBut e W w' ∧ Below base W w' ∧ Others v.ownBlock W w' ∧ (v'.ownBlock = v.ownBlock ∨ ∀ g, v'.ownBlock = some g → W.heap.size ≤ g) := by
  have hnew : Bk (W.alloc (.cells news.toArray e)) W.heap.size e news := Bk.new W e news
  obtain ⟨v', w', hrun, h2, h3, _, h5⟩ := run_append_own_at (P := Tryz.prog) (W.alloc (.cells news.toArray e)) base t ty e i z size bytes ht hi hz hsize hby hzs hsz v n xs (hown.alloc _) ⟨W.heap.size, 0, none⟩ 1 1 news (by omega) (fun j u hj => by rw [addr_add, Nat.zero_add, hnew.cell]; exact hj) h1 hn hb (by simp; omega)
  refine ⟨v', w', hrun, h2, ?_, ?_, ⟨?_, ?_⟩, ?_⟩
  · intro b cs t' fz hne hc
    have hlt := lt_heap hc
    refine (h3.block b (by simp; omega) ?_).trans ((Below.heap_alloc W _ b hlt).trans hc)
    intro e1
    rcases hown.2 with ⟨rfl, _⟩ | ⟨g, cap, cur, rfl, _, hg, _⟩
    · simp [Value.ownBlock] at e1
    · simp [Value.ownBlock] at e1
      subst e1
      rw [hg] at hc
      injection hc with hc
      injection hc with _ h2 _
      exact hne h2.symm
  · refine ((Below.refl _ _).alloc hbase _).grown h3 (by simp; omega) (fun k hk => ?_)
    exact (hown.lt k hk).1
  · have := h3.size; simp at this; omega
  · intro b hb hne
    exact (h3.block b (by simp; omega) hne).trans (Below.heap_alloc W _ b hb)
  · rcases h5 with h5 | h5
    · exact .inl h5
    · right; intro g hg; rw [h5] at hg; injection hg with hg; simp at hg; omega
 where
  addr_add (g j : Nat) : (⟨g, 0, none⟩ : Addr).add j = ⟨g, 0 + j, none⟩ := by
    unfold Addr.add
    split
    · rename_i h; subst h; rfl
    · rfl
theorem wpList_append_fracG {ops : Array Oper} {rest : List Oper} {o : Oper} {a : Act} {Q : Exit → Act → World → Prop} (hgd : o.guard = none) (s x : Operand)
    (ho : o.op = .call { callee := .builtin .append, args := #[s, x], argTypes := #[23, 23] })
    (W : World) (base : Nat) (v : Value) (fs : List RF) (hs : a.eval s = v) (hown : FrsO base W v fs) (b b' : Bool) (A A' : Option Addr) (n c n' c' : Nat) (f : RF) (hf : FracM W (.agg #[.bool b, .slice A n c, .bool b', .slice A' n' c']) f)
    (hx : a.eval x = .slice (some ⟨W.heap.size, 0, none⟩) 1 1) (hn : fs.length + 1 ≤ 1099511627776) (hbase : base ≤ W.heap.size)
    (h : ∀ v' w', FrsO base w' v' (fs ++ [f]) → KeepBut 47 W w' → Below base W w' → Others v.ownBlock W w' → (v'.ownBlock = v.ownBlock ∨ ∀ g, v'.ownBlock = some g → W.heap.size ≤ g) → wpList Tryz.prog ops Q rest (a.put o.dst v') w') :
    wpList Tryz.prog ops Q (o :: rest) a (W.alloc (.cells #[.bool b, .slice A n c, .bool b', .slice A' n' c'] 47)) := by
  obtain ⟨cs, h1, h2⟩ := hown
  obtain ⟨i0, hi, hz0, hz1, hz2⟩ := info_parts info_frac
  refine wpList_plain hgd fun K hK => ?_
  obtain ⟨v', w', hr, g1, g2, g3, g4, g5⟩ := run_append_oneG o.type 23 47 i0 _ 4 64 Tryz.underlying23 hi hz0 hz1 hz2 rfl (by decide) W base v fs.length cs [.bool b, .slice A n c, .bool b', .slice A' n' c'] h1 rfl frac_oneCell (by unfold maxLen; omega) (by omega) hbase
  unfold Oper.wp execOp
  simp only [ho, resolve, invoke, builtin, Sem.run_bind, Sem.run_pure, Result.andThen_ok, List.map_toArray, List.map_cons, List.map_nil, hs, hx]
  rw [show (Obj.cells #[.bool b, .slice A n c, .bool b', .slice A' n' c'] 47) = (Obj.cells [.bool b, .slice A n c, .bool b', .slice A' n' c'].toArray 47) from rfl]
  simp only [hr, Result.andThen_ok]
  have hk := g2.keep (by decide)
  exact hK _ _ (h v' w' ⟨_, by simpa using g1, (h2.keep hk).snoc (hf.keep hk)⟩ g2 g3 g4 g5)

set_option maxHeartbeats 1000000 in
theorem fracs_own (v : Value) (zs : List Int) (m : Nat) (w : World) (h : IntsM w v zs) (hm : m ≤ 1000) :
    Calls Tryz.prog 17 #[v, .int .i64 (m : Int)] w fun e w' => ∃ v' fs, e = .returned v' ∧ FrsO w.heap.size w' v' fs ∧ fs.length = m ∧ RsL 2 fs ∧ Below w.heap.size w w' := by
  obtain ⟨a, cap, rfl, hc1, hc2⟩ := h.shape
  generalize hn : zs.length = n at *
  clear hn
  go_enter Tryz.func17, Tryz.ntmps17
  go_wp2
  go_loopw [5, 6] (fun s i wr => ∃ (k : Nat) (fs : List RF), k ≤ m ∧ i = .int .i64 k ∧ FrsO w.heap.size wr s fs ∧ fs.length = k ∧ RsL 2 fs ∧ Below w.heap.size w wr) (fun _ i _ => m - (intOf i).toNat)
  case atStart => exact ⟨0, [], by omega, rfl, FrsO.nil _ _, rfl, RsL.nil _, Below.refl _ _⟩
  case round =>
    obtain ⟨k, fs, hk, rfl, hown, hl, hrs, hbe⟩ := hrel
    have HL := Lib.hid hl
    have HR := Lib.hid hrs
    have hlen : fs.length + 1 ≤ 1099511627776 := by omega
    clear hl hrs
    rcases Nat.lt_or_ge k m with hkl | hkl
    · go_wp2_with fail
      refine (at_any _ zs k _ (h.below hbe) (by omega)).mono ?_
      rintro _ w1 ⟨z, rfl, z0, z1, hb1⟩
      go_wp2_with fail
      refine (frac_own z _).mono ?_
      rintro _ w2 ⟨v2, q, rfl, e2, sq, hb2⟩
      have hb12 := below_then hb1 hb2 hb1.size
      have HO := Lib.hid (hown.below hb12)
      have hbe2 := below_then hbe hb12 hbe.size
      obtain ⟨B, l, d, B', l', d', rfl, _, _⟩ := id e2.frac
      have HF := Lib.hid e2.frac
      have HRS := Lib.hid sq.rs
      have hbs := hbe2.size
      clear hown hbe hb1 hb2 e2 sq hb12
      generalize canF q = Q at *
      go_wp2_with (at_builtin; refine wpList_append_frac rfl (.tmp 12) (.tmp 17) rfl w2 w.heap.size u5 fs rfl HO.out _ _ B B' l d l' d' Q HF.out rfl hlen hbs ?_)
      intro v' w4 hown4 hk4 hb4
      go_wp2
      go_roundw
      case rel => exact ⟨k + 1, fs ++ [Q], by omega, by go_num, hown4, by rw [List.length_append, HL.out]; rfl, HR.out.snoc HRS.out, hbe2.trans hb4⟩
      case measure => simp [intOf]; omega
    · obtain rfl : k = m := by omega
      go_wp2
      go_ret
      exact ⟨_, fs, rfl, hown, HL.out, HR.out, hbe⟩
end Go.Proofs.YtpanffbgihhjnaaGreat

/- Walks: package pairingdata: Feasible. -/
namespace Go.Proofs.YtpanffbgihhjnaaGreat
open Go.RowKit Pl
attribute [local go_sem ↓] Go.wp_at_zero Go.wp_at_succ

namespace Pl
def colC (cols : List (List En)) (j : Nat) : Nat → Rat := match cols[j]? with | some c => colQ c | none => fun _ => 0
theorem col_colC (p : LPd) (j : Nat) : p.col (j : Int) = colC p.cols j := by
  unfold LPd.col colC
  rw [if_pos (by omega), Int.toNat_natCast]
  cases p.cols[j]? <;> rfl
def timesC (cols : List (List En)) (xs : List RF) (k i : Nat) : Rat := sumN (fun j => qAt xs j * colC cols j i) k
def NN (xs : List RF) : Prop := ∀ (j : Nat) (f : RF), xs[j]? = some f → 0 ≤ f.q
theorem NN.nil : NN [] := fun j f h => by simp at h
theorem NN.snoc {xs : List RF} (h : NN xs) {f : RF} (hf : 0 ≤ f.q) : NN (xs ++ [f]) := fun i g hg => by
  rcases Nat.lt_or_ge i xs.length with hi | hi
  · rw [List.getElem?_append_left hi] at hg; exact h i g hg
  · rw [List.getElem?_append_right hi] at hg
    have : i - xs.length = 0 := by
      rcases Nat.eq_zero_or_pos (i - xs.length) with e | e
      · exact e
      · rw [List.getElem?_eq_none (by simp; omega)] at hg; cases hg
    rw [this] at hg; simp at hg; subst hg; exact hf
def mixR (T : Nat → Rat) (q : Rat) (C : Nat → Rat) (r i : Nat) : Rat := if i < r then T i + q * C i else T i
end Pl
theorem FrsO.monoB {base base' : Nat} {w : World} {v : Value} {fs : List RF} (h : FrsO base w v fs) (hb : base' ≤ base) : FrsO base' w v fs := by
  obtain ⟨cs, h1, h2⟩ := h; exact ⟨cs, row_mono h1 hb, h2⟩
theorem Bk.far4' {w : World} {g g' : Nat} {t : TypeId} {cs : List Value} (h : Bk w g t cs) (hne : g ≠ g') (i j k l : Nat) (x y z u : Value) : Bk ((((w.setCell ⟨g', i, none⟩ x).setCell ⟨g', j, none⟩ y).setCell ⟨g', k, none⟩ z).setCell ⟨g', l, none⟩ u) g t cs :=
  (((h.far (p := ⟨g', i, none⟩) hne x).far (p := ⟨g', j, none⟩) hne y).far (p := ⟨g', k, none⟩) hne z).far (p := ⟨g', l, none⟩) hne u
theorem FrsO.own_ge {base : Nat} {w : World} {v : Value} {fs : List RF} (h : FrsO base w v fs) : ∀ g, v.ownBlock = some g → base ≤ g := by
  obtain ⟨cs, h1, h2⟩ := h
  intro g hg
  exact (h1.lt g hg).1

def FeasPost (w : World) (e : Ending) (w' : World) : Prop :=
  ∃ v1 v2 p xs, e = .returned (.tuple #[v1, v2]) ∧ LpO w.heap.size w' v1 p ∧ FrsO w.heap.size w' v2 xs ∧ LpOK p ∧ RsL 32 p.right ∧ RsL 2 xs ∧ xs.length = p.cols.length ∧ NN xs ∧ (∀ i, i < p.right.length → qAt p.right i = timesQ p xs p.cols.length i) ∧ Below w.heap.size w w'

end Go.Proofs.YtpanffbgihhjnaaGreat

/- Plain: elimination over rational matrices, as the reference does it; the sizes of its numbers; that its success does not depend on the right-hand side. -/
namespace Go.Proofs.YtpanffbgihhjnaaGreat
open Go.RowKit
namespace Pl
abbrev Mx := Nat → Nat → Rat
def findFrom (M : Mx) (c : Nat) : Nat → Nat → Option Nat
  | _, 0 => none
  | r, n + 1 => if M r c ≠ 0 then some r else findFrom M c (r + 1) n
def findP (M : Mx) (k m : Nat) : Option Nat := findFrom M k k (m - k)
theorem findFrom_none {M : Mx} {c : Nat} : ∀ {n r : Nat}, (∀ s, r ≤ s → s < r + n → M s c = 0) → findFrom M c r n = none
  | 0, _, _ => rfl
  | n + 1, r, h => by
    unfold findFrom
    rw [if_neg (by simpa using h r (Nat.le_refl _) (by omega))]
    exact findFrom_none fun s h1 h2 => h s (by omega) (by omega)
theorem findFrom_some {M : Mx} {c : Nat} : ∀ {n r t : Nat}, r ≤ t → t < r + n → M t c ≠ 0 → (∀ s, r ≤ s → s < t → M s c = 0) → findFrom M c r n = some t
  | 0, r, t, h1, h2, _, _ => by omega
  | n + 1, r, t, h1, h2, h3, h4 => by
    unfold findFrom
    rcases Nat.eq_or_lt_of_le h1 with e | e
    · subst e; rw [if_pos h3]
    · rw [if_neg (by simpa using h4 r (Nat.le_refl _) e)]
      exact findFrom_some (by omega) (by omega) h3 fun s h5 h6 => h4 s (by omega) h6
theorem findP_none {M : Mx} {k m : Nat} (h : ∀ s, k ≤ s → s < m → M s k = 0) : findP M k m = none := findFrom_none fun s h1 h2 => h s h1 (by omega)
theorem findP_some {M : Mx} {k m t : Nat} (h1 : k ≤ t) (h2 : t < m) (h3 : M t k ≠ 0) (h4 : ∀ s, k ≤ s → s < t → M s k = 0) : findP M k m = some t := findFrom_some h1 (by omega) h3 h4
theorem findFrom_is {M : Mx} {c : Nat} : ∀ {n r t : Nat}, findFrom M c r n = some t → r ≤ t ∧ t < r + n ∧ M t c ≠ 0
  | 0, _, _, h => by cases h
  | n + 1, r, t, h => by
    unfold findFrom at h
    split at h
    · injection h with h; subst h; exact ⟨Nat.le_refl _, by omega, by assumption⟩
    · have := findFrom_is h; exact ⟨by omega, by omega, this.2.2⟩
theorem findP_is {M : Mx} {k m t : Nat} (h : findP M k m = some t) : k ≤ t ∧ t < m ∧ M t k ≠ 0 := by
  have := findFrom_is h; exact ⟨this.1, by omega, this.2.2⟩
theorem findFrom_congr {A B : Mx} {c : Nat} (h : ∀ r, A r c = B r c) : ∀ (n r : Nat), findFrom A c r n = findFrom B c r n
  | 0, _ => rfl
  | n + 1, r => by unfold findFrom; rw [h r, findFrom_congr h n]

def updM (M : Mx) (r i : Nat) (q : Rat) : Mx := fun s c => if s = r ∧ c = i then q else M s c
def swapM (M : Mx) (k t : Nat) : Mx := fun r => if r = k then M t else if r = t then M k else M r
def scaleTo (M : Mx) (k i : Nat) (f : Rat) : Mx := fun r c => if r = k ∧ k ≤ c ∧ c < i then M r c / f else M r c
def elimTo (M : Mx) (k s i : Nat) (g : Rat) : Mx := fun r c => if r = s ∧ k ≤ c ∧ c < i then M r c - g * M k c else M r c
def elimAll (M : Mx) (k s m : Nat) : Mx := fun r c => if r ≠ k ∧ r < s ∧ k ≤ c ∧ c ≤ m then M r c - M r k * M k c else M r c
def gjStep (M : Mx) (k m : Nat) : Option Mx := match findP M k m with
  | none => none
  | some t => some (elimAll (scaleTo (swapM M k t) k (m + 1) (swapM M k t k k)) k m m)
def gj (M : Mx) (m : Nat) : Nat → Option Mx
  | 0 => some M
  | k + 1 => match gj M m k with
    | none => none
    | some M' => gjStep M' k m
def augM (m : Nat) (cols : Mx) (b : Nat → Rat) : Mx := fun r c => if c < m then cols c r else b r
def solveQ (m : Nat) (cols : Mx) (b : Nat → Rat) : Option (Nat → Rat) := (gj (augM m cols b) m m).map fun M k => M k m

theorem scaleTo_start (M : Mx) (k : Nat) (f : Rat) : scaleTo M k k f = M := by
  funext r c; unfold scaleTo; rw [if_neg (by omega)]
theorem scaleTo_next {M : Mx} {k i : Nat} {f : Rat} (h : k ≤ i) : updM (scaleTo M k i f) k i (scaleTo M k i f k i / f) = scaleTo M k (i + 1) f := by
  funext r c; unfold updM scaleTo
  by_cases h1 : r = k ∧ c = i
  · obtain ⟨rfl, rfl⟩ := h1
    rw [if_pos ⟨rfl, rfl⟩, if_neg (by omega), if_pos ⟨rfl, h, by omega⟩]
  · rw [if_neg h1]
    by_cases h2 : r = k ∧ k ≤ c ∧ c < i
    · rw [if_pos h2, if_pos ⟨h2.1, h2.2.1, by omega⟩]
    · rw [if_neg h2, if_neg (by omega)]
theorem elimTo_start (M : Mx) (k s : Nat) (g : Rat) : elimTo M k s k g = M := by
  funext r c; unfold elimTo; rw [if_neg (by omega)]
theorem elimTo_row {M : Mx} {k s i : Nat} {g : Rat} (h : s ≠ k) (c : Nat) : elimTo M k s i g k c = M k c := by
  unfold elimTo; rw [if_neg (by omega)]
theorem elimTo_next {M : Mx} {k s i : Nat} {g : Rat} (h : k ≤ i) (hs : s ≠ k) : updM (elimTo M k s i g) s i (elimTo M k s i g s i - g * elimTo M k s i g k i) = elimTo M k s (i + 1) g := by
  funext r c
  rw [elimTo_row hs]
  unfold updM elimTo
  by_cases h1 : r = s ∧ c = i
  · obtain ⟨rfl, rfl⟩ := h1
    rw [if_pos ⟨rfl, rfl⟩, if_neg (by omega), if_pos ⟨rfl, h, by omega⟩]
  · rw [if_neg h1]
    by_cases h2 : r = s ∧ k ≤ c ∧ c < i
    · rw [if_pos h2, if_pos ⟨h2.1, h2.2.1, by omega⟩]
    · rw [if_neg h2, if_neg (by omega)]
theorem elimAll_start (M : Mx) (k m : Nat) : elimAll M k 0 m = M := by
  funext r c; unfold elimAll; rw [if_neg (by omega)]
theorem elimAll_row {M : Mx} {k s m : Nat} (c : Nat) : elimAll M k s m k c = M k c := by
  unfold elimAll; rw [if_neg (by omega)]
theorem elimAll_at {M : Mx} {k s m : Nat} (c : Nat) : elimAll M k s m s c = M s c := by
  unfold elimAll; rw [if_neg (by omega)]
theorem elimAll_skip {M : Mx} {k s m : Nat} (h : s = k ∨ M s k = 0) : elimAll M k s m = elimAll M k (s + 1) m := by
  funext r c
  unfold elimAll
  by_cases h1 : r ≠ k ∧ r < s ∧ k ≤ c ∧ c ≤ m
  · rw [if_pos h1, if_pos ⟨h1.1, by omega, h1.2.2⟩]
  · rw [if_neg h1]
    by_cases h2 : r ≠ k ∧ r < s + 1 ∧ k ≤ c ∧ c ≤ m
    · rw [if_pos h2]
      have : r = s := by omega
      subst this
      rcases h with h | h
      · exact absurd h h2.1
      · rw [h]; grind
    · rw [if_neg h2]
theorem elimAll_next {M : Mx} {k s m : Nat} (hs : s ≠ k) : elimTo (elimAll M k s m) k s (m + 1) (elimAll M k s m s k) = elimAll M k (s + 1) m := by
  funext r c
  unfold elimTo
  rw [elimAll_row, elimAll_at]
  unfold elimAll
  by_cases h1 : r = s ∧ k ≤ c ∧ c < m + 1
  · obtain ⟨rfl, h2, h3⟩ := h1
    rw [if_pos ⟨rfl, h2, h3⟩, if_neg (by omega), if_pos ⟨hs, by omega, h2, by omega⟩]
  · rw [if_neg h1]
    by_cases h2 : r ≠ k ∧ r < s ∧ k ≤ c ∧ c ≤ m
    · rw [if_pos h2, if_pos ⟨h2.1, by omega, h2.2.2⟩]
    · rw [if_neg h2, if_neg (by omega)]

def MB (m n K : Nat) (M : Mx) : Prop := ∀ r c, r < m → c < n → Sz K (M r c)
theorem MB.mono {m n K K' : Nat} {M : Mx} (h : MB m n K M) (hk : K ≤ K') : MB m n K' M := fun r c h1 h2 => (h r c h1 h2).mono hk
theorem MB.swap {m n K : Nat} {M : Mx} (h : MB m n K M) {k t : Nat} (hk : k < m) (ht : t < m) : MB m n K (swapM M k t) := fun r c h1 h2 => by
  unfold swapM; split
  · exact h t c ht h2
  · split
    · exact h k c hk h2
    · exact h r c h1 h2
theorem MB.scale {m n K : Nat} {M : Mx} (h : MB m n K M) {k i : Nat} {f : Rat} (hf : Sz K f) : MB m n (2 * K) (scaleTo M k i f) := fun r c h1 h2 => by
  unfold scaleTo; split
  · exact (Sz_div (h r c h1 h2) hf).mono (by omega)
  · exact (h r c h1 h2).mono (by omega)
theorem scale_other {m n K : Nat} {M : Mx} (h : MB m n K M) {k i : Nat} {f : Rat} {r c : Nat} (hr : r < m) (hc : c < n) (hne : r ≠ k) : Sz K (scaleTo M k i f r c) := by
  unfold scaleTo; rw [if_neg (by omega)]; exact h r c hr hc
theorem scale_any {m n K : Nat} {M : Mx} (h : MB m n K M) {k i : Nat} {f : Rat} (hf : Sz K f) {r c : Nat} (hr : r < m) (hc : c < n) : Sz (2 * K) (scaleTo M k i f r c) := h.scale hf r c hr hc
theorem MB.elim {m n K : Nat} {M : Mx} {k s m' : Nat} (hk : k < m) (h1 : ∀ r c, r < m → c < n → r ≠ k → Sz K (M r c)) (h2 : ∀ c, c < n → Sz (2 * K) (M k c)) (hn : k < n) : MB m n (5 * K) (elimAll M k s m') := fun r c hr hc => by
  unfold elimAll; split
  · rename_i h
    have a := h1 r c hr hc h.1
    have b := h1 r k hr hn h.1
    have := Sz_pos a
    exact (Sz_sub a (Sz_mul b (h2 c hc))).mono (by omega)
  · by_cases e : r = k
    · subst e; exact (h2 c hc).mono (by omega)
    · exact (h1 r c hr hc e).mono (by omega)
theorem gjStep_B {M M' : Mx} {k m K : Nat} (h : MB m (m + 1) K M) (hk : k < m) (e : gjStep M k m = some M') : MB m (m + 1) (5 * K) M' := by
  unfold gjStep at e
  cases hf : findP M k m with
  | none => rw [hf] at e; cases e
  | some t =>
    rw [hf] at e
    injection e with e
    subst e
    obtain ⟨h1, h2, _⟩ := findP_is hf
    have hs := h.swap hk h2
    exact MB.elim hk (fun r c hr hc hne => scale_other hs hr hc hne) (fun c hc => scale_any hs (hs k k hk (by omega)) hk hc) (by omega)
theorem gj_B {M : Mx} {m K : Nat} (h : MB m (m + 1) K M) : ∀ {k : Nat} {M' : Mx}, k ≤ m → gj M m k = some M' → MB m (m + 1) (5 ^ k * K) M'
  | 0, M', _, e => by unfold gj at e; injection e with e; subst e; simpa using h
  | k + 1, M', hk, e => by
    unfold gj at e
    cases hg : gj M m k with
    | none => rw [hg] at e; cases e
    | some N =>
      rw [hg] at e
      have := gjStep_B (gj_B h (by omega) hg) (by omega) e
      exact this.mono (by rw [Nat.pow_succ]; grind)
theorem aug_B {m K : Nat} {cols : Mx} {b : Nat → Rat} (h : ∀ r c, r < m → c < m → Sz K (cols c r)) (hb : ∀ r, r < m → Sz K (b r)) : MB m (m + 1) K (augM m cols b) := fun r c hr hc => by
  unfold augM; split
  · exact h r c hr (by assumption)
  · exact hb r hr
theorem solveQ_B {m K : Nat} {cols : Mx} {b x : Nat → Rat} (h : ∀ r c, r < m → c < m → Sz K (cols c r)) (hb : ∀ r, r < m → Sz K (b r)) (e : solveQ m cols b = some x) : ∀ r, r < m → Sz (5 ^ m * K) (x r) := by
  unfold solveQ at e
  cases hg : gj (augM m cols b) m m with
  | none => rw [hg] at e; cases e
  | some N =>
    rw [hg] at e
    injection e with e
    subst e
    exact fun r hr => gj_B (aug_B h hb) (Nat.le_refl _) hg r m hr (by omega)

def LeftEq (m : Nat) (A B : Mx) : Prop := ∀ r c, c < m → A r c = B r c
theorem LeftEq.step {m k : Nat} {A B : Mx} (h : LeftEq m A B) (hk : k < m) : match gjStep A k m, gjStep B k m with | some A', some B' => LeftEq m A' B' | none, none => True | _, _ => False := by
  unfold gjStep findP
  rw [findFrom_congr (fun r => h r k hk)]
  cases findFrom B k k (m - k) with
  | none => trivial
  | some t =>
    have hs : LeftEq m (swapM A k t) (swapM B k t) := fun r c hc => by
      unfold swapM; split
      · exact h t c hc
      · split
        · exact h k c hc
        · exact h r c hc
    have h2 : LeftEq m (scaleTo (swapM A k t) k (m + 1) (swapM A k t k k)) (scaleTo (swapM B k t) k (m + 1) (swapM B k t k k)) := fun r c hc => by
      unfold scaleTo; rw [hs r c hc, hs k k hk]
    show LeftEq m _ _
    intro r c hc
    unfold elimAll
    rw [h2 r c hc, h2 r k hk, h2 k c hc]
theorem LeftEq.gj {m : Nat} {A B : Mx} (h : LeftEq m A B) : ∀ (k : Nat), k ≤ m → match gj A m k, gj B m k with | some A', some B' => LeftEq m A' B' | none, none => True | _, _ => False
  | 0, _ => h
  | k + 1, hk => by
    have ih := LeftEq.gj h k (by omega)
    unfold Pl.gj
    generalize Pl.gj A m k = X at ih ⊢
    generalize Pl.gj B m k = Y at ih ⊢
    match X, Y, ih with
    | some A', some B', ih => exact ih.step (by omega)
    | none, none, _ => trivial
theorem solveQ_some {m : Nat} {cols : Mx} (b b' : Nat → Rat) : (solveQ m cols b).isSome = (solveQ m cols b').isSome := by
  have h : LeftEq m (augM m cols b) (augM m cols b') := fun r c hc => by unfold augM; rw [if_pos hc, if_pos hc]
  have := h.gj m (Nat.le_refl _)
  unfold solveQ
  generalize Pl.gj (augM m cols b) m m = X at this ⊢
  generalize Pl.gj (augM m cols b') m m = Y at this ⊢
  match X, Y, this with
  | some A', some B', _ => rfl
  | none, none, _ => rfl
end Pl
end Go.Proofs.YtpanffbgihhjnaaGreat

/- Memory: matrices of canonical fractions, as slices of slices. -/
namespace Go.Proofs.YtpanffbgihhjnaaGreat
open Go.RowKit Pl
attribute [local go_sem ↓] Go.wp_at_zero Go.wp_at_succ

def rowV (n : Nat) (G C : Nat → Nat) (r : Nat) : Value := .slice (some ⟨G r, 0, none⟩) n (C r)
def rowsL (m n : Nat) (G C : Nat → Nat) : List Value := (List.range m).map (rowV n G C)
theorem rowsL_get {m n r : Nat} {G C : Nat → Nat} (h : r < m) : (rowsL m n G C)[r]? = some (rowV n G C r) := by simp [rowsL, h]
theorem rowsL_length (m n : Nat) (G C : Nat → Nat) : (rowsL m n G C).length = m := by simp [rowsL]

def MatG (base : Nat) (w : World) (v : Value) (m n : Nat) (M : Mx) (G C : Nat → Nat) : Prop :=
  w.ownsRow base 23 1 v m (rowsL m n G C) ∧ (∀ r, r < m → FrsO base w (rowV n G C r) (canL n (M r))) ∧ ∀ r s, r < m → s < m → G r = G s → r = s
theorem MatG.below {base : Nat} {w w' : World} {v : Value} {m n : Nat} {M : Mx} {G C : Nat → Nat} (h : MatG base w v m n M G C) (hb : Below w.heap.size w w') : MatG base w' v m n M G C :=
  ⟨own_below h.1 hb, fun r hr => (h.2.1 r hr).below hb, h.2.2⟩
theorem MatG.congr {base : Nat} {w : World} {v : Value} {m n : Nat} {M M' : Mx} {G C : Nat → Nat} (h : MatG base w v m n M G C) (e : ∀ r c, r < m → c < n → M r c = M' r c) : MatG base w v m n M' G C :=
  ⟨h.1, fun r hr => by rw [← canL_congr (fun c hc => e r c hr hc)]; exact h.2.1 r hr, h.2.2⟩
theorem MatG.nil (base : Nat) (w : World) (n : Nat) (M : Mx) (G C : Nat → Nat) : MatG base w (.slice none 0 0) 0 n M G C :=
  ⟨World.ownsRow_nil _ _ _ _, fun r hr => absurd hr (by omega), fun r s hr => absurd hr (by omega)⟩
theorem MatG.lt {base : Nat} {w : World} {v : Value} {m n : Nat} {M : Mx} {G C : Nat → Nat} (h : MatG base w v m n M G C) {r : Nat} (hr : r < m) (hn : 0 < n) : base ≤ G r ∧ G r < w.heap.size ∧ n ≤ C r ∧ C r ≤ 9223372036854775807 := by
  obtain ⟨g, c, hv, h1, h2, h3, h4⟩ := (h.2.1 r hr).shape (by rw [canL_length]; exact hn)
  rw [canL_length] at hv h3
  unfold rowV at hv
  injection hv with e1 e2 e3
  injection e1 with e1
  injection e1 with e1
  subst e1 e3
  exact ⟨h1, h2, h3, h4⟩
theorem MatG.outer {base : Nat} {w : World} {v : Value} {m n : Nat} {M : Mx} {G C : Nat → Nat} (h : MatG base w v m n M G C) (hm : 0 < m) :
    ∃ g c, v = .slice (some ⟨g, 0, none⟩) m c ∧ base ≤ g ∧ g < w.heap.size ∧ m ≤ c ∧ c ≤ 9223372036854775807 ∧ ∀ r, r < m → w.cell? ⟨g, r, none⟩ = some (rowV n G C r) ∧ w.frozen? ⟨g, r, none⟩ = false := by
  have h0 := h.1
  rcases h.1.2 with ⟨rfl, e⟩ | ⟨g, cap, cur, rfl, hb, hg, hnc, hcm, hcs, htake⟩
  · omega
  · unfold maxLen at hcm
    exact ⟨g, cap, rfl, hb, lt_heap hg, hnc, by omega, fun r hr => row_cell h0 (rowsL_get hr)⟩
theorem MatG.shape {base : Nat} {w : World} {v : Value} {m n : Nat} {M : Mx} {G C : Nat → Nat} (h : MatG base w v m n M G C) : ∃ A c, v = .slice A m c ∧ m ≤ c ∧ c ≤ 9223372036854775807 := (RowM.of_own h.1).shape
theorem MatG.at_ {base : Nat} {w : World} {v : Value} {m n : Nat} {M : Mx} {G C : Nat → Nat} (h : MatG base w v m n M G C) {r c : Nat} (hr : r < m) (hc : c < n) :
    ∃ A1 n1 c1 A2 n2 c2, (w.cell? ⟨G r, c * 4, none⟩ = some (.bool (canF (M r c)).num.neg) ∧ w.cell? ⟨G r, c * 4 + 1, none⟩ = some (.slice A1 n1 c1) ∧ w.cell? ⟨G r, c * 4 + 2, none⟩ = some (.bool (canF (M r c)).den.neg) ∧ w.cell? ⟨G r, c * 4 + 3, none⟩ = some (.slice A2 n2 c2)) ∧ FracM w (.agg #[.bool (canF (M r c)).num.neg, .slice A1 n1 c1, .bool (canF (M r c)).den.neg, .slice A2 n2 c2]) (canF (M r c)) := by
  obtain ⟨b, off, A1, n1, c1, A2, n2, c2, hA, _, hc4, hm⟩ := (h.2.1 r hr).frs.elem (Below.refl _ _) (canL_get hc)
  injection hA with hA
  injection hA with e1 e2
  subst e1 e2
  simp only [Nat.zero_add] at hc4
  exact ⟨A1, n1, c1, A2, n2, c2, hc4, hm⟩
theorem MatG.frozen {base : Nat} {w : World} {v : Value} {m n : Nat} {M : Mx} {G C : Nat → Nat} (h : MatG base w v m n M G C) {r c : Nat} (hr : r < m) (hc : c < n) :
    w.frozen? ⟨G r, c * 4, none⟩ = false ∧ w.frozen? ⟨G r, c * 4 + 1, none⟩ = false ∧ w.frozen? ⟨G r, c * 4 + 2, none⟩ = false ∧ w.frozen? ⟨G r, c * 4 + 3, none⟩ = false := by
  obtain ⟨_, _, _, _, _, hf, _⟩ := (h.2.1 r hr).at_ (canL_get hc)
  exact hf
theorem others_set4 {w : World} {g i j k l : Nat} {x y z u : Value} : Others (some g) w ((((w.setCell ⟨g, i, none⟩ x).setCell ⟨g, j, none⟩ y).setCell ⟨g, k, none⟩ z).setCell ⟨g, l, none⟩ u) :=
  ((Others.of_set.trans Others.of_set).trans Others.of_set).trans Others.of_set
theorem MatG.set_ {base : Nat} {w : World} {v : Value} {m n : Nat} {M : Mx} {G C : Nat → Nat} (h : MatG base w v m n M G C) {r c : Nat} (hr : r < m) (hc : c < n) {x y z u : Value} {q : Rat} (hf : FracM w (.agg #[x, y, z, u]) (canF q)) :
    MatG base ((((w.setCell ⟨G r, c * 4, none⟩ x).setCell ⟨G r, c * 4 + 1, none⟩ y).setCell ⟨G r, c * 4 + 2, none⟩ z).setCell ⟨G r, c * 4 + 3, none⟩ u) v m n (updM M r c q) G C ∧
    KeepBut 47 w ((((w.setCell ⟨G r, c * 4, none⟩ x).setCell ⟨G r, c * 4 + 1, none⟩ y).setCell ⟨G r, c * 4 + 2, none⟩ z).setCell ⟨G r, c * 4 + 3, none⟩ u) := by
  obtain ⟨hs, hk⟩ := FrsO.set_ (h.2.1 r hr) (k := c) (by rw [canL_length]; exact hc) hf
  rw [canL_set hc] at hs
  refine ⟨⟨hk.own h.1 (by decide), fun s hs' => ?_, h.2.2⟩, hk⟩
  by_cases e : s = r
  · subst e
    have : canL n (updM M s c q s) = canL n (fun i => if i = c then q else M s i) := canL_congr fun i _ => by
      unfold updM
      by_cases e : i = c
      · rw [if_pos ⟨rfl, e⟩, if_pos e]
      · rw [if_neg (by omega), if_neg e]
    rw [this]
    exact hs
  · have : canL n (updM M r c q s) = canL n (M s) := canL_congr fun i _ => by unfold updM; rw [if_neg (by omega)]
    rw [this]
    refine (h.2.1 s hs').others others_set4 (hk.keep (by decide)) fun b hb hne => ?_
    simp [rowV, Value.ownBlock] at hb
    injection hne with hne
    exact e (h.2.2 s r hs' hr (by omega))
theorem MatG.far {base : Nat} {w w' : World} {v : Value} {m n : Nat} {M : Mx} {G C : Nat → Nat} (h : MatG base w v m n M G C) {g : Nat} (ho : Others (some g) w w') (hk : KeepBut 47 w w') (hne : ∀ r, r < m → G r ≠ g) : MatG base w' v m n M G C :=
  ⟨hk.own h.1 (by decide), fun r hr => (h.2.1 r hr).others ho (hk.keep (by decide)) fun b hb e => by
    simp [rowV, Value.ownBlock] at hb
    injection e with e
    exact hne r hr (by omega), h.2.2⟩
theorem MatG.but {base : Nat} {w w' : World} {v : Value} {m n : Nat} {M : Mx} {G C : Nat → Nat} {e : TypeId} (h : MatG base w v m n M G C) (hk : KeepBut e w w') (h1 : 23 ≠ e) (h2 : 47 ≠ e) (h3 : 85 ≠ e) : MatG base w' v m n M G C :=
  ⟨hk.own h.1 h1, fun r hr => (h.2.1 r hr).but hk h2 h3, h.2.2⟩
def swapF (F : Nat → Nat) (k t : Nat) : Nat → Nat := fun r => if r = k then F t else if r = t then F k else F r
theorem MatG.swap {base : Nat} {w : World} {m n : Nat} {M : Mx} {G C : Nat → Nat} {g c : Nat} (h : MatG base w (.slice (some ⟨g, 0, none⟩) m c) m n M G C) {k t : Nat} (hk : k < m) (ht : t < m) :
    MatG base ((w.setCell ⟨g, k, none⟩ (rowV n G C t)).setCell ⟨g, t, none⟩ (rowV n G C k)) (.slice (some ⟨g, 0, none⟩) m c) m n (swapM M k t) (swapF G k t) (swapF C k t) ∧
    KeepBut 23 w ((w.setCell ⟨g, k, none⟩ (rowV n G C t)).setCell ⟨g, t, none⟩ (rowV n G C k)) := by
  have o1 := row_set h.1 k (rowV n G C t) (by rw [rowsL_length]; exact hk)
  have o2 := row_set o1 t (rowV n G C k) (by rw [List.length_set, rowsL_length]; exact ht)
  obtain ⟨_, b0, _⟩ := row_block h.1
  obtain ⟨_, b1, _⟩ := row_block o1
  have kp := (KeepBut.setCell b0 k (rowV n G C t)).trans (KeepBut.setCell b1 t (rowV n G C k))
  have hrow : ∀ r, rowV n (swapF G k t) (swapF C k t) r = if r = k then rowV n G C t else if r = t then rowV n G C k else rowV n G C r := fun r => by
    unfold rowV swapF
    by_cases e : r = k
    · simp only [if_pos e]
    · simp only [if_neg e]
      by_cases e2 : r = t
      · simp only [if_pos e2]
      · simp only [if_neg e2]
  refine ⟨⟨?_, fun r hr => ?_, fun r s hr hs e => ?_⟩, kp⟩
  · have : ((rowsL m n G C).set k (rowV n G C t)).set t (rowV n G C k) = rowsL m n (swapF G k t) (swapF C k t) := by
      apply List.ext_getElem?
      intro i
      rcases Nat.lt_or_ge i m with hi | hi
      · rw [rowsL_get hi, hrow, List.getElem?_set, List.getElem?_set]
        simp only [List.length_set, rowsL_length]
        by_cases e1 : t = i
        · subst e1
          rw [if_pos rfl, if_pos ht]
          by_cases e2 : t = k
          · subst e2; rw [if_pos rfl]
          · rw [if_neg e2, if_pos rfl]
        · rw [if_neg e1]
          by_cases e2 : k = i
          · subst e2; rw [if_pos rfl, if_pos hk, if_pos rfl]
          · rw [if_neg e2, if_neg (fun h => e2 h.symm), if_neg (fun h => e1 h.symm), rowsL_get hi]
      · rw [List.getElem?_eq_none (by simp [rowsL_length]; exact hi), List.getElem?_eq_none (by rw [rowsL_length]; exact hi)]
    rw [← this]
    exact o2
  · rw [hrow]
    unfold swapM
    split
    · exact (h.2.1 t ht).but kp (by decide) (by decide)
    · split
      · exact (h.2.1 k hk).but kp (by decide) (by decide)
      · exact (h.2.1 r hr).but kp (by decide) (by decide)
  · have key : ∀ a, a < m → ∃ a', a' < m ∧ swapF G k t a = G a' ∧ ((a = k ∧ a' = t) ∨ (a ≠ k ∧ a = t ∧ a' = k) ∨ (a ≠ k ∧ a ≠ t ∧ a' = a)) := fun a ha => by
      unfold swapF
      by_cases e1 : a = k
      · exact ⟨t, ht, by rw [if_pos e1], .inl ⟨e1, rfl⟩⟩
      · by_cases e2 : a = t
        · exact ⟨k, hk, by rw [if_neg e1, if_pos e2], .inr (.inl ⟨e1, e2, rfl⟩)⟩
        · exact ⟨a, ha, by rw [if_neg e1, if_neg e2], .inr (.inr ⟨e1, e2, rfl⟩)⟩
    obtain ⟨r', hr', er, cr⟩ := key r hr
    obtain ⟨s', hs', es, cs⟩ := key s hs
    rw [er, es] at e
    have := h.2.2 _ _ hr' hs' e
    omega

theorem MatG.cellAt {base : Nat} {w : World} {m n : Nat} {M : Mx} {G C : Nat → Nat} {g c : Nat} (h : MatG base w (.slice (some ⟨g, 0, none⟩) m c) m n M G C) {r : Nat} (hr : r < m) : w.cell? ⟨g, r, none⟩ = some (rowV n G C r) ∧ w.frozen? ⟨g, r, none⟩ = false := row_cell h.1 (rowsL_get hr)
theorem MatG.swap1 {base : Nat} {w : World} {m n : Nat} {M : Mx} {G C : Nat → Nat} {g c : Nat} (h : MatG base w (.slice (some ⟨g, 0, none⟩) m c) m n M G C) {k t : Nat} {u : Value} (ht : t < m) : ∃ y, (w.setCell ⟨g, k, none⟩ u).cell? ⟨g, t, none⟩ = some y ∧ (w.setCell ⟨g, k, none⟩ u).frozen? ⟨g, t, none⟩ = false := by
  rcases Nat.lt_or_ge k m with hk | hk
  · have o1 := row_set h.1 k u (by rw [rowsL_length]; exact hk)
    obtain ⟨y, hy⟩ : ∃ y, ((rowsL m n G C).set k u)[t]? = some y := ⟨_, List.getElem?_eq_getElem (by rw [List.length_set, rowsL_length]; exact ht)⟩
    exact ⟨y, row_cell o1 hy⟩
  · obtain ⟨cur, b0, _⟩ := row_block h.1
    have hb := heap_setCell_same w g k cur 23 u b0
    obtain ⟨c0, _⟩ := h.cellAt ht
    rw [cell_of_row w g t cur _ _ b0] at c0
    have hlt : t < cur.size := by
      rcases Nat.lt_or_ge t cur.size with h9 | h9
      · exact h9
      · rw [Array.getElem?_eq_none (by omega)] at c0; cases c0
    refine ⟨(cur.setIfInBounds k u)[t]'(by simpa using hlt), ?_, frozen_of_row _ g t _ _ hb⟩
    rw [cell_of_row _ g t _ _ _ hb]
    exact Array.getElem?_eq_getElem (by simpa using hlt)
def ColsM (w : World) (v : Value) (m n : Nat) (M : Mx) : Prop := ∃ vs : Nat → Value, RowM w 23 1 v m ((List.range m).map vs) ∧ ∀ k, k < m → FrsM w (vs k) (canL n (M k))
theorem ColsM.below {w w' : World} {v : Value} {m n : Nat} {M : Mx} (h : ColsM w v m n M) (hb : Below w.heap.size w w') : ColsM w' v m n M := by
  obtain ⟨vs, h1, h2⟩ := h
  exact ⟨vs, h1.below hb, fun k hk => (h2 k hk).below hb⟩
theorem ColsM.shape {w : World} {v : Value} {m n : Nat} {M : Mx} (h : ColsM w v m n M) : ∃ A c, v = .slice A m c ∧ m ≤ c ∧ c ≤ 9223372036854775807 := by
  obtain ⟨vs, h1, h2⟩ := h
  exact h1.shape
theorem ColsM.at_ {w w0 : World} {A : Option Addr} {m n c : Nat} {M : Mx} (h0 : ColsM w0 (.slice A m c) m n M) (hb0 : Below w0.heap.size w0 w) {k : Nat} (hk : k < m) {r : Nat} (hr : r < n) :
    ∃ b off B cB b' off' A1 n1 c1 A2 n2 c2, A = some ⟨b, off, none⟩ ∧ b < w0.heap.size ∧ w.cell? ⟨b, off + k, none⟩ = some (.slice (some ⟨b', off', none⟩) n cB) ∧ n ≤ cB ∧ cB ≤ 9223372036854775807 ∧ B = (some ⟨b', off', none⟩ : Option Addr) ∧
    (w.cell? ⟨b', off' + r * 4, none⟩ = some (.bool (canF (M k r)).num.neg) ∧ w.cell? ⟨b', off' + r * 4 + 1, none⟩ = some (.slice A1 n1 c1) ∧ w.cell? ⟨b', off' + r * 4 + 2, none⟩ = some (.bool (canF (M k r)).den.neg) ∧ w.cell? ⟨b', off' + r * 4 + 3, none⟩ = some (.slice A2 n2 c2)) ∧ FracM w (.agg #[.bool (canF (M k r)).num.neg, .slice A1 n1 c1, .bool (canF (M k r)).den.neg, .slice A2 n2 c2]) (canF (M k r)) := by
  obtain ⟨vs, h1, h2⟩ := h0
  obtain ⟨b, off, hA, hlt, hc⟩ := h1.at_ (by omega)
  obtain ⟨B, cB, hv, hc1, hc2⟩ := (h2 k hk).shape
  rw [canL_length] at hv hc1
  have h3 := h2 k hk
  rw [hv] at h3
  obtain ⟨b', off', A1, n1, c1, A2, n2, c2, hA', _, h4, hm⟩ := h3.elem hb0 (canL_get hr)
  subst hA'
  refine ⟨b, off, _, cB, b', off', A1, n1, c1, A2, n2, c2, hA, hlt, ?_, hc1, hc2, rfl, h4, hm⟩
  have := hc k (vs k) (by simp [hk])
  rw [← hv]
  exact cell_later hb0 this
end Go.Proofs.YtpanffbgihhjnaaGreat

/- Memory: rows appended to a list of rows. Walks: package pairingref25: rows. -/
namespace Go.Proofs.YtpanffbgihhjnaaGreat
open Go.RowKit Pl
attribute [local go_sem ↓] Go.wp_at_zero Go.wp_at_succ

theorem info_rowT : (Tryz.prog.info? 23).map (fun i => (i.zero, i.size, i.bytes)) = some (some (.slice none 0 0), 1, 24) := by kernel_rfl
theorem wpList_append_slice {ops : Array Oper} {rest : List Oper} {o : Oper} {a : Act} {Q : Exit → Act → World → Prop} (hgd : o.guard = none) (s x : Operand)
    (ho : o.op = .call { callee := .builtin .append, args := #[s, x], argTypes := #[92, 92] })
    (W : World) (base : Nat) (v : Value) (m : Nat) (xs : List Value) (hs : a.eval s = v) (hown : W.ownsRow base 23 1 v m xs) (A : Option Addr) (n c : Nat)
    (hx : a.eval x = .slice (some ⟨W.heap.size, 0, none⟩) 1 1) (hn : m + 1 ≤ 1099511627776) (hbase : base ≤ W.heap.size)
    (h : ∀ v' w', w'.ownsRow base 23 1 v' (m + 1) (xs ++ [.slice A n c]) → KeepBut 23 W w' → Below base W w' → wpList Tryz.prog ops Q rest (a.put o.dst v') w') :
    wpList Tryz.prog ops Q (o :: rest) a (W.alloc (.cells #[.slice A n c] 23)) := by
  obtain ⟨i0, hi, hz0, hz1, hz2⟩ := info_parts info_rowT
  exact wpList_append_one hgd s x 92 ho 23 i0 _ 1 24 Tryz.underlying92 hi hz0 hz1 hz2 rfl (by decide) W base v m xs [.slice A n c] hs hown hx rfl (by intro u hu; simp at hu; subst hu; rfl) (by unfold maxLen; omega) (by omega) hbase h
def ColsO (base : Nat) (w : World) (v : Value) (m n : Nat) (M : Mx) : Prop := ∃ vs : Nat → Value, w.ownsRow base 23 1 v m ((List.range m).map vs) ∧ ∀ k, k < m → FrsM w (vs k) (canL n (M k))
theorem ColsO.cols {base : Nat} {w : World} {v : Value} {m n : Nat} {M : Mx} (h : ColsO base w v m n M) : ColsM w v m n M := by
  obtain ⟨vs, h1, h2⟩ := h
  exact ⟨vs, RowM.of_own h1, h2⟩
theorem ColsO.nil (base : Nat) (w : World) (n : Nat) (M : Mx) : ColsO base w (.slice none 0 0) 0 n M := ⟨fun _ => .slice none 0 0, World.ownsRow_nil _ _ _ _, fun k hk => absurd hk (by omega)⟩
theorem ColsO.below {base : Nat} {w w' : World} {v : Value} {m n : Nat} {M : Mx} (h : ColsO base w v m n M) (hb : Below w.heap.size w w') : ColsO base w' v m n M := by
  obtain ⟨vs, h1, h2⟩ := h
  exact ⟨vs, own_below h1 hb, fun k hk => (h2 k hk).below hb⟩
theorem wpList_append_cols {ops : Array Oper} {rest : List Oper} {o : Oper} {a : Act} {Q : Exit → Act → World → Prop} (hgd : o.guard = none) (s x : Operand)
    (ho : o.op = .call { callee := .builtin .append, args := #[s, x], argTypes := #[92, 92] })
    (W : World) (base : Nat) (v : Value) (m n : Nat) (M : Mx) (hs : a.eval s = v) (hown : ColsO base W v m n M) (A : Option Addr) (l c : Nat) (hf : FrsM W (.slice A l c) (canL n (M m)))
    (hx : a.eval x = .slice (some ⟨W.heap.size, 0, none⟩) 1 1) (hn : m + 1 ≤ 1099511627776) (hbase : base ≤ W.heap.size)
    (h : ∀ v' w', ColsO base w' v' (m + 1) n M → KeepBut 23 W w' → Below base W w' → wpList Tryz.prog ops Q rest (a.put o.dst v') w') :
    wpList Tryz.prog ops Q (o :: rest) a (W.alloc (.cells #[.slice A l c] 23)) := by
  obtain ⟨vs, h1, h2⟩ := hown
  refine wpList_append_slice hgd s x ho W base v m _ hs h1 A l c hx hn hbase fun v' w' g1 g2 g3 => h v' w' ⟨fun k => if k = m then .slice A l c else vs k, ?_, fun k hk => ?_⟩ g2 g3
  · rw [List.range_succ, List.map_append]
    have : (List.range m).map (fun k => if k = m then Value.slice A l c else vs k) = (List.range m).map vs := List.map_congr_left fun k hk => by
      have : k < m := List.mem_range.1 hk
      rw [if_neg (by omega)]
    rw [this]
    simpa using g1
  · by_cases e : k = m
    · subst e; simp only [if_true]; exact hf.but g2 (by decide) (by decide)
    · simp only [if_neg e]; exact (h2 k (by omega)).but g2 (by decide) (by decide)
theorem seq_append_cols {ops : Array Oper} {Q : Exit → Act → World → Prop} {S : World → Prop} {q : Nat} {i : Nat} {is : List Nat} {o : Oper} {a : Act} (hoi : ops[i]? = some o) (hfl : floatI ops q i = false) (hgd : o.guard = none) (hl0 : q ≤ i) (s x : Operand)
    (ho : o.op = .call { callee := .builtin .append, args := #[s, x], argTypes := #[92, 92] })
    (W : World) (base : Nat) (v : Value) (m n : Nat) (M : Mx) (hs : a.eval s = v) (hown : ColsO base W v m n M) (A : Option Addr) (l c : Nat) (hf : FrsM W (.slice A l c) (canL n (M m)))
    (hx : a.eval x = .slice (some ⟨W.heap.size, 0, none⟩) 1 1) (hn : m + 1 ≤ 1099511627776) (hbase : base ≤ W.heap.size)
    (h : ∀ v' w', ColsO base w' v' (m + 1) n M → KeepBut 23 W w' → Below base W w' → wpSeq Tryz.prog ops Q S q is (a.put o.dst v') w') :
    wpSeq Tryz.prog ops Q S q (i :: is) a (W.alloc (.cells #[.slice A l c] 23)) := by
  obtain ⟨vs, h1, h2⟩ := hown
  obtain ⟨i0, hi, hz0, hz1, hz2⟩ := info_parts info_rowT
  refine seq_append_one hoi hfl hgd hl0 s x 92 ho 23 i0 _ 1 24 Tryz.underlying92 hi hz0 hz1 hz2 rfl (by decide) W base v m _ [.slice A l c] hs h1 hx rfl (by intro u hu; simp at hu; subst hu; rfl) (by unfold maxLen; omega) (by omega) hbase fun v' w' g1 g2 g3 => h v' w' ⟨fun k => if k = m then .slice A l c else vs k, ?_, fun k hk => ?_⟩ g2 g3
  · rw [List.range_succ, List.map_append]
    have : (List.range m).map (fun k => if k = m then Value.slice A l c else vs k) = (List.range m).map vs := List.map_congr_left fun k hk => by
      have : k < m := List.mem_range.1 hk
      rw [if_neg (by omega)]
    rw [this]
    simpa using g1
  · by_cases e : k = m
    · subst e; simp only [if_true]; exact hf.but g2 (by decide) (by decide)
    · simp only [if_neg e]; exact (h2 k (by omega)).but g2 (by decide) (by decide)
theorem wpList_append_mat {ops : Array Oper} {rest : List Oper} {o : Oper} {a : Act} {Q : Exit → Act → World → Prop} (hgd : o.guard = none) (s x : Operand)
    (ho : o.op = .call { callee := .builtin .append, args := #[s, x], argTypes := #[92, 92] })
    (W : World) (base : Nat) (v : Value) (m n : Nat) (M : Mx) (G C : Nat → Nat) (hs : a.eval s = v) (hown : MatG base W v m n M G C) (g c : Nat) (hf : FrsO base W (.slice (some ⟨g, 0, none⟩) n c) (canL n (M m))) (hne : ∀ r, r < m → G r ≠ g)
    (hx : a.eval x = .slice (some ⟨W.heap.size, 0, none⟩) 1 1) (hn : m + 1 ≤ 1099511627776) (hbase : base ≤ W.heap.size)
    (h : ∀ v' w', MatG base w' v' (m + 1) n M (fun r => if r = m then g else G r) (fun r => if r = m then c else C r) → KeepBut 23 W w' → Below base W w' → wpList Tryz.prog ops Q rest (a.put o.dst v') w') :
    wpList Tryz.prog ops Q (o :: rest) a (W.alloc (.cells #[.slice (some ⟨g, 0, none⟩) n c] 23)) := by
  obtain ⟨h1, h2, h3⟩ := hown
  have hrow : ∀ r, rowV n (fun r => if r = m then g else G r) (fun r => if r = m then c else C r) r = if r = m then .slice (some ⟨g, 0, none⟩) n c else rowV n G C r := fun r => by
    unfold rowV
    by_cases e : r = m
    · simp only [if_pos e]
    · simp only [if_neg e]
  refine wpList_append_slice hgd s x ho W base v m _ hs h1 _ n c hx hn hbase fun v' w' g1 g2 g3 => h v' w' ⟨?_, fun r hr => ?_, fun r t hr ht e => ?_⟩ g2 g3
  · have : rowsL (m + 1) n (fun r => if r = m then g else G r) (fun r => if r = m then c else C r) = rowsL m n G C ++ [.slice (some ⟨g, 0, none⟩) n c] := by
      unfold rowsL
      rw [List.range_succ, List.map_append]
      have e1 : (List.range m).map (rowV n (fun r => if r = m then g else G r) (fun r => if r = m then c else C r)) = (List.range m).map (rowV n G C) := List.map_congr_left fun k hk => by
        have : k < m := List.mem_range.1 hk
        rw [hrow, if_neg (by omega)]
      rw [e1, List.map_cons, hrow, if_pos rfl, List.map_nil]
    rw [this]
    exact g1
  · rw [hrow]
    split
    · rename_i e; subst e; exact hf.but g2 (by decide) (by decide)
    · exact (h2 r (by omega)).but g2 (by decide) (by decide)
  · by_cases e1 : r = m <;> by_cases e2 : t = m
    · omega
    · simp only [if_pos e1, if_neg e2] at e; exact absurd e.symm (hne t (by omega))
    · simp only [if_neg e1, if_pos e2] at e; exact absurd e (hne r (by omega))
    · simp only [if_neg e1, if_neg e2] at e; exact h3 r t (by omega) (by omega) e

set_option maxRecDepth 100000 in
set_option maxHeartbeats 2000000 in
theorem rrows_own (v : Value) (m : Nat) (M : Mx) (w : World) (h : ColsM w v m m M) (hm : m ≤ 1000) :
    Calls Tryz.prog 65 #[v] w fun e w' => ∃ v', e = .returned v' ∧ ColsM w' v' m m (fun r k => M k r) ∧ Below w.heap.size w w' := by
  obtain ⟨A, c, rfl, hc1, hc2⟩ := h.shape
  go_enter Tryz.func65, Tryz.ntmps65
  go_wp2
  go_loopw [3, 4] (fun s i wr => ∃ r : Nat, r ≤ m ∧ i = .int .i64 r ∧ ColsO w.heap.size wr s r m (fun r k => M k r) ∧ Below w.heap.size w wr) (fun _ i _ => m - (intOf i).toNat)
  case atStart => exact ⟨0, by omega, rfl, ColsO.nil _ _ _ _, Below.refl _ _⟩
  case round =>
    obtain ⟨r, hr, rfl, hO, hbe⟩ := hrel
    obtain ⟨wO, rfl⟩ : ∃ x, x = wr := ⟨_, rfl⟩
    rcases Nat.lt_or_ge r m with hrm | hrm
    · go_wp2
      go_loopw [5, 6] (fun s i wx => ∃ k : Nat, k ≤ m ∧ i = .int .i64 k ∧ FrsO wO.heap.size wx s (canL k fun k => M k r) ∧ Below wO.heap.size wO wx) (fun _ i _ => m - (intOf i).toNat)
      case atStart => exact ⟨0, by omega, rfl, FrsO.nil _ _, Below.refl _ _⟩
      case round =>
        obtain ⟨k, hk, rfl, hF, hbx⟩ := hrel
        have hbs := hbx.size
        rcases Nat.lt_or_ge k m with hkm | hkm
        · obtain ⟨b, off, B, cB, b', off', A1, n1, c1, A2, n2, c2, rfl, hlt, hcell, hcB1, hcB2, _, ⟨q0, q1, q2, q3⟩, hmf⟩ := h.at_ (below_then hbe hbx hbe.size) hkm hrm
          have HF := Lib.hid hF
          have HMF := Lib.hid hmf
          have hlen : (canL k fun k => M k r).length + 1 ≤ 1099511627776 := by rw [canL_length]; omega
          have hkI : (k : Int) < m := by omega
          have hrI : (r : Int) < m := by omega
          clear hF hmf
          go_wp2_with (at_builtin; refine wpList_append_frac rfl (.tmp 19) (.tmp 27) rfl wr wO.heap.size u5 (canL k fun k => M k r) rfl HF.out _ _ A1 A2 n1 c1 n2 c2 (canF (M k r)) HMF.out rfl hlen hbs ?_)
          intro v' w4 hown4 hk4 hb4
          rw [canL_succ k fun k => M k r] at hown4
          go_wp2
          go_roundw
          case rel => exact ⟨k + 1, by omega, by go_num, hown4, hbx.trans hb4⟩
          case measure => simp [intOf]; omega
        · obtain rfl : k = m := by omega
          have HO := Lib.hid (hO.below hbx)
          have hF2 := hF.frs
          obtain ⟨B, cB, rfl, hcB1, hcB2⟩ := hF2.shape
          have HF := Lib.hid hF2
          have hbe2 := below_then hbe hbx hbe.size
          have hbs2 := hbe2.size
          clear hO hF hF2
          go_wp2_with (at_builtin; refine wpList_append_cols rfl (.tmp 29) (.tmp 31) rfl wr w.heap.size u3 r k (fun r k => M k r) rfl HO.out B _ cB HF.out rfl (by omega) hbs2 ?_)
          intro v' w4 hown4 hk4 hb4
          go_wp2
          go_roundw
          case rel => exact ⟨r + 1, by omega, by go_num, hown4, hbe2.trans hb4⟩
          case measure => simp [intOf]; omega
    · obtain rfl : r = m := by omega
      go_wp2
      go_ret
      exact ⟨_, rfl, hO.cols, hbe⟩
end Go.Proofs.YtpanffbgihhjnaaGreat

/- Walks: package pairingref25: Column (of an artificial column). -/
namespace Go.Proofs.YtpanffbgihhjnaaGreat
open Go.RowKit Pl
attribute [local go_sem ↓] Go.wp_at_zero Go.wp_at_succ

set_option maxRecDepth 100000 in
set_option maxHeartbeats 4000000 in
theorem rcolumn_neg (v : Value) (p : LPd) (K r : Nat) (w : World) (h : LpM w v p) (ok : p.Ok K) (hK : K ≤ 34359738368) (hr : r < p.right.length) (hm : p.right.length ≤ 64) :
    Calls Tryz.prog 43 #[v, .int .i64 (-1 - (r : Int))] w fun e w' => ∃ v', e = .returned v' ∧ FrsO w.heap.size w' v' (canL p.right.length (p.col (-1 - (r : Int)))) ∧ Below w.heap.size w w' := by
  obtain ⟨A, n, c, A', n', c', A'', n'', c'', rfl, hc, hv, hri⟩ := id h
  obtain ⟨W, hW, hX, hbe⟩ := box_lp w (.slice A n c) (.slice A' n' c') (.slice A'' n'' c'')
  obtain ⟨x0, x1, x2⟩ := hX.three
  obtain ⟨r1, r2, r3⟩ := hri.len
  obtain ⟨f, hf⟩ := get_some (fs := p.right) (i := r) hr
  have hsf := (ok.2.1 r f hf).sh hK
  have HQ := Lib.hid (qAt_some hf)
  have HCN : Hid (p.col (-1 - (r : Int)) = fun i => if i = r then (if qs (qAt p.right i) < 0 then -1 else 1) else 0) := Lib.hid LPd.col_neg
  have HF := Lib.hid hf
  rw [← r1]
  have hrn : r < n'' := by omega
  have hrI : (r : Int) < n'' := by omega
  have hn64 : n'' ≤ 64 := by omega
  generalize hj : -1 - (r : Int) = j at *
  have hj0 : j < 0 := by omega
  have hjr : -1 - j = (r : Int) := by omega
  clear hf hm r1 hr ok hc hv h hj
  go_enter Tryz.func43, Tryz.ntmps43
  go_wp2_with fail
  clear hW
  refine (zeros_own n'' _ (by omega)).mono ?_
  rw [canL_zero]
  rintro _ w1 ⟨v1, rfl, e1, hb1⟩
  obtain ⟨g, cg, rfl, hg1, hg2, hg3, hg4⟩ := e1.shape (by rw [canL_length]; omega)
  rw [canL_length] at e1 hg3 ⊢
  go_wp2_with fail
  refine (rint_own 1 _ (by omega) (by omega)).mono ?_
  rw [show ((1 : Int) : Rat) = 1 from rfl]
  rintro _ w2 ⟨v2, rfl, e2, hb2⟩
  have hO2 := e1.below hb2
  have hF2 := e2.frac
  generalize h1q : canF 1 = q1 at *
  obtain ⟨E, l9, k9, E', l9', k9', rfl, _, _⟩ := id hF2
  obtain ⟨_, _, _, _, ⟨c0', c1', c2', c3'⟩, ⟨f0, f1, f2, f3⟩, _⟩ := hO2.at_ (canL_get hrn)
  go_upto_region 6 with (fail)
  obtain ⟨hO3, hk3⟩ := hO2.set_ (k := r) (by rw [canL_length]; exact hrn) hF2
  rw [← h1q, canL_set hrn, h1q] at hO3
  have hb12 := below_then hb1 hb2 hb1.size
  have hb3 := below_set4' (below_then hbe hb12 hbe.size) (show w.heap.size ≤ g by have := hbe.size; omega) (r * 4) (r * 4 + 1) (r * 4 + 2) (r * 4 + 3) (.bool q1.num.neg) (.slice E l9 k9) (.bool q1.den.neg) (.slice E' l9' k9')
  have hX3 := hk3.bk ((hX.later hb1).later hb2) (by decide)
  clear c0' c1' c2' c3' f0 f1 f2 f3 hk3 hO2 e1 hb1 hb2 hb12 e2 hF2 x0 x1 x2 hX h1q
  generalize (((w2.setCell ⟨g, r * 4, none⟩ (.bool q1.num.neg)).setCell ⟨g, r * 4 + 1, none⟩ (.slice E l9 k9)).setCell ⟨g, r * 4 + 2, none⟩ (.bool q1.den.neg)).setCell ⟨g, r * 4 + 3, none⟩ (.slice E' l9' k9') = W3 at *
  obtain ⟨x0, x1, x2⟩ := hX3.three
  obtain ⟨b, off, B1, n1, k1, B2, n2, k2, rfl, hlt, ⟨q0', q1', q2', q3'⟩, hmf⟩ := hri.elem hb3 HF.out
  go_wp2_with fail
  refine (rsignF_any _ f _ hmf hsf).mono ?_
  rintro _ w4 ⟨rfl, hb4⟩
  have hO4 := hO3.below hb4
  have hb5 := below_then hb3 hb4 hb3.size
  clear q0' q1' q2' q3' hmf x0 x1 x2 hX3 hO3 hb3 hb4
  by_cases hq : qs f.q < 0
  · have HC : Hid (∀ i, i < n'' → (if i = r then (-1 : Rat) else if i = r then 1 else 0) = p.col j i) := Lib.hid fun i _ => by
      rw [HCN.out]
      by_cases e : i = r
      · simp only [if_pos e]; rw [e, HQ.out, if_pos hq]
      · simp only [if_neg e]
    go_wp2_with fail
    refine (rint_own (-1) _ (by omega) (by omega)).mono ?_
    rw [show ((-1 : Int) : Rat) = -1 from rfl]
    rintro _ w6 ⟨v6, rfl, e6, hb6⟩
    have hO6 := hO4.below hb6
    have hF6 := e6.frac
    generalize h6q : canF (-1) = q6 at *
    obtain ⟨E6, l6, k6, E6', l6', k6', rfl, _, _⟩ := id hF6
    obtain ⟨_, _, _, _, ⟨c0', c1', c2', c3'⟩, ⟨f0, f1, f2, f3⟩, _⟩ := hO6.at_ (canL_get hrn)
    go_wp2
    obtain ⟨hO7, hk7⟩ := hO6.set_ (k := r) (by rw [canL_length]; exact hrn) hF6
    rw [← h6q, canL_set hrn, h6q, canL_congr HC.out] at hO7
    have hb7 := below_set4' (below_then hb5 hb6 hb5.size) (show w.heap.size ≤ g by have := hbe.size; omega) (r * 4) (r * 4 + 1) (r * 4 + 2) (r * 4 + 3) (.bool q6.num.neg) (.slice E6 l6 k6) (.bool q6.den.neg) (.slice E6' l6' k6')
    go_ret
    obtain ⟨cs, ho, hf⟩ := hO7
    exact ⟨_, rfl, ⟨cs, row_mono ho hbe.size, hf⟩, hb7⟩
  · have HC : Hid (∀ i, i < n'' → (if i = r then (1 : Rat) else 0) = p.col j i) := Lib.hid fun i _ => by
      rw [HCN.out]
      by_cases e : i = r
      · simp only [if_pos e]; rw [e, HQ.out, if_neg hq]
      · simp only [if_neg e]
    go_wp2
    go_ret
    rw [canL_congr HC.out] at hO4
    obtain ⟨cs, ho, hf⟩ := hO4
    exact ⟨_, rfl, ⟨cs, row_mono ho hbe.size, hf⟩, hb5⟩
theorem rcolumn_any (v : Value) (p : LPd) (K : Nat) (j : Int) (w : World) (h : LpM w v p) (ok : p.Ok K) (hK : K ≤ 34359738368) (hin : p.In) (hj0 : -(p.right.length : Int) ≤ j) (hj1 : j < p.cols.length) (hm : p.right.length ≤ 64) :
    Calls Tryz.prog 43 #[v, .int .i64 j] w fun e w' => ∃ v', e = .returned v' ∧ FrsO w.heap.size w' v' (canL p.right.length (p.col j)) ∧ Below w.heap.size w w' := by
  rcases Int.lt_or_le j 0 with h0 | h0
  · obtain ⟨r, rfl⟩ : ∃ r : Nat, j = -1 - (r : Int) := ⟨(-1 - j).toNat, by omega⟩
    exact rcolumn_neg v p K r w h ok hK (by omega) hm
  · obtain ⟨r, rfl⟩ := Int.eq_ofNat_of_zero_le h0
    exact rcolumn_pos v p K r w h ok hK hin (by omega) hm

namespace Pl
structure LSt where
  phase : Int
  basis : List Int
  pivots : Int
def LSt.In (p : LPd) (s : LSt) : Prop := ∀ (i : Nat) (z : Int), s.basis[i]? = some z → -(p.right.length : Int) ≤ z ∧ z < p.cols.length
def LSt.at_ (s : LSt) (i : Nat) : Int := s.basis.getD i 0
def LSt.mat (p : LPd) (s : LSt) : Mx := fun i => p.col (s.at_ i)
theorem LSt.at_eq {s : LSt} {i : Nat} {z : Int} (h : s.basis[i]? = some z) : s.at_ i = z := by simp [LSt.at_, List.getD, h]
end Pl
def StM (w : World) (v : Value) (s : LSt) : Prop := ∃ A n c, v = .agg #[.int .i64 s.phase, .slice A n c, .int .i64 s.pivots] ∧ IntsM w (.slice A n c) s.basis
theorem StM.below {w w' : World} {v : Value} {s : LSt} (h : StM w v s) (hb : Below w.heap.size w w') : StM w' v s := by
  obtain ⟨A, n, c, h1, h2⟩ := h
  exact ⟨A, n, c, h1, h2.below hb⟩
theorem box_st (w : World) (x y z : Value) : ∃ W, w.alloc (.cells #[x, y, z] 34) = W ∧ Bk W w.heap.size 34 [x, y, z] ∧ Below w.heap.size w W := ⟨_, rfl, Bk.new w _ [x, y, z], below_new w _⟩
theorem IntsM.len {w : World} {A : Option Addr} {n c : Nat} {zs : List Int} (h : IntsM w (.slice A n c) zs) : n = zs.length ∧ n ≤ c ∧ c ≤ 9223372036854775807 := by
  obtain ⟨a, cap, h1, h2, h3⟩ := h.shape
  injection h1 with e1 e2 e3
  subst e2 e3
  exact ⟨rfl, h2, h3⟩

set_option maxRecDepth 100000 in
set_option maxHeartbeats 4000000 in
theorem rmatrix_own (v1 v2 : Value) (p : LPd) (s : LSt) (K : Nat) (w : World) (h : LpM w v1 p) (h2 : StM w v2 s) (ok : p.Ok K) (hK : K ≤ 34359738368) (hin : p.In) (hs : s.In p) (hm : p.right.length ≤ 64) (hl : s.basis.length ≤ 1000) :
    Calls Tryz.prog 63 #[v1, v2] w fun e w' => ∃ v', e = .returned v' ∧ ColsM w' v' s.basis.length p.right.length (s.mat p) ∧ Below w.heap.size w w' := by
  obtain ⟨A, n, c, A', n', c', A'', n'', c'', rfl, hc, hv, hr⟩ := id h
  obtain ⟨Ab, nb, cb, rfl, hI⟩ := id h2
  obtain ⟨W, hW, hX0, hbe0⟩ := box_lp w (.slice A n c) (.slice A' n' c') (.slice A'' n'' c'')
  obtain ⟨W1, hW1, hS0, hbe1⟩ := box_st W (.int .i64 s.phase) (.slice Ab nb cb) (.int .i64 s.pivots)
  have hX := hX0.later hbe1
  have hbe := below_then hbe0 hbe1 hbe0.size
  obtain ⟨b1, b2, b3⟩ := hI.len
  have hsz : W.heap.size = w.heap.size + 1 := by rw [← hW]; simp
  rw [hsz] at hS0
  have HLP := Lib.hid h
  have HOK := Lib.hid ok
  have HIN := Lib.hid hin
  have HSI := Lib.hid hs
  have HNB := Lib.hid b1
  rw [← b1]
  have hnb : nb ≤ 1000 := by omega
  have HI := Lib.hid hI
  obtain ⟨x0, x1, x2⟩ := hX.three
  obtain ⟨y0, y1, y2⟩ := hS0.three
  clear h h2 ok hin hs hc hv hr b1 hl hI hX0 hbe0 hbe1
  go_enter Tryz.func63, Tryz.ntmps63
  go_wp2
  clear hW hW1 x0 x1 x2 y0 y1 y2
  go_loopw [5, 6] (fun u i wr => ∃ k : Nat, k ≤ nb ∧ i = .int .i64 k ∧ Below w.heap.size w wr ∧ Bk wr w.heap.size 26 [.slice A n c, .slice A' n' c', .slice A'' n'' c''] ∧ Bk wr (w.heap.size + 1) 34 [.int .i64 s.phase, .slice Ab nb cb, .int .i64 s.pivots] ∧ ColsO w.heap.size wr u k p.right.length (s.mat p)) (fun _ i _ => nb - (intOf i).toNat)
  case atStart => exact ⟨0, by omega, rfl, hbe, hX, hS0, ColsO.nil _ _ _ _⟩
  case round =>
    clear hbe hX hS0
    obtain ⟨k, hk, rfl, hbe, hX, hS, hO⟩ := hrel
    obtain ⟨x0, x1, x2⟩ := hX.three
    obtain ⟨y0, y1, y2⟩ := hS.three
    rcases Nat.lt_or_ge k nb with hkl | hkl
    · obtain ⟨bb, bo, z, rfl, hz, hget, z0, z1⟩ := (HI.out.below hbe).at_ hkl
      have HZ : Hid (s.mat p k = p.col z) := Lib.hid (by unfold LSt.mat; rw [LSt.at_eq hget])
      obtain ⟨i0, i1⟩ := HSI.out k z hget
      have hkI : (k : Int) < nb := by omega
      clear hget
      go_wp2_with fail
      have C0 := stab x0
      have C1 := stab x1
      have C2 := stab x2
      have D1 := stab y1
      have E1 := stab hz
      have hS0 := below_drew' wr
      clear x0 x1 x2 y0 y1 y2 hz
      refine region_seq 8 [0, 1, 2, 3, 4, 5, 6, 7, 8, 9, 10] (by kernel_rfl) (by kernel_rfl) ?_
      repeat ((first | (refine seq_takeP (v := ?_) rfl rfl rfl ?_ ?_; rotate_left; (· (intro _ hSw; go_simp; (try go_bits); (try with_reducible rfl)))) | (refine seq_take (v := ?_) rfl rfl rfl ?_ ?_; rotate_left; (· (intro _ hSw; go_simp; (try go_bits); (try with_reducible rfl)))) | refine seq_skip rfl rfl rfl ?_); (try simp only [Act.put, pu1, pu2, pu3, pu4, pu5, pu6]))
      refine seq_step rfl rfl (fun KR hKR => ?_)
      go_simp
      with_reducible refine (rcolumn_any _ p K z _ ((HLP.out.below hbe).below hS0) HOK.out hK HIN.out i0 i1 hm).mono ?_
      rw [← HZ.out]
      rintro _ w5 ⟨v5, rfl, e5, hb5⟩
      have hS5 := below_then hS0 hb5 hS0.size
      obtain ⟨Ae, ce, rfl, _, _⟩ := e5.frs.shape
      have HF := Lib.hid e5.frs
      have HO := Lib.hid (hO.below hS5)
      have hbs : w.heap.size ≤ w5.heap.size := by have := hbe.size; have := hS5.size; omega
      clear e5
      refine hKR.out _ _ (Or.inr hS5) ?_
      clear hKR KR
      (try simp only [Act.put, pu1, pu2, pu3, pu4, pu5, pu6])
      refine seq_step rfl rfl (fun KR hKR => ?_)
      go_simp
      refine hKR.out _ _ (Or.inl (by decide)) ?_
      clear hKR KR
      (try simp only [Act.put, pu1, pu2, pu3, pu4, pu5, pu6])
      refine seq_append_cols rfl rfl rfl (by decide) (.tmp 14) (.tmp 22) rfl w5 w.heap.size u5 k p.right.length (s.mat p) rfl HO.out Ae _ ce HF.out rfl (by omega) hbs ?_
      intro v' w6 hown6 hk6 hb6
      (try simp only [Act.put, pu1, pu2, pu3, pu4, pu5, pu6])
      refine seq_step rfl rfl (fun KR hKR => ?_)
      go_simp
      refine hKR.out _ _ (Or.inl (by decide)) ?_
      clear hKR KR
      (try simp only [Act.put, pu1, pu2, pu3, pu4, pu5, pu6])
      refine seq_done ?_
      have hX6 := hk6.bk (hX.later hS5) (by decide)
      have hT6 := hk6.bk (hS.later hS5) (by decide)
      have hbe6 := (below_then hbe hS5 hbe.size).trans hb6
      clear C0 C1 C2 D1 E1 hX hS hbe hS0 hS5 hb5 hO HO HF hk6 hb6
      go_wp2
      go_roundw
      case rel => exact ⟨k + 1, by omega, by go_num, hbe6, hX6, hT6, hown6⟩
      case measure => simp [intOf]; omega
    · obtain rfl : k = nb := by omega
      go_wp2
      go_ret
      exact ⟨_, rfl, hO.cols, hbe⟩
end Go.Proofs.YtpanffbgihhjnaaGreat

/- Walks: package pairingref25: Solve. -/
namespace Go.Proofs.YtpanffbgihhjnaaGreat
open Go.RowKit Pl
attribute [local go_sem ↓] Go.wp_at_zero Go.wp_at_succ

namespace Pl
def solF (m : Nat) (cols : Mx) (b : Nat → Rat) : List RF := match solveQ m cols b with | some x => canL m x | none => []
theorem solF_some {m : Nat} {cols : Mx} {b x : Nat → Rat} (h : solveQ m cols b = some x) : solF m cols b = canL m x := by unfold solF; rw [h]
theorem solF_none {m : Nat} {cols : Mx} {b : Nat → Rat} (h : solveQ m cols b = none) : solF m cols b = [] := by unfold solF; rw [h]
theorem gj_fail {M : Mx} {m k : Nat} (h : gj M m k = none) : ∀ d, gj M m (k + d) = none
  | 0 => h
  | d + 1 => by rw [← Nat.add_assoc]; unfold gj; rw [gj_fail h d]
theorem solveQ_fail {m k : Nat} {cols : Mx} {b : Nat → Rat} {M : Mx} (hk : k < m) (h : gj (augM m cols b) m k = some M) (hf : findP M k m = none) : solveQ m cols b = none := by
  have h1 : gj (augM m cols b) m (k + 1) = none := by unfold gj; rw [h]; show gjStep M k m = none; unfold gjStep; rw [hf]
  have h2 := gj_fail h1 (m - (k + 1))
  rw [show k + 1 + (m - (k + 1)) = m by omega] at h2
  unfold solveQ; rw [h2]; rfl
theorem solveQ_done {m : Nat} {cols : Mx} {b : Nat → Rat} {M : Mx} (h : gj (augM m cols b) m m = some M) : solveQ m cols b = some fun k => M k m := by unfold solveQ; rw [h]; rfl
theorem gj_next {m k t : Nat} {A M : Mx} (h : gj A m k = some M) (hf : findP M k m = some t) : gj A m (k + 1) = some (elimAll (scaleTo (swapM M k t) k (m + 1) (swapM M k t k k)) k m m) := by
  unfold gj; rw [h]; show gjStep M k m = _; unfold gjStep; rw [hf]
theorem pow5_le {k m K : Nat} (h : k < m) : 5 * (5 ^ k * K) ≤ 5 ^ m * K := by
  have h1 : 5 ^ (k + 1) ≤ 5 ^ m := Nat.pow_le_pow_right (by decide) h
  have h2 := Nat.mul_le_mul_right K h1
  rw [Nat.pow_succ] at h2
  grind
end Pl

set_option maxRecDepth 100000 in
set_option maxHeartbeats 16000000 in
theorem rsolve_own (v1 v2 : Value) (m : Nat) (cols : Mx) (rs : List RF) (K : Nat) (w : World) (h1 : ColsM w v1 m m cols) (h2 : FrsM w v2 rs) (hl : rs.length = m) (hc : ∀ r c, r < m → c < m → Sz K (cols c r)) (hr : RsL K rs) (hK : 1 ≤ K) (hs : 5 ^ m * K ≤ 8589934592) (hm : m ≤ 1000) :
    Calls Tryz.prog 62 #[v1, v2] w fun e w' => ∃ v', e = .returned (.tuple #[v', .bool (solveQ m cols (qAt rs)).isSome]) ∧ FrsO w.heap.size w' v' (solF m cols (qAt rs)) ∧ Below w.heap.size w w' := by
  obtain ⟨A, c, rfl, hc1, hc2⟩ := h1.shape
  obtain ⟨Ar, cr, rfl, hr1, hr2⟩ := h2.shape
  rw [hl] at hr1 h2 ⊢
  have HAB : Hid (MB m (m + 1) K (augM m cols (qAt rs))) := Lib.hid (aug_B hc fun r _ => hr.qAt hK r)
  have HRS := Lib.hid hr
  have HL := Lib.hid hl
  have HS := Lib.hid hs
  have HKB : Hid (K ≤ 8589934592) := Lib.hid (by have := Nat.mul_le_mul_right K (Nat.pow_le_pow_right (show 0 < 5 by decide) (Nat.zero_le m)); simp at this; omega)
  have H1 := Lib.hid h1
  have H2 := Lib.hid h2
  clear hc hr hl hs h1 h2
  generalize hb : qAt rs = b at *
  have HB := Lib.hid hb
  clear hb
  go_enter Tryz.func62, Tryz.ntmps62
  go_wp2
  go_loopw [7, 8] (fun s i wr => ∃ (r : Nat) (G C : Nat → Nat), r ≤ m ∧ i = .int .i64 r ∧ Below w.heap.size w wr ∧ MatG w.heap.size wr s r (m + 1) (augM m cols b) G C) (fun _ i _ => m - (intOf i).toNat)
  case atStart => exact ⟨0, fun _ => 0, fun _ => 0, by omega, rfl, Below.refl _ _, MatG.nil _ _ _ _ _ _⟩
  case round =>
    obtain ⟨r, G, C, hr, rfl, hbe, hM⟩ := hrel
    obtain ⟨wO, rfl⟩ : ∃ x, x = wr := ⟨_, rfl⟩
    rcases Nat.lt_or_ge r m with hrm | hrm
    · go_wp2
      go_loopw [9, 10] (fun s i wx => ∃ k : Nat, k ≤ m ∧ i = .int .i64 k ∧ FrsO wO.heap.size wx s (canL k (augM m cols b r)) ∧ Below wO.heap.size wO wx) (fun _ i _ => m - (intOf i).toNat)
      case atStart => exact ⟨0, by omega, rfl, FrsO.nil _ _, Below.refl _ _⟩
      case round =>
        obtain ⟨k, hk, rfl, hF, hbx⟩ := hrel
        have hbs := hbx.size
        rcases Nat.lt_or_ge k m with hkm | hkm
        · obtain ⟨bb, off, B, cB, b', off', A1, n1, c1, A2, n2, c2, rfl, hlt, hcell, hcB1, hcB2, _, ⟨q0, q1, q2, q3⟩, hmf⟩ := H1.out.at_ (below_then hbe hbx hbe.size) hkm hrm
          have HF := Lib.hid hF
          have HMF := Lib.hid hmf
          have hlen : (canL k (augM m cols b r)).length + 1 ≤ 1099511627776 := by rw [canL_length]; omega
          have HE : Hid (canF (cols k r) = canF (augM m cols b r k)) := Lib.hid (by unfold augM; rw [if_pos hkm])
          have hkI : (k : Int) < m := by omega
          have hrI : (r : Int) < m := by omega
          clear hF hmf
          go_wp2_with (at_builtin; refine wpList_append_frac rfl (.tmp 33) (.tmp 41) rfl wr wO.heap.size u9 (canL k (augM m cols b r)) rfl HF.out _ _ A1 A2 n1 c1 n2 c2 (canF (cols k r)) HMF.out rfl hlen hbs ?_)
          intro v' w4 hown4 hk4 hb4
          rw [HE.out, canL_succ] at hown4
          go_wp2
          go_roundw
          case rel => exact ⟨k + 1, by omega, by go_num, hown4, hbx.trans hb4⟩
          case measure => simp [intOf]; omega
        · obtain rfl : k = m := by omega
          obtain ⟨f, hf⟩ := get_some (fs := rs) (i := r) (by rw [HL.out]; exact hrm)
          obtain ⟨b', off', B1, n1, k1, B2, n2, k2, rfl, _, ⟨q0, q1, q2, q3⟩, hmf⟩ := H2.out.elem (below_then hbe hbx hbe.size) hf
          have hsf : f.Sh := (HRS.out r f hf).sh (by have := HKB.out; omega)
          have HE : Hid (canF f.q = canF (augM k cols b r k)) := Lib.hid (by unfold augM; rw [if_neg (by omega), ← HB.out, qAt_some hf])
          have hrI : (r : Int) < k := by omega
          clear hf
          go_wp2_with fail
          refine (rcanon_own _ f _ hmf hsf).mono ?_
          rw [HE.out]
          rintro _ w5 ⟨v5, rfl, e5, hb5⟩
          have hbx5 := below_then hbx hb5 hbx.size
          have hbs5 := hbx5.size
          have HF := Lib.hid (hF.below hb5)
          have HMF := Lib.hid e5.frac
          have hlen : (canL k (augM k cols b r)).length + 1 ≤ 1099511627776 := by rw [canL_length]; omega
          generalize hQ : canF (augM k cols b r k) = Q at *
          obtain ⟨E, l9, k9, E', l9', k9', rfl, _, _⟩ := id HMF.out
          clear hF hmf q0 q1 q2 q3 e5 hbx
          go_wp2_with (at_builtin; refine wpList_append_frac rfl (.tmp 44) (.tmp 50) rfl w5 wO.heap.size u9 (canL k (augM k cols b r)) rfl HF.out _ _ E E' l9 k9 l9' k9' Q HMF.out rfl hlen hbs5 ?_)
          intro v' w6 hown6 hk6 hb6
          rw [← hQ, canL_succ] at hown6
          clear hQ
          have hbx6 := hbx5.trans hb6
          obtain ⟨g, cg, rfl, hg1, hg2, hg3, hg4⟩ := hown6.shape (by rw [canL_length]; omega)
          rw [canL_length] at hown6 hg3
          have HM := Lib.hid (hM.below hbx6)
          have hbe6 := below_then hbe hbx6 hbe.size
          have hbs6 := hbe6.size
          have HF6 : Hid (FrsO w.heap.size w6 (.slice (some ⟨g, 0, none⟩) (k + 1) cg) (canL (k + 1) (augM k cols b r))) := Lib.hid (by obtain ⟨cs, ho, hf⟩ := hown6; exact ⟨cs, row_mono ho hbe.size, hf⟩)
          have HNE : Hid (∀ s, s < r → G s ≠ g) := Lib.hid fun s hs => by have := (hM.lt hs (by omega)).2.1; omega
          clear hM hown6 hbx5 hbx6 hb5 hb6 hk6
          rw [canL_length]
          go_wp2_with (at_builtin; refine wpList_append_mat rfl (.tmp 43) (.tmp 52) rfl w6 w.heap.size u7 r (k + 1) (augM k cols b) G C rfl HM.out g cg HF6.out HNE.out rfl (by omega) hbs6 ?_)
          intro v' w7 hown7 hk7 hb7
          go_wp2
          go_roundw
          case rel => exact ⟨r + 1, _, _, by omega, by go_num, hbe6.trans hb7, hown7⟩
          case measure => simp [intOf]; omega
    · obtain rfl : r = m := by omega
      obtain ⟨Aa, ca, rfl, hca1, hca2⟩ := hM.shape
      generalize hva : Value.slice Aa r ca = va at *
      go_wp2
      go_loopw [11] (fun i wr => ∃ (k : Nat) (M : Mx) (G C : Nat → Nat), k ≤ r ∧ i = .int .i64 k ∧ Below w.heap.size w wr ∧ gj (augM r cols b) r k = some M ∧ MatG w.heap.size wr va r (r + 1) M G C) (fun i _ => r - (intOf i).toNat)
      case atStart => exact ⟨0, _, G, C, by omega, rfl, hbe, rfl, hM⟩
      case round =>
        clear hbe hM
        obtain ⟨k, M, G, C, hk, rfl, hbe, hgj, hM⟩ := hrel
        have HGJ := Lib.hid hgj
        clear hgj
        subst hva
        rcases Nat.lt_or_ge k r with hkr | hkr
        · obtain ⟨go, co, hvo, hgo1, hgo2, hco1, hco2, hcell⟩ := hM.outer (by omega)
          injection hvo with hv1 hv2 hv3
          subst hv1 hv3
          have HMB := Lib.hid (gj_B HAB.out hk HGJ.out)
          have hκ : 5 * (5 ^ k * K) ≤ 8589934592 := Nat.le_trans (pow5_le hkr) HS.out
          generalize hKK : 5 ^ k * K = κ at *
          clear hKK hca1
          obtain ⟨wP, rfl⟩ : ∃ x, x = wr := ⟨_, rfl⟩
          go_wp2
          go_loopw [12, 13] (fun a i wx => ∃ t : Nat, a = .int .i64 (-1) ∧ k ≤ t ∧ t ≤ r ∧ i = .int .i64 t ∧ Below wP.heap.size wP wx ∧ ∀ s, k ≤ s → s < t → M s k = 0) (fun _ i _ => r - (intOf i).toNat)
          case atStart => exact ⟨k, rfl, by omega, by omega, rfl, Below.refl _ _, fun s h1 h2 => by omega⟩
          case round =>
            obtain ⟨t, rfl, hkt, htr, rfl, hbx, hz⟩ := hrel
            have HZ := Lib.hid hz
            clear hz
            rcases Nat.lt_or_ge t r with htl | htl
            · have hMx := hM.below hbx
              have y0 := (hMx.cellAt htl).1
              obtain ⟨A1, n1, c1, A2, n2, c2, ⟨q0, q1, q2, q3⟩, hQ⟩ := hMx.at_ htl (show k < r + 1 by omega)
              have hsh : (canF (M t k)).Sh := (HMB.out t k htl (by omega)).sh (by omega)
              simp only [rowV] at y0
              generalize hq : M t k = q at *
              have HQQ := Lib.hid hq
              clear hq
              have hkI : (k : Int) < ((r + 1 : Nat) : Int) := by omega
              have hkI2 : (k : Int) < (r : Int) + 1 := by omega
              have htI : (t : Int) < r := by omega
              go_wp2_with fail
              refine (rsignF_any _ (canF q) _ hQ hsh).mono ?_
              rw [canF_q]
              rintro _ w5 ⟨rfl, hb5⟩
              clear y0 q0 q1 q2 q3 hQ hMx
              have hbx5 := below_then hbx hb5 hbx.size
              by_cases hz0 : q = 0
              · have hqs : (qs q != 0) = false := by rw [hz0]; decide
                have HZ2 : Hid (∀ s, k ≤ s → s < t + 1 → M s k = 0) := Lib.hid fun s h1 h2 => by
                  rcases Nat.lt_or_ge s t with h | h
                  · exact HZ.out s h1 h
                  · obtain rfl : s = t := by omega
                    rw [HQQ.out, hz0]
                clear hz0
                go_wp2
                go_roundw
                case rel => exact ⟨t + 1, rfl, by omega, by omega, by go_num, hbx5, HZ2.out⟩
                case measure => simp [intOf]; omega
              · have hqs : (qs q != 0) = true := by simpa using fun e => hz0 (qs_zero.1 e)
                have HFP : Hid (findP M k r = some t) := Lib.hid (findP_some hkt htl (by rw [HQQ.out]; exact hz0) HZ.out)
                have hM5 := hM.below hbx5
                have hMD := hM5.below (below_drew' w5)
                obtain ⟨hSw, hkS⟩ := hMD.swap hkr htl
                obtain ⟨y1, hy1, hyf1⟩ := hMD.swap1 (u := rowV (r + 1) G C t) htl (k := k)
                obtain ⟨a1, af1⟩ := hMD.cellAt hkr
                obtain ⟨a2, af2⟩ := hMD.cellAt htl
                have b1 := (hM5.cellAt hkr).1
                have b2 := (hM5.cellAt htl).1
                have HMB1 := Lib.hid (HMB.out.swap hkr htl)
                simp only [rowV] at hSw hkS hy1 hyf1 a1 a2 b1 b2
                generalize hM1 : swapM M k t = M1 at *
                generalize swapF G k t = G1 at *
                generalize swapF C k t = C1 at *
                have HM1 := Lib.hid hM1
                have hbe5 := below_then hbe hbx5 hbe.size
                have hbe5d := hbe5.drew
                clear hM1 hz0 hMD hM5 hM hbx hb5 hbx5 HZ HQQ hsh hbe
                go_wp2_with fail
                have C0 := stab b1
                have C1x := stab b2
                clear b1 b2
                refine region_seq 13 [0, 1, 2, 3, 4, 5, 6, 7, 8, 9, 10, 11, 12, 13, 14, 15] (by kernel_rfl) (by kernel_rfl) ?_
                generalize hwd : w5.drew = wD at *
                clear hwd
                repeat ((first | (refine seq_takeP (v := ?_) rfl rfl rfl ?_ ?_; rotate_left; (· (intro _ hSw; go_simp; (try go_bits); (try with_reducible rfl)))) | (refine seq_take (v := ?_) rfl rfl rfl ?_ ?_; rotate_left; (· (intro _ hSw; go_simp; (try go_bits); (try with_reducible rfl)))) | refine seq_skip rfl rfl rfl ?_); (try simp only [Act.put, pu1, pu2, pu3, pu4, pu5, pu6]))
                refine seq_step rfl rfl (fun KR hKR => ?_)
                go_simp
                refine hKR.out _ _ (Or.inl (by decide)) ?_
                clear hKR KR
                (try simp only [Act.put, pu1, pu2, pu3, pu4, pu5, pu6])
                generalize hW1 : wD.setCell ⟨go, k, none⟩ (.slice (some ⟨G t, 0, none⟩) (r + 1) (C t)) = W1 at *
                refine seq_step rfl rfl (fun KR hKR => ?_)
                go_simp
                refine hKR.out _ _ (Or.inl (by decide)) ?_
                clear hKR KR
                (try simp only [Act.put, pu1, pu2, pu3, pu4, pu5, pu6])
                refine seq_step rfl rfl (fun KR hKR => ?_)
                go_simp
                refine hKR.out _ _ (Or.inl (by decide)) ?_
                clear hKR KR
                (try simp only [Act.put, pu1, pu2, pu3, pu4, pu5, pu6])
                refine seq_done ?_
                have hbeD := (hbe5d.setCell (p := ⟨go, k, none⟩) hgo1 (.slice (some ⟨G t, 0, none⟩) (r + 1) (C t)))
                rw [hW1] at hbeD
                have hbe6 := hbeD.setCell (p := ⟨go, t, none⟩) hgo1 (.slice (some ⟨G k, 0, none⟩) (r + 1) (C k))
                clear C0 C1x hbeD hbe5 hbe5d hkS hy1 hyf1 a1 a2 af1 af2 hW1
                generalize W1.setCell ⟨go, t, none⟩ (.slice (some ⟨G k, 0, none⟩) (r + 1) (C k)) = W2 at *
                have y0 := (hSw.cellAt hkr).1
                obtain ⟨A1, n1, c1, A2, n2, c2, ⟨q0, q1, q2, q3⟩, hQ⟩ := hSw.at_ hkr (show k < r + 1 by omega)
                have szf := HMB1.out k k hkr (show k < r + 1 by omega)
                simp only [rowV] at y0
                generalize hqf : M1 k k = qf at *
                have HQF := Lib.hid hqf
                have HSZF := Lib.hid szf
                have HGL : Hid (∀ s, s < r → G1 s < W2.heap.size) := Lib.hid fun s hs => (hSw.lt hs (by omega)).2.1
                clear hqf szf
                obtain ⟨W3, hW3, hBf, hbn⟩ := boxF1 W2 (.bool (canF qf).num.neg) (.slice A1 n1 c1) (.bool (canF qf).den.neg) (.slice A2 n2 c2)
                have hM3 := hSw.below hbn
                have hQ3 := hQ.below hbn
                have hbe3 := below_then hbe6 hbn hbe6.size
                have hM3' : MatG w.heap.size W3 (.slice (some ⟨go, 0, none⟩) r ca) r (r + 1) (scaleTo M1 k k qf) G1 C1 := by rw [scaleTo_start]; exact hM3
                have hgt : W2.heap.size < W3.heap.size := hBf.lt
                go_wp2
                clear hW3 y0 q0 q1 q2 q3 hQ hSw hbe6 hbn hM3
                go_loopw [15] (fun i wx => ∃ c' : Nat, k ≤ c' ∧ c' ≤ r + 1 ∧ i = .int .i64 c' ∧ Below w.heap.size w wx ∧ MatG w.heap.size wx (.slice (some ⟨go, 0, none⟩) r ca) r (r + 1) (scaleTo M1 k c' qf) G1 C1 ∧ Bk wx W2.heap.size 47 [.bool (canF qf).num.neg, .slice A1 n1 c1, .bool (canF qf).den.neg, .slice A2 n2 c2] ∧ FracM wx (.agg #[.bool (canF qf).num.neg, .slice A1 n1 c1, .bool (canF qf).den.neg, .slice A2 n2 c2]) (canF qf)) (fun i _ => r + 1 - (intOf i).toNat)
                case atStart => exact ⟨k, by omega, by omega, rfl, hbe3, hM3', hBf, hQ3⟩
                case round =>
                  clear hbe3 hM3' hBf hQ3 hgt
                  obtain ⟨c', hkc, hcr, rfl, hbe, hM, hBf, hQf⟩ := hrel
                  rcases Nat.lt_or_ge c' (r + 1) with hcm | hcm
                  · have y0 := (hM.cellAt hkr).1
                    obtain ⟨A3, n3, c3, A4, n4, c4, ⟨q0, q1, q2, q3⟩, hQa⟩ := hM.at_ hkr hcm
                    obtain ⟨z0, z1, z2, z3⟩ := hBf.four
                    have shA : (canF (scaleTo M1 k c' qf k c')).Sh := (scale_any HMB1.out HSZF.out hkr hcm).sh (by omega)
                    have shF : (canF qf).Sh := HSZF.out.sh (by omega)
                    have HNX := Lib.hid (scaleTo_next (M := M1) (f := qf) hkc)
                    simp only [rowV] at y0
                    generalize hqa : scaleTo M1 k c' qf k c' = qa at *
                    clear hqa
                    have hcI : (c' : Int) < ((r + 1 : Nat) : Int) := by omega
                    have hcI3 : (c' : Int) < (r : Int) + 1 := by omega
                    have hcI2 : (c' : Int) ≤ r := by omega
                    go_wp2_with fail
                    have Y0 := stab y0
                    have Q0 := stab q0
                    have Q1 := stab q1
                    have Q2 := stab q2
                    have Q3 := stab q3
                    have Z0 := stab z0
                    have Z1 := stab z1
                    have Z2 := stab z2
                    have Z3 := stab z3
                    have hS0 := below_drew' wr
                    have hkm := hkr
                    clear y0 q0 q1 q2 q3 z0 z1 z2 z3
                    refine region_seq 15 [0, 1, 2, 3, 4, 5, 6, 7, 8, 9, 10, 11, 12, 13, 14, 15] (by kernel_rfl) (by kernel_rfl) ?_
                    repeat ((first | (refine seq_takeP (v := ?_) rfl rfl rfl ?_ ?_; rotate_left; (· (intro _ hSw; go_simp; (try go_bits); (try with_reducible rfl)))) | (refine seq_take (v := ?_) rfl rfl rfl ?_ ?_; rotate_left; (· (intro _ hSw; go_simp; (try go_bits); (try with_reducible rfl)))) | refine seq_skip rfl rfl rfl ?_); (try simp only [Act.put, pu1, pu2, pu3, pu4, pu5, pu6]))
                    refine seq_step rfl rfl (fun KR hKR => ?_)
                    go_simp
                    with_reducible refine (rdivF_own _ _ (canF qa) (canF qf) _ (hQa.below hS0) (hQf.below hS0) shA shF).mono ?_
                    rw [canF_q, canF_q]
                    rintro _ w9 ⟨v9, rfl, e9, hb9⟩
                    have hS9 := below_then hS0 hb9 hS0.size
                    have hM9 := hM.below hS9
                    have hF9 := e9.frac
                    obtain ⟨E, l9, k9, E', l9', k9', rfl, _, _⟩ := id hF9
                    obtain ⟨f0, f1, f2, f3⟩ := hM9.frozen hkm hcm
                    obtain ⟨_, _, _, _, _, _, ⟨t0, t1, t2, t3⟩, _⟩ := hM9.at_ hkm hcm
                    refine hKR.out _ _ (Or.inr hS9) ?_
                    clear hKR KR
                    (try simp only [Act.put, pu1, pu2, pu3, pu4, pu5, pu6])
                    repeat ((first | (refine seq_takeP (v := ?_) rfl rfl rfl ?_ ?_; rotate_left; (· (intro _ hSw; go_simp; (try go_bits); (try with_reducible rfl)))) | (refine seq_take (v := ?_) rfl rfl rfl ?_ ?_; rotate_left; (· (intro _ hSw; go_simp; (try go_bits); (try with_reducible rfl)))) | refine seq_skip rfl rfl rfl ?_); (try simp only [Act.put, pu1, pu2, pu3, pu4, pu5, pu6]))
                    refine seq_step rfl rfl (fun KR hKR => ?_)
                    go_simp
                    refine hKR.out _ _ (Or.inl (by decide)) ?_
                    clear hKR KR
                    (try simp only [Act.put, pu1, pu2, pu3, pu4, pu5, pu6])
                    refine seq_done ?_
                    obtain ⟨hM10, hk10⟩ := hM9.set_ hkr hcm hF9
                    rw [HNX.out] at hM10
                    have hbe9 := below_then hbe hS9 hbe.size
                    have hbe10 := below_set4' hbe9 (show w.heap.size ≤ G1 k from (hM.lt hkr (by omega)).1) (c' * 4) (c' * 4 + 1) (c' * 4 + 2) (c' * 4 + 3) (.bool (canF (qa / qf)).num.neg) (.slice E l9 k9) (.bool (canF (qa / qf)).den.neg) (.slice E' l9' k9')
                    have hBf10 := (hBf.later hS9).far4' (show W2.heap.size ≠ G1 k by have := HGL.out k hkr; omega) (c' * 4) (c' * 4 + 1) (c' * 4 + 2) (c' * 4 + 3) (.bool (canF (qa / qf)).num.neg) (.slice E l9 k9) (.bool (canF (qa / qf)).den.neg) (.slice E' l9' k9')
                    have hQf10 := (hQf.below hS9).keep (hk10.keep (by decide))
                    clear Y0 Q0 Q1 Q2 Q3 Z0 Z1 Z2 Z3 hM hBf hQf hM9 hS0 hS9 hb9 hF9 e9 f0 f1 f2 f3 t0 t1 t2 t3 hQa hbe hbe9 hk10
                    go_wp2
                    go_roundw
                    case rel => exact ⟨c' + 1, by omega, by omega, by go_num, hbe10, hM10, hBf10, hQf10⟩
                    case measure => simp [intOf]; omega
                  · have hcc : c' = r + 1 := by omega
                    rw [hcc] at hM
                    clear hBf hQf hcc
                    have HM2o : Hid (∀ s c, s < r → c < r + 1 → s ≠ k → Sz κ (scaleTo M1 k (r + 1) qf s c)) := Lib.hid fun s c h1 h2 h3 => scale_other HMB1.out h1 h2 h3
                    have HM2k : Hid (∀ c, c < r + 1 → Sz (2 * κ) (scaleTo M1 k (r + 1) qf k c)) := Lib.hid fun c h2 => scale_any HMB1.out HSZF.out hkr h2
                    have HNG : Hid (gj (augM r cols b) r (k + 1) = some (elimAll (scaleTo M1 k (r + 1) qf) k r r)) := Lib.hid (by rw [gj_next HGJ.out HFP.out, HM1.out, HQF.out])
                    generalize scaleTo M1 k (r + 1) qf = M2 at *
                    have hM' : MatG w.heap.size wr (.slice (some ⟨go, 0, none⟩) r ca) r (r + 1) (elimAll M2 k 0 r) G1 C1 := by rw [elimAll_start]; exact hM
                    clear hM HMB HMB1 HQF HSZF HGJ HFP HM1
                    go_wp2
                    rw [show decide (c' ≤ r) = false from by simp; omega]
                    go_loopw [16] (fun i wx => ∃ s : Nat, s ≤ r ∧ i = .int .i64 s ∧ Below w.heap.size w wx ∧ MatG w.heap.size wx (.slice (some ⟨go, 0, none⟩) r ca) r (r + 1) (elimAll M2 k s r) G1 C1) (fun i _ => r - (intOf i).toNat)
                    case atStart => exact ⟨0, by omega, rfl, hbe, hM'⟩
                    case round =>
                      clear hbe hM'
                      obtain ⟨s, hs, rfl, hbe, hM⟩ := hrel
                      rcases Nat.lt_or_ge s r with hsm | hsm
                      · by_cases hsk : s = k
                        · have HSK := Lib.hid (elimAll_skip (M := M2) (m := r) (Or.inl hsk : s = k ∨ M2 s k = 0))
                          have hM4 := hM
                          rw [HSK.out] at hM4
                          have hski : ((s : Int) == (k : Int)) = true := by simp; omega
                          go_wp2
                          go_roundw
                          case rel => exact ⟨s + 1, by omega, by go_num, hbe, hM4⟩
                          case measure => simp [intOf]; omega
                        · have hski : ((s : Int) == (k : Int)) = false := by simp; omega
                          have y0 := (hM.cellAt hsm).1
                          obtain ⟨A3, n3, c3, A4, n4, c4, ⟨q0, q1, q2, q3⟩, hQg⟩ := hM.at_ hsm (show k < r + 1 by omega)
                          have szg := HM2o.out s k hsm (by omega) hsk
                          rw [elimAll_at] at q0 q2 hQg
                          simp only [rowV] at y0
                          have HNXT := Lib.hid (elimAll_next (M := M2) (m := r) hsk)
                          rw [elimAll_at] at HNXT
                          generalize hqg : M2 s k = qg at *
                          have HQG := Lib.hid hqg
                          clear hqg
                          have shG : (canF qg).Sh := szg.sh (by omega)
                          have HSZG := Lib.hid szg
                          clear szg
                          have hkI : (k : Int) < ((r + 1 : Nat) : Int) := by omega
                          have hkI2 : (k : Int) < (r : Int) + 1 := by omega
                          have hsI : (s : Int) < r := by omega
                          go_wp2_with fail
                          refine (rsignF_any _ (canF qg) _ hQg shG).mono ?_
                          rw [canF_q]
                          rintro _ w5 ⟨rfl, hb5⟩
                          have hM5 := hM.below hb5
                          have hbe5 := below_then hbe hb5 hbe.size
                          by_cases hz0 : qg = 0
                          · have hqs : (qs qg == 0) = true := by rw [hz0]; decide
                            have HSK := Lib.hid (elimAll_skip (M := M2) (m := r) (Or.inr (by rw [HQG.out, hz0]) : s = k ∨ M2 s k = 0))
                            rw [HSK.out] at hM5
                            clear hz0
                            go_wp2
                            go_roundw
                            case rel => exact ⟨s + 1, by omega, by go_num, hbe5, hM5⟩
                            case measure => simp [intOf]; omega
                          · have hqs : (qs qg == 0) = false := by simpa using fun e => hz0 (qs_zero.1 e)
                            clear hz0
                            have hQg5 := hQg.below hb5
                            have y0' := cell_later hb5 y0
                            have q0' := cell_later hb5 q0
                            have q1' := cell_later hb5 q1
                            have q2' := cell_later hb5 q2
                            have q3' := cell_later hb5 q3
                            have HGL2 : Hid (∀ s, s < r → G1 s < w5.heap.size) := Lib.hid fun s hs => (hM5.lt hs (by omega)).2.1
                            clear y0 q0 q1 q2 q3 hQg hM hbe hb5
                            obtain ⟨W6, hW6, hBg, hbn⟩ := boxF1 w5 (.bool (canF qg).num.neg) (.slice A3 n3 c3) (.bool (canF qg).den.neg) (.slice A4 n4 c4)
                            have hM6 := hM5.below hbn
                            have hQ6 := hQg5.below hbn
                            have hbe6 := below_then hbe5 hbn hbe5.size
                            have hM6' : MatG w.heap.size W6 (.slice (some ⟨go, 0, none⟩) r ca) r (r + 1) (elimTo (elimAll M2 k s r) k s k qg) G1 C1 := by rw [elimTo_start]; exact hM6
                            go_wp2
                            clear hW6 y0' q0' q1' q2' q3' hQg5 hM5 hM6 hbn hbe5
                            go_loopw [18] (fun i wx => ∃ c' : Nat, k ≤ c' ∧ c' ≤ r + 1 ∧ i = .int .i64 c' ∧ Below w.heap.size w wx ∧ MatG w.heap.size wx (.slice (some ⟨go, 0, none⟩) r ca) r (r + 1) (elimTo (elimAll M2 k s r) k s c' qg) G1 C1 ∧ Bk wx w5.heap.size 47 [.bool (canF qg).num.neg, .slice A3 n3 c3, .bool (canF qg).den.neg, .slice A4 n4 c4] ∧ FracM wx (.agg #[.bool (canF qg).num.neg, .slice A3 n3 c3, .bool (canF qg).den.neg, .slice A4 n4 c4]) (canF qg)) (fun i _ => r + 1 - (intOf i).toNat)
                            case atStart => exact ⟨k, by omega, by omega, rfl, hbe6, hM6', hBg, hQ6⟩
                            case round =>
                              clear hbe6 hM6' hBg hQ6
                              obtain ⟨c', hkc, hcr, rfl, hbe, hM, hBg, hQg⟩ := hrel
                              rcases Nat.lt_or_ge c' (r + 1) with hcm | hcm
                              · have y0 := (hM.cellAt hsm).1
                                have x0 := (hM.cellAt hkr).1
                                obtain ⟨A5, n5, c5, A6, n6, c6, ⟨q0, q1, q2, q3⟩, hQa⟩ := hM.at_ hsm hcm
                                obtain ⟨A7, n7, c7, A8, n8, c8, ⟨p0, p1, p2, p3⟩, hQk⟩ := hM.at_ hkr hcm
                                obtain ⟨z0, z1, z2, z3⟩ := hBg.four
                                have HNX := Lib.hid (elimTo_next (M := elimAll M2 k s r) (g := qg) hkc hsk)
                                have ea : elimTo (elimAll M2 k s r) k s c' qg s c' = M2 s c' := by unfold elimTo; rw [if_neg (by omega), elimAll_at]
                                have ek : elimTo (elimAll M2 k s r) k s c' qg k c' = M2 k c' := by rw [elimTo_row hsk, elimAll_row]
                                rw [ea] at q0 q2 hQa HNX
                                rw [ek] at p0 p2 hQk HNX
                                have sza := HM2o.out s c' hsm hcm hsk
                                have szk := HM2k.out c' hcm
                                have szp := Sz_mul HSZG.out szk
                                simp only [rowV] at y0 x0
                                generalize M2 s c' = qa at *
                                generalize M2 k c' = qk at *
                                have shA : (canF qa).Sh := sza.sh (by omega)
                                have shK : (canF qk).Sh := szk.sh (by omega)
                                have shP : (canF (qg * qk)).Sh := szp.sh (by omega)
                                have hcI : (c' : Int) < ((r + 1 : Nat) : Int) := by omega
                                have hcI3 : (c' : Int) < (r : Int) + 1 := by omega
                                have hcI2 : (c' : Int) ≤ r := by omega
                                clear sza szk szp ea ek
                                go_wp2_with fail
                                have Y0 := stab y0
                                have X0 := stab x0
                                have Q0 := stab q0
                                have Q1 := stab q1
                                have Q2 := stab q2
                                have Q3 := stab q3
                                have P0 := stab p0
                                have P1 := stab p1
                                have P2 := stab p2
                                have P3 := stab p3
                                have Z0 := stab z0
                                have Z1 := stab z1
                                have Z2 := stab z2
                                have Z3 := stab z3
                                have hS0 := below_drew' wr
                                clear y0 x0 q0 q1 q2 q3 p0 p1 p2 p3 z0 z1 z2 z3
                                refine region_seq 23 [0, 1, 2, 3, 4, 5, 6, 7, 8, 9, 10, 11, 12, 13, 14, 15, 16, 17, 18, 19, 20, 21, 22, 23] (by kernel_rfl) (by kernel_rfl) ?_
                                repeat ((first | (refine seq_takeP (v := ?_) rfl rfl rfl ?_ ?_; rotate_left; (· (intro _ hSw; go_simp; (try go_bits); (try with_reducible rfl)))) | (refine seq_take (v := ?_) rfl rfl rfl ?_ ?_; rotate_left; (· (intro _ hSw; go_simp; (try go_bits); (try with_reducible rfl)))) | refine seq_skip rfl rfl rfl ?_); (try simp only [Act.put, pu1, pu2, pu3, pu4, pu5, pu6]))
                                refine seq_step rfl rfl (fun KR hKR => ?_)
                                go_simp
                                with_reducible refine (rmulF_own _ _ (canF qg) (canF qk) _ (hQg.below hS0) (hQk.below hS0) shG shK).mono ?_
                                rw [canF_q, canF_q]
                                rintro _ w8 ⟨v8, rfl, e8, hb8⟩
                                have hS8 := below_then hS0 hb8 hS0.size
                                refine hKR.out _ _ (Or.inr hS8) ?_
                                clear hKR KR
                                (try simp only [Act.put, pu1, pu2, pu3, pu4, pu5, pu6])
                                repeat ((first | (refine seq_takeP (v := ?_) rfl rfl rfl ?_ ?_; rotate_left; (· (intro _ hSw; go_simp; (try go_bits); (try with_reducible rfl)))) | (refine seq_take (v := ?_) rfl rfl rfl ?_ ?_; rotate_left; (· (intro _ hSw; go_simp; (try go_bits); (try with_reducible rfl)))) | refine seq_skip rfl rfl rfl ?_); (try simp only [Act.put, pu1, pu2, pu3, pu4, pu5, pu6]))
                                refine seq_step rfl rfl (fun KR hKR => ?_)
                                go_simp
                                with_reducible refine (rsubF_own _ _ (canF qa) (canF (qg * qk)) _ (hQa.below hS8) e8.frac shA shP).mono ?_
                                rw [canF_q, canF_q]
                                rintro _ w9 ⟨v9, rfl, e9, hb9⟩
                                have hS9 := below_then hS8 hb9 hS8.size
                                have hM9 := hM.below hS9
                                have hF9 := e9.frac
                                obtain ⟨E, l9, k9, E', l9', k9', rfl, _, _⟩ := id hF9
                                obtain ⟨f0, f1, f2, f3⟩ := hM9.frozen hsm hcm
                                obtain ⟨_, _, _, _, _, _, ⟨t0, t1, t2, t3⟩, _⟩ := hM9.at_ hsm hcm
                                refine hKR.out _ _ (Or.inr hS9) ?_
                                clear hKR KR
                                (try simp only [Act.put, pu1, pu2, pu3, pu4, pu5, pu6])
                                repeat ((first | (refine seq_takeP (v := ?_) rfl rfl rfl ?_ ?_; rotate_left; (· (intro _ hSw; go_simp; (try go_bits); (try with_reducible rfl)))) | (refine seq_take (v := ?_) rfl rfl rfl ?_ ?_; rotate_left; (· (intro _ hSw; go_simp; (try go_bits); (try with_reducible rfl)))) | refine seq_skip rfl rfl rfl ?_); (try simp only [Act.put, pu1, pu2, pu3, pu4, pu5, pu6]))
                                refine seq_step rfl rfl (fun KR hKR => ?_)
                                go_simp
                                refine hKR.out _ _ (Or.inl (by decide)) ?_
                                clear hKR KR
                                (try simp only [Act.put, pu1, pu2, pu3, pu4, pu5, pu6])
                                refine seq_done ?_
                                obtain ⟨hM10, hk10⟩ := hM9.set_ hsm hcm hF9
                                rw [HNX.out] at hM10
                                have hbe9 := below_then hbe hS9 hbe.size
                                have hbe10 := below_set4' hbe9 (show w.heap.size ≤ G1 s from (hM.lt hsm (by omega)).1) (c' * 4) (c' * 4 + 1) (c' * 4 + 2) (c' * 4 + 3) (.bool (canF (qa - qg * qk)).num.neg) (.slice E l9 k9) (.bool (canF (qa - qg * qk)).den.neg) (.slice E' l9' k9')
                                have hBg10 := (hBg.later hS9).far4' (show w5.heap.size ≠ G1 s by have := HGL2.out s hsm; omega) (c' * 4) (c' * 4 + 1) (c' * 4 + 2) (c' * 4 + 3) (.bool (canF (qa - qg * qk)).num.neg) (.slice E l9 k9) (.bool (canF (qa - qg * qk)).den.neg) (.slice E' l9' k9')
                                have hQg10 := (hQg.below hS9).keep (hk10.keep (by decide))
                                clear Y0 X0 Q0 Q1 Q2 Q3 P0 P1 P2 P3 Z0 Z1 Z2 Z3 hM hBg hQg hM9 hS0 hS8 hS9 hb8 hb9 hF9 e8 e9 f0 f1 f2 f3 t0 t1 t2 t3 hQa hQk hbe hbe9 hk10
                                go_wp2
                                go_roundw
                                case rel => exact ⟨c' + 1, by omega, by omega, by go_num, hbe10, hM10, hBg10, hQg10⟩
                                case measure => simp [intOf]; omega
                              · have hcc : c' = r + 1 := by omega
                                rw [hcc, HNXT.out] at hM
                                clear hBg hQg hcc
                                go_wp2
                                go_roundw
                                case rel => exact ⟨s + 1, by omega, by go_num, hbe, hM⟩
                                case measure => simp [intOf]; omega
                      · obtain rfl : s = r := by omega
                        go_wp2
                        go_roundw
                        case rel => exact ⟨k + 1, _, G1, C1, by omega, by go_num, hbe, HNG.out, hM⟩
                        case measure => simp [intOf]; omega
            · obtain rfl : t = r := by omega
              have HN : Hid (solveQ t cols b = none) := Lib.hid (solveQ_fail hkr HGJ.out (findP_none HZ.out))
              go_wp2
              go_ret2
              exact ⟨_, by rw [HN.out]; rfl, by rw [solF_none HN.out]; exact FrsO.nil _ _, below_then hbe hbx hbe.size⟩
        · obtain rfl : k = r := by omega
          obtain ⟨wP, rfl⟩ : ∃ x, x = wr := ⟨_, rfl⟩
          have HD := Lib.hid (solveQ_done HGJ.out)
          go_wp2
          go_loopw [19, 20] (fun s i wx => ∃ j : Nat, j ≤ k ∧ i = .int .i64 j ∧ FrsO wP.heap.size wx s (canL j fun j => M j k) ∧ Below wP.heap.size wP wx) (fun _ i _ => k - (intOf i).toNat)
          case atStart => exact ⟨0, by omega, rfl, FrsO.nil _ _, Below.refl _ _⟩
          case round =>
            obtain ⟨j, hj, rfl, hF, hbx⟩ := hrel
            have hbs := hbx.size
            rcases Nat.lt_or_ge j k with hjk | hjk
            · have hMx := hM.below hbx
              obtain ⟨go, co, hvo, hgo1, hgo2, hco1, hco2, hcell⟩ := hMx.outer (by omega)
              injection hvo with hv1 hv2 hv3
              subst hv1 hv3
              have y0 := (hMx.cellAt hjk).1
              obtain ⟨A1, n1, c1, A2, n2, c2, ⟨q0, q1, q2, q3⟩, hQ⟩ := hMx.at_ hjk (show k < k + 1 by omega)
              simp only [rowV] at y0
              have HF := Lib.hid hF
              have HMF := Lib.hid hQ
              have hlen : (canL j fun j => M j k).length + 1 ≤ 1099511627776 := by rw [canL_length]; omega
              have hjI : (j : Int) < k := by omega
              have hkI : (k : Int) < ((k + 1 : Nat) : Int) := by omega
              have hkI2 : (k : Int) < (k : Int) + 1 := by omega
              clear hF hQ hcell
              go_wp2_with (at_builtin; refine wpList_append_frac rfl (.tmp 179) (.tmp 187) rfl wr wP.heap.size u19 (canL j fun j => M j k) rfl HF.out _ _ A1 A2 n1 c1 n2 c2 (canF (M j k)) HMF.out rfl hlen hbs ?_)
              intro v' w4 hown4 hk4 hb4
              rw [canL_succ j fun j => M j k] at hown4
              go_wp2
              go_roundw
              case rel => exact ⟨j + 1, by omega, by go_num, hown4, hbx.trans hb4⟩
              case measure => simp [intOf]; omega
            · obtain rfl : j = k := by omega
              go_wp2
              go_ret2
              refine ⟨_, by rw [HD.out]; rfl, ?_, below_then hbe hbx hbe.size⟩
              rw [solF_some HD.out]
              obtain ⟨cs, ho, hf⟩ := hF
              exact ⟨cs, row_mono ho hbe.size, hf⟩
end Go.Proofs.YtpanffbgihhjnaaGreat

/- Plain: the reference's simplex method over rational numbers. Walks: package pairingref25: order, cost, artificial, basic, dual. -/
namespace Go.Proofs.YtpanffbgihhjnaaGreat
open Go.RowKit Pl
attribute [local go_sem ↓] Go.wp_at_zero Go.wp_at_succ

namespace Pl
def LPd.Fit (p : LPd) (K : Nat) : Prop := p.Ok K ∧ p.In ∧ p.right.length ≤ 64 ∧ p.cost.length = p.cols.length ∧ p.cols.length ≤ 1200 ∧ 1 ≤ K ∧ 130 * (5 ^ p.right.length * K) + 200 ≤ 8589934592
theorem LPd.Fit.k1 {p : LPd} {K : Nat} (h : p.Fit K) : 1 ≤ K := h.2.2.2.2.2.1
theorem LPd.Fit.le {p : LPd} {K : Nat} (_h : p.Fit K) : K ≤ 5 ^ p.right.length * K := by
  have := Nat.mul_le_mul_right K (Nat.pow_le_pow_right (show 0 < 5 by decide) (Nat.zero_le p.right.length)); simpa using this
theorem LPd.Fit.kb {p : LPd} {K : Nat} (h : p.Fit K) : K ≤ 34359738368 := by
  have h1 := h.le; have h2 := h.2.2.2.2.2.2; omega
theorem LPd.Fit.ks {p : LPd} {K : Nat} (h : p.Fit K) : 5 ^ p.right.length * K ≤ 8589934592 := by
  have h2 := h.2.2.2.2.2.2; omega
theorem LPd.Fit.ok {p : LPd} {K : Nat} (h : p.Fit K) : p.Ok K := h.1
theorem LPd.Fit.in_ {p : LPd} {K : Nat} (h : p.Fit K) : p.In := h.2.1
theorem LPd.Fit.rows {p : LPd} {K : Nat} (h : p.Fit K) : p.right.length ≤ 64 := h.2.2.1
theorem LPd.Fit.cl {p : LPd} {K : Nat} (h : p.Fit K) : p.cost.length = p.cols.length := h.2.2.2.1
theorem LPd.Fit.cols {p : LPd} {K : Nat} (h : p.Fit K) : p.cols.length ≤ 1200 := h.2.2.2.2.1
theorem LPd.Fit.rs {p : LPd} {K : Nat} (h : p.Fit K) : RsL K p.right := h.1.2.1
theorem LPd.Fit.cs {p : LPd} {K : Nat} (h : p.Fit K) : RsL K p.cost := h.1.1
def LSt.Fit (p : LPd) (s : LSt) : Prop := s.In p ∧ s.basis.length = p.right.length
theorem LSt.Fit.in_ {p : LPd} {s : LSt} (h : s.Fit p) : s.In p := h.1
theorem LSt.Fit.len {p : LPd} {s : LSt} (h : s.Fit p) : s.basis.length = p.right.length := h.2
theorem Sz_mat {p : LPd} {K : Nat} (h : p.Fit K) (s : LSt) (i r : Nat) : Sz K (s.mat p i r) := LPd.Sz_col h.ok h.k1 _ _
def ordQ (p : LPd) (j : Int) : Int := if 0 ≤ j then j else p.cols.length - 1 - j
def costQ (p : LPd) (ph j : Int) : Rat := if ph = 1 ∧ j < 0 then 1 else if ph = 2 ∧ 0 ≤ j then qAt p.cost j.toNat else 0
theorem costQ_art {p : LPd} {j : Int} (h : j < 0) : costQ p 1 j = 1 := by unfold costQ; rw [if_pos ⟨rfl, h⟩]
theorem costQ_real {p : LPd} {j : Int} (h : 0 ≤ j) : costQ p 2 j = qAt p.cost j.toNat := by unfold costQ; rw [if_neg (by omega), if_pos ⟨rfl, h⟩]
theorem costQ_none {p : LPd} {ph j : Int} (h1 : ¬ (ph = 1 ∧ j < 0)) (h2 : ¬ (ph = 2 ∧ 0 ≤ j)) : costQ p ph j = 0 := by unfold costQ; rw [if_neg h1, if_neg h2]
theorem Sz_cost {p : LPd} {K : Nat} (ok : p.Ok K) (hK : 1 ≤ K) (ph j : Int) : Sz K (costQ p ph j) := by
  unfold costQ; split
  · exact Sz_one.mono hK
  · split
    · exact ok.1.qAt hK _
    · exact Sz_zero.mono hK
def artN (s : LSt) (zs : List RF) : Nat → Bool
  | 0 => false
  | k + 1 => artN s zs k || (decide (s.at_ k < 0) && decide (qAt zs k ≠ 0))
theorem artN_true {s : LSt} {zs : List RF} {k : Nat} (h1 : s.at_ k < 0) (h2 : qAt zs k ≠ 0) : ∀ {n : Nat}, k < n → artN s zs n = true
  | 0, h => by omega
  | n + 1, h => by
    unfold artN
    rcases Nat.lt_or_ge k n with hk | hk
    · rw [artN_true h1 h2 hk]; rfl
    · obtain rfl : k = n := by omega
      simp [h1, h2]
theorem artN_next {s : LSt} {zs : List RF} {k : Nat} (h : artN s zs k = false) (h2 : ¬ s.at_ k < 0 ∨ qAt zs k = 0) : artN s zs (k + 1) = false := by
  unfold artN; rw [h]
  rcases h2 with e | e
  · simp [e]
  · simp [e]
def zL (p : LPd) (s : LSt) : List RF := solF p.right.length (s.mat p) (qAt p.right)
def zOk (p : LPd) (s : LSt) : Bool := (solveQ p.right.length (s.mat p) (qAt p.right)).isSome
def dualL (p : LPd) (s : LSt) : List RF := solF p.right.length (fun r k => s.mat p k r) (qAt (canL p.right.length fun i => costQ p s.phase (s.at_ i)))
theorem solF_B {m K : Nat} {cols : Mx} {b : Nat → Rat} (h : ∀ r c, r < m → c < m → Sz K (cols c r)) (hb : ∀ r, r < m → Sz K (b r)) : RsL (5 ^ m * K) (solF m cols b) := by
  unfold solF
  cases e : solveQ m cols b with
  | none => exact RsL.nil _
  | some x => exact canL_rs (solveQ_B h hb e)
theorem zL_B {p : LPd} {K : Nat} (F : p.Fit K) (s : LSt) : RsL (5 ^ p.right.length * K) (zL p s) := solF_B (fun _ _ _ _ => LPd.Sz_col F.1 F.k1 _ _) fun r _ => F.1.2.1.qAt F.k1 r
theorem dualL_B {p : LPd} {K : Nat} (F : p.Fit K) (s : LSt) : RsL (5 ^ p.right.length * K) (dualL p s) := solF_B (fun _ _ _ _ => LPd.Sz_col F.1 F.k1 _ _) fun r hr => by rw [canL_qAt hr]; exact Sz_cost F.1 F.k1 _ _
theorem solF_len {m : Nat} {cols : Mx} {b : Nat → Rat} : (solF m cols b).length ≤ m := by
  unfold solF; split
  · rw [canL_length]; exact Nat.le_refl _
  · simp
end Pl

set_option maxRecDepth 100000 in
set_option maxHeartbeats 2000000 in
theorem rorder_any (v : Value) (p : LPd) (j : Int) (w : World) (h : LpM w v p) (h0 : -1000000 ≤ j) (h1 : j ≤ 1000000) (hn : p.cols.length ≤ 1200) :
    Calls Tryz.prog 89 #[v, .int .i64 j] w fun e w' => e = .returned (.int .i64 (ordQ p j)) ∧ Below w.heap.size w w' := by
  obtain ⟨A, n, c, A', n', c', A'', n'', c'', rfl, hc, hv, hr⟩ := id h
  obtain ⟨W, hW, hX, hbe⟩ := box_lp w (.slice A n c) (.slice A' n' c') (.slice A'' n'' c'')
  obtain ⟨x0, x1, x2⟩ := hX.three
  obtain ⟨m1, m2, m3⟩ := hv.len
  have hn2 : n' ≤ 1200 := by omega
  rcases Int.lt_or_le j 0 with hj | hj
  · have HQ : Hid (ordQ p j = n' - 1 - j) := Lib.hid (by unfold ordQ; rw [if_neg (by omega), m1])
    rw [HQ.out]
    clear hc hv hr h m1 HQ
    go_enter Tryz.func89, Tryz.ntmps89
    go_wp2
    go_ret
    exact ⟨by go_num, hbe⟩
  · have HQ : Hid (ordQ p j = j) := Lib.hid (by unfold ordQ; rw [if_pos hj])
    rw [HQ.out]
    clear hc hv hr h m1 HQ
    go_enter Tryz.func89, Tryz.ntmps89
    go_wp2
    go_ret
    exact ⟨rfl, hbe⟩

set_option maxRecDepth 100000 in
set_option maxHeartbeats 4000000 in
theorem rcost_own (v : Value) (p : LPd) (K : Nat) (ph j : Int) (w : World) (h : LpM w v p) (F : p.Fit K) (hj : j < p.cost.length) :
    Calls Tryz.prog 64 #[v, .int .i64 ph, .int .i64 j] w fun e w' => ∃ v', e = .returned v' ∧ FracO w.heap.size w' v' (canF (costQ p ph j)) ∧ Below w.heap.size w w' := by
  obtain ⟨A, n, c, A', n', c', A'', n'', c'', rfl, hc, hv, hr⟩ := id h
  obtain ⟨W0, hW0, hX0, hbe0⟩ := box_lp w (.slice A n c) (.slice A' n' c') (.slice A'' n'' c'')
  obtain ⟨W, hW, hR, hbe1⟩ := boxF1 W0 (.bool false) (.slice none 0 0) (.bool false) (.slice none 0 0)
  have hsz : W0.heap.size = w.heap.size + 1 := by rw [← hW0]; simp
  rw [hsz] at hR
  have hX := hX0.later hbe1
  have hbe := below_then hbe0 hbe1 hbe0.size
  obtain ⟨x0, x1, x2⟩ := hX.three
  clear hX0 hbe0 hbe1
  by_cases h1 : ph = 1
  · subst h1
    rcases Int.lt_or_le j 0 with hj0 | hj0
    · rw [costQ_art hj0]
      clear hc hv hr h F hj
      go_enter Tryz.func64, Tryz.ntmps64
      go_wp2_with fail
      clear hW hW0
      refine (rint_own 1 _ (by omega) (by omega)).mono ?_
      rw [show ((1 : Int) : Rat) = 1 from rfl]
      rintro _ w1 ⟨v1, rfl, e1, hb1⟩
      obtain ⟨B, m, d, B', m', d', rfl, _, _⟩ := id e1.frac
      have hR1 := hR.later hb1
      obtain ⟨c0, c1, c2, c3⟩ := hR1.four
      obtain ⟨f0, f1, f2, f3⟩ := hR1.fourF
      go_wp2
      refine ret_cell Tryz.results64 Tryz.underlying47 (by kernel_rfl) rfl (hR1.set4 _ _ _ _) rfl ?_
      exact fin_fracO hR1 (e1.mono hbe.size) (below_then hbe hb1 hbe.size) (by omega)
    · rw [costQ_none (by omega) (by omega)]
      clear hc hv hr h F hj
      go_enter Tryz.func64, Tryz.ntmps64
      go_wp2_with fail
      clear hW hW0
      refine (rint_own 0 _ (by omega) (by omega)).mono ?_
      rw [show ((0 : Int) : Rat) = 0 from rfl]
      rintro _ w1 ⟨v1, rfl, e1, hb1⟩
      obtain ⟨B, m, d, B', m', d', rfl, _, _⟩ := id e1.frac
      have hR1 := hR.later hb1
      obtain ⟨c0, c1, c2, c3⟩ := hR1.four
      obtain ⟨f0, f1, f2, f3⟩ := hR1.fourF
      go_wp2
      refine ret_cell Tryz.results64 Tryz.underlying47 (by kernel_rfl) rfl (hR1.set4 _ _ _ _) rfl ?_
      exact fin_fracO hR1 (e1.mono hbe.size) (below_then hbe hb1 hbe.size) (by omega)
  · have h1' : (ph == 1) = false := by simpa using h1
    by_cases h2 : ph = 2
    · subst h2
      rcases Int.lt_or_le j 0 with hj0 | hj0
      · rw [costQ_none (by omega) (by omega)]
        clear hc hv hr h F hj
        go_enter Tryz.func64, Tryz.ntmps64
        go_wp2_with fail
        clear hW hW0
        refine (rint_own 0 _ (by omega) (by omega)).mono ?_
        rw [show ((0 : Int) : Rat) = 0 from rfl]
        rintro _ w1 ⟨v1, rfl, e1, hb1⟩
        obtain ⟨B, m, d, B', m', d', rfl, _, _⟩ := id e1.frac
        have hR1 := hR.later hb1
        obtain ⟨c0, c1, c2, c3⟩ := hR1.four
        obtain ⟨f0, f1, f2, f3⟩ := hR1.fourF
        go_wp2
        refine ret_cell Tryz.results64 Tryz.underlying47 (by kernel_rfl) rfl (hR1.set4 _ _ _ _) rfl ?_
        exact fin_fracO hR1 (e1.mono hbe.size) (below_then hbe hb1 hbe.size) (by omega)
      · rw [costQ_real hj0]
        obtain ⟨jn, rfl⟩ := Int.eq_ofNat_of_zero_le hj0
        rw [Int.toNat_natCast]
        have hjn : jn < p.cost.length := by omega
        obtain ⟨f, hf⟩ := get_some (fs := p.cost) (i := jn) hjn
        obtain ⟨r1, r2, r3⟩ := hc.len
        obtain ⟨b, off, B1, n1, k1, B2, n2, k2, rfl, hlt, ⟨q0, q1, q2, q3⟩, hmf⟩ := hc.elem hbe hf
        have hsf : f.Sh := (F.1.1 jn f hf).sh F.kb
        rw [qAt_some hf]
        have hjI : (jn : Int) < n := by omega
        clear hv hr h F hj hf hjn hc r1
        go_enter Tryz.func64, Tryz.ntmps64
        go_wp2_with fail
        clear hW hW0
        refine (rcanon_own _ f _ hmf hsf).mono ?_
        rintro _ w1 ⟨v1, rfl, e1, hb1⟩
        obtain ⟨B, m, d, B', m', d', rfl, _, _⟩ := id e1.frac
        have hR1 := hR.later hb1
        obtain ⟨c0, c1, c2, c3⟩ := hR1.four
        obtain ⟨f0, f1, f2, f3⟩ := hR1.fourF
        go_wp2
        refine ret_cell Tryz.results64 Tryz.underlying47 (by kernel_rfl) rfl (hR1.set4 _ _ _ _) rfl ?_
        exact fin_fracO hR1 (e1.mono hbe.size) (below_then hbe hb1 hbe.size) (by omega)
    · have h2' : (ph == 2) = false := by simpa using h2
      rw [costQ_none (by omega) (by omega)]
      clear hc hv hr h F hj h1 h2
      go_enter Tryz.func64, Tryz.ntmps64
      go_wp2_with fail
      clear hW hW0
      refine (rint_own 0 _ (by omega) (by omega)).mono ?_
      rw [show ((0 : Int) : Rat) = 0 from rfl]
      rintro _ w1 ⟨v1, rfl, e1, hb1⟩
      obtain ⟨B, m, d, B', m', d', rfl, _, _⟩ := id e1.frac
      have hR1 := hR.later hb1
      obtain ⟨c0, c1, c2, c3⟩ := hR1.four
      obtain ⟨f0, f1, f2, f3⟩ := hR1.fourF
      go_wp2
      refine ret_cell Tryz.results64 Tryz.underlying47 (by kernel_rfl) rfl (hR1.set4 _ _ _ _) rfl ?_
      exact fin_fracO hR1 (e1.mono hbe.size) (below_then hbe hb1 hbe.size) (by omega)

set_option maxRecDepth 100000 in
set_option maxHeartbeats 4000000 in
theorem rartificial_any (v1 v2 : Value) (s : LSt) (zs : List RF) (w : World) (h1 : StM w v1 s) (h2 : FrsM w v2 zs) (hl : zs.length ≤ s.basis.length) (hz : ∀ (i : Nat) (f : RF), zs[i]? = some f → f.Sh) :
    Calls Tryz.prog 60 #[v1, v2] w fun e w' => e = .returned (.bool (artN s zs zs.length)) ∧ Below w.heap.size w w' := by
  obtain ⟨Ab, nb, cb, rfl, hI⟩ := id h1
  obtain ⟨W, hW, hS, hbe⟩ := box_st w (.int .i64 s.phase) (.slice Ab nb cb) (.int .i64 s.pivots)
  obtain ⟨b1, b2, b3⟩ := hI.len
  obtain ⟨Az, cz, rfl, hz1, hz2⟩ := h2.shape
  have HI := Lib.hid hI
  have H2 := Lib.hid h2
  have HZ := Lib.hid hz
  generalize hn : zs.length = N at *
  have HN := Lib.hid hn
  have hnb : N ≤ nb := by omega
  clear h1 h2 hI hz hn hl b1
  go_enter Tryz.func60, Tryz.ntmps60
  go_wp2
  clear hW
  go_loopw [5] (fun i wr => ∃ k : Nat, k ≤ N ∧ i = .int .i64 k ∧ Below w.heap.size w wr ∧ Bk wr w.heap.size 34 [.int .i64 s.phase, .slice Ab nb cb, .int .i64 s.pivots] ∧ artN s zs k = false) (fun i _ => N - (intOf i).toNat)
  case atStart => exact ⟨0, by omega, rfl, hbe, hS, rfl⟩
  case round =>
    clear hbe hS
    obtain ⟨k, hk, rfl, hbe, hS, ha⟩ := hrel
    have HA := Lib.hid ha
    clear ha
    obtain ⟨y0, y1, y2⟩ := hS.three
    rcases Nat.lt_or_ge k N with hkl | hkl
    · obtain ⟨bb, bo, z, rfl, hzc, hget, z0, z1⟩ := (HI.out.below hbe).at_ (show k < nb by omega)
      obtain ⟨f, hf⟩ := get_some (fs := zs) (i := k) (by rw [HN.out]; exact hkl)
      obtain ⟨b, off, B1, n1, k1, B2, n2, k2, rfl, hlt, ⟨q0, q1, q2, q3⟩, hmf⟩ := H2.out.elem hbe hf
      have hsf := HZ.out k f hf
      have HAT := Lib.hid (LSt.at_eq hget)
      have HQ := Lib.hid (qAt_some hf)
      have hkI : (k : Int) < nb := by omega
      have hkI2 : (k : Int) < N := by omega
      clear hget hf
      rcases Int.lt_or_le z 0 with hz0 | hz0
      · go_wp2_with fail
        refine (rsignF_any _ f _ hmf hsf).mono ?_
        rintro _ w5 ⟨rfl, hb5⟩
        have hS5 := hS.later hb5
        have hbe5 := below_then hbe hb5 hbe.size
        by_cases hq : f.q = 0
        · have hqs : (qs f.q != 0) = false := by rw [hq]; decide
          have HA2 := Lib.hid (artN_next HA.out (Or.inr (by rw [HQ.out, hq])))
          clear hq
          go_wp2
          go_roundw
          case rel => exact ⟨k + 1, by omega, by go_num, hbe5, hS5, HA2.out⟩
          case measure => simp [intOf]; omega
        · have hqs : (qs f.q != 0) = true := by simpa using fun e => hq (qs_zero.1 e)
          have HA2 : Hid (artN s zs N = true) := Lib.hid (artN_true (by rw [HAT.out]; exact hz0) (by rw [HQ.out]; exact hq) hkl)
          clear hq
          go_wp2
          go_ret
          exact ⟨by rw [HA2.out]; rfl, hbe5⟩
      · have HA2 := Lib.hid (artN_next (zs := zs) HA.out (Or.inl (by rw [HAT.out]; omega)))
        go_wp2
        go_roundw
        case rel => exact ⟨k + 1, by omega, by go_num, hbe, hS, HA2.out⟩
        case measure => simp [intOf]; omega
    · obtain rfl : k = N := by omega
      go_wp2
      go_ret
      exact ⟨by rw [HA.out]; rfl, hbe⟩

set_option maxRecDepth 100000 in
set_option maxHeartbeats 4000000 in
theorem rbasic_own (v1 v2 : Value) (p : LPd) (s : LSt) (K : Nat) (w : World) (h : LpM w v1 p) (h2 : StM w v2 s) (F : p.Fit K) (S : s.Fit p) :
    Calls Tryz.prog 59 #[v1, v2] w fun e w' => ∃ v', e = .returned (.tuple #[v', .bool (zOk p s)]) ∧ FrsO w.heap.size w' v' (zL p s) ∧ Below w.heap.size w w' := by
  obtain ⟨A, n, c, A', n', c', A'', n'', c'', rfl, hc, hv, hr⟩ := id h
  obtain ⟨Ab, nb, cb, rfl, hI⟩ := id h2
  obtain ⟨W, hW, hX0, hbe0⟩ := box_lp w (.slice A n c) (.slice A' n' c') (.slice A'' n'' c'')
  obtain ⟨W1, hW1, hS0, hbe1⟩ := box_st W (.int .i64 s.phase) (.slice Ab nb cb) (.int .i64 s.pivots)
  have hX := hX0.later hbe1
  have hbe := below_then hbe0 hbe1 hbe0.size
  obtain ⟨b1, b2, b3⟩ := hI.len
  have hsz : W.heap.size = w.heap.size + 1 := by rw [← hW]; simp
  rw [hsz] at hS0
  have HLP := Lib.hid h
  have HST := Lib.hid h2
  have HI := Lib.hid hI
  have HFP := Lib.hid F
  have HFS := Lib.hid S
  have HNB := Lib.hid b1
  have HB1 : Hid (nb = p.right.length) := Lib.hid (by rw [b1]; exact S.2)
  have hnb : nb ≤ 64 := by rw [HB1.out]; exact F.2.2.1
  obtain ⟨x0, x1, x2⟩ := hX.three
  obtain ⟨y0, y1, y2⟩ := hS0.three
  have HRI := Lib.hid hr
  clear h h2 hc hv hr b1 hI hX0 hbe0 hbe1 F S
  have HSL : Hid (s.basis.length ≤ 1000) := Lib.hid (by rw [← HNB.out]; omega)
  have HM1 : Hid (p.right.length ≤ 1000) := Lib.hid (by have := HFP.out.rows; omega)
  go_enter Tryz.func59, Tryz.ntmps59
  go_wp2_with fail
  clear hW hW1
  have C0 := stab x0
  have C1 := stab x1
  have C2 := stab x2
  have D0 := stab y0
  have D1 := stab y1
  have D2 := stab y2
  have hS0 := below_drew' W1
  clear x0 x1 x2 y0 y1 y2
  refine region_seq 10 [0, 1, 3, 4, 2, 5, 6, 7, 8, 9] (by kernel_rfl) (by kernel_rfl) ?_
  repeat ((first | (refine seq_takeP (v := ?_) rfl rfl rfl ?_ ?_; rotate_left; (· (intro _ hSw; go_simp; (try go_bits); (try with_reducible rfl)))) | (refine seq_take (v := ?_) rfl rfl rfl ?_ ?_; rotate_left; (· (intro _ hSw; go_simp; (try go_bits); (try with_reducible rfl)))) | refine seq_skip rfl rfl rfl ?_); (try simp only [Act.put, pu1, pu2, pu3, pu4, pu5, pu6]))
  refine seq_step rfl rfl (fun KR hKR => ?_)
  go_simp
  with_reducible refine (rmatrix_own _ _ p s K _ ((HLP.out.below hbe).below hS0) ((HST.out.below hbe).below hS0) HFP.out.ok HFP.out.kb HFP.out.in_ HFS.out.in_ HFP.out.rows HSL.out).mono ?_
  rw [HFS.out.len]
  rintro _ w5 ⟨v5, rfl, e5, hb5⟩
  have hS5 := below_then hS0 hb5 hS0.size
  refine hKR.out _ _ (Or.inr hS5) ?_
  clear hKR KR
  (try simp only [Act.put, pu1, pu2, pu3, pu4, pu5, pu6])
  repeat ((first | (refine seq_takeP (v := ?_) rfl rfl rfl ?_ ?_; rotate_left; (· (intro _ hSw; go_simp; (try go_bits); (try with_reducible rfl)))) | (refine seq_take (v := ?_) rfl rfl rfl ?_ ?_; rotate_left; (· (intro _ hSw; go_simp; (try go_bits); (try with_reducible rfl)))) | refine seq_skip rfl rfl rfl ?_); (try simp only [Act.put, pu1, pu2, pu3, pu4, pu5, pu6]))
  refine seq_step rfl rfl (fun KR hKR => ?_)
  go_simp
  with_reducible refine (rsolve_own _ _ p.right.length (s.mat p) p.right K _ e5 ((HRI.out.below hbe).below hS5) rfl (fun r c _ _ => Sz_mat HFP.out s c r) HFP.out.rs HFP.out.k1 HFP.out.ks HM1.out).mono ?_
  rintro _ w6 ⟨v6, rfl, e6, hb6⟩
  have hS6 := below_then hS5 hb6 hS5.size
  refine hKR.out _ _ (Or.inr hS6) ?_
  clear hKR KR
  (try simp only [Act.put, pu1, pu2, pu3, pu4, pu5, pu6])
  repeat ((first | (refine seq_takeP (v := ?_) rfl rfl rfl ?_ ?_; rotate_left; (· (intro _ hSw; go_simp; (try go_bits); (try with_reducible rfl)))) | (refine seq_take (v := ?_) rfl rfl rfl ?_ ?_; rotate_left; (· (intro _ hSw; go_simp; (try go_bits); (try with_reducible rfl)))) | refine seq_skip rfl rfl rfl ?_); (try simp only [Act.put, pu1, pu2, pu3, pu4, pu5, pu6]))
  refine seq_done ?_
  clear C0 C1 C2 D0 D1 D2
  have hb7 := below_then hbe hS6 hbe.size
  have hb8 := hS5.size
  go_wp2
  go_ret2
  refine ⟨_, rfl, ?_, hb7⟩
  obtain ⟨cs, ho, hf⟩ := e6
  exact ⟨cs, row_mono ho (by have := hbe.size; omega), hf⟩

set_option maxRecDepth 100000 in
set_option maxHeartbeats 4000000 in
theorem rdual_own (v1 v2 : Value) (p : LPd) (s : LSt) (K : Nat) (w : World) (h : LpM w v1 p) (h2 : StM w v2 s) (F : p.Fit K) (S : s.Fit p) :
    Calls Tryz.prog 32 #[v1, v2] w fun e w' => ∃ v', e = .returned v' ∧ FrsO w.heap.size w' v' (dualL p s) ∧ Below w.heap.size w w' := by
  obtain ⟨A, n, c, A', n', c', A'', n'', c'', rfl, hc, hv, hr⟩ := id h
  obtain ⟨Ab, nb, cb, rfl, hI⟩ := id h2
  obtain ⟨W, hW, hX0, hbe0⟩ := box_lp w (.slice A n c) (.slice A' n' c') (.slice A'' n'' c'')
  obtain ⟨W1, hW1, hS0, hbe1⟩ := box_st W (.int .i64 s.phase) (.slice Ab nb cb) (.int .i64 s.pivots)
  have hX := hX0.later hbe1
  have hbe := below_then hbe0 hbe1 hbe0.size
  obtain ⟨b1, b2, b3⟩ := hI.len
  have hsz : W.heap.size = w.heap.size + 1 := by rw [← hW]; simp
  rw [hsz] at hS0
  have HLP := Lib.hid h
  have HST := Lib.hid h2
  have HI := Lib.hid hI
  have HFP := Lib.hid F
  have HFS := Lib.hid S
  have HNB := Lib.hid b1
  have HB1 : Hid (nb = p.right.length) := Lib.hid (by rw [b1]; exact S.2)
  have hnb : nb ≤ 64 := by rw [HB1.out]; exact F.2.2.1
  obtain ⟨x0, x1, x2⟩ := hX.three
  obtain ⟨y0, y1, y2⟩ := hS0.three
  clear h h2 hc hv hr b1 hI hX0 hbe0 hbe1 F S
  have HSL : Hid (s.basis.length ≤ 1000) := Lib.hid (by rw [← HNB.out]; omega)
  have HM1 : Hid (p.right.length ≤ 1000) := Lib.hid (by have := HFP.out.rows; omega)
  have HCL : Hid (p.cost.length = p.cols.length) := Lib.hid HFP.out.cl
  go_enter Tryz.func32, Tryz.ntmps32
  go_wp2
  clear hW hW1 x0 x1 x2 y0 y1 y2
  go_loopw [5, 6] (fun u i wr => ∃ k : Nat, k ≤ nb ∧ i = .int .i64 k ∧ Below w.heap.size w wr ∧ Bk wr w.heap.size 26 [.slice A n c, .slice A' n' c', .slice A'' n'' c''] ∧ Bk wr (w.heap.size + 1) 34 [.int .i64 s.phase, .slice Ab nb cb, .int .i64 s.pivots] ∧ FrsO w.heap.size wr u (canL k fun i => costQ p s.phase (s.at_ i))) (fun _ i _ => nb - (intOf i).toNat)
  case atStart => exact ⟨0, by omega, rfl, hbe, hX, hS0, FrsO.nil _ _⟩
  case round =>
    clear hbe hX hS0
    obtain ⟨k, hk, rfl, hbe, hX, hS, hO⟩ := hrel
    obtain ⟨x0, x1, x2⟩ := hX.three
    obtain ⟨y0, y1, y2⟩ := hS.three
    rcases Nat.lt_or_ge k nb with hkl | hkl
    · obtain ⟨bb, bo, z, rfl, hz, hget, z0, z1⟩ := (HI.out.below hbe).at_ hkl
      have HZ : Hid (s.at_ k = z) := Lib.hid (LSt.at_eq hget)
      obtain ⟨i0, i1⟩ := HFS.out.in_ k z hget
      have hkI : (k : Int) < nb := by omega
      have hlen : (canL k fun i => costQ p s.phase (s.at_ i)).length + 1 ≤ 1099511627776 := by rw [canL_length]; omega
      clear hget
      go_wp2_with fail
      have C0 := stab x0
      have C1 := stab x1
      have C2 := stab x2
      have D0 := stab y0
      have D1 := stab y1
      have E1 := stab hz
      have hS0 := below_drew' wr
      clear x0 x1 x2 y0 y1 y2 hz
      refine region_seq 10 [0, 1, 2, 3, 4, 5, 6, 7, 8, 9, 10, 11, 12] (by kernel_rfl) (by kernel_rfl) ?_
      repeat ((first | (refine seq_takeP (v := ?_) rfl rfl rfl ?_ ?_; rotate_left; (· (intro _ hSw; go_simp; (try go_bits); (try with_reducible rfl)))) | (refine seq_take (v := ?_) rfl rfl rfl ?_ ?_; rotate_left; (· (intro _ hSw; go_simp; (try go_bits); (try with_reducible rfl)))) | refine seq_skip rfl rfl rfl ?_); (try simp only [Act.put, pu1, pu2, pu3, pu4, pu5, pu6]))
      refine seq_step rfl rfl (fun KR hKR => ?_)
      go_simp
      with_reducible refine (rcost_own _ p K s.phase z _ ((HLP.out.below hbe).below hS0) HFP.out (HCL.out ▸ i1)).mono ?_
      rw [← HZ.out]
      rintro _ w5 ⟨v5, rfl, e5, hb5⟩
      have hS5 := below_then hS0 hb5 hS0.size
      obtain ⟨E, l9, k9, E', l9', k9', rfl, _, _⟩ := id e5.frac
      have HF := Lib.hid e5.frac
      have HO := Lib.hid (hO.below hS5)
      have hbs : w.heap.size ≤ w5.heap.size := by have := hbe.size; have := hS5.size; omega
      clear e5
      generalize hQ : canF (costQ p s.phase (s.at_ k)) = Q at *
      refine hKR.out _ _ (Or.inr hS5) ?_
      clear hKR KR
      (try simp only [Act.put, pu1, pu2, pu3, pu4, pu5, pu6])
      refine seq_step rfl rfl (fun KR hKR => ?_)
      go_simp
      refine hKR.out _ _ (Or.inl (by decide)) ?_
      clear hKR KR
      (try simp only [Act.put, pu1, pu2, pu3, pu4, pu5, pu6])
      refine seq_append_frac rfl rfl rfl (by decide) (.tmp 16) (.tmp 26) rfl w5 w.heap.size u5 (canL k fun i => costQ p s.phase (s.at_ i)) rfl HO.out _ _ E E' l9 k9 l9' k9' Q HF.out rfl hlen hbs ?_
      intro v' w6 hown6 hk6 hb6
      rw [← hQ, canL_succ k fun i => costQ p s.phase (s.at_ i)] at hown6
      (try simp only [Act.put, pu1, pu2, pu3, pu4, pu5, pu6])
      refine seq_step rfl rfl (fun KR hKR => ?_)
      go_simp
      refine hKR.out _ _ (Or.inl (by decide)) ?_
      clear hKR KR
      (try simp only [Act.put, pu1, pu2, pu3, pu4, pu5, pu6])
      refine seq_done ?_
      have hX6 := hk6.bk (hX.later hS5) (by decide)
      have hT6 := hk6.bk (hS.later hS5) (by decide)
      have hbe6 := (below_then hbe hS5 hbe.size).trans hb6
      clear C0 C1 C2 D0 D1 E1 hX hS hbe hS0 hS5 hb5 hO HO HF hk6 hb6 hQ
      go_wp2
      go_roundw
      case rel => exact ⟨k + 1, by omega, by go_num, hbe6, hX6, hT6, hown6⟩
      case measure => simp [intOf]; omega
    · obtain rfl : k = nb := by omega
      have HKR := HB1
      go_wp2_with fail
      refine (rmatrix_own _ _ p s K _ (HLP.out.below hbe) (HST.out.below hbe) HFP.out.ok HFP.out.kb HFP.out.in_ HFS.out.in_ HFP.out.rows HSL.out).mono ?_
      rw [HFS.out.len]
      rintro _ w5 ⟨v5, rfl, e5, hb5⟩
      go_wp2_with fail
      refine (rrows_own _ p.right.length (s.mat p) _ e5 HM1.out).mono ?_
      rintro _ w6 ⟨v6, rfl, e6, hb6⟩
      have hb56 := below_then hb5 hb6 hb5.size
      have hO6 := hO.below hb56
      have hbe6 := below_then hbe hb56 hbe.size
      have HO6 := Lib.hid hO6.frs
      have hOs := hO6.frs
      rw [HKR.out] at hOs
      have HO7 := Lib.hid hOs
      clear x0 x1 x2 y0 y1 y2 hO hO6 hOs e5 hX hS
      go_wp2_with fail
      refine (rsolve_own _ _ p.right.length (fun r k => s.mat p k r) (canL p.right.length fun i => costQ p s.phase (s.at_ i)) K _ e6 HO7.out (canL_length _ _) (fun r c _ _ => Sz_mat HFP.out s r c) (canL_rs fun i _ => Sz_cost HFP.out.ok HFP.out.k1 _ _) HFP.out.k1 HFP.out.ks HM1.out).mono ?_
      rintro _ w7 ⟨v7, rfl, e7, hb7⟩
      have hbe7 := below_then hbe6 hb7 hbe6.size
      go_wp2
      go_ret
      refine ⟨_, rfl, ?_, hbe7⟩
      obtain ⟨cs, ho, hf⟩ := e7
      exact ⟨cs, row_mono ho (by have := hbe6.size; omega), hf⟩
end Go.Proofs.YtpanffbgihhjnaaGreat

/- Walks: package pairingref25: reduced. -/
namespace Go.Proofs.YtpanffbgihhjnaaGreat
open Go.RowKit Pl
attribute [local go_sem ↓] Go.wp_at_zero Go.wp_at_succ

namespace Pl
def redQ (p : LPd) (s : LSt) (j : Int) : Rat := costQ p s.phase j - dotQ (dualL p s) (canL p.right.length (p.col j)) (min (dualL p s).length p.right.length)
def redL (p : LPd) (s : LSt) : List RF := canL p.cols.length fun j => redQ p s (j : Int)
theorem min_rows {p : LPd} {K : Nat} (F : p.Fit K) (s : LSt) : min (dualL p s).length p.right.length ≤ 64 := Nat.le_trans (Nat.min_le_right _ _) F.rows
theorem dot_bound {p : LPd} {K : Nat} (F : p.Fit K) (s : LSt) : 1 + min (dualL p s).length p.right.length * (2 * (5 ^ p.right.length * K) + 1) ≤ 129 * (5 ^ p.right.length * K) + 65 := by
  have h := Nat.mul_le_mul_right (2 * (5 ^ p.right.length * K) + 1) (min_rows F s)
  omega
theorem col_B {p : LPd} {K : Nat} (F : p.Fit K) (j : Int) : RsL (5 ^ p.right.length * K) (canL p.right.length (p.col j)) := canL_rs fun i _ => (LPd.Sz_col F.ok F.k1 j i).mono F.le
theorem Sz_red {p : LPd} {K : Nat} (F : p.Fit K) (s : LSt) (j : Int) : Sz (130 * (5 ^ p.right.length * K) + 100) (redQ p s j) := by
  have h1 := Sz_cost F.ok F.k1 s.phase j
  have h2 := Sz_dot (n := min (dualL p s).length p.right.length) (dualL_B F s) (col_B F j) (Nat.le_trans F.k1 F.le)
  have := dot_bound F s
  have := F.le
  exact (Sz_sub h1 h2).mono (by omega)
end Pl

set_option maxRecDepth 100000 in
set_option maxHeartbeats 4000000 in
theorem rreduced_own (v1 v2 : Value) (p : LPd) (s : LSt) (K : Nat) (w : World) (h : LpM w v1 p) (h2 : StM w v2 s) (F : p.Fit K) (S : s.Fit p) :
    Calls Tryz.prog 61 #[v1, v2] w fun e w' => ∃ v', e = .returned v' ∧ FrsO w.heap.size w' v' (redL p s) ∧ Below w.heap.size w w' := by
  obtain ⟨A, n, c, A', n', c', A'', n'', c'', rfl, hc, hv, hr⟩ := id h
  obtain ⟨Ab, nb, cb, rfl, hI⟩ := id h2
  obtain ⟨W, hW, hX0, hbe0⟩ := box_lp w (.slice A n c) (.slice A' n' c') (.slice A'' n'' c'')
  obtain ⟨W1, hW1, hS0, hbe1⟩ := box_st W (.int .i64 s.phase) (.slice Ab nb cb) (.int .i64 s.pivots)
  have hX := hX0.later hbe1
  have hbe := below_then hbe0 hbe1 hbe0.size
  obtain ⟨b1, b2, b3⟩ := hI.len
  have hsz : W.heap.size = w.heap.size + 1 := by rw [← hW]; simp
  rw [hsz] at hS0
  have HLP := Lib.hid h
  have HST := Lib.hid h2
  have HI := Lib.hid hI
  have HFP := Lib.hid F
  have HFS := Lib.hid S
  have HNB := Lib.hid b1
  have HB1 : Hid (nb = p.right.length) := Lib.hid (by rw [b1]; exact S.2)
  have hnb : nb ≤ 64 := by rw [HB1.out]; exact F.2.2.1
  obtain ⟨x0, x1, x2⟩ := hX.three
  obtain ⟨y0, y1, y2⟩ := hS0.three
  obtain ⟨m1, m2, m3⟩ := hv.len
  have HM1 := Lib.hid m1
  clear h h2 hc hv hr b1 hI hX0 hbe0 hbe1 F S
  clear m1
  have hn' : n' ≤ 1200 := by rw [HM1.out]; exact HFP.out.cols
  have HKS : Hid (130 * (5 ^ p.right.length * K) + 200 ≤ 8589934592) := Lib.hid HFP.out.2.2.2.2.2.2
  have HK1 : Hid (1 ≤ 5 ^ p.right.length * K) := Lib.hid (Nat.le_trans HFP.out.k1 HFP.out.le)
  have HDB := Lib.hid (dualL_B HFP.out s)
  have HSD : Hid (1 + min (dualL p s).length (canL p.right.length (p.col 0)).length * (2 * (5 ^ p.right.length * K) + 1) ≤ 34359738368) := Lib.hid (by rw [canL_length]; have := dot_bound HFP.out s; have := HKS.out; omega)
  have HS2 : Hid (2 * (5 ^ p.right.length * K) ≤ 34359738368) := Lib.hid (by have := HKS.out; omega)
  go_enter Tryz.func61, Tryz.ntmps61
  go_wp2_with fail
  clear hW hW1
  refine (rdual_own _ _ p s K _ (HLP.out.below hbe) (HST.out.below hbe) HFP.out HFS.out).mono ?_
  rintro _ w3 ⟨v3, rfl, e3, hb3⟩
  have hX3 := hX.later hb3
  have hT3 := hS0.later hb3
  have hbe3 := below_then hbe hb3 hbe.size
  have HY := Lib.hid e3.frs
  clear e3 hb3 hX hS0 x0 x1 x2 y0 y1 y2 hbe
  go_wp2
  go_loopw [6, 7] (fun u i wr => ∃ k : Nat, k ≤ n' ∧ i = .int .i64 k ∧ Below w.heap.size w wr ∧ Below w3.heap.size w3 wr ∧ Bk wr w.heap.size 26 [.slice A n c, .slice A' n' c', .slice A'' n'' c''] ∧ Bk wr (w.heap.size + 1) 34 [.int .i64 s.phase, .slice Ab nb cb, .int .i64 s.pivots] ∧ FrsO w3.heap.size wr u (canL k fun j => redQ p s (j : Int))) (fun _ i _ => n' - (intOf i).toNat)
  case atStart => exact ⟨0, by omega, rfl, hbe3, Below.refl _ _, hX3, hT3, FrsO.nil _ _⟩
  case round =>
    have hw3 := hbe3.size
    clear hbe3 hX3 hT3
    obtain ⟨k, hk, rfl, hbe, hbe', hX, hS, hO⟩ := hrel
    obtain ⟨x0, x1, x2⟩ := hX.three
    obtain ⟨y0, y1, y2⟩ := hS.three
    rcases Nat.lt_or_ge k n' with hkl | hkl
    · have HKN : Hid ((k : Int) < p.cols.length) := Lib.hid (by rw [← HM1.out]; omega)
      have HKC : Hid ((k : Int) < p.cost.length) := Lib.hid (by rw [HFP.out.cl]; exact HKN.out)
      have HCB := Lib.hid (col_B HFP.out (k : Int))
      have HSD : Hid (1 + min (dualL p s).length (canL p.right.length (p.col (k : Int))).length * (2 * (5 ^ p.right.length * K) + 1) ≤ 34359738368) := Lib.hid (by rw [canL_length]; have := dot_bound HFP.out s; have := HKS.out; omega)
      have HRD : Hid (canF (costQ p s.phase (k : Int) - dotQ (dualL p s) (canL p.right.length (p.col (k : Int))) (min (dualL p s).length p.right.length)) = canF (redQ p s (k : Int))) := Lib.hid rfl
      have HSC : Hid ((canF (costQ p s.phase (k : Int))).Sh) := Lib.hid ((Sz_cost HFP.out.ok HFP.out.k1 _ _).sh HFP.out.kb)
      have HSDT : Hid ((canF (dotQ (dualL p s) (canL p.right.length (p.col (k : Int))) (min (dualL p s).length p.right.length))).Sh) := Lib.hid ((Sz_dot HDB.out HCB.out HK1.out).sh (by have := dot_bound HFP.out s; have := HKS.out; omega))
      have hkI : (k : Int) < n' := by omega
      have hlen : (canL k fun j => redQ p s (j : Int)).length + 1 ≤ 1099511627776 := by rw [canL_length]; omega
      go_wp2_with fail
      have C0 := stab x0
      have C1 := stab x1
      have C2 := stab x2
      have D0 := stab y0
      have D1 := stab y1
      have hS0 := below_drew' wr
      clear x0 x1 x2 y0 y1 y2
      refine region_seq 12 [0, 1, 2, 3, 4, 6, 7, 8, 5, 9, 10, 11, 12, 13, 14] (by kernel_rfl) (by kernel_rfl) ?_
      repeat ((first | (refine seq_takeP (v := ?_) rfl rfl rfl ?_ ?_; rotate_left; (· (intro _ hSw; go_simp; (try go_bits); (try with_reducible rfl)))) | (refine seq_take (v := ?_) rfl rfl rfl ?_ ?_; rotate_left; (· (intro _ hSw; go_simp; (try go_bits); (try with_reducible rfl)))) | refine seq_skip rfl rfl rfl ?_); (try simp only [Act.put, pu1, pu2, pu3, pu4, pu5, pu6]))
      refine seq_step rfl rfl (fun KR hKR => ?_)
      go_simp
      with_reducible refine (rcost_own _ p K s.phase (k : Int) _ ((HLP.out.below hbe).below hS0) HFP.out HKC.out).mono ?_
      rintro _ w5 ⟨v5, rfl, e5, hb5⟩
      have hS5 := below_then hS0 hb5 hS0.size
      have hF5 := e5.frac
      clear e5
      refine hKR.out _ _ (Or.inr hS5) ?_
      clear hKR KR
      (try simp only [Act.put, pu1, pu2, pu3, pu4, pu5, pu6])
      repeat ((first | (refine seq_takeP (v := ?_) rfl rfl rfl ?_ ?_; rotate_left; (· (intro _ hSw; go_simp; (try go_bits); (try with_reducible rfl)))) | (refine seq_take (v := ?_) rfl rfl rfl ?_ ?_; rotate_left; (· (intro _ hSw; go_simp; (try go_bits); (try with_reducible rfl)))) | refine seq_skip rfl rfl rfl ?_); (try simp only [Act.put, pu1, pu2, pu3, pu4, pu5, pu6]))
      refine seq_step rfl rfl (fun KR hKR => ?_)
      go_simp
      with_reducible refine (rcolumn_any _ p K (k : Int) _ ((HLP.out.below hbe).below hS5) HFP.out.ok HFP.out.kb HFP.out.in_ (by omega) HKN.out HFP.out.rows).mono ?_
      rintro _ w6 ⟨v6, rfl, e6, hb6⟩
      have hS6 := below_then hS5 hb6 hS5.size
      have hF6 := hF5.below hb6
      have hC6 := e6.frs
      clear e6 hF5
      refine hKR.out _ _ (Or.inr hS6) ?_
      clear hKR KR
      (try simp only [Act.put, pu1, pu2, pu3, pu4, pu5, pu6])
      repeat ((first | (refine seq_takeP (v := ?_) rfl rfl rfl ?_ ?_; rotate_left; (· (intro _ hSw; go_simp; (try go_bits); (try with_reducible rfl)))) | (refine seq_take (v := ?_) rfl rfl rfl ?_ ?_; rotate_left; (· (intro _ hSw; go_simp; (try go_bits); (try with_reducible rfl)))) | refine seq_skip rfl rfl rfl ?_); (try simp only [Act.put, pu1, pu2, pu3, pu4, pu5, pu6]))
      refine seq_step rfl rfl (fun KR hKR => ?_)
      go_simp
      with_reducible refine (rdot_own _ _ (dualL p s) (canL p.right.length (p.col (k : Int))) (5 ^ p.right.length * K) _ ((HY.out.below hbe').below hS6) hC6 HK1.out HDB.out HCB.out HSD.out HS2.out).mono ?_
      rw [canL_length]
      rintro _ w7 ⟨v7, rfl, e7, hb7⟩
      have hS7 := below_then hS6 hb7 hS6.size
      have hF7 := hF6.below hb7
      have hD7 := e7
      clear e7 hF6 hC6
      refine hKR.out _ _ (Or.inr hS7) ?_
      clear hKR KR
      (try simp only [Act.put, pu1, pu2, pu3, pu4, pu5, pu6])
      repeat ((first | (refine seq_takeP (v := ?_) rfl rfl rfl ?_ ?_; rotate_left; (· (intro _ hSw; go_simp; (try go_bits); (try with_reducible rfl)))) | (refine seq_take (v := ?_) rfl rfl rfl ?_ ?_; rotate_left; (· (intro _ hSw; go_simp; (try go_bits); (try with_reducible rfl)))) | refine seq_skip rfl rfl rfl ?_); (try simp only [Act.put, pu1, pu2, pu3, pu4, pu5, pu6]))
      refine seq_step rfl rfl (fun KR hKR => ?_)
      go_simp
      with_reducible refine (rsubF_own _ _ (canF (costQ p s.phase (k : Int))) (canF (dotQ (dualL p s) (canL p.right.length (p.col (k : Int))) (min (dualL p s).length p.right.length))) _ hF7 hD7 HSC.out HSDT.out).mono ?_
      rw [canF_q, canF_q, HRD.out]
      rintro _ w8 ⟨v8, rfl, e8, hb8⟩
      have hS8 := below_then hS7 hb8 hS7.size
      have HF := Lib.hid e8.frac
      have HO := Lib.hid (hO.below hS8)
      have hbs : w3.heap.size ≤ w8.heap.size := by have := hbe'.size; have := hS8.size; omega
      obtain ⟨E, l9, k9, E', l9', k9', rfl, _, _⟩ := id e8.frac
      clear e8 hF7 hD7
      generalize hQ : canF (redQ p s (k : Int)) = Q at *
      refine hKR.out _ _ (Or.inr hS8) ?_
      clear hKR KR
      (try simp only [Act.put, pu1, pu2, pu3, pu4, pu5, pu6])
      refine seq_step rfl rfl (fun KR hKR => ?_)
      go_simp
      refine hKR.out _ _ (Or.inl (by decide)) ?_
      clear hKR KR
      (try simp only [Act.put, pu1, pu2, pu3, pu4, pu5, pu6])
      refine seq_append_frac rfl rfl rfl (by decide) (.tmp 18) (.tmp 30) rfl w8 w3.heap.size u6 (canL k fun j => redQ p s (j : Int)) rfl HO.out _ _ E E' l9 k9 l9' k9' Q HF.out rfl hlen hbs ?_
      intro v' w9 hown9 hk9 hb9
      rw [← hQ, canL_succ k fun j => redQ p s (j : Int)] at hown9
      (try simp only [Act.put, pu1, pu2, pu3, pu4, pu5, pu6])
      refine seq_step rfl rfl (fun KR hKR => ?_)
      go_simp
      refine hKR.out _ _ (Or.inl (by decide)) ?_
      clear hKR KR
      (try simp only [Act.put, pu1, pu2, pu3, pu4, pu5, pu6])
      refine seq_done ?_
      have hX6 := hk9.bk (hX.later hS8) (by decide)
      have hT6 := hk9.bk (hS.later hS8) (by decide)
      have hbe6 := (below_then hbe hS8 hbe.size).trans (hb9.mono hw3)
      have hbe6' := (below_then hbe' hS8 hbe'.size).trans hb9
      clear C0 C1 C2 D0 D1 hX hS hbe hbe' hS0 hS5 hS6 hS7 hS8 hb5 hb6 hb7 hb8 hO HO HF hk9 hb9 hQ
      go_wp2
      go_roundw
      case rel => exact ⟨k + 1, by omega, by go_num, hbe6, hbe6', hX6, hT6, hown9⟩
      case measure => simp [intOf]; omega
    · obtain rfl : k = n' := by omega
      go_wp2
      go_ret
      refine ⟨_, rfl, ?_, hbe⟩
      unfold redL
      rw [← HM1.out]
      obtain ⟨cs, ho, hf⟩ := hO
      exact ⟨cs, row_mono ho hw3, hf⟩
end Go.Proofs.YtpanffbgihhjnaaGreat

/- A region that draws its order, where now and then two operations may come up: a plan with forks. -/
namespace Go.Proofs.YtpanffbgihhjnaaGreat
open Go.RowKit Pl

inductive Plan where
  | done
  | go (i : Nat) (p : Plan)
  | fork (i : Nat) (p : Plan) (j : Nat) (q : Plan)
def Plan.of : List Nat → Plan → Plan
  | [], p => p
  | i :: is, p => .go i (Plan.of is p)
def planGo (md : Region.Mode) (ops : Array Oper) (n : Nat) : Bool → Plan → Array Bool → Bool
  | _, .done, listed => Region.ready md ops listed == []
  | d, .go i p, listed => seqAt md ops n listed i && (!(d && (floatI ops n i && !pureI ops i)) && planGo md ops n (d || decide (n ≤ i)) p (listed.setIfInBounds i true))
  | d, .fork i p j q, listed => (!floatI ops n i && !floatI ops n j) && (Region.ready md ops listed == [i, j] && (planGo md ops n (d || decide (n ≤ i)) p (listed.setIfInBounds i true) && planGo md ops n (d || decide (n ≤ j)) q (listed.setIfInBounds j true)))
section
variable {P : Program} {ops : Array Oper} {Q : Exit → Act → World → Prop} {md : Region.Mode} {S : World → Prop} {n : Nat}
def wpAlone (P : Program) (ops : Array Oper) (Q : Exit → Act → World → Prop) (S : World → Prop) (n i : Nat) (K : Act → World → Prop) (a : Act) (w : World) : Prop := match ops[i]? with
  | none => True
  | some o => if Region.wanted o (yielded ops a.tmps) = true then Oper.wp P o a w (fun a' w' => (n ≤ i ∨ S w') ∧ K a' w') Q else (n ≤ i ∨ S w) ∧ K (a.put o.dst undef) w
def wpPlan (P : Program) (ops : Array Oper) (Q : Exit → Act → World → Prop) (S : World → Prop) (n : Nat) : Plan → Act → World → Prop
  | .done, a, w => Q .normal a w
  | .go i p, a, w => match ops[i]? with
    | none => True
    | some o => if floatI ops n i = true then ∃ v, (if pureI ops i = true then YieldsIf P ops (fun _ => True) o v a else YieldsIf P ops S o v a) ∧ wpPlan P ops Q S n p (a.put o.dst v) w else wpAlone P ops Q S n i (wpPlan P ops Q S n p) a w
  | .fork i p j q, a, w => wpAlone P ops Q S n i (wpPlan P ops Q S n p) a w ∧ wpAlone P ops Q S n j (wpPlan P ops Q S n q) a w
theorem wpAlone.wpOp {i : Nat} {o : Oper} {K : Act → World → Prop} {a : Act} {w : World} (ho : ops[i]? = some o) (h : wpAlone P ops Q S n i K a w) : Go.wpOp P ops Q i (fun a' w' => (n ≤ i ∨ S w') ∧ K a' w') a w := by
  unfold wpAlone at h
  rw [ho] at h
  unfold Go.wpOp
  rw [ho]
  show if Region.wanted o (yielded ops a.tmps) = true then _ else _
  have h : if Region.wanted o (yielded ops a.tmps) = true then Oper.wp P o a w (fun a' w' => (n ≤ i ∨ S w') ∧ K a' w') Q else (n ≤ i ∨ S w) ∧ K (a.put o.dst undef) w := h
  split
  · rename_i hw; rw [if_pos hw] at h; exact .inl h
  · rename_i hw; rw [if_neg hw] at h; exact h
def Plan.len : Plan → Nat
  | .done => 0
  | .go _ p => p.len + 1
  | .fork _ p _ _ => p.len + 1
def Plan.even : Plan → Bool
  | .done => true
  | .go _ p => p.even
  | .fork _ p _ q => p.even && (q.even && (p.len == q.len))
def planOK (md : Region.Mode) (ops : Array Oper) (n : Nat) (p : Plan) : Bool := Region.noSelect ops && (planGo md ops n false p (Array.replicate ops.size false) && (p.even && decide (p.len = ops.size)))
theorem AnyG.of_plan (hQ : ∀ c a d v w, Q (.panic c) (a.put d v) w → Q (.panic c) a w) (hs : Region.noSelect ops = true) :
    ∀ (p : Plan) (listed : Array Bool) (a : Act) (w : World) (d : Bool), p.even = true → planGo md ops n d p listed = true → (d = false → S w) → wpPlan P ops Q S n p a w → AnyG P md ops Q S n p.len listed a w := by
  intro p
  induction p with
  | done =>
    intro listed a w d _ hgo _ h
    exact ⟨by simpa [planGo] using hgo, h⟩
  | go i p ih =>
    intro listed a w d hev hgo hS h
    simp only [planGo, Bool.and_eq_true] at hgo
    obtain ⟨hat, hd, hgo⟩ := hgo
    unfold wpPlan at h
    unfold seqAt at hat
    split at hat
    · rename_i hf
      simp only [Bool.and_eq_true] at hat
      obtain ⟨h1, h2, h3⟩ := hat
      have hf' := hf
      simp only [floatI, Bool.and_eq_true, decide_eq_true_eq] at hf'
      obtain ⟨o, ho⟩ : ∃ o, ops[i]? = some o := by
        cases hc : ops[i]? with
        | none => rw [hc] at hf'; simp at hf'
        | some o => exact ⟨o, rfl⟩
      simp only [ho] at h
      rw [if_pos hf] at h
      obtain ⟨v, hy, hr⟩ := h
      by_cases hp : pureI ops i = true
      · rw [if_pos hp] at hy
        exact anyG_takeP ho hs h1 h2 (fun c a w => hQ c a o.dst v w) hy (ih _ _ w _ hev hgo (fun hd' => hS (by simp at hd'; exact hd'.1)) hr)
      · rw [if_neg hp] at hy
        have hdf : d = false := by rw [hf] at hd; simpa [hp] using hd
        have hw := hS hdf
        exact anyG_takeT ho hs h1 h2 (by simpa [hp] using h3) (fun c a w => hQ c a o.dst v w) hy hw (ih _ _ w _ hev hgo (fun _ => hw) hr)
    · rename_i hf
      have hr : Region.ready md ops listed = [i] := by simpa using hat
      have hi : i ∈ Region.ready md ops listed := by rw [hr]; exact List.mem_singleton.2 rfl
      obtain ⟨_, o, ho, _⟩ := mem_ready.1 hi
      simp only [ho] at h
      rw [if_neg hf] at h
      refine ⟨fun h0 => (by rw [hr] at h0; cases h0), fun j hj => ?_⟩
      rw [hr] at hj
      obtain rfl : j = i := by simpa using hj
      exact wpOp_mono (fun a' w' h' => ⟨h'.1.imp id (fun h _ => h), ih _ a' w' _ hev hgo (fun hle => h'.1.resolve_left (by simp at hle; omega)) h'.2⟩) (h.wpOp ho)
  | fork i p j q ihp ihq =>
    intro listed a w d hev hgo hS h
    simp only [planGo, Bool.and_eq_true] at hgo
    obtain ⟨_, hr, hg1, hg2⟩ := hgo
    simp only [Plan.even, Bool.and_eq_true, beq_iff_eq] at hev
    obtain ⟨ev1, ev2, hlen⟩ := hev
    have hr : Region.ready md ops listed = [i, j] := by simpa using hr
    obtain ⟨h1, h2⟩ := h
    have hi : i ∈ Region.ready md ops listed := by rw [hr]; simp
    have hj : j ∈ Region.ready md ops listed := by rw [hr]; simp
    obtain ⟨_, oi, hoi, _⟩ := mem_ready.1 hi
    obtain ⟨_, oj, hoj, _⟩ := mem_ready.1 hj
    refine ⟨fun h0 => (by rw [hr] at h0; cases h0), fun k hk => ?_⟩
    rw [hr] at hk
    simp only [List.mem_cons, List.not_mem_nil, or_false] at hk
    rcases hk with rfl | rfl
    · exact wpOp_mono (fun a' w' h' => ⟨h'.1.imp id (fun h _ => h), ihp _ a' w' _ ev1 hg1 (fun hle => h'.1.resolve_left (by simp at hle; omega)) h'.2⟩) (h1.wpOp hoi)
    · exact wpOp_mono (fun a' w' h' => ⟨h'.1.imp id (fun h _ => h), by rw [hlen]; exact ihq _ a' w' _ ev2 hg2 (fun hle => h'.1.resolve_left (by simp at hle; omega)) h'.2⟩) (h2.wpOp hoj)
theorem region_plan {id : Nat} {l : List Oper} {a : Act} {w : World} (n : Nat) (p : Plan) (hm : P.follows .mixedOrders = true) (hok : planOK .any l.toArray n p = true)
    (h : wpPlan P l.toArray (NoPanic Q) (fun w' => Below w.heap.size w w') n p a w.drew) : (Code.region id l.toArray true).wp P Q a w := by
  simp only [planOK, Bool.and_eq_true, decide_eq_true_eq] at hok
  obtain ⟨hs, hgo, hev, hl⟩ := hok
  refine wp_region_noPanic (wp_region_any hm (AnyG.any _ _ _ _ (S := fun w' => Below w.heap.size w w') (n := n) ?_))
  have := AnyG.of_plan (P := P) (Q := NoPanic Q) (S := fun w' => Below w.heap.size w w') (fun c a d v w h => h) hs p _ a w.drew false hev hgo (fun _ => (Below.refl _ _).drew) h
  rwa [hl] at this
theorem plan_done {a : Act} {w : World} (h : Q .normal a w) : wpPlan P ops (NoPanic Q) S n .done a w := h
theorem plan_take {o : Oper} {i : Nat} {p : Plan} {a : Act} {w : World} {v : Value} (ho : ops[i]? = some o) (hf : (floatI ops n i && !pureI ops i) = true) (hw : Region.wanted o (yielded ops a.tmps) = true) (hy : ∀ w', S w' → (execOp a.eval o).run P w' = .ok (.value v) w') (h : wpPlan P ops Q S n p (a.put o.dst v) w) : wpPlan P ops Q S n (.go i p) a w := by
  simp only [Bool.and_eq_true, Bool.not_eq_true'] at hf
  unfold wpPlan
  rw [ho]
  show if _ then _ else _
  rw [if_pos hf.1]
  exact ⟨v, by rw [if_neg (by simp [hf.2])]; exact .inl ⟨hw, hy⟩, h⟩
theorem plan_takeP {o : Oper} {i : Nat} {p : Plan} {a : Act} {w : World} {v : Value} (ho : ops[i]? = some o) (hf : (floatI ops n i && pureI ops i) = true) (hw : Region.wanted o (yielded ops a.tmps) = true) (hy : ∀ w', True → (execOp a.eval o).run P w' = .ok (.value v) w') (h : wpPlan P ops Q S n p (a.put o.dst v) w) : wpPlan P ops Q S n (.go i p) a w := by
  simp only [Bool.and_eq_true] at hf
  unfold wpPlan
  rw [ho]
  show if _ then _ else _
  rw [if_pos hf.1]
  exact ⟨v, by rw [if_pos hf.2]; exact .inl ⟨hw, hy⟩, h⟩
theorem plan_skip {o : Oper} {i : Nat} {p : Plan} {a : Act} {w : World} (ho : ops[i]? = some o) (hf : floatI ops n i = true) (hw : Region.wanted o (yielded ops a.tmps) = false) (h : wpPlan P ops Q S n p (a.put o.dst undef) w) : wpPlan P ops Q S n (.go i p) a w := by
  unfold wpPlan
  rw [ho]
  show if _ then _ else _
  rw [if_pos hf]
  exact ⟨undef, by split <;> exact .inr ⟨hw, rfl⟩, h⟩
theorem alone_step {o : Oper} {i : Nat} {K : Act → World → Prop} {a : Act} {w : World} (ho : ops[i]? = some o)
    (h : ∀ K' : Act → World → Prop, Shut (∀ a w, (n ≤ i ∨ S w) → K a w → K' a w) → if Region.wanted o (yielded ops a.tmps) = true then Oper.wp P o a w K' Q else K' (a.put o.dst undef) w) : wpAlone P ops Q S n i K a w := by
  have h1 := h (fun a' w' => (n ≤ i ∨ S w') ∧ K a' w') (fun a w h1 h2 => ⟨h1, h2⟩)
  unfold wpAlone
  rw [ho]
  exact h1
theorem plan_step {o : Oper} {i : Nat} {p : Plan} {a : Act} {w : World} (ho : ops[i]? = some o) (hf : floatI ops n i = false)
    (h : ∀ K' : Act → World → Prop, Shut (∀ a w, (n ≤ i ∨ S w) → wpPlan P ops Q S n p a w → K' a w) → if Region.wanted o (yielded ops a.tmps) = true then Oper.wp P o a w K' Q else K' (a.put o.dst undef) w) : wpPlan P ops Q S n (.go i p) a w := by
  unfold wpPlan
  rw [ho]
  show if _ then _ else _
  rw [if_neg (by simp [hf])]
  exact alone_step ho h
theorem plan_skipc {o : Oper} {i : Nat} {p : Plan} {a : Act} {w : World} (ho : ops[i]? = some o) (hf : floatI ops n i = false) (hw : Region.wanted o (yielded ops a.tmps) = false) (hS : S w) (h : wpPlan P ops Q S n p (a.put o.dst undef) w) : wpPlan P ops Q S n (.go i p) a w := by
  refine plan_step ho hf fun K hK => ?_
  rw [if_neg (by rw [hw]; simp)]
  exact hK _ _ (.inr hS) h
theorem plan_fork {oi oj : Oper} {i j : Nat} {p q : Plan} {a : Act} {w : World} (hi : ops[i]? = some oi) (hj : ops[j]? = some oj)
    (h1 : ∀ K' : Act → World → Prop, Shut (∀ a w, (n ≤ i ∨ S w) → wpPlan P ops Q S n p a w → K' a w) → if Region.wanted oi (yielded ops a.tmps) = true then Oper.wp P oi a w K' Q else K' (a.put oi.dst undef) w)
    (h2 : ∀ K' : Act → World → Prop, Shut (∀ a w, (n ≤ j ∨ S w) → wpPlan P ops Q S n q a w → K' a w) → if Region.wanted oj (yielded ops a.tmps) = true then Oper.wp P oj a w K' Q else K' (a.put oj.dst undef) w) : wpPlan P ops Q S n (.fork i p j q) a w := ⟨alone_step hi h1, alone_step hj h2⟩
end
end Go.Proofs.YtpanffbgihhjnaaGreat
