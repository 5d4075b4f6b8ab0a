/-
  No cell of these rows narrows 'for every input' (looked for: loops, veiled, ifaces, maps, wideKeys, modest, calm, conditions, laid).
  DERIVED. THE GIVEN ROWS OF THIS SEAT. 7 by the template 'for every input the law returns true; each argument reads behind the call as it read before'; 0 by the template 'total and deterministic' (their statements: YtidgdpkcloaheaaGreatTotals.lean).
  GIVEN WITH THE SEED: the statements are not yours to turn. If you find one false, say at which input.
  Laid BY PROGRAM, IN A SANDBOX (cutbox-rows.mjs): the forced cells as the released guide's own fill.sh prints them over the translation 5d17524196b132d3… (all of the seat's roots in one cut). By AI agents, Wed Nov 11 2026. No macro, syntax, notation, axiom, sorry.
-/
import Derived.Test.YtidgdpkcloaheaaGreatChecked
import GoSem.Claim
import GoSem.ClaimJoined
import GoSem.ClaimMapViews
import Derived.JoinedTies
import Derived.KernelRfl
namespace Go.Proofs.YtidgdpkcloaheaaGreat
/- THE CELL 'sum', in the pinned program and in every row, IS THE sha256 OF THE DUMP (.gsa) THAT YtidgdpkcloaheaaGreatProg.lean LOADS. Nothing in Lean hashes anything: it is a label: what it is worth is what the hold of that sum in a sandbox is worth. -/
noncomputable def Tryz.pinned : Pinned := { name := "ytidgdpkcloaheaagreat", sum := "5d17524196b132d30ae78b1ca6c2dba7c377fbb221040f644f026d8c0e4917d9", checked := Tryz.checked }
namespace Rows
def none {H : Type} : Left H := { results := [], args := [] }

/-- 'pairinglaw4.BasisCopies': WHATEVER THE INPUT: true; the input reads as it did. -/
def basisCopiesSpec : ChangeSpec := { name := "basisCopies", fn := fun _ => fun
  | [d1, d2] => { results := [.lit (.bool true)], args := [d1, d2] }
  | _ => none }
def basisCopiesRow : OpenClaim := { program := "ytidgdpkcloaheaagreat", sum := "5d17524196b132d30ae78b1ca6c2dba7c377fbb221040f644f026d8c0e4917d9", func := "pairing/pairinglaw4.BasisCopies", spec := "basisCopies", unfollowed := true, recurses := true, apart := false }
def BasisCopiesSaid : Prop := basisCopiesRow.holds Tryz.pinned (OpenSpec.ofChange basisCopiesSpec)

/-- ITS FALSE NEIGHBOUR: 'it returns false'. Refute it at one input. -/
def basisCopiesWrong : ChangeSpec := { name := "basisCopies", fn := fun _ => fun
  | [d1, d2] => { results := [.lit (.bool false)], args := [d1, d2] }
  | _ => none }
def BasisCopiesWrongFalsely : Prop := basisCopiesRow.holds Tryz.pinned (OpenSpec.ofChange basisCopiesWrong)

/-- 'pairinglaw4.BasisFactors': WHATEVER THE INPUT: true; the input reads as it did. -/
def basisFactorsSpec : ChangeSpec := { name := "basisFactors", fn := fun _ => fun
  | [d1, d2] => { results := [.lit (.bool true)], args := [d1, d2] }
  | _ => none }
def basisFactorsRow : OpenClaim := { program := "ytidgdpkcloaheaagreat", sum := "5d17524196b132d30ae78b1ca6c2dba7c377fbb221040f644f026d8c0e4917d9", func := "pairing/pairinglaw4.BasisFactors", spec := "basisFactors", unfollowed := true, recurses := true, apart := false }
def BasisFactorsSaid : Prop := basisFactorsRow.holds Tryz.pinned (OpenSpec.ofChange basisFactorsSpec)

/-- ITS FALSE NEIGHBOUR: 'it returns false'. Refute it at one input. -/
def basisFactorsWrong : ChangeSpec := { name := "basisFactors", fn := fun _ => fun
  | [d1, d2] => { results := [.lit (.bool false)], args := [d1, d2] }
  | _ => none }
def BasisFactorsWrongFalsely : Prop := basisFactorsRow.holds Tryz.pinned (OpenSpec.ofChange basisFactorsWrong)

/-- 'pairinglaw4.BasisMakes': WHATEVER THE INPUT: true; the input reads as it did. -/
def basisMakesSpec : ChangeSpec := { name := "basisMakes", fn := fun _ => fun
  | [d1, d2, d3] => { results := [.lit (.bool true)], args := [d1, d2, d3] }
  | _ => none }
def basisMakesRow : OpenClaim := { program := "ytidgdpkcloaheaagreat", sum := "5d17524196b132d30ae78b1ca6c2dba7c377fbb221040f644f026d8c0e4917d9", func := "pairing/pairinglaw4.BasisMakes", spec := "basisMakes", unfollowed := true, recurses := true, apart := false }
def BasisMakesSaid : Prop := basisMakesRow.holds Tryz.pinned (OpenSpec.ofChange basisMakesSpec)

/-- ITS FALSE NEIGHBOUR: 'it returns false'. Refute it at one input. -/
def basisMakesWrong : ChangeSpec := { name := "basisMakes", fn := fun _ => fun
  | [d1, d2, d3] => { results := [.lit (.bool false)], args := [d1, d2, d3] }
  | _ => none }
def BasisMakesWrongFalsely : Prop := basisMakesRow.holds Tryz.pinned (OpenSpec.ofChange basisMakesWrong)

/-- 'pairinglaw4.BasisSolves': WHATEVER THE INPUT: true; the input reads as it did. -/
def basisSolvesSpec : ChangeSpec := { name := "basisSolves", fn := fun _ => fun
  | [d1, d2, d3] => { results := [.lit (.bool true)], args := [d1, d2, d3] }
  | _ => none }
def basisSolvesRow : OpenClaim := { program := "ytidgdpkcloaheaagreat", sum := "5d17524196b132d30ae78b1ca6c2dba7c377fbb221040f644f026d8c0e4917d9", func := "pairing/pairinglaw4.BasisSolves", spec := "basisSolves", unfollowed := true, recurses := true, apart := false }
def BasisSolvesSaid : Prop := basisSolvesRow.holds Tryz.pinned (OpenSpec.ofChange basisSolvesSpec)

/-- ITS FALSE NEIGHBOUR: 'it returns false'. Refute it at one input. -/
def basisSolvesWrong : ChangeSpec := { name := "basisSolves", fn := fun _ => fun
  | [d1, d2, d3] => { results := [.lit (.bool false)], args := [d1, d2, d3] }
  | _ => none }
def BasisSolvesWrongFalsely : Prop := basisSolvesRow.holds Tryz.pinned (OpenSpec.ofChange basisSolvesWrong)

/-- 'pairinglaw4.BasisProduct': WHATEVER THE INPUT: true; the input reads as it did. -/
def basisProductSpec : ChangeSpec := { name := "basisProduct", fn := fun _ => fun
  | [d1, d2, d3] => { results := [.lit (.bool true)], args := [d1, d2, d3] }
  | _ => none }
def basisProductRow : OpenClaim := { program := "ytidgdpkcloaheaagreat", sum := "5d17524196b132d30ae78b1ca6c2dba7c377fbb221040f644f026d8c0e4917d9", func := "pairing/pairinglaw4.BasisProduct", spec := "basisProduct", unfollowed := true, recurses := true, apart := false }
def BasisProductSaid : Prop := basisProductRow.holds Tryz.pinned (OpenSpec.ofChange basisProductSpec)

/-- ITS FALSE NEIGHBOUR: 'it returns false'. Refute it at one input. -/
def basisProductWrong : ChangeSpec := { name := "basisProduct", fn := fun _ => fun
  | [d1, d2, d3] => { results := [.lit (.bool false)], args := [d1, d2, d3] }
  | _ => none }
def BasisProductWrongFalsely : Prop := basisProductRow.holds Tryz.pinned (OpenSpec.ofChange basisProductWrong)

/-- 'pairinglaw4.BasisDual': WHATEVER THE INPUT: true; the input reads as it did. -/
def basisDualSpec : ChangeSpec := { name := "basisDual", fn := fun _ => fun
  | [d1, d2, d3, d4] => { results := [.lit (.bool true)], args := [d1, d2, d3, d4] }
  | _ => none }
def basisDualRow : OpenClaim := { program := "ytidgdpkcloaheaagreat", sum := "5d17524196b132d30ae78b1ca6c2dba7c377fbb221040f644f026d8c0e4917d9", func := "pairing/pairinglaw4.BasisDual", spec := "basisDual", unfollowed := true, recurses := true, apart := false }
def BasisDualSaid : Prop := basisDualRow.holds Tryz.pinned (OpenSpec.ofChange basisDualSpec)

/-- ITS FALSE NEIGHBOUR: 'it returns false'. Refute it at one input. -/
def basisDualWrong : ChangeSpec := { name := "basisDual", fn := fun _ => fun
  | [d1, d2, d3, d4] => { results := [.lit (.bool false)], args := [d1, d2, d3, d4] }
  | _ => none }
def BasisDualWrongFalsely : Prop := basisDualRow.holds Tryz.pinned (OpenSpec.ofChange basisDualWrong)

/-- 'pairinglaw4.BasisReplaces': WHATEVER THE INPUT: true; the input reads as it did. -/
def basisReplacesSpec : ChangeSpec := { name := "basisReplaces", fn := fun _ => fun
  | [d1, d2, d3, d4] => { results := [.lit (.bool true)], args := [d1, d2, d3, d4] }
  | _ => none }
def basisReplacesRow : OpenClaim := { program := "ytidgdpkcloaheaagreat", sum := "5d17524196b132d30ae78b1ca6c2dba7c377fbb221040f644f026d8c0e4917d9", func := "pairing/pairinglaw4.BasisReplaces", spec := "basisReplaces", unfollowed := true, recurses := true, apart := false }
def BasisReplacesSaid : Prop := basisReplacesRow.holds Tryz.pinned (OpenSpec.ofChange basisReplacesSpec)

/-- ITS FALSE NEIGHBOUR: 'it returns false'. Refute it at one input. -/
def basisReplacesWrong : ChangeSpec := { name := "basisReplaces", fn := fun _ => fun
  | [d1, d2, d3, d4] => { results := [.lit (.bool false)], args := [d1, d2, d3, d4] }
  | _ => none }
def BasisReplacesWrongFalsely : Prop := basisReplacesRow.holds Tryz.pinned (OpenSpec.ofChange basisReplacesWrong)

/- THE SECOND FORM. 'bulk': how many values and letters a reading holds, each counted each time it is reached (what is shared counts as often as it is met; a slice's spare places count too). A statement '..UptoSaid' is the law's where the arguments, and the package variables that the reading takes, are together of bulk at most 1048576: NARROWER than '..Said'. Prove '..Said' where nothing that the law and all that it calls make is longer than what came in: it says more and counts as full. Else prove '..UptoSaid'. A law counts once. -/
mutual
def uptoBulk {H : Type} : DataW H → Nat
  | .lit (.string bytes) => bytes.length + 1
  | .lit _ => 1
  | .nil => 1
  | .ptr d => uptoBulk d + 1
  | .slice elems spare => uptoBulkAll elems + uptoBulkAll spare + 1
  | .agg parts => uptoBulkAll parts + 1
  | .iface _ d => uptoBulk d + 1
  | .map entries => uptoBulkEntries entries + 1
  | .held _ => 1
def uptoBulkAll {H : Type} : List (DataW H) → Nat
  | [] => 0
  | d :: r => uptoBulk d + uptoBulkAll r
def uptoBulkEntries {H : Type} : List (Lit × DataW H) → Nat
  | [] => 0
  | x :: r => uptoBulkEntry x + uptoBulkEntries r
def uptoBulkEntry {H : Type} : Lit × DataW H → Nat
  | (.string bytes, d) => bytes.length + uptoBulk d + 1
  | (_, d) => uptoBulk d + 1
 end
def uptoSmall : (H : Type) → List (DataW H) → Bool := fun _ ds => decide (uptoBulkAll ds ≤ 1048576)
def OpenSpec.upto (s : _root_.Go.ChangeSpec) : _root_.Go.OpenSpec := { _root_.Go.OpenSpec.ofChange s with cond := some uptoSmall }

/-- 'pairinglaw4.BasisCopies', WHERE WHAT IT READS IS OF BULK AT MOST 1048576: true; the input reads as it did. -/
def basisCopiesUptoRow : OpenClaim := { program := "ytidgdpkcloaheaagreat", sum := "5d17524196b132d30ae78b1ca6c2dba7c377fbb221040f644f026d8c0e4917d9", func := "pairing/pairinglaw4.BasisCopies", spec := "basisCopies", unfollowed := true, recurses := true, apart := false, narrowed := true }
def BasisCopiesUptoSaid : Prop := basisCopiesUptoRow.holds Tryz.pinned (OpenSpec.upto basisCopiesSpec)

/-- 'pairinglaw4.BasisFactors', WHERE WHAT IT READS IS OF BULK AT MOST 1048576: true; the input reads as it did. -/
def basisFactorsUptoRow : OpenClaim := { program := "ytidgdpkcloaheaagreat", sum := "5d17524196b132d30ae78b1ca6c2dba7c377fbb221040f644f026d8c0e4917d9", func := "pairing/pairinglaw4.BasisFactors", spec := "basisFactors", unfollowed := true, recurses := true, apart := false, narrowed := true }
def BasisFactorsUptoSaid : Prop := basisFactorsUptoRow.holds Tryz.pinned (OpenSpec.upto basisFactorsSpec)

/-- 'pairinglaw4.BasisMakes', WHERE WHAT IT READS IS OF BULK AT MOST 1048576: true; the input reads as it did. -/
def basisMakesUptoRow : OpenClaim := { program := "ytidgdpkcloaheaagreat", sum := "5d17524196b132d30ae78b1ca6c2dba7c377fbb221040f644f026d8c0e4917d9", func := "pairing/pairinglaw4.BasisMakes", spec := "basisMakes", unfollowed := true, recurses := true, apart := false, narrowed := true }
def BasisMakesUptoSaid : Prop := basisMakesUptoRow.holds Tryz.pinned (OpenSpec.upto basisMakesSpec)

/-- 'pairinglaw4.BasisSolves', WHERE WHAT IT READS IS OF BULK AT MOST 1048576: true; the input reads as it did. -/
def basisSolvesUptoRow : OpenClaim := { program := "ytidgdpkcloaheaagreat", sum := "5d17524196b132d30ae78b1ca6c2dba7c377fbb221040f644f026d8c0e4917d9", func := "pairing/pairinglaw4.BasisSolves", spec := "basisSolves", unfollowed := true, recurses := true, apart := false, narrowed := true }
def BasisSolvesUptoSaid : Prop := basisSolvesUptoRow.holds Tryz.pinned (OpenSpec.upto basisSolvesSpec)

/-- 'pairinglaw4.BasisProduct', WHERE WHAT IT READS IS OF BULK AT MOST 1048576: true; the input reads as it did. -/
def basisProductUptoRow : OpenClaim := { program := "ytidgdpkcloaheaagreat", sum := "5d17524196b132d30ae78b1ca6c2dba7c377fbb221040f644f026d8c0e4917d9", func := "pairing/pairinglaw4.BasisProduct", spec := "basisProduct", unfollowed := true, recurses := true, apart := false, narrowed := true }
def BasisProductUptoSaid : Prop := basisProductUptoRow.holds Tryz.pinned (OpenSpec.upto basisProductSpec)

/-- 'pairinglaw4.BasisDual', WHERE WHAT IT READS IS OF BULK AT MOST 1048576: true; the input reads as it did. -/
def basisDualUptoRow : OpenClaim := { program := "ytidgdpkcloaheaagreat", sum := "5d17524196b132d30ae78b1ca6c2dba7c377fbb221040f644f026d8c0e4917d9", func := "pairing/pairinglaw4.BasisDual", spec := "basisDual", unfollowed := true, recurses := true, apart := false, narrowed := true }
def BasisDualUptoSaid : Prop := basisDualUptoRow.holds Tryz.pinned (OpenSpec.upto basisDualSpec)

/-- 'pairinglaw4.BasisReplaces', WHERE WHAT IT READS IS OF BULK AT MOST 1048576: true; the input reads as it did. -/
def basisReplacesUptoRow : OpenClaim := { program := "ytidgdpkcloaheaagreat", sum := "5d17524196b132d30ae78b1ca6c2dba7c377fbb221040f644f026d8c0e4917d9", func := "pairing/pairinglaw4.BasisReplaces", spec := "basisReplaces", unfollowed := true, recurses := true, apart := false, narrowed := true }
def BasisReplacesUptoSaid : Prop := basisReplacesUptoRow.holds Tryz.pinned (OpenSpec.upto basisReplacesSpec)

end Rows
end Go.Proofs.YtidgdpkcloaheaaGreat
