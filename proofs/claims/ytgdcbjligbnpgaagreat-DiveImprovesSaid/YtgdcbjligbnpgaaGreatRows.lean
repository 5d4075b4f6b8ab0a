/-
  No cell of these rows narrows 'for every input' (looked for: loops, veiled, ifaces, maps, wideKeys, modest, calm, conditions, laid).
  DERIVED. THE GIVEN ROWS OF THIS SEAT. 5 by the template 'for every input the law returns true; each argument reads behind the call as it read before'; 0 by the template 'total and deterministic' (their statements: YtgdcbjligbnpgaaGreatTotals.lean).
  GIVEN WITH THE SEED: the statements are not yours to turn. If you find one false, say at which input.
  Laid BY PROGRAM, IN A SANDBOX (cutbox-rows.mjs): the forced cells as the released guide's own fill.sh prints them over the translation 1d36901de4c97181… (all of the seat's roots in one cut). By AI agents, Wed Nov 11 2026. No macro, syntax, notation, axiom, sorry.
-/
import Derived.Test.YtgdcbjligbnpgaaGreatChecked
import GoSem.Claim
import GoSem.ClaimJoined
import GoSem.ClaimMapViews
import Derived.JoinedTies
import Derived.KernelRfl
namespace Go.Proofs.YtgdcbjligbnpgaaGreat
/- THE CELL 'sum', in the pinned program and in every row, IS THE sha256 OF THE DUMP (.gsa) THAT YtgdcbjligbnpgaaGreatProg.lean LOADS. Nothing in Lean hashes anything: it is a label: what it is worth is what the hold of that sum in a sandbox is worth. -/
noncomputable def Tryz.pinned : Pinned := { name := "ytgdcbjligbnpgaagreat", sum := "1d36901de4c97181161e8f3524e8a50a071b30110833bceaf29cea2ebc39ea95", checked := Tryz.checked }
namespace Rows
def none {H : Type} : Left H := { results := [], args := [] }

/-- 'pairinglaw33.DiveCosts': WHATEVER THE INPUT: true; the input reads as it did. -/
def diveCostsSpec : ChangeSpec := { name := "diveCosts", fn := fun _ => fun
  | [d1, d2, d3] => { results := [.lit (.bool true)], args := [d1, d2, d3] }
  | _ => none }
def diveCostsRow : OpenClaim := { program := "ytgdcbjligbnpgaagreat", sum := "1d36901de4c97181161e8f3524e8a50a071b30110833bceaf29cea2ebc39ea95", func := "pairing/pairinglaw33.DiveCosts", spec := "diveCosts", unfollowed := true, recurses := true, apart := false }
def DiveCostsSaid : Prop := diveCostsRow.holds Tryz.pinned (OpenSpec.ofChange diveCostsSpec)

/-- ITS FALSE NEIGHBOUR: 'it returns false'. Refute it at one input. -/
def diveCostsWrong : ChangeSpec := { name := "diveCosts", fn := fun _ => fun
  | [d1, d2, d3] => { results := [.lit (.bool false)], args := [d1, d2, d3] }
  | _ => none }
def DiveCostsWrongFalsely : Prop := diveCostsRow.holds Tryz.pinned (OpenSpec.ofChange diveCostsWrong)

/-- 'pairinglaw33.DiveGreedy': WHATEVER THE INPUT: true; the input reads as it did. -/
def diveGreedySpec : ChangeSpec := { name := "diveGreedy", fn := fun _ => fun
  | [d1, d2, d3] => { results := [.lit (.bool true)], args := [d1, d2, d3] }
  | _ => none }
def diveGreedyRow : OpenClaim := { program := "ytgdcbjligbnpgaagreat", sum := "1d36901de4c97181161e8f3524e8a50a071b30110833bceaf29cea2ebc39ea95", func := "pairing/pairinglaw33.DiveGreedy", spec := "diveGreedy", unfollowed := true, recurses := true, apart := false }
def DiveGreedySaid : Prop := diveGreedyRow.holds Tryz.pinned (OpenSpec.ofChange diveGreedySpec)

/-- ITS FALSE NEIGHBOUR: 'it returns false'. Refute it at one input. -/
def diveGreedyWrong : ChangeSpec := { name := "diveGreedy", fn := fun _ => fun
  | [d1, d2, d3] => { results := [.lit (.bool false)], args := [d1, d2, d3] }
  | _ => none }
def DiveGreedyWrongFalsely : Prop := diveGreedyRow.holds Tryz.pinned (OpenSpec.ofChange diveGreedyWrong)

/-- 'pairinglaw33.DiveImproves': WHATEVER THE INPUT: true; the input reads as it did. -/
def diveImprovesSpec : ChangeSpec := { name := "diveImproves", fn := fun _ => fun
  | [d1, d2, d3] => { results := [.lit (.bool true)], args := [d1, d2, d3] }
  | _ => none }
def diveImprovesRow : OpenClaim := { program := "ytgdcbjligbnpgaagreat", sum := "1d36901de4c97181161e8f3524e8a50a071b30110833bceaf29cea2ebc39ea95", func := "pairing/pairinglaw33.DiveImproves", spec := "diveImproves", unfollowed := true, recurses := true, apart := false }
def DiveImprovesSaid : Prop := diveImprovesRow.holds Tryz.pinned (OpenSpec.ofChange diveImprovesSpec)

/-- ITS FALSE NEIGHBOUR: 'it returns false'. Refute it at one input. -/
def diveImprovesWrong : ChangeSpec := { name := "diveImproves", fn := fun _ => fun
  | [d1, d2, d3] => { results := [.lit (.bool false)], args := [d1, d2, d3] }
  | _ => none }
def DiveImprovesWrongFalsely : Prop := diveImprovesRow.holds Tryz.pinned (OpenSpec.ofChange diveImprovesWrong)

/-- 'pairinglaw33.DiveBudgets': WHATEVER THE INPUT: true; the input reads as it did. -/
def diveBudgetsSpec : ChangeSpec := { name := "diveBudgets", fn := fun _ => fun
  | [d1, d2, d3, d4] => { results := [.lit (.bool true)], args := [d1, d2, d3, d4] }
  | _ => none }
def diveBudgetsRow : OpenClaim := { program := "ytgdcbjligbnpgaagreat", sum := "1d36901de4c97181161e8f3524e8a50a071b30110833bceaf29cea2ebc39ea95", func := "pairing/pairinglaw33.DiveBudgets", spec := "diveBudgets", unfollowed := true, recurses := true, apart := false }
def DiveBudgetsSaid : Prop := diveBudgetsRow.holds Tryz.pinned (OpenSpec.ofChange diveBudgetsSpec)

/-- ITS FALSE NEIGHBOUR: 'it returns false'. Refute it at one input. -/
def diveBudgetsWrong : ChangeSpec := { name := "diveBudgets", fn := fun _ => fun
  | [d1, d2, d3, d4] => { results := [.lit (.bool false)], args := [d1, d2, d3, d4] }
  | _ => none }
def DiveBudgetsWrongFalsely : Prop := diveBudgetsRow.holds Tryz.pinned (OpenSpec.ofChange diveBudgetsWrong)

/-- 'pairinglaw33.DiveRounds': WHATEVER THE INPUT: true; the input reads as it did. -/
def diveRoundsSpec : ChangeSpec := { name := "diveRounds", fn := fun _ => fun
  | [d1, d2] => { results := [.lit (.bool true)], args := [d1, d2] }
  | _ => none }
def diveRoundsRow : OpenClaim := { program := "ytgdcbjligbnpgaagreat", sum := "1d36901de4c97181161e8f3524e8a50a071b30110833bceaf29cea2ebc39ea95", func := "pairing/pairinglaw33.DiveRounds", spec := "diveRounds", unfollowed := true, recurses := true, apart := false }
def DiveRoundsSaid : Prop := diveRoundsRow.holds Tryz.pinned (OpenSpec.ofChange diveRoundsSpec)

/-- ITS FALSE NEIGHBOUR: 'it returns false'. Refute it at one input. -/
def diveRoundsWrong : ChangeSpec := { name := "diveRounds", fn := fun _ => fun
  | [d1, d2] => { results := [.lit (.bool false)], args := [d1, d2] }
  | _ => none }
def DiveRoundsWrongFalsely : Prop := diveRoundsRow.holds Tryz.pinned (OpenSpec.ofChange diveRoundsWrong)

/- THE SECOND FORM. 'bulk': how many values and letters a reading holds, each counted each time it is reached (what is shared counts as often as it is met; a slice's spare places count too). A statement '..UptoSaid' is the law's where the arguments, and the package variables that the reading takes, are together of bulk at most 1048576: NARROWER than '..Said'. Prove '..Said' where nothing that the law and all that it calls make is longer than what came in: it says more and counts as full. Else prove '..UptoSaid'. A law counts once. -/
mutual
def uptoBulk {H : Type} : DataW H → Nat
  | .lit (.string bytes) => bytes.length + 1
  | .lit _ => 1
  | .nil => 1
  | .ptr d => uptoBulk d + 1
  | .slice elems spare => uptoBulkAll elems + uptoBulkAll spare + 1
  | .agg parts => uptoBulkAll parts + 1
  | .iface _ d => uptoBulk d + 1
  | .map entries => uptoBulkEntries entries + 1
  | .held _ => 1
def uptoBulkAll {H : Type} : List (DataW H) → Nat
  | [] => 0
  | d :: r => uptoBulk d + uptoBulkAll r
def uptoBulkEntries {H : Type} : List (Lit × DataW H) → Nat
  | [] => 0
  | x :: r => uptoBulkEntry x + uptoBulkEntries r
def uptoBulkEntry {H : Type} : Lit × DataW H → Nat
  | (.string bytes, d) => bytes.length + uptoBulk d + 1
  | (_, d) => uptoBulk d + 1
 end
def uptoSmall : (H : Type) → List (DataW H) → Bool := fun _ ds => decide (uptoBulkAll ds ≤ 1048576)
def OpenSpec.upto (s : _root_.Go.ChangeSpec) : _root_.Go.OpenSpec := { _root_.Go.OpenSpec.ofChange s with cond := some uptoSmall }

/-- 'pairinglaw33.DiveCosts', WHERE WHAT IT READS IS OF BULK AT MOST 1048576: true; the input reads as it did. -/
def diveCostsUptoRow : OpenClaim := { program := "ytgdcbjligbnpgaagreat", sum := "1d36901de4c97181161e8f3524e8a50a071b30110833bceaf29cea2ebc39ea95", func := "pairing/pairinglaw33.DiveCosts", spec := "diveCosts", unfollowed := true, recurses := true, apart := false, narrowed := true }
def DiveCostsUptoSaid : Prop := diveCostsUptoRow.holds Tryz.pinned (OpenSpec.upto diveCostsSpec)

/-- 'pairinglaw33.DiveGreedy', WHERE WHAT IT READS IS OF BULK AT MOST 1048576: true; the input reads as it did. -/
def diveGreedyUptoRow : OpenClaim := { program := "ytgdcbjligbnpgaagreat", sum := "1d36901de4c97181161e8f3524e8a50a071b30110833bceaf29cea2ebc39ea95", func := "pairing/pairinglaw33.DiveGreedy", spec := "diveGreedy", unfollowed := true, recurses := true, apart := false, narrowed := true }
def DiveGreedyUptoSaid : Prop := diveGreedyUptoRow.holds Tryz.pinned (OpenSpec.upto diveGreedySpec)

/-- 'pairinglaw33.DiveImproves', WHERE WHAT IT READS IS OF BULK AT MOST 1048576: true; the input reads as it did. -/
def diveImprovesUptoRow : OpenClaim := { program := "ytgdcbjligbnpgaagreat", sum := "1d36901de4c97181161e8f3524e8a50a071b30110833bceaf29cea2ebc39ea95", func := "pairing/pairinglaw33.DiveImproves", spec := "diveImproves", unfollowed := true, recurses := true, apart := false, narrowed := true }
def DiveImprovesUptoSaid : Prop := diveImprovesUptoRow.holds Tryz.pinned (OpenSpec.upto diveImprovesSpec)

/-- 'pairinglaw33.DiveBudgets', WHERE WHAT IT READS IS OF BULK AT MOST 1048576: true; the input reads as it did. -/
def diveBudgetsUptoRow : OpenClaim := { program := "ytgdcbjligbnpgaagreat", sum := "1d36901de4c97181161e8f3524e8a50a071b30110833bceaf29cea2ebc39ea95", func := "pairing/pairinglaw33.DiveBudgets", spec := "diveBudgets", unfollowed := true, recurses := true, apart := false, narrowed := true }
def DiveBudgetsUptoSaid : Prop := diveBudgetsUptoRow.holds Tryz.pinned (OpenSpec.upto diveBudgetsSpec)

/-- 'pairinglaw33.DiveRounds', WHERE WHAT IT READS IS OF BULK AT MOST 1048576: true; the input reads as it did. -/
def diveRoundsUptoRow : OpenClaim := { program := "ytgdcbjligbnpgaagreat", sum := "1d36901de4c97181161e8f3524e8a50a071b30110833bceaf29cea2ebc39ea95", func := "pairing/pairinglaw33.DiveRounds", spec := "diveRounds", unfollowed := true, recurses := true, apart := false, narrowed := true }
def DiveRoundsUptoSaid : Prop := diveRoundsUptoRow.holds Tryz.pinned (OpenSpec.upto diveRoundsSpec)

end Rows
end Go.Proofs.YtgdcbjligbnpgaaGreat
