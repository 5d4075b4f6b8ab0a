/-
  No cell of these rows narrows 'for every input' (looked for: loops, veiled, ifaces, maps, wideKeys, modest, calm, conditions, laid).
  DERIVED. THE GIVEN ROWS OF THIS SEAT. 12 by the template 'for every input the law returns true; each argument reads behind the call as it read before'; 0 by the template 'total and deterministic' (their statements: YtncmobkhenfhpaaGreatTotals.lean).
  GIVEN WITH THE SEED: the statements are not yours to turn. If you find one false, say at which input.
  Laid BY PROGRAM, IN A SANDBOX (cutbox-rows.mjs): the forced cells as the released guide's own fill.sh prints them over the translation 9739b337f2670bf4… (all of the seat's roots in one cut). By AI agents, Wed Nov 11 2026. No macro, syntax, notation, axiom, sorry.
-/
import Derived.Test.YtncmobkhenfhpaaGreatChecked
import GoSem.Claim
import GoSem.ClaimJoined
import GoSem.ClaimMapViews
import Derived.JoinedTies
import Derived.KernelRfl
namespace Go.Proofs.YtncmobkhenfhpaaGreat
/- THE CELL 'sum', in the pinned program and in every row, IS THE sha256 OF THE DUMP (.gsa) THAT YtncmobkhenfhpaaGreatProg.lean LOADS. Nothing in Lean hashes anything: it is a label: what it is worth is what the hold of that sum in a sandbox is worth. -/
noncomputable def Tryz.pinned : Pinned := { name := "ytncmobkhenfhpaagreat", sum := "9739b337f2670bf491b988841634a719d6bc2e8e8a5563424a850cdb4214280b", checked := Tryz.checked }
namespace Rows
def none {H : Type} : Left H := { results := [], args := [] }

/-- 'pairinglaw25.SimplexRuns': WHATEVER THE INPUT: true; the input reads as it did. -/
def simplexRunsSpec : ChangeSpec := { name := "simplexRuns", fn := fun _ => fun
  | [d1, d2] => { results := [.lit (.bool true)], args := [d1, d2] }
  | _ => none }
def simplexRunsRow : OpenClaim := { program := "ytncmobkhenfhpaagreat", sum := "9739b337f2670bf491b988841634a719d6bc2e8e8a5563424a850cdb4214280b", func := "pairing/pairinglaw25.SimplexRuns", spec := "simplexRuns", unfollowed := true, recurses := true, apart := false }
def SimplexRunsSaid : Prop := simplexRunsRow.holds Tryz.pinned (OpenSpec.ofChange simplexRunsSpec)

/-- ITS FALSE NEIGHBOUR: 'it returns false'. Refute it at one input. -/
def simplexRunsWrong : ChangeSpec := { name := "simplexRuns", fn := fun _ => fun
  | [d1, d2] => { results := [.lit (.bool false)], args := [d1, d2] }
  | _ => none }
def SimplexRunsWrongFalsely : Prop := simplexRunsRow.holds Tryz.pinned (OpenSpec.ofChange simplexRunsWrong)

/-- 'pairinglaw25.SimplexResumes': WHATEVER THE INPUT: true; the input reads as it did. -/
def simplexResumesSpec : ChangeSpec := { name := "simplexResumes", fn := fun _ => fun
  | [d1, d2, d3] => { results := [.lit (.bool true)], args := [d1, d2, d3] }
  | _ => none }
def simplexResumesRow : OpenClaim := { program := "ytncmobkhenfhpaagreat", sum := "9739b337f2670bf491b988841634a719d6bc2e8e8a5563424a850cdb4214280b", func := "pairing/pairinglaw25.SimplexResumes", spec := "simplexResumes", unfollowed := true, recurses := true, apart := false }
def SimplexResumesSaid : Prop := simplexResumesRow.holds Tryz.pinned (OpenSpec.ofChange simplexResumesSpec)

/-- ITS FALSE NEIGHBOUR: 'it returns false'. Refute it at one input. -/
def simplexResumesWrong : ChangeSpec := { name := "simplexResumes", fn := fun _ => fun
  | [d1, d2, d3] => { results := [.lit (.bool false)], args := [d1, d2, d3] }
  | _ => none }
def SimplexResumesWrongFalsely : Prop := simplexResumesRow.holds Tryz.pinned (OpenSpec.ofChange simplexResumesWrong)

/-- 'pairinglaw25.SimplexEnds': WHATEVER THE INPUT: true; the input reads as it did. -/
def simplexEndsSpec : ChangeSpec := { name := "simplexEnds", fn := fun _ => fun
  | [d1, d2] => { results := [.lit (.bool true)], args := [d1, d2] }
  | _ => none }
def simplexEndsRow : OpenClaim := { program := "ytncmobkhenfhpaagreat", sum := "9739b337f2670bf491b988841634a719d6bc2e8e8a5563424a850cdb4214280b", func := "pairing/pairinglaw25.SimplexEnds", spec := "simplexEnds", unfollowed := true, recurses := true, apart := false }
def SimplexEndsSaid : Prop := simplexEndsRow.holds Tryz.pinned (OpenSpec.ofChange simplexEndsSpec)

/-- ITS FALSE NEIGHBOUR: 'it returns false'. Refute it at one input. -/
def simplexEndsWrong : ChangeSpec := { name := "simplexEnds", fn := fun _ => fun
  | [d1, d2] => { results := [.lit (.bool false)], args := [d1, d2] }
  | _ => none }
def SimplexEndsWrongFalsely : Prop := simplexEndsRow.holds Tryz.pinned (OpenSpec.ofChange simplexEndsWrong)

/-- 'pairinglaw25.SimplexOptimum': WHATEVER THE INPUT: true; the input reads as it did. -/
def simplexOptimumSpec : ChangeSpec := { name := "simplexOptimum", fn := fun _ => fun
  | [d] => { results := [.lit (.bool true)], args := [d] }
  | _ => none }
def simplexOptimumRow : OpenClaim := { program := "ytncmobkhenfhpaagreat", sum := "9739b337f2670bf491b988841634a719d6bc2e8e8a5563424a850cdb4214280b", func := "pairing/pairinglaw25.SimplexOptimum", spec := "simplexOptimum", unfollowed := true, recurses := true, apart := false }
def SimplexOptimumSaid : Prop := simplexOptimumRow.holds Tryz.pinned (OpenSpec.ofChange simplexOptimumSpec)

/-- ITS FALSE NEIGHBOUR: 'it returns false'. Refute it at one input. -/
def simplexOptimumWrong : ChangeSpec := { name := "simplexOptimum", fn := fun _ => fun
  | [d] => { results := [.lit (.bool false)], args := [d] }
  | _ => none }
def SimplexOptimumWrongFalsely : Prop := simplexOptimumRow.holds Tryz.pinned (OpenSpec.ofChange simplexOptimumWrong)

/-- 'pairinglaw25.SimplexInfeasible': WHATEVER THE INPUT: true; the input reads as it did. -/
def simplexInfeasibleSpec : ChangeSpec := { name := "simplexInfeasible", fn := fun _ => fun
  | [d] => { results := [.lit (.bool true)], args := [d] }
  | _ => none }
def simplexInfeasibleRow : OpenClaim := { program := "ytncmobkhenfhpaagreat", sum := "9739b337f2670bf491b988841634a719d6bc2e8e8a5563424a850cdb4214280b", func := "pairing/pairinglaw25.SimplexInfeasible", spec := "simplexInfeasible", unfollowed := true, recurses := true, apart := false }
def SimplexInfeasibleSaid : Prop := simplexInfeasibleRow.holds Tryz.pinned (OpenSpec.ofChange simplexInfeasibleSpec)

/-- ITS FALSE NEIGHBOUR: 'it returns false'. Refute it at one input. -/
def simplexInfeasibleWrong : ChangeSpec := { name := "simplexInfeasible", fn := fun _ => fun
  | [d] => { results := [.lit (.bool false)], args := [d] }
  | _ => none }
def SimplexInfeasibleWrongFalsely : Prop := simplexInfeasibleRow.holds Tryz.pinned (OpenSpec.ofChange simplexInfeasibleWrong)

/-- 'pairinglaw25.SimplexScales': WHATEVER THE INPUT: true; the input reads as it did. -/
def simplexScalesSpec : ChangeSpec := { name := "simplexScales", fn := fun _ => fun
  | [d1, d2, d3] => { results := [.lit (.bool true)], args := [d1, d2, d3] }
  | _ => none }
def simplexScalesRow : OpenClaim := { program := "ytncmobkhenfhpaagreat", sum := "9739b337f2670bf491b988841634a719d6bc2e8e8a5563424a850cdb4214280b", func := "pairing/pairinglaw25.SimplexScales", spec := "simplexScales", unfollowed := true, recurses := true, apart := false }
def SimplexScalesSaid : Prop := simplexScalesRow.holds Tryz.pinned (OpenSpec.ofChange simplexScalesSpec)

/-- ITS FALSE NEIGHBOUR: 'it returns false'. Refute it at one input. -/
def simplexScalesWrong : ChangeSpec := { name := "simplexScales", fn := fun _ => fun
  | [d1, d2, d3] => { results := [.lit (.bool false)], args := [d1, d2, d3] }
  | _ => none }
def SimplexScalesWrongFalsely : Prop := simplexScalesRow.holds Tryz.pinned (OpenSpec.ofChange simplexScalesWrong)

/-- 'pairinglaw25.SimplexImproves': WHATEVER THE INPUT: true; the input reads as it did. -/
def simplexImprovesSpec : ChangeSpec := { name := "simplexImproves", fn := fun _ => fun
  | [d1, d2] => { results := [.lit (.bool true)], args := [d1, d2] }
  | _ => none }
def simplexImprovesRow : OpenClaim := { program := "ytncmobkhenfhpaagreat", sum := "9739b337f2670bf491b988841634a719d6bc2e8e8a5563424a850cdb4214280b", func := "pairing/pairinglaw25.SimplexImproves", spec := "simplexImproves", unfollowed := true, recurses := true, apart := false }
def SimplexImprovesSaid : Prop := simplexImprovesRow.holds Tryz.pinned (OpenSpec.ofChange simplexImprovesSpec)

/-- ITS FALSE NEIGHBOUR: 'it returns false'. Refute it at one input. -/
def simplexImprovesWrong : ChangeSpec := { name := "simplexImproves", fn := fun _ => fun
  | [d1, d2] => { results := [.lit (.bool false)], args := [d1, d2] }
  | _ => none }
def SimplexImprovesWrongFalsely : Prop := simplexImprovesRow.holds Tryz.pinned (OpenSpec.ofChange simplexImprovesWrong)

/-- 'pairinglaw25.SimplexErrors': WHATEVER THE INPUT: true; the input reads as it did. -/
def simplexErrorsSpec : ChangeSpec := { name := "simplexErrors", fn := fun _ => fun
  | [d] => { results := [.lit (.bool true)], args := [d] }
  | _ => none }
def simplexErrorsRow : OpenClaim := { program := "ytncmobkhenfhpaagreat", sum := "9739b337f2670bf491b988841634a719d6bc2e8e8a5563424a850cdb4214280b", func := "pairing/pairinglaw25.SimplexErrors", spec := "simplexErrors", unfollowed := true, recurses := true, apart := false }
def SimplexErrorsSaid : Prop := simplexErrorsRow.holds Tryz.pinned (OpenSpec.ofChange simplexErrorsSpec)

/-- ITS FALSE NEIGHBOUR: 'it returns false'. Refute it at one input. -/
def simplexErrorsWrong : ChangeSpec := { name := "simplexErrors", fn := fun _ => fun
  | [d] => { results := [.lit (.bool false)], args := [d] }
  | _ => none }
def SimplexErrorsWrongFalsely : Prop := simplexErrorsRow.holds Tryz.pinned (OpenSpec.ofChange simplexErrorsWrong)

/-- 'pairinglaw25.SimplexLimits': WHATEVER THE INPUT: true; the input reads as it did. -/
def simplexLimitsSpec : ChangeSpec := { name := "simplexLimits", fn := fun _ => fun
  | [] => { results := [.lit (.bool true)], args := [] }
  | _ => none }
def simplexLimitsRow : OpenClaim := { program := "ytncmobkhenfhpaagreat", sum := "9739b337f2670bf491b988841634a719d6bc2e8e8a5563424a850cdb4214280b", func := "pairing/pairinglaw25.SimplexLimits", spec := "simplexLimits", unfollowed := true, recurses := true, apart := false }
def SimplexLimitsSaid : Prop := simplexLimitsRow.holds Tryz.pinned (OpenSpec.ofChange simplexLimitsSpec)

/-- ITS FALSE NEIGHBOUR: 'it returns false'. Refute it at one input. -/
def simplexLimitsWrong : ChangeSpec := { name := "simplexLimits", fn := fun _ => fun
  | [] => { results := [.lit (.bool false)], args := [] }
  | _ => none }
def SimplexLimitsWrongFalsely : Prop := simplexLimitsRow.holds Tryz.pinned (OpenSpec.ofChange simplexLimitsWrong)

/-- 'pairinglaw25.SimplexStates': WHATEVER THE INPUT: true; the input reads as it did. -/
def simplexStatesSpec : ChangeSpec := { name := "simplexStates", fn := fun _ => fun
  | [d1, d2, d3] => { results := [.lit (.bool true)], args := [d1, d2, d3] }
  | _ => none }
def simplexStatesRow : OpenClaim := { program := "ytncmobkhenfhpaagreat", sum := "9739b337f2670bf491b988841634a719d6bc2e8e8a5563424a850cdb4214280b", func := "pairing/pairinglaw25.SimplexStates", spec := "simplexStates", unfollowed := true, recurses := true, apart := false }
def SimplexStatesSaid : Prop := simplexStatesRow.holds Tryz.pinned (OpenSpec.ofChange simplexStatesSpec)

/-- ITS FALSE NEIGHBOUR: 'it returns false'. Refute it at one input. -/
def simplexStatesWrong : ChangeSpec := { name := "simplexStates", fn := fun _ => fun
  | [d1, d2, d3] => { results := [.lit (.bool false)], args := [d1, d2, d3] }
  | _ => none }
def SimplexStatesWrongFalsely : Prop := simplexStatesRow.holds Tryz.pinned (OpenSpec.ofChange simplexStatesWrong)

/-- 'pairinglaw25.SimplexDuality': WHATEVER THE INPUT: true; the input reads as it did. -/
def simplexDualitySpec : ChangeSpec := { name := "simplexDuality", fn := fun _ => fun
  | [d1, d2] => { results := [.lit (.bool true)], args := [d1, d2] }
  | _ => none }
def simplexDualityRow : OpenClaim := { program := "ytncmobkhenfhpaagreat", sum := "9739b337f2670bf491b988841634a719d6bc2e8e8a5563424a850cdb4214280b", func := "pairing/pairinglaw25.SimplexDuality", spec := "simplexDuality", unfollowed := true, recurses := true, apart := false }
def SimplexDualitySaid : Prop := simplexDualityRow.holds Tryz.pinned (OpenSpec.ofChange simplexDualitySpec)

/-- ITS FALSE NEIGHBOUR: 'it returns false'. Refute it at one input. -/
def simplexDualityWrong : ChangeSpec := { name := "simplexDuality", fn := fun _ => fun
  | [d1, d2] => { results := [.lit (.bool false)], args := [d1, d2] }
  | _ => none }
def SimplexDualityWrongFalsely : Prop := simplexDualityRow.holds Tryz.pinned (OpenSpec.ofChange simplexDualityWrong)

/-- 'pairinglaw25.SimplexValues': WHATEVER THE INPUT: true; the input reads as it did. -/
def simplexValuesSpec : ChangeSpec := { name := "simplexValues", fn := fun _ => fun
  | [d1, d2] => { results := [.lit (.bool true)], args := [d1, d2] }
  | _ => none }
def simplexValuesRow : OpenClaim := { program := "ytncmobkhenfhpaagreat", sum := "9739b337f2670bf491b988841634a719d6bc2e8e8a5563424a850cdb4214280b", func := "pairing/pairinglaw25.SimplexValues", spec := "simplexValues", unfollowed := true, recurses := true, apart := false }
def SimplexValuesSaid : Prop := simplexValuesRow.holds Tryz.pinned (OpenSpec.ofChange simplexValuesSpec)

/-- ITS FALSE NEIGHBOUR: 'it returns false'. Refute it at one input. -/
def simplexValuesWrong : ChangeSpec := { name := "simplexValues", fn := fun _ => fun
  | [d1, d2] => { results := [.lit (.bool false)], args := [d1, d2] }
  | _ => none }
def SimplexValuesWrongFalsely : Prop := simplexValuesRow.holds Tryz.pinned (OpenSpec.ofChange simplexValuesWrong)

/- THE SECOND FORM. 'bulk': how many values and letters a reading holds, each counted each time it is reached (what is shared counts as often as it is met; a slice's spare places count too). A statement '..UptoSaid' is the law's where the arguments, and the package variables that the reading takes, are together of bulk at most 1048576: NARROWER than '..Said'. Prove '..Said' where nothing that the law and all that it calls make is longer than what came in: it says more and counts as full. Else prove '..UptoSaid'. A law counts once. -/
mutual
def uptoBulk {H : Type} : DataW H → Nat
  | .lit (.string bytes) => bytes.length + 1
  | .lit _ => 1
  | .nil => 1
  | .ptr d => uptoBulk d + 1
  | .slice elems spare => uptoBulkAll elems + uptoBulkAll spare + 1
  | .agg parts => uptoBulkAll parts + 1
  | .iface _ d => uptoBulk d + 1
  | .map entries => uptoBulkEntries entries + 1
  | .held _ => 1
def uptoBulkAll {H : Type} : List (DataW H) → Nat
  | [] => 0
  | d :: r => uptoBulk d + uptoBulkAll r
def uptoBulkEntries {H : Type} : List (Lit × DataW H) → Nat
  | [] => 0
  | x :: r => uptoBulkEntry x + uptoBulkEntries r
def uptoBulkEntry {H : Type} : Lit × DataW H → Nat
  | (.string bytes, d) => bytes.length + uptoBulk d + 1
  | (_, d) => uptoBulk d + 1
 end
def uptoSmall : (H : Type) → List (DataW H) → Bool := fun _ ds => decide (uptoBulkAll ds ≤ 1048576)
def OpenSpec.upto (s : _root_.Go.ChangeSpec) : _root_.Go.OpenSpec := { _root_.Go.OpenSpec.ofChange s with cond := some uptoSmall }

/-- 'pairinglaw25.SimplexRuns', WHERE WHAT IT READS IS OF BULK AT MOST 1048576: true; the input reads as it did. -/
def simplexRunsUptoRow : OpenClaim := { program := "ytncmobkhenfhpaagreat", sum := "9739b337f2670bf491b988841634a719d6bc2e8e8a5563424a850cdb4214280b", func := "pairing/pairinglaw25.SimplexRuns", spec := "simplexRuns", unfollowed := true, recurses := true, apart := false, narrowed := true }
def SimplexRunsUptoSaid : Prop := simplexRunsUptoRow.holds Tryz.pinned (OpenSpec.upto simplexRunsSpec)

/-- 'pairinglaw25.SimplexResumes', WHERE WHAT IT READS IS OF BULK AT MOST 1048576: true; the input reads as it did. -/
def simplexResumesUptoRow : OpenClaim := { program := "ytncmobkhenfhpaagreat", sum := "9739b337f2670bf491b988841634a719d6bc2e8e8a5563424a850cdb4214280b", func := "pairing/pairinglaw25.SimplexResumes", spec := "simplexResumes", unfollowed := true, recurses := true, apart := false, narrowed := true }
def SimplexResumesUptoSaid : Prop := simplexResumesUptoRow.holds Tryz.pinned (OpenSpec.upto simplexResumesSpec)

/-- 'pairinglaw25.SimplexEnds', WHERE WHAT IT READS IS OF BULK AT MOST 1048576: true; the input reads as it did. -/
def simplexEndsUptoRow : OpenClaim := { program := "ytncmobkhenfhpaagreat", sum := "9739b337f2670bf491b988841634a719d6bc2e8e8a5563424a850cdb4214280b", func := "pairing/pairinglaw25.SimplexEnds", spec := "simplexEnds", unfollowed := true, recurses := true, apart := false, narrowed := true }
def SimplexEndsUptoSaid : Prop := simplexEndsUptoRow.holds Tryz.pinned (OpenSpec.upto simplexEndsSpec)

/-- 'pairinglaw25.SimplexOptimum', WHERE WHAT IT READS IS OF BULK AT MOST 1048576: true; the input reads as it did. -/
def simplexOptimumUptoRow : OpenClaim := { program := "ytncmobkhenfhpaagreat", sum := "9739b337f2670bf491b988841634a719d6bc2e8e8a5563424a850cdb4214280b", func := "pairing/pairinglaw25.SimplexOptimum", spec := "simplexOptimum", unfollowed := true, recurses := true, apart := false, narrowed := true }
def SimplexOptimumUptoSaid : Prop := simplexOptimumUptoRow.holds Tryz.pinned (OpenSpec.upto simplexOptimumSpec)

/-- 'pairinglaw25.SimplexInfeasible', WHERE WHAT IT READS IS OF BULK AT MOST 1048576: true; the input reads as it did. -/
def simplexInfeasibleUptoRow : OpenClaim := { program := "ytncmobkhenfhpaagreat", sum := "9739b337f2670bf491b988841634a719d6bc2e8e8a5563424a850cdb4214280b", func := "pairing/pairinglaw25.SimplexInfeasible", spec := "simplexInfeasible", unfollowed := true, recurses := true, apart := false, narrowed := true }
def SimplexInfeasibleUptoSaid : Prop := simplexInfeasibleUptoRow.holds Tryz.pinned (OpenSpec.upto simplexInfeasibleSpec)

/-- 'pairinglaw25.SimplexScales', WHERE WHAT IT READS IS OF BULK AT MOST 1048576: true; the input reads as it did. -/
def simplexScalesUptoRow : OpenClaim := { program := "ytncmobkhenfhpaagreat", sum := "9739b337f2670bf491b988841634a719d6bc2e8e8a5563424a850cdb4214280b", func := "pairing/pairinglaw25.SimplexScales", spec := "simplexScales", unfollowed := true, recurses := true, apart := false, narrowed := true }
def SimplexScalesUptoSaid : Prop := simplexScalesUptoRow.holds Tryz.pinned (OpenSpec.upto simplexScalesSpec)

/-- 'pairinglaw25.SimplexImproves', WHERE WHAT IT READS IS OF BULK AT MOST 1048576: true; the input reads as it did. -/
def simplexImprovesUptoRow : OpenClaim := { program := "ytncmobkhenfhpaagreat", sum := "9739b337f2670bf491b988841634a719d6bc2e8e8a5563424a850cdb4214280b", func := "pairing/pairinglaw25.SimplexImproves", spec := "simplexImproves", unfollowed := true, recurses := true, apart := false, narrowed := true }
def SimplexImprovesUptoSaid : Prop := simplexImprovesUptoRow.holds Tryz.pinned (OpenSpec.upto simplexImprovesSpec)

/-- 'pairinglaw25.SimplexErrors', WHERE WHAT IT READS IS OF BULK AT MOST 1048576: true; the input reads as it did. -/
def simplexErrorsUptoRow : OpenClaim := { program := "ytncmobkhenfhpaagreat", sum := "9739b337f2670bf491b988841634a719d6bc2e8e8a5563424a850cdb4214280b", func := "pairing/pairinglaw25.SimplexErrors", spec := "simplexErrors", unfollowed := true, recurses := true, apart := false, narrowed := true }
def SimplexErrorsUptoSaid : Prop := simplexErrorsUptoRow.holds Tryz.pinned (OpenSpec.upto simplexErrorsSpec)

/-- 'pairinglaw25.SimplexLimits', WHERE WHAT IT READS IS OF BULK AT MOST 1048576: true; the input reads as it did. -/
def simplexLimitsUptoRow : OpenClaim := { program := "ytncmobkhenfhpaagreat", sum := "9739b337f2670bf491b988841634a719d6bc2e8e8a5563424a850cdb4214280b", func := "pairing/pairinglaw25.SimplexLimits", spec := "simplexLimits", unfollowed := true, recurses := true, apart := false, narrowed := true }
def SimplexLimitsUptoSaid : Prop := simplexLimitsUptoRow.holds Tryz.pinned (OpenSpec.upto simplexLimitsSpec)

/-- 'pairinglaw25.SimplexStates', WHERE WHAT IT READS IS OF BULK AT MOST 1048576: true; the input reads as it did. -/
def simplexStatesUptoRow : OpenClaim := { program := "ytncmobkhenfhpaagreat", sum := "9739b337f2670bf491b988841634a719d6bc2e8e8a5563424a850cdb4214280b", func := "pairing/pairinglaw25.SimplexStates", spec := "simplexStates", unfollowed := true, recurses := true, apart := false, narrowed := true }
def SimplexStatesUptoSaid : Prop := simplexStatesUptoRow.holds Tryz.pinned (OpenSpec.upto simplexStatesSpec)

/-- 'pairinglaw25.SimplexDuality', WHERE WHAT IT READS IS OF BULK AT MOST 1048576: true; the input reads as it did. -/
def simplexDualityUptoRow : OpenClaim := { program := "ytncmobkhenfhpaagreat", sum := "9739b337f2670bf491b988841634a719d6bc2e8e8a5563424a850cdb4214280b", func := "pairing/pairinglaw25.SimplexDuality", spec := "simplexDuality", unfollowed := true, recurses := true, apart := false, narrowed := true }
def SimplexDualityUptoSaid : Prop := simplexDualityUptoRow.holds Tryz.pinned (OpenSpec.upto simplexDualitySpec)

/-- 'pairinglaw25.SimplexValues', WHERE WHAT IT READS IS OF BULK AT MOST 1048576: true; the input reads as it did. -/
def simplexValuesUptoRow : OpenClaim := { program := "ytncmobkhenfhpaagreat", sum := "9739b337f2670bf491b988841634a719d6bc2e8e8a5563424a850cdb4214280b", func := "pairing/pairinglaw25.SimplexValues", spec := "simplexValues", unfollowed := true, recurses := true, apart := false, narrowed := true }
def SimplexValuesUptoSaid : Prop := simplexValuesUptoRow.holds Tryz.pinned (OpenSpec.upto simplexValuesSpec)

end Rows
end Go.Proofs.YtncmobkhenfhpaaGreat
