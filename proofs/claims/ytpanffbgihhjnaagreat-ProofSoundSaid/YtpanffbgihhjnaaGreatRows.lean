/-
  No cell of these rows narrows 'for every input' (looked for: loops, veiled, ifaces, maps, wideKeys, modest, calm, conditions, laid).
  DERIVED. THE GIVEN ROWS OF THIS SEAT. 4 by the template 'for every input the law returns true; each argument reads behind the call as it read before'; 0 by the template 'total and deterministic' (their statements: YtpanffbgihhjnaaGreatTotals.lean).
  GIVEN WITH THE SEED: the statements are not yours to turn. If you find one false, say at which input.
  Laid BY PROGRAM, IN A SANDBOX (cutbox-rows.mjs): the forced cells as the released guide's own fill.sh prints them over the translation 398efc14b74dea7b… (all of the seat's roots in one cut). By AI agents, Wed Nov 11 2026. No macro, syntax, notation, axiom, sorry.
-/
import Derived.Test.YtpanffbgihhjnaaGreatChecked
import GoSem.Claim
import GoSem.ClaimJoined
import GoSem.ClaimMapViews
import Derived.JoinedTies
import Derived.KernelRfl
namespace Go.Proofs.YtpanffbgihhjnaaGreat
/- THE CELL 'sum', in the pinned program and in every row, IS THE sha256 OF THE DUMP (.gsa) THAT YtpanffbgihhjnaaGreatProg.lean LOADS. Nothing in Lean hashes anything: it is a label: what it is worth is what the hold of that sum in a sandbox is worth. -/
noncomputable def Tryz.pinned : Pinned := { name := "ytpanffbgihhjnaagreat", sum := "398efc14b74dea7b16ebed9cf424a9600ef7c9884cc632d37ded669d9a6e9765", checked := Tryz.checked }
namespace Rows
def none {H : Type} : Left H := { results := [], args := [] }

/-- 'pairinglaw26.ProofVerify': WHATEVER THE INPUT: true; the input reads as it did. -/
def proofVerifySpec : ChangeSpec := { name := "proofVerify", fn := fun _ => fun
  | [d1, d2] => { results := [.lit (.bool true)], args := [d1, d2] }
  | _ => none }
def proofVerifyRow : OpenClaim := { program := "ytpanffbgihhjnaagreat", sum := "398efc14b74dea7b16ebed9cf424a9600ef7c9884cc632d37ded669d9a6e9765", func := "pairing/pairinglaw26.ProofVerify", spec := "proofVerify", unfollowed := true, recurses := true, apart := false }
def ProofVerifySaid : Prop := proofVerifyRow.holds Tryz.pinned (OpenSpec.ofChange proofVerifySpec)

/-- ITS FALSE NEIGHBOUR: 'it returns false'. Refute it at one input. -/
def proofVerifyWrong : ChangeSpec := { name := "proofVerify", fn := fun _ => fun
  | [d1, d2] => { results := [.lit (.bool false)], args := [d1, d2] }
  | _ => none }
def ProofVerifyWrongFalsely : Prop := proofVerifyRow.holds Tryz.pinned (OpenSpec.ofChange proofVerifyWrong)

/-- 'pairinglaw26.ProofSound': WHATEVER THE INPUT: true; the input reads as it did. -/
def proofSoundSpec : ChangeSpec := { name := "proofSound", fn := fun _ => fun
  | [d1, d2] => { results := [.lit (.bool true)], args := [d1, d2] }
  | _ => none }
def proofSoundRow : OpenClaim := { program := "ytpanffbgihhjnaagreat", sum := "398efc14b74dea7b16ebed9cf424a9600ef7c9884cc632d37ded669d9a6e9765", func := "pairing/pairinglaw26.ProofSound", spec := "proofSound", unfollowed := true, recurses := true, apart := false }
def ProofSoundSaid : Prop := proofSoundRow.holds Tryz.pinned (OpenSpec.ofChange proofSoundSpec)

/-- ITS FALSE NEIGHBOUR: 'it returns false'. Refute it at one input. -/
def proofSoundWrong : ChangeSpec := { name := "proofSound", fn := fun _ => fun
  | [d1, d2] => { results := [.lit (.bool false)], args := [d1, d2] }
  | _ => none }
def ProofSoundWrongFalsely : Prop := proofSoundRow.holds Tryz.pinned (OpenSpec.ofChange proofSoundWrong)

/-- 'pairinglaw26.ProofBounds': WHATEVER THE INPUT: true; the input reads as it did. -/
def proofBoundsSpec : ChangeSpec := { name := "proofBounds", fn := fun _ => fun
  | [d1, d2] => { results := [.lit (.bool true)], args := [d1, d2] }
  | _ => none }
def proofBoundsRow : OpenClaim := { program := "ytpanffbgihhjnaagreat", sum := "398efc14b74dea7b16ebed9cf424a9600ef7c9884cc632d37ded669d9a6e9765", func := "pairing/pairinglaw26.ProofBounds", spec := "proofBounds", unfollowed := true, recurses := true, apart := false }
def ProofBoundsSaid : Prop := proofBoundsRow.holds Tryz.pinned (OpenSpec.ofChange proofBoundsSpec)

/-- ITS FALSE NEIGHBOUR: 'it returns false'. Refute it at one input. -/
def proofBoundsWrong : ChangeSpec := { name := "proofBounds", fn := fun _ => fun
  | [d1, d2] => { results := [.lit (.bool false)], args := [d1, d2] }
  | _ => none }
def ProofBoundsWrongFalsely : Prop := proofBoundsRow.holds Tryz.pinned (OpenSpec.ofChange proofBoundsWrong)

/-- 'pairinglaw26.ProofFeasible': WHATEVER THE INPUT: true; the input reads as it did. -/
def proofFeasibleSpec : ChangeSpec := { name := "proofFeasible", fn := fun _ => fun
  | [d1, d2, d3] => { results := [.lit (.bool true)], args := [d1, d2, d3] }
  | _ => none }
def proofFeasibleRow : OpenClaim := { program := "ytpanffbgihhjnaagreat", sum := "398efc14b74dea7b16ebed9cf424a9600ef7c9884cc632d37ded669d9a6e9765", func := "pairing/pairinglaw26.ProofFeasible", spec := "proofFeasible", unfollowed := true, recurses := true, apart := false }
def ProofFeasibleSaid : Prop := proofFeasibleRow.holds Tryz.pinned (OpenSpec.ofChange proofFeasibleSpec)

/-- ITS FALSE NEIGHBOUR: 'it returns false'. Refute it at one input. -/
def proofFeasibleWrong : ChangeSpec := { name := "proofFeasible", fn := fun _ => fun
  | [d1, d2, d3] => { results := [.lit (.bool false)], args := [d1, d2, d3] }
  | _ => none }
def ProofFeasibleWrongFalsely : Prop := proofFeasibleRow.holds Tryz.pinned (OpenSpec.ofChange proofFeasibleWrong)

/- THE SECOND FORM. 'bulk': how many values and letters a reading holds, each counted each time it is reached (what is shared counts as often as it is met; a slice's spare places count too). A statement '..UptoSaid' is the law's where the arguments, and the package variables that the reading takes, are together of bulk at most 1048576: NARROWER than '..Said'. Prove '..Said' where nothing that the law and all that it calls make is longer than what came in: it says more and counts as full. Else prove '..UptoSaid'. A law counts once. -/
mutual
def uptoBulk {H : Type} : DataW H → Nat
  | .lit (.string bytes) => bytes.length + 1
  | .lit _ => 1
  | .nil => 1
  | .ptr d => uptoBulk d + 1
  | .slice elems spare => uptoBulkAll elems + uptoBulkAll spare + 1
  | .agg parts => uptoBulkAll parts + 1
  | .iface _ d => uptoBulk d + 1
  | .map entries => uptoBulkEntries entries + 1
  | .held _ => 1
def uptoBulkAll {H : Type} : List (DataW H) → Nat
  | [] => 0
  | d :: r => uptoBulk d + uptoBulkAll r
def uptoBulkEntries {H : Type} : List (Lit × DataW H) → Nat
  | [] => 0
  | x :: r => uptoBulkEntry x + uptoBulkEntries r
def uptoBulkEntry {H : Type} : Lit × DataW H → Nat
  | (.string bytes, d) => bytes.length + uptoBulk d + 1
  | (_, d) => uptoBulk d + 1
 end
def uptoSmall : (H : Type) → List (DataW H) → Bool := fun _ ds => decide (uptoBulkAll ds ≤ 1048576)
def OpenSpec.upto (s : _root_.Go.ChangeSpec) : _root_.Go.OpenSpec := { _root_.Go.OpenSpec.ofChange s with cond := some uptoSmall }

/-- 'pairinglaw26.ProofVerify', WHERE WHAT IT READS IS OF BULK AT MOST 1048576: true; the input reads as it did. -/
def proofVerifyUptoRow : OpenClaim := { program := "ytpanffbgihhjnaagreat", sum := "398efc14b74dea7b16ebed9cf424a9600ef7c9884cc632d37ded669d9a6e9765", func := "pairing/pairinglaw26.ProofVerify", spec := "proofVerify", unfollowed := true, recurses := true, apart := false, narrowed := true }
def ProofVerifyUptoSaid : Prop := proofVerifyUptoRow.holds Tryz.pinned (OpenSpec.upto proofVerifySpec)

/-- 'pairinglaw26.ProofSound', WHERE WHAT IT READS IS OF BULK AT MOST 1048576: true; the input reads as it did. -/
def proofSoundUptoRow : OpenClaim := { program := "ytpanffbgihhjnaagreat", sum := "398efc14b74dea7b16ebed9cf424a9600ef7c9884cc632d37ded669d9a6e9765", func := "pairing/pairinglaw26.ProofSound", spec := "proofSound", unfollowed := true, recurses := true, apart := false, narrowed := true }
def ProofSoundUptoSaid : Prop := proofSoundUptoRow.holds Tryz.pinned (OpenSpec.upto proofSoundSpec)

/-- 'pairinglaw26.ProofBounds', WHERE WHAT IT READS IS OF BULK AT MOST 1048576: true; the input reads as it did. -/
def proofBoundsUptoRow : OpenClaim := { program := "ytpanffbgihhjnaagreat", sum := "398efc14b74dea7b16ebed9cf424a9600ef7c9884cc632d37ded669d9a6e9765", func := "pairing/pairinglaw26.ProofBounds", spec := "proofBounds", unfollowed := true, recurses := true, apart := false, narrowed := true }
def ProofBoundsUptoSaid : Prop := proofBoundsUptoRow.holds Tryz.pinned (OpenSpec.upto proofBoundsSpec)

/-- 'pairinglaw26.ProofFeasible', WHERE WHAT IT READS IS OF BULK AT MOST 1048576: true; the input reads as it did. -/
def proofFeasibleUptoRow : OpenClaim := { program := "ytpanffbgihhjnaagreat", sum := "398efc14b74dea7b16ebed9cf424a9600ef7c9884cc632d37ded669d9a6e9765", func := "pairing/pairinglaw26.ProofFeasible", spec := "proofFeasible", unfollowed := true, recurses := true, apart := false, narrowed := true }
def ProofFeasibleUptoSaid : Prop := proofFeasibleUptoRow.holds Tryz.pinned (OpenSpec.upto proofFeasibleSpec)

end Rows
end Go.Proofs.YtpanffbgihhjnaaGreat
