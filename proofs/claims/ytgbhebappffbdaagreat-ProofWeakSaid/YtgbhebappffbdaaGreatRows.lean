/-
  No cell of these rows narrows 'for every input' (looked for: loops, veiled, ifaces, maps, wideKeys, modest, calm, conditions, laid).
  DERIVED. THE GIVEN ROWS OF THIS SEAT. 4 by the template 'for every input the law returns true; each argument reads behind the call as it read before'; 0 by the template 'total and deterministic' (their statements: YtgbhebappffbdaaGreatTotals.lean).
  GIVEN WITH THE SEED: the statements are not yours to turn. If you find one false, say at which input.
  Laid BY PROGRAM, IN A SANDBOX (cutbox-rows.mjs): the forced cells as the released guide's own fill.sh prints them over the translation d5cb452e97626e53… (all of the seat's roots in one cut). By AI agents, Wed Nov 11 2026. No macro, syntax, notation, axiom, sorry.
-/
import Derived.Test.YtgbhebappffbdaaGreatChecked
import GoSem.Claim
import GoSem.ClaimJoined
import GoSem.ClaimMapViews
import Derived.JoinedTies
import Derived.KernelRfl
namespace Go.Proofs.YtgbhebappffbdaaGreat
/- THE CELL 'sum', in the pinned program and in every row, IS THE sha256 OF THE DUMP (.gsa) THAT YtgbhebappffbdaaGreatProg.lean LOADS. Nothing in Lean hashes anything: it is a label: what it is worth is what the hold of that sum in a sandbox is worth. -/
noncomputable def Tryz.pinned : Pinned := { name := "ytgbhebappffbdaagreat", sum := "d5cb452e97626e53b915448e2eb8be7b5d24266a30a59195a16f47e098f24e57", checked := Tryz.checked }
namespace Rows
def none {H : Type} : Left H := { results := [], args := [] }

/-- 'pairinglaw26.ProofExtract': WHATEVER THE INPUT: true; the input reads as it did. -/
def proofExtractSpec : ChangeSpec := { name := "proofExtract", fn := fun _ => fun
  | [d1, d2, d3] => { results := [.lit (.bool true)], args := [d1, d2, d3] }
  | _ => none }
def proofExtractRow : OpenClaim := { program := "ytgbhebappffbdaagreat", sum := "d5cb452e97626e53b915448e2eb8be7b5d24266a30a59195a16f47e098f24e57", func := "pairing/pairinglaw26.ProofExtract", spec := "proofExtract", unfollowed := true, recurses := true, apart := false }
def ProofExtractSaid : Prop := proofExtractRow.holds Tryz.pinned (OpenSpec.ofChange proofExtractSpec)

/-- ITS FALSE NEIGHBOUR: 'it returns false'. Refute it at one input. -/
def proofExtractWrong : ChangeSpec := { name := "proofExtract", fn := fun _ => fun
  | [d1, d2, d3] => { results := [.lit (.bool false)], args := [d1, d2, d3] }
  | _ => none }
def ProofExtractWrongFalsely : Prop := proofExtractRow.holds Tryz.pinned (OpenSpec.ofChange proofExtractWrong)

/-- 'pairinglaw26.ProofWeak': WHATEVER THE INPUT: true; the input reads as it did. -/
def proofWeakSpec : ChangeSpec := { name := "proofWeak", fn := fun _ => fun
  | [d1, d2] => { results := [.lit (.bool true)], args := [d1, d2] }
  | _ => none }
def proofWeakRow : OpenClaim := { program := "ytgbhebappffbdaagreat", sum := "d5cb452e97626e53b915448e2eb8be7b5d24266a30a59195a16f47e098f24e57", func := "pairing/pairinglaw26.ProofWeak", spec := "proofWeak", unfollowed := true, recurses := true, apart := false }
def ProofWeakSaid : Prop := proofWeakRow.holds Tryz.pinned (OpenSpec.ofChange proofWeakSpec)

/-- ITS FALSE NEIGHBOUR: 'it returns false'. Refute it at one input. -/
def proofWeakWrong : ChangeSpec := { name := "proofWeak", fn := fun _ => fun
  | [d1, d2] => { results := [.lit (.bool false)], args := [d1, d2] }
  | _ => none }
def ProofWeakWrongFalsely : Prop := proofWeakRow.holds Tryz.pinned (OpenSpec.ofChange proofWeakWrong)

/-- 'pairinglaw26.ProofComplete': WHATEVER THE INPUT: true; the input reads as it did. -/
def proofCompleteSpec : ChangeSpec := { name := "proofComplete", fn := fun _ => fun
  | [d] => { results := [.lit (.bool true)], args := [d] }
  | _ => none }
def proofCompleteRow : OpenClaim := { program := "ytgbhebappffbdaagreat", sum := "d5cb452e97626e53b915448e2eb8be7b5d24266a30a59195a16f47e098f24e57", func := "pairing/pairinglaw26.ProofComplete", spec := "proofComplete", unfollowed := true, recurses := true, apart := false }
def ProofCompleteSaid : Prop := proofCompleteRow.holds Tryz.pinned (OpenSpec.ofChange proofCompleteSpec)

/-- ITS FALSE NEIGHBOUR: 'it returns false'. Refute it at one input. -/
def proofCompleteWrong : ChangeSpec := { name := "proofComplete", fn := fun _ => fun
  | [d] => { results := [.lit (.bool false)], args := [d] }
  | _ => none }
def ProofCompleteWrongFalsely : Prop := proofCompleteRow.holds Tryz.pinned (OpenSpec.ofChange proofCompleteWrong)

/-- 'pairinglaw26.ProofDescends': WHATEVER THE INPUT: true; the input reads as it did. -/
def proofDescendsSpec : ChangeSpec := { name := "proofDescends", fn := fun _ => fun
  | [d1, d2] => { results := [.lit (.bool true)], args := [d1, d2] }
  | _ => none }
def proofDescendsRow : OpenClaim := { program := "ytgbhebappffbdaagreat", sum := "d5cb452e97626e53b915448e2eb8be7b5d24266a30a59195a16f47e098f24e57", func := "pairing/pairinglaw26.ProofDescends", spec := "proofDescends", unfollowed := true, recurses := true, apart := false }
def ProofDescendsSaid : Prop := proofDescendsRow.holds Tryz.pinned (OpenSpec.ofChange proofDescendsSpec)

/-- ITS FALSE NEIGHBOUR: 'it returns false'. Refute it at one input. -/
def proofDescendsWrong : ChangeSpec := { name := "proofDescends", fn := fun _ => fun
  | [d1, d2] => { results := [.lit (.bool false)], args := [d1, d2] }
  | _ => none }
def ProofDescendsWrongFalsely : Prop := proofDescendsRow.holds Tryz.pinned (OpenSpec.ofChange proofDescendsWrong)

/- THE SECOND FORM. 'bulk': how many values and letters a reading holds, each counted each time it is reached (what is shared counts as often as it is met; a slice's spare places count too). A statement '..UptoSaid' is the law's where the arguments, and the package variables that the reading takes, are together of bulk at most 1048576: NARROWER than '..Said'. Prove '..Said' where nothing that the law and all that it calls make is longer than what came in: it says more and counts as full. Else prove '..UptoSaid'. A law counts once. -/
mutual
def uptoBulk {H : Type} : DataW H → Nat
  | .lit (.string bytes) => bytes.length + 1
  | .lit _ => 1
  | .nil => 1
  | .ptr d => uptoBulk d + 1
  | .slice elems spare => uptoBulkAll elems + uptoBulkAll spare + 1
  | .agg parts => uptoBulkAll parts + 1
  | .iface _ d => uptoBulk d + 1
  | .map entries => uptoBulkEntries entries + 1
  | .held _ => 1
def uptoBulkAll {H : Type} : List (DataW H) → Nat
  | [] => 0
  | d :: r => uptoBulk d + uptoBulkAll r
def uptoBulkEntries {H : Type} : List (Lit × DataW H) → Nat
  | [] => 0
  | x :: r => uptoBulkEntry x + uptoBulkEntries r
def uptoBulkEntry {H : Type} : Lit × DataW H → Nat
  | (.string bytes, d) => bytes.length + uptoBulk d + 1
  | (_, d) => uptoBulk d + 1
 end
def uptoSmall : (H : Type) → List (DataW H) → Bool := fun _ ds => decide (uptoBulkAll ds ≤ 1048576)
def OpenSpec.upto (s : _root_.Go.ChangeSpec) : _root_.Go.OpenSpec := { _root_.Go.OpenSpec.ofChange s with cond := some uptoSmall }

/-- 'pairinglaw26.ProofExtract', WHERE WHAT IT READS IS OF BULK AT MOST 1048576: true; the input reads as it did. -/
def proofExtractUptoRow : OpenClaim := { program := "ytgbhebappffbdaagreat", sum := "d5cb452e97626e53b915448e2eb8be7b5d24266a30a59195a16f47e098f24e57", func := "pairing/pairinglaw26.ProofExtract", spec := "proofExtract", unfollowed := true, recurses := true, apart := false, narrowed := true }
def ProofExtractUptoSaid : Prop := proofExtractUptoRow.holds Tryz.pinned (OpenSpec.upto proofExtractSpec)

/-- 'pairinglaw26.ProofWeak', WHERE WHAT IT READS IS OF BULK AT MOST 1048576: true; the input reads as it did. -/
def proofWeakUptoRow : OpenClaim := { program := "ytgbhebappffbdaagreat", sum := "d5cb452e97626e53b915448e2eb8be7b5d24266a30a59195a16f47e098f24e57", func := "pairing/pairinglaw26.ProofWeak", spec := "proofWeak", unfollowed := true, recurses := true, apart := false, narrowed := true }
def ProofWeakUptoSaid : Prop := proofWeakUptoRow.holds Tryz.pinned (OpenSpec.upto proofWeakSpec)

/-- 'pairinglaw26.ProofComplete', WHERE WHAT IT READS IS OF BULK AT MOST 1048576: true; the input reads as it did. -/
def proofCompleteUptoRow : OpenClaim := { program := "ytgbhebappffbdaagreat", sum := "d5cb452e97626e53b915448e2eb8be7b5d24266a30a59195a16f47e098f24e57", func := "pairing/pairinglaw26.ProofComplete", spec := "proofComplete", unfollowed := true, recurses := true, apart := false, narrowed := true }
def ProofCompleteUptoSaid : Prop := proofCompleteUptoRow.holds Tryz.pinned (OpenSpec.upto proofCompleteSpec)

/-- 'pairinglaw26.ProofDescends', WHERE WHAT IT READS IS OF BULK AT MOST 1048576: true; the input reads as it did. -/
def proofDescendsUptoRow : OpenClaim := { program := "ytgbhebappffbdaagreat", sum := "d5cb452e97626e53b915448e2eb8be7b5d24266a30a59195a16f47e098f24e57", func := "pairing/pairinglaw26.ProofDescends", spec := "proofDescends", unfollowed := true, recurses := true, apart := false, narrowed := true }
def ProofDescendsUptoSaid : Prop := proofDescendsUptoRow.holds Tryz.pinned (OpenSpec.upto proofDescendsSpec)

end Rows
end Go.Proofs.YtgbhebappffbdaaGreat
