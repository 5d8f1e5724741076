/-
  No cell of these rows narrows 'for every input' (looked for: loops, veiled, ifaces, maps, wideKeys, modest, calm, conditions, laid).
  DERIVED. THE GIVEN ROWS OF THIS SEAT. 2 by the template 'for every input the law returns true; each argument reads behind the call as it read before'; 0 by the template 'total and deterministic' (their statements: YtpkjdjnakplnjaaGreatTotals.lean).
  GIVEN WITH THE SEED: the statements are not yours to turn. If you find one false, say at which input.
  Laid BY PROGRAM, IN A SANDBOX (cutbox-rows.mjs): the forced cells as the released guide's own fill.sh prints them over the translation 07a4b04c78b2d6fc… (all of the seat's roots in one cut). By AI agents, Wed Nov 11 2026. No macro, syntax, notation, axiom, sorry.
-/
import Derived.Test.YtpkjdjnakplnjaaGreatChecked
import GoSem.Claim
import GoSem.ClaimJoined
import GoSem.ClaimMapViews
import Derived.JoinedTies
import Derived.KernelRfl
namespace Go.Proofs.YtpkjdjnakplnjaaGreat
/- THE CELL 'sum', in the pinned program and in every row, IS THE sha256 OF THE DUMP (.gsa) THAT YtpkjdjnakplnjaaGreatProg.lean LOADS. Nothing in Lean hashes anything: it is a label: what it is worth is what the hold of that sum in a sandbox is worth. -/
noncomputable def Tryz.pinned : Pinned := { name := "ytpkjdjnakplnjaagreat", sum := "07a4b04c78b2d6fc83bf14adddd500ae1ba9a22196c5e8d38042ab9c3ee1a0d3", checked := Tryz.checked }
namespace Rows
def none {H : Type} : Left H := { results := [], args := [] }

/-- 'laws.FnThresholds': WHATEVER THE INPUT: true; the input reads as it did. -/
def fnThresholdsSpec : ChangeSpec := { name := "fnThresholds", fn := fun _ => fun
  | [d1, d2] => { results := [.lit (.bool true)], args := [d1, d2] }
  | _ => none }
def fnThresholdsRow : OpenClaim := { program := "ytpkjdjnakplnjaagreat", sum := "07a4b04c78b2d6fc83bf14adddd500ae1ba9a22196c5e8d38042ab9c3ee1a0d3", func := "loop.example/g00878/laws.FnThresholds", spec := "fnThresholds", unfollowed := true, recurses := true, apart := false }
def FnThresholdsSaid : Prop := fnThresholdsRow.holds Tryz.pinned (OpenSpec.ofChange fnThresholdsSpec)

/-- ITS FALSE NEIGHBOUR: 'it returns false'. Refute it at one input. -/
def fnThresholdsWrong : ChangeSpec := { name := "fnThresholds", fn := fun _ => fun
  | [d1, d2] => { results := [.lit (.bool false)], args := [d1, d2] }
  | _ => none }
def FnThresholdsWrongFalsely : Prop := fnThresholdsRow.holds Tryz.pinned (OpenSpec.ofChange fnThresholdsWrong)

/-- 'laws.FnMatrixProofs': WHATEVER THE INPUT: true; the input reads as it did. -/
def fnMatrixProofsSpec : ChangeSpec := { name := "fnMatrixProofs", fn := fun _ => fun
  | [d1, d2] => { results := [.lit (.bool true)], args := [d1, d2] }
  | _ => none }
def fnMatrixProofsRow : OpenClaim := { program := "ytpkjdjnakplnjaagreat", sum := "07a4b04c78b2d6fc83bf14adddd500ae1ba9a22196c5e8d38042ab9c3ee1a0d3", func := "loop.example/g00878/laws.FnMatrixProofs", spec := "fnMatrixProofs", unfollowed := true, recurses := true, apart := false }
def FnMatrixProofsSaid : Prop := fnMatrixProofsRow.holds Tryz.pinned (OpenSpec.ofChange fnMatrixProofsSpec)

/-- ITS FALSE NEIGHBOUR: 'it returns false'. Refute it at one input. -/
def fnMatrixProofsWrong : ChangeSpec := { name := "fnMatrixProofs", fn := fun _ => fun
  | [d1, d2] => { results := [.lit (.bool false)], args := [d1, d2] }
  | _ => none }
def FnMatrixProofsWrongFalsely : Prop := fnMatrixProofsRow.holds Tryz.pinned (OpenSpec.ofChange fnMatrixProofsWrong)

/- THE SECOND FORM. 'bulk': how many values and letters a reading holds, each counted each time it is reached (what is shared counts as often as it is met; a slice's spare places count too). A statement '..UptoSaid' is the law's where the arguments, and the package variables that the reading takes, are together of bulk at most 1048576: NARROWER than '..Said'. Prove '..Said' where nothing that the law and all that it calls make is longer than what came in: it says more and counts as full. Else prove '..UptoSaid'. A law counts once. -/
mutual
def uptoBulk {H : Type} : DataW H → Nat
  | .lit (.string bytes) => bytes.length + 1
  | .lit _ => 1
  | .nil => 1
  | .ptr d => uptoBulk d + 1
  | .slice elems spare => uptoBulkAll elems + uptoBulkAll spare + 1
  | .agg parts => uptoBulkAll parts + 1
  | .iface _ d => uptoBulk d + 1
  | .map entries => uptoBulkEntries entries + 1
  | .held _ => 1
def uptoBulkAll {H : Type} : List (DataW H) → Nat
  | [] => 0
  | d :: r => uptoBulk d + uptoBulkAll r
def uptoBulkEntries {H : Type} : List (Lit × DataW H) → Nat
  | [] => 0
  | x :: r => uptoBulkEntry x + uptoBulkEntries r
def uptoBulkEntry {H : Type} : Lit × DataW H → Nat
  | (.string bytes, d) => bytes.length + uptoBulk d + 1
  | (_, d) => uptoBulk d + 1
 end
def uptoSmall : (H : Type) → List (DataW H) → Bool := fun _ ds => decide (uptoBulkAll ds ≤ 1048576)
def OpenSpec.upto (s : _root_.Go.ChangeSpec) : _root_.Go.OpenSpec := { _root_.Go.OpenSpec.ofChange s with cond := some uptoSmall }

/-- 'laws.FnThresholds', WHERE WHAT IT READS IS OF BULK AT MOST 1048576: true; the input reads as it did. -/
def fnThresholdsUptoRow : OpenClaim := { program := "ytpkjdjnakplnjaagreat", sum := "07a4b04c78b2d6fc83bf14adddd500ae1ba9a22196c5e8d38042ab9c3ee1a0d3", func := "loop.example/g00878/laws.FnThresholds", spec := "fnThresholds", unfollowed := true, recurses := true, apart := false, narrowed := true }
def FnThresholdsUptoSaid : Prop := fnThresholdsUptoRow.holds Tryz.pinned (OpenSpec.upto fnThresholdsSpec)

/-- 'laws.FnMatrixProofs', WHERE WHAT IT READS IS OF BULK AT MOST 1048576: true; the input reads as it did. -/
def fnMatrixProofsUptoRow : OpenClaim := { program := "ytpkjdjnakplnjaagreat", sum := "07a4b04c78b2d6fc83bf14adddd500ae1ba9a22196c5e8d38042ab9c3ee1a0d3", func := "loop.example/g00878/laws.FnMatrixProofs", spec := "fnMatrixProofs", unfollowed := true, recurses := true, apart := false, narrowed := true }
def FnMatrixProofsUptoSaid : Prop := fnMatrixProofsUptoRow.holds Tryz.pinned (OpenSpec.upto fnMatrixProofsSpec)

end Rows
end Go.Proofs.YtpkjdjnakplnjaaGreat
