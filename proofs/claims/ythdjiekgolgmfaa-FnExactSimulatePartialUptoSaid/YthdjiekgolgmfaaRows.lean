/-
  No cell of these rows narrows 'for every input' (looked for: loops, veiled, ifaces, maps, wideKeys, modest, calm, conditions, laid).
  DERIVED. THE GIVEN ROWS OF THIS SEAT. 7 by the template 'for every input the law returns true; each argument reads behind the call as it read before'; 0 by the template 'total and deterministic' (their statements: YthdjiekgolgmfaaTotals.lean).
  GIVEN WITH THE SEED: the statements are not yours to turn. If you find one false, say at which input.
  Laid BY PROGRAM, IN A SANDBOX (cutbox-rows.mjs): the forced cells as the released guide's own fill.sh prints them over the translation 73435529cea58513… (all of the seat's roots in one cut). By AI agents, Wed Nov 11 2026. No macro, syntax, notation, axiom, sorry.
-/
import Derived.Test.YthdjiekgolgmfaaChecked
import GoSem.Claim
import GoSem.ClaimJoined
import GoSem.ClaimMapViews
import Derived.JoinedTies
import Derived.KernelRfl
namespace Go.Proofs.Ythdjiekgolgmfaa
/- THE CELL 'sum', in the pinned program and in every row, IS THE sha256 OF THE DUMP (.gsa) THAT YthdjiekgolgmfaaProg.lean LOADS. Nothing in Lean hashes anything: it is a label: what it is worth is what the hold of that sum in a sandbox is worth. -/
noncomputable def Try.pinned : Pinned := { name := "ythdjiekgolgmfaa", sum := "73435529cea58513fde7da3e505d522068615d2deea3b8cdadd34edb2059fff4", checked := Try.checked }
namespace Rows
def none {H : Type} : Left H := { results := [], args := [] }

/-- 'laws.FnExactIsValidCount': WHATEVER THE INPUT: true; the input reads as it did. -/
def fnExactIsValidCountSpec : ChangeSpec := { name := "fnExactIsValidCount", fn := fun _ => fun
  | [d] => { results := [.lit (.bool true)], args := [d] }
  | _ => none }
def fnExactIsValidCountRow : OpenClaim := { program := "ythdjiekgolgmfaa", sum := "73435529cea58513fde7da3e505d522068615d2deea3b8cdadd34edb2059fff4", func := "loop.example/g00878/laws.FnExactIsValidCount", spec := "fnExactIsValidCount", apart := false }
def FnExactIsValidCountSaid : Prop := fnExactIsValidCountRow.holds Try.pinned (OpenSpec.ofChange fnExactIsValidCountSpec)

/-- ITS FALSE NEIGHBOUR: 'it returns false'. Refute it at one input. -/
def fnExactIsValidCountWrong : ChangeSpec := { name := "fnExactIsValidCount", fn := fun _ => fun
  | [d] => { results := [.lit (.bool false)], args := [d] }
  | _ => none }
def FnExactIsValidCountWrongFalsely : Prop := fnExactIsValidCountRow.holds Try.pinned (OpenSpec.ofChange fnExactIsValidCountWrong)

/-- 'laws.FnExactDistanceOf': WHATEVER THE INPUT: true; the input reads as it did. -/
def fnExactDistanceOfSpec : ChangeSpec := { name := "fnExactDistanceOf", fn := fun _ => fun
  | [d1, d2] => { results := [.lit (.bool true)], args := [d1, d2] }
  | _ => none }
def fnExactDistanceOfRow : OpenClaim := { program := "ythdjiekgolgmfaa", sum := "73435529cea58513fde7da3e505d522068615d2deea3b8cdadd34edb2059fff4", func := "loop.example/g00878/laws.FnExactDistanceOf", spec := "fnExactDistanceOf", unfollowed := true, recurses := true, apart := false }
def FnExactDistanceOfSaid : Prop := fnExactDistanceOfRow.holds Try.pinned (OpenSpec.ofChange fnExactDistanceOfSpec)

/-- ITS FALSE NEIGHBOUR: 'it returns false'. Refute it at one input. -/
def fnExactDistanceOfWrong : ChangeSpec := { name := "fnExactDistanceOf", fn := fun _ => fun
  | [d1, d2] => { results := [.lit (.bool false)], args := [d1, d2] }
  | _ => none }
def FnExactDistanceOfWrongFalsely : Prop := fnExactDistanceOfRow.holds Try.pinned (OpenSpec.ofChange fnExactDistanceOfWrong)

/-- 'laws.FnExactSimulatePartial': WHATEVER THE INPUT: true; the input reads as it did. -/
def fnExactSimulatePartialSpec : ChangeSpec := { name := "fnExactSimulatePartial", fn := fun _ => fun
  | [d1, d2, d3, d4, d5, d6] => { results := [.lit (.bool true)], args := [d1, d2, d3, d4, d5, d6] }
  | _ => none }
def fnExactSimulatePartialRow : OpenClaim := { program := "ythdjiekgolgmfaa", sum := "73435529cea58513fde7da3e505d522068615d2deea3b8cdadd34edb2059fff4", func := "loop.example/g00878/laws.FnExactSimulatePartial", spec := "fnExactSimulatePartial", unfollowed := true, recurses := true, apart := false }
def FnExactSimulatePartialSaid : Prop := fnExactSimulatePartialRow.holds Try.pinned (OpenSpec.ofChange fnExactSimulatePartialSpec)

/-- ITS FALSE NEIGHBOUR: 'it returns false'. Refute it at one input. -/
def fnExactSimulatePartialWrong : ChangeSpec := { name := "fnExactSimulatePartial", fn := fun _ => fun
  | [d1, d2, d3, d4, d5, d6] => { results := [.lit (.bool false)], args := [d1, d2, d3, d4, d5, d6] }
  | _ => none }
def FnExactSimulatePartialWrongFalsely : Prop := fnExactSimulatePartialRow.holds Try.pinned (OpenSpec.ofChange fnExactSimulatePartialWrong)

/-- 'laws.FnExactBlindViews': WHATEVER THE INPUT: true; the input reads as it did. -/
def fnExactBlindViewsSpec : ChangeSpec := { name := "fnExactBlindViews", fn := fun _ => fun
  | [d1, d2, d3] => { results := [.lit (.bool true)], args := [d1, d2, d3] }
  | _ => none }
def fnExactBlindViewsRow : OpenClaim := { program := "ythdjiekgolgmfaa", sum := "73435529cea58513fde7da3e505d522068615d2deea3b8cdadd34edb2059fff4", func := "loop.example/g00878/laws.FnExactBlindViews", spec := "fnExactBlindViews", unfollowed := true, recurses := true, apart := false }
def FnExactBlindViewsSaid : Prop := fnExactBlindViewsRow.holds Try.pinned (OpenSpec.ofChange fnExactBlindViewsSpec)

/-- ITS FALSE NEIGHBOUR: 'it returns false'. Refute it at one input. -/
def fnExactBlindViewsWrong : ChangeSpec := { name := "fnExactBlindViews", fn := fun _ => fun
  | [d1, d2, d3] => { results := [.lit (.bool false)], args := [d1, d2, d3] }
  | _ => none }
def FnExactBlindViewsWrongFalsely : Prop := fnExactBlindViewsRow.holds Try.pinned (OpenSpec.ofChange fnExactBlindViewsWrong)

/-- 'laws.FnExactProjectCounts': WHATEVER THE INPUT: true; the input reads as it did. -/
def fnExactProjectCountsSpec : ChangeSpec := { name := "fnExactProjectCounts", fn := fun _ => fun
  | [d1, d2, d3] => { results := [.lit (.bool true)], args := [d1, d2, d3] }
  | _ => none }
def fnExactProjectCountsRow : OpenClaim := { program := "ythdjiekgolgmfaa", sum := "73435529cea58513fde7da3e505d522068615d2deea3b8cdadd34edb2059fff4", func := "loop.example/g00878/laws.FnExactProjectCounts", spec := "fnExactProjectCounts", unfollowed := true, recurses := true, apart := false }
def FnExactProjectCountsSaid : Prop := fnExactProjectCountsRow.holds Try.pinned (OpenSpec.ofChange fnExactProjectCountsSpec)

/-- ITS FALSE NEIGHBOUR: 'it returns false'. Refute it at one input. -/
def fnExactProjectCountsWrong : ChangeSpec := { name := "fnExactProjectCounts", fn := fun _ => fun
  | [d1, d2, d3] => { results := [.lit (.bool false)], args := [d1, d2, d3] }
  | _ => none }
def FnExactProjectCountsWrongFalsely : Prop := fnExactProjectCountsRow.holds Try.pinned (OpenSpec.ofChange fnExactProjectCountsWrong)

/-- 'laws.FnExactCountViews': WHATEVER THE INPUT: true; the input reads as it did. -/
def fnExactCountViewsSpec : ChangeSpec := { name := "fnExactCountViews", fn := fun _ => fun
  | [d] => { results := [.lit (.bool true)], args := [d] }
  | _ => none }
def fnExactCountViewsRow : OpenClaim := { program := "ythdjiekgolgmfaa", sum := "73435529cea58513fde7da3e505d522068615d2deea3b8cdadd34edb2059fff4", func := "loop.example/g00878/laws.FnExactCountViews", spec := "fnExactCountViews", unfollowed := true, recurses := true, apart := false }
def FnExactCountViewsSaid : Prop := fnExactCountViewsRow.holds Try.pinned (OpenSpec.ofChange fnExactCountViewsSpec)

/-- ITS FALSE NEIGHBOUR: 'it returns false'. Refute it at one input. -/
def fnExactCountViewsWrong : ChangeSpec := { name := "fnExactCountViews", fn := fun _ => fun
  | [d] => { results := [.lit (.bool false)], args := [d] }
  | _ => none }
def FnExactCountViewsWrongFalsely : Prop := fnExactCountViewsRow.holds Try.pinned (OpenSpec.ofChange fnExactCountViewsWrong)

/-- 'laws.FnExactMergeCounts': WHATEVER THE INPUT: true; the input reads as it did. -/
def fnExactMergeCountsSpec : ChangeSpec := { name := "fnExactMergeCounts", fn := fun _ => fun
  | [d1, d2] => { results := [.lit (.bool true)], args := [d1, d2] }
  | _ => none }
def fnExactMergeCountsRow : OpenClaim := { program := "ythdjiekgolgmfaa", sum := "73435529cea58513fde7da3e505d522068615d2deea3b8cdadd34edb2059fff4", func := "loop.example/g00878/laws.FnExactMergeCounts", spec := "fnExactMergeCounts", unfollowed := true, recurses := true, apart := false }
def FnExactMergeCountsSaid : Prop := fnExactMergeCountsRow.holds Try.pinned (OpenSpec.ofChange fnExactMergeCountsSpec)

/-- ITS FALSE NEIGHBOUR: 'it returns false'. Refute it at one input. -/
def fnExactMergeCountsWrong : ChangeSpec := { name := "fnExactMergeCounts", fn := fun _ => fun
  | [d1, d2] => { results := [.lit (.bool false)], args := [d1, d2] }
  | _ => none }
def FnExactMergeCountsWrongFalsely : Prop := fnExactMergeCountsRow.holds Try.pinned (OpenSpec.ofChange fnExactMergeCountsWrong)

/- THE SECOND FORM. 'bulk': how many values and letters a reading holds, each counted each time it is reached (what is shared counts as often as it is met; a slice's spare places count too). A statement '..UptoSaid' is the law's where the arguments, and the package variables that the reading takes, are together of bulk at most 1048576: NARROWER than '..Said'. Prove '..Said' where nothing that the law and all that it calls make is longer than what came in: it says more and counts as full. Else prove '..UptoSaid'. A law counts once. -/
mutual
def uptoBulk {H : Type} : DataW H → Nat
  | .lit (.string bytes) => bytes.length + 1
  | .lit _ => 1
  | .nil => 1
  | .ptr d => uptoBulk d + 1
  | .slice elems spare => uptoBulkAll elems + uptoBulkAll spare + 1
  | .agg parts => uptoBulkAll parts + 1
  | .iface _ d => uptoBulk d + 1
  | .map entries => uptoBulkEntries entries + 1
  | .held _ => 1
def uptoBulkAll {H : Type} : List (DataW H) → Nat
  | [] => 0
  | d :: r => uptoBulk d + uptoBulkAll r
def uptoBulkEntries {H : Type} : List (Lit × DataW H) → Nat
  | [] => 0
  | x :: r => uptoBulkEntry x + uptoBulkEntries r
def uptoBulkEntry {H : Type} : Lit × DataW H → Nat
  | (.string bytes, d) => bytes.length + uptoBulk d + 1
  | (_, d) => uptoBulk d + 1
 end
def uptoSmall : (H : Type) → List (DataW H) → Bool := fun _ ds => decide (uptoBulkAll ds ≤ 1048576)
def OpenSpec.upto (s : _root_.Go.ChangeSpec) : _root_.Go.OpenSpec := { _root_.Go.OpenSpec.ofChange s with cond := some uptoSmall }

/-- 'laws.FnExactIsValidCount', WHERE WHAT IT READS IS OF BULK AT MOST 1048576: true; the input reads as it did. -/
def fnExactIsValidCountUptoRow : OpenClaim := { program := "ythdjiekgolgmfaa", sum := "73435529cea58513fde7da3e505d522068615d2deea3b8cdadd34edb2059fff4", func := "loop.example/g00878/laws.FnExactIsValidCount", spec := "fnExactIsValidCount", apart := false, narrowed := true }
def FnExactIsValidCountUptoSaid : Prop := fnExactIsValidCountUptoRow.holds Try.pinned (OpenSpec.upto fnExactIsValidCountSpec)

/-- 'laws.FnExactDistanceOf', WHERE WHAT IT READS IS OF BULK AT MOST 1048576: true; the input reads as it did. -/
def fnExactDistanceOfUptoRow : OpenClaim := { program := "ythdjiekgolgmfaa", sum := "73435529cea58513fde7da3e505d522068615d2deea3b8cdadd34edb2059fff4", func := "loop.example/g00878/laws.FnExactDistanceOf", spec := "fnExactDistanceOf", unfollowed := true, recurses := true, apart := false, narrowed := true }
def FnExactDistanceOfUptoSaid : Prop := fnExactDistanceOfUptoRow.holds Try.pinned (OpenSpec.upto fnExactDistanceOfSpec)

/-- 'laws.FnExactSimulatePartial', WHERE WHAT IT READS IS OF BULK AT MOST 1048576: true; the input reads as it did. -/
def fnExactSimulatePartialUptoRow : OpenClaim := { program := "ythdjiekgolgmfaa", sum := "73435529cea58513fde7da3e505d522068615d2deea3b8cdadd34edb2059fff4", func := "loop.example/g00878/laws.FnExactSimulatePartial", spec := "fnExactSimulatePartial", unfollowed := true, recurses := true, apart := false, narrowed := true }
def FnExactSimulatePartialUptoSaid : Prop := fnExactSimulatePartialUptoRow.holds Try.pinned (OpenSpec.upto fnExactSimulatePartialSpec)

/-- 'laws.FnExactBlindViews', WHERE WHAT IT READS IS OF BULK AT MOST 1048576: true; the input reads as it did. -/
def fnExactBlindViewsUptoRow : OpenClaim := { program := "ythdjiekgolgmfaa", sum := "73435529cea58513fde7da3e505d522068615d2deea3b8cdadd34edb2059fff4", func := "loop.example/g00878/laws.FnExactBlindViews", spec := "fnExactBlindViews", unfollowed := true, recurses := true, apart := false, narrowed := true }
def FnExactBlindViewsUptoSaid : Prop := fnExactBlindViewsUptoRow.holds Try.pinned (OpenSpec.upto fnExactBlindViewsSpec)

/-- 'laws.FnExactProjectCounts', WHERE WHAT IT READS IS OF BULK AT MOST 1048576: true; the input reads as it did. -/
def fnExactProjectCountsUptoRow : OpenClaim := { program := "ythdjiekgolgmfaa", sum := "73435529cea58513fde7da3e505d522068615d2deea3b8cdadd34edb2059fff4", func := "loop.example/g00878/laws.FnExactProjectCounts", spec := "fnExactProjectCounts", unfollowed := true, recurses := true, apart := false, narrowed := true }
def FnExactProjectCountsUptoSaid : Prop := fnExactProjectCountsUptoRow.holds Try.pinned (OpenSpec.upto fnExactProjectCountsSpec)

/-- 'laws.FnExactCountViews', WHERE WHAT IT READS IS OF BULK AT MOST 1048576: true; the input reads as it did. -/
def fnExactCountViewsUptoRow : OpenClaim := { program := "ythdjiekgolgmfaa", sum := "73435529cea58513fde7da3e505d522068615d2deea3b8cdadd34edb2059fff4", func := "loop.example/g00878/laws.FnExactCountViews", spec := "fnExactCountViews", unfollowed := true, recurses := true, apart := false, narrowed := true }
def FnExactCountViewsUptoSaid : Prop := fnExactCountViewsUptoRow.holds Try.pinned (OpenSpec.upto fnExactCountViewsSpec)

/-- 'laws.FnExactMergeCounts', WHERE WHAT IT READS IS OF BULK AT MOST 1048576: true; the input reads as it did. -/
def fnExactMergeCountsUptoRow : OpenClaim := { program := "ythdjiekgolgmfaa", sum := "73435529cea58513fde7da3e505d522068615d2deea3b8cdadd34edb2059fff4", func := "loop.example/g00878/laws.FnExactMergeCounts", spec := "fnExactMergeCounts", unfollowed := true, recurses := true, apart := false, narrowed := true }
def FnExactMergeCountsUptoSaid : Prop := fnExactMergeCountsUptoRow.holds Try.pinned (OpenSpec.upto fnExactMergeCountsSpec)

end Rows
end Go.Proofs.Ythdjiekgolgmfaa
