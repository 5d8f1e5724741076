/-
  No cell of these rows narrows 'for every input' (looked for: loops, veiled, ifaces, maps, wideKeys, modest, calm, conditions, laid).
  DERIVED. THE GIVEN ROWS OF THIS SEAT. 7 by the template 'for every input the law returns true; each argument reads behind the call as it read before'; 0 by the template 'total and deterministic' (their statements: YtpbhnggmbnfemaaTotals.lean).
  GIVEN WITH THE SEED: the statements are not yours to turn. If you find one false, say at which input.
  Laid BY PROGRAM, IN A SANDBOX (cutbox-rows.mjs): the forced cells as the released guide's own fill.sh prints them over the translation e4a5c16daef00067… (all of the seat's roots in one cut). By AI agents, Wed Nov 11 2026. No macro, syntax, notation, axiom, sorry.
-/
import Derived.Test.YtpbhnggmbnfemaaChecked
import GoSem.Claim
import GoSem.ClaimJoined
import GoSem.ClaimMapViews
import Derived.JoinedTies
import Derived.KernelRfl
namespace Go.Proofs.Ytpbhnggmbnfemaa
/- THE CELL 'sum', in the pinned program and in every row, IS THE sha256 OF THE DUMP (.gsa) THAT YtpbhnggmbnfemaaProg.lean LOADS. Nothing in Lean hashes anything: it is a label: what it is worth is what the hold of that sum in a sandbox is worth. -/
noncomputable def Try.pinned : Pinned := { name := "ytpbhnggmbnfemaa", sum := "e4a5c16daef00067a0a074fadc8522ff53026f1bfd447d33f849a89f1e43cf43", checked := Try.checked }
namespace Rows
def none {H : Type} : Left H := { results := [], args := [] }

/-- 'laws.FnExactCommitViews': WHATEVER THE INPUT: true; the input reads as it did. -/
def fnExactCommitViewsSpec : ChangeSpec := { name := "fnExactCommitViews", fn := fun _ => fun
  | [d1, d2, d3] => { results := [.lit (.bool true)], args := [d1, d2, d3] }
  | _ => none }
def fnExactCommitViewsRow : OpenClaim := { program := "ytpbhnggmbnfemaa", sum := "e4a5c16daef00067a0a074fadc8522ff53026f1bfd447d33f849a89f1e43cf43", func := "loop.example/g00878/laws.FnExactCommitViews", spec := "fnExactCommitViews", unfollowed := true, recurses := true, apart := false }
def FnExactCommitViewsSaid : Prop := fnExactCommitViewsRow.holds Try.pinned (OpenSpec.ofChange fnExactCommitViewsSpec)

/-- ITS FALSE NEIGHBOUR: 'it returns false'. Refute it at one input. -/
def fnExactCommitViewsWrong : ChangeSpec := { name := "fnExactCommitViews", fn := fun _ => fun
  | [d1, d2, d3] => { results := [.lit (.bool false)], args := [d1, d2, d3] }
  | _ => none }
def FnExactCommitViewsWrongFalsely : Prop := fnExactCommitViewsRow.holds Try.pinned (OpenSpec.ofChange fnExactCommitViewsWrong)

/-- 'laws.FnExactEncryptionViews': WHATEVER THE INPUT: true; the input reads as it did. -/
def fnExactEncryptionViewsSpec : ChangeSpec := { name := "fnExactEncryptionViews", fn := fun _ => fun
  | [d1, d2, d3] => { results := [.lit (.bool true)], args := [d1, d2, d3] }
  | _ => none }
def fnExactEncryptionViewsRow : OpenClaim := { program := "ytpbhnggmbnfemaa", sum := "e4a5c16daef00067a0a074fadc8522ff53026f1bfd447d33f849a89f1e43cf43", func := "loop.example/g00878/laws.FnExactEncryptionViews", spec := "fnExactEncryptionViews", unfollowed := true, recurses := true, apart := false }
def FnExactEncryptionViewsSaid : Prop := fnExactEncryptionViewsRow.holds Try.pinned (OpenSpec.ofChange fnExactEncryptionViewsSpec)

/-- ITS FALSE NEIGHBOUR: 'it returns false'. Refute it at one input. -/
def fnExactEncryptionViewsWrong : ChangeSpec := { name := "fnExactEncryptionViews", fn := fun _ => fun
  | [d1, d2, d3] => { results := [.lit (.bool false)], args := [d1, d2, d3] }
  | _ => none }
def FnExactEncryptionViewsWrongFalsely : Prop := fnExactEncryptionViewsRow.holds Try.pinned (OpenSpec.ofChange fnExactEncryptionViewsWrong)

/-- 'laws.FnDistances': WHATEVER THE INPUT: true; the input reads as it did. -/
def fnDistancesSpec : ChangeSpec := { name := "fnDistances", fn := fun _ => fun
  | [d1, d2] => { results := [.lit (.bool true)], args := [d1, d2] }
  | _ => none }
def fnDistancesRow : OpenClaim := { program := "ytpbhnggmbnfemaa", sum := "e4a5c16daef00067a0a074fadc8522ff53026f1bfd447d33f849a89f1e43cf43", func := "loop.example/g00878/laws.FnDistances", spec := "fnDistances", unfollowed := true, recurses := true, apart := false }
def FnDistancesSaid : Prop := fnDistancesRow.holds Try.pinned (OpenSpec.ofChange fnDistancesSpec)

/-- ITS FALSE NEIGHBOUR: 'it returns false'. Refute it at one input. -/
def fnDistancesWrong : ChangeSpec := { name := "fnDistances", fn := fun _ => fun
  | [d1, d2] => { results := [.lit (.bool false)], args := [d1, d2] }
  | _ => none }
def FnDistancesWrongFalsely : Prop := fnDistancesRow.holds Try.pinned (OpenSpec.ofChange fnDistancesWrong)

/-- 'laws.FnExactShareViews': WHATEVER THE INPUT: true; the input reads as it did. -/
def fnExactShareViewsSpec : ChangeSpec := { name := "fnExactShareViews", fn := fun _ => fun
  | [d1, d2, d3, d4] => { results := [.lit (.bool true)], args := [d1, d2, d3, d4] }
  | _ => none }
def fnExactShareViewsRow : OpenClaim := { program := "ytpbhnggmbnfemaa", sum := "e4a5c16daef00067a0a074fadc8522ff53026f1bfd447d33f849a89f1e43cf43", func := "loop.example/g00878/laws.FnExactShareViews", spec := "fnExactShareViews", unfollowed := true, recurses := true, apart := false }
def FnExactShareViewsSaid : Prop := fnExactShareViewsRow.holds Try.pinned (OpenSpec.ofChange fnExactShareViewsSpec)

/-- ITS FALSE NEIGHBOUR: 'it returns false'. Refute it at one input. -/
def fnExactShareViewsWrong : ChangeSpec := { name := "fnExactShareViews", fn := fun _ => fun
  | [d1, d2, d3, d4] => { results := [.lit (.bool false)], args := [d1, d2, d3, d4] }
  | _ => none }
def FnExactShareViewsWrongFalsely : Prop := fnExactShareViewsRow.holds Try.pinned (OpenSpec.ofChange fnExactShareViewsWrong)

/-- 'laws.FnCountedViews': WHATEVER THE INPUT: true; the input reads as it did. -/
def fnCountedViewsSpec : ChangeSpec := { name := "fnCountedViews", fn := fun _ => fun
  | [d1, d2] => { results := [.lit (.bool true)], args := [d1, d2] }
  | _ => none }
def fnCountedViewsRow : OpenClaim := { program := "ytpbhnggmbnfemaa", sum := "e4a5c16daef00067a0a074fadc8522ff53026f1bfd447d33f849a89f1e43cf43", func := "loop.example/g00878/laws.FnCountedViews", spec := "fnCountedViews", unfollowed := true, recurses := true, apart := false }
def FnCountedViewsSaid : Prop := fnCountedViewsRow.holds Try.pinned (OpenSpec.ofChange fnCountedViewsSpec)

/-- ITS FALSE NEIGHBOUR: 'it returns false'. Refute it at one input. -/
def fnCountedViewsWrong : ChangeSpec := { name := "fnCountedViews", fn := fun _ => fun
  | [d1, d2] => { results := [.lit (.bool false)], args := [d1, d2] }
  | _ => none }
def FnCountedViewsWrongFalsely : Prop := fnCountedViewsRow.holds Try.pinned (OpenSpec.ofChange fnCountedViewsWrong)

/-- 'laws.FnEqualGroups': WHATEVER THE INPUT: true; the input reads as it did. -/
def fnEqualGroupsSpec : ChangeSpec := { name := "fnEqualGroups", fn := fun _ => fun
  | [d1, d2] => { results := [.lit (.bool true)], args := [d1, d2] }
  | _ => none }
def fnEqualGroupsRow : OpenClaim := { program := "ytpbhnggmbnfemaa", sum := "e4a5c16daef00067a0a074fadc8522ff53026f1bfd447d33f849a89f1e43cf43", func := "loop.example/g00878/laws.FnEqualGroups", spec := "fnEqualGroups", unfollowed := true, recurses := true, apart := false }
def FnEqualGroupsSaid : Prop := fnEqualGroupsRow.holds Try.pinned (OpenSpec.ofChange fnEqualGroupsSpec)

/-- ITS FALSE NEIGHBOUR: 'it returns false'. Refute it at one input. -/
def fnEqualGroupsWrong : ChangeSpec := { name := "fnEqualGroups", fn := fun _ => fun
  | [d1, d2] => { results := [.lit (.bool false)], args := [d1, d2] }
  | _ => none }
def FnEqualGroupsWrongFalsely : Prop := fnEqualGroupsRow.holds Try.pinned (OpenSpec.ofChange fnEqualGroupsWrong)

/-- 'laws.FnShareSecrecy': WHATEVER THE INPUT: true; the input reads as it did. -/
def fnShareSecrecySpec : ChangeSpec := { name := "fnShareSecrecy", fn := fun _ => fun
  | [d1, d2] => { results := [.lit (.bool true)], args := [d1, d2] }
  | _ => none }
def fnShareSecrecyRow : OpenClaim := { program := "ytpbhnggmbnfemaa", sum := "e4a5c16daef00067a0a074fadc8522ff53026f1bfd447d33f849a89f1e43cf43", func := "loop.example/g00878/laws.FnShareSecrecy", spec := "fnShareSecrecy", unfollowed := true, recurses := true, apart := false }
def FnShareSecrecySaid : Prop := fnShareSecrecyRow.holds Try.pinned (OpenSpec.ofChange fnShareSecrecySpec)

/-- ITS FALSE NEIGHBOUR: 'it returns false'. Refute it at one input. -/
def fnShareSecrecyWrong : ChangeSpec := { name := "fnShareSecrecy", fn := fun _ => fun
  | [d1, d2] => { results := [.lit (.bool false)], args := [d1, d2] }
  | _ => none }
def FnShareSecrecyWrongFalsely : Prop := fnShareSecrecyRow.holds Try.pinned (OpenSpec.ofChange fnShareSecrecyWrong)

/- THE SECOND FORM. 'bulk': how many values and letters a reading holds, each counted each time it is reached (what is shared counts as often as it is met; a slice's spare places count too). A statement '..UptoSaid' is the law's where the arguments, and the package variables that the reading takes, are together of bulk at most 1048576: NARROWER than '..Said'. Prove '..Said' where nothing that the law and all that it calls make is longer than what came in: it says more and counts as full. Else prove '..UptoSaid'. A law counts once. -/
mutual
def uptoBulk {H : Type} : DataW H → Nat
  | .lit (.string bytes) => bytes.length + 1
  | .lit _ => 1
  | .nil => 1
  | .ptr d => uptoBulk d + 1
  | .slice elems spare => uptoBulkAll elems + uptoBulkAll spare + 1
  | .agg parts => uptoBulkAll parts + 1
  | .iface _ d => uptoBulk d + 1
  | .map entries => uptoBulkEntries entries + 1
  | .held _ => 1
def uptoBulkAll {H : Type} : List (DataW H) → Nat
  | [] => 0
  | d :: r => uptoBulk d + uptoBulkAll r
def uptoBulkEntries {H : Type} : List (Lit × DataW H) → Nat
  | [] => 0
  | x :: r => uptoBulkEntry x + uptoBulkEntries r
def uptoBulkEntry {H : Type} : Lit × DataW H → Nat
  | (.string bytes, d) => bytes.length + uptoBulk d + 1
  | (_, d) => uptoBulk d + 1
 end
def uptoSmall : (H : Type) → List (DataW H) → Bool := fun _ ds => decide (uptoBulkAll ds ≤ 1048576)
def OpenSpec.upto (s : _root_.Go.ChangeSpec) : _root_.Go.OpenSpec := { _root_.Go.OpenSpec.ofChange s with cond := some uptoSmall }

/-- 'laws.FnExactCommitViews', WHERE WHAT IT READS IS OF BULK AT MOST 1048576: true; the input reads as it did. -/
def fnExactCommitViewsUptoRow : OpenClaim := { program := "ytpbhnggmbnfemaa", sum := "e4a5c16daef00067a0a074fadc8522ff53026f1bfd447d33f849a89f1e43cf43", func := "loop.example/g00878/laws.FnExactCommitViews", spec := "fnExactCommitViews", unfollowed := true, recurses := true, apart := false, narrowed := true }
def FnExactCommitViewsUptoSaid : Prop := fnExactCommitViewsUptoRow.holds Try.pinned (OpenSpec.upto fnExactCommitViewsSpec)

/-- 'laws.FnExactEncryptionViews', WHERE WHAT IT READS IS OF BULK AT MOST 1048576: true; the input reads as it did. -/
def fnExactEncryptionViewsUptoRow : OpenClaim := { program := "ytpbhnggmbnfemaa", sum := "e4a5c16daef00067a0a074fadc8522ff53026f1bfd447d33f849a89f1e43cf43", func := "loop.example/g00878/laws.FnExactEncryptionViews", spec := "fnExactEncryptionViews", unfollowed := true, recurses := true, apart := false, narrowed := true }
def FnExactEncryptionViewsUptoSaid : Prop := fnExactEncryptionViewsUptoRow.holds Try.pinned (OpenSpec.upto fnExactEncryptionViewsSpec)

/-- 'laws.FnDistances', WHERE WHAT IT READS IS OF BULK AT MOST 1048576: true; the input reads as it did. -/
def fnDistancesUptoRow : OpenClaim := { program := "ytpbhnggmbnfemaa", sum := "e4a5c16daef00067a0a074fadc8522ff53026f1bfd447d33f849a89f1e43cf43", func := "loop.example/g00878/laws.FnDistances", spec := "fnDistances", unfollowed := true, recurses := true, apart := false, narrowed := true }
def FnDistancesUptoSaid : Prop := fnDistancesUptoRow.holds Try.pinned (OpenSpec.upto fnDistancesSpec)

/-- 'laws.FnExactShareViews', WHERE WHAT IT READS IS OF BULK AT MOST 1048576: true; the input reads as it did. -/
def fnExactShareViewsUptoRow : OpenClaim := { program := "ytpbhnggmbnfemaa", sum := "e4a5c16daef00067a0a074fadc8522ff53026f1bfd447d33f849a89f1e43cf43", func := "loop.example/g00878/laws.FnExactShareViews", spec := "fnExactShareViews", unfollowed := true, recurses := true, apart := false, narrowed := true }
def FnExactShareViewsUptoSaid : Prop := fnExactShareViewsUptoRow.holds Try.pinned (OpenSpec.upto fnExactShareViewsSpec)

/-- 'laws.FnCountedViews', WHERE WHAT IT READS IS OF BULK AT MOST 1048576: true; the input reads as it did. -/
def fnCountedViewsUptoRow : OpenClaim := { program := "ytpbhnggmbnfemaa", sum := "e4a5c16daef00067a0a074fadc8522ff53026f1bfd447d33f849a89f1e43cf43", func := "loop.example/g00878/laws.FnCountedViews", spec := "fnCountedViews", unfollowed := true, recurses := true, apart := false, narrowed := true }
def FnCountedViewsUptoSaid : Prop := fnCountedViewsUptoRow.holds Try.pinned (OpenSpec.upto fnCountedViewsSpec)

/-- 'laws.FnEqualGroups', WHERE WHAT IT READS IS OF BULK AT MOST 1048576: true; the input reads as it did. -/
def fnEqualGroupsUptoRow : OpenClaim := { program := "ytpbhnggmbnfemaa", sum := "e4a5c16daef00067a0a074fadc8522ff53026f1bfd447d33f849a89f1e43cf43", func := "loop.example/g00878/laws.FnEqualGroups", spec := "fnEqualGroups", unfollowed := true, recurses := true, apart := false, narrowed := true }
def FnEqualGroupsUptoSaid : Prop := fnEqualGroupsUptoRow.holds Try.pinned (OpenSpec.upto fnEqualGroupsSpec)

/-- 'laws.FnShareSecrecy', WHERE WHAT IT READS IS OF BULK AT MOST 1048576: true; the input reads as it did. -/
def fnShareSecrecyUptoRow : OpenClaim := { program := "ytpbhnggmbnfemaa", sum := "e4a5c16daef00067a0a074fadc8522ff53026f1bfd447d33f849a89f1e43cf43", func := "loop.example/g00878/laws.FnShareSecrecy", spec := "fnShareSecrecy", unfollowed := true, recurses := true, apart := false, narrowed := true }
def FnShareSecrecyUptoSaid : Prop := fnShareSecrecyUptoRow.holds Try.pinned (OpenSpec.upto fnShareSecrecySpec)

end Rows
end Go.Proofs.Ytpbhnggmbnfemaa
