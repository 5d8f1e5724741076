/-
  No cell of these rows narrows 'for every input' (looked for: loops, veiled, ifaces, maps, wideKeys, modest, calm, conditions, laid).
  DERIVED. THE GIVEN ROWS OF THIS SEAT. 11 by the template 'for every input the law returns true; each argument reads behind the call as it read before'; 0 by the template 'total and deterministic' (their statements: YtoljmkdfamffmaaGreatTotals.lean).
  GIVEN WITH THE SEED: the statements are not yours to turn. If you find one false, say at which input.
  Laid BY PROGRAM, IN A SANDBOX (cutbox-rows.mjs): the forced cells as the released guide's own fill.sh prints them over the translation 629dce9aa8b8eb46… (all of the seat's roots in one cut). By AI agents, Wed Nov 11 2026. No macro, syntax, notation, axiom, sorry.
-/
import Derived.Test.YtoljmkdfamffmaaGreatChecked
import GoSem.Claim
import GoSem.ClaimJoined
import GoSem.ClaimMapViews
import Derived.JoinedTies
import Derived.KernelRfl
namespace Go.Proofs.YtoljmkdfamffmaaGreat
/- THE CELL 'sum', in the pinned program and in every row, IS THE sha256 OF THE DUMP (.gsa) THAT YtoljmkdfamffmaaGreatProg.lean LOADS. Nothing in Lean hashes anything: it is a label: what it is worth is what the hold of that sum in a sandbox is worth. -/
noncomputable def Tryz.pinned : Pinned := { name := "ytoljmkdfamffmaagreat", sum := "629dce9aa8b8eb462a7474346a0ac486f8e3d78b631a6537bb1be6bbae787bfa", checked := Tryz.checked }
namespace Rows
def none {H : Type} : Left H := { results := [], args := [] }

/-- 'laws.FnExactProvenPrefix': WHATEVER THE INPUT: true; the input reads as it did. -/
def fnExactProvenPrefixSpec : ChangeSpec := { name := "fnExactProvenPrefix", fn := fun _ => fun
  | [d1, d2, d3, d4] => { results := [.lit (.bool true)], args := [d1, d2, d3, d4] }
  | _ => none }
def fnExactProvenPrefixRow : OpenClaim := { program := "ytoljmkdfamffmaagreat", sum := "629dce9aa8b8eb462a7474346a0ac486f8e3d78b631a6537bb1be6bbae787bfa", func := "loop.example/g00878/laws.FnExactProvenPrefix", spec := "fnExactProvenPrefix", unfollowed := true, recurses := true, apart := false }
def FnExactProvenPrefixSaid : Prop := fnExactProvenPrefixRow.holds Tryz.pinned (OpenSpec.ofChange fnExactProvenPrefixSpec)

/-- ITS FALSE NEIGHBOUR: 'it returns false'. Refute it at one input. -/
def fnExactProvenPrefixWrong : ChangeSpec := { name := "fnExactProvenPrefix", fn := fun _ => fun
  | [d1, d2, d3, d4] => { results := [.lit (.bool false)], args := [d1, d2, d3, d4] }
  | _ => none }
def FnExactProvenPrefixWrongFalsely : Prop := fnExactProvenPrefixRow.holds Tryz.pinned (OpenSpec.ofChange fnExactProvenPrefixWrong)

/-- 'laws.FnEntries': WHATEVER THE INPUT: true; the input reads as it did. -/
def fnEntriesSpec : ChangeSpec := { name := "fnEntries", fn := fun _ => fun
  | [d1, d2] => { results := [.lit (.bool true)], args := [d1, d2] }
  | _ => none }
def fnEntriesRow : OpenClaim := { program := "ytoljmkdfamffmaagreat", sum := "629dce9aa8b8eb462a7474346a0ac486f8e3d78b631a6537bb1be6bbae787bfa", func := "loop.example/g00878/laws.FnEntries", spec := "fnEntries", unfollowed := true, recurses := true, apart := false }
def FnEntriesSaid : Prop := fnEntriesRow.holds Tryz.pinned (OpenSpec.ofChange fnEntriesSpec)

/-- ITS FALSE NEIGHBOUR: 'it returns false'. Refute it at one input. -/
def fnEntriesWrong : ChangeSpec := { name := "fnEntries", fn := fun _ => fun
  | [d1, d2] => { results := [.lit (.bool false)], args := [d1, d2] }
  | _ => none }
def FnEntriesWrongFalsely : Prop := fnEntriesRow.holds Tryz.pinned (OpenSpec.ofChange fnEntriesWrong)

/-- 'laws.FnMixCodes': WHATEVER THE INPUT: true; the input reads as it did. -/
def fnMixCodesSpec : ChangeSpec := { name := "fnMixCodes", fn := fun _ => fun
  | [d1, d2] => { results := [.lit (.bool true)], args := [d1, d2] }
  | _ => none }
def fnMixCodesRow : OpenClaim := { program := "ytoljmkdfamffmaagreat", sum := "629dce9aa8b8eb462a7474346a0ac486f8e3d78b631a6537bb1be6bbae787bfa", func := "loop.example/g00878/laws.FnMixCodes", spec := "fnMixCodes", unfollowed := true, recurses := true, apart := false }
def FnMixCodesSaid : Prop := fnMixCodesRow.holds Tryz.pinned (OpenSpec.ofChange fnMixCodesSpec)

/-- ITS FALSE NEIGHBOUR: 'it returns false'. Refute it at one input. -/
def fnMixCodesWrong : ChangeSpec := { name := "fnMixCodes", fn := fun _ => fun
  | [d1, d2] => { results := [.lit (.bool false)], args := [d1, d2] }
  | _ => none }
def FnMixCodesWrongFalsely : Prop := fnMixCodesRow.holds Tryz.pinned (OpenSpec.ofChange fnMixCodesWrong)

/-- 'laws.FnShares': WHATEVER THE INPUT: true; the input reads as it did. -/
def fnSharesSpec : ChangeSpec := { name := "fnShares", fn := fun _ => fun
  | [d1, d2] => { results := [.lit (.bool true)], args := [d1, d2] }
  | _ => none }
def fnSharesRow : OpenClaim := { program := "ytoljmkdfamffmaagreat", sum := "629dce9aa8b8eb462a7474346a0ac486f8e3d78b631a6537bb1be6bbae787bfa", func := "loop.example/g00878/laws.FnShares", spec := "fnShares", unfollowed := true, recurses := true, apart := false }
def FnSharesSaid : Prop := fnSharesRow.holds Tryz.pinned (OpenSpec.ofChange fnSharesSpec)

/-- ITS FALSE NEIGHBOUR: 'it returns false'. Refute it at one input. -/
def fnSharesWrong : ChangeSpec := { name := "fnShares", fn := fun _ => fun
  | [d1, d2] => { results := [.lit (.bool false)], args := [d1, d2] }
  | _ => none }
def FnSharesWrongFalsely : Prop := fnSharesRow.holds Tryz.pinned (OpenSpec.ofChange fnSharesWrong)

/-- 'laws.FnForks': WHATEVER THE INPUT: true; the input reads as it did. -/
def fnForksSpec : ChangeSpec := { name := "fnForks", fn := fun _ => fun
  | [d1, d2] => { results := [.lit (.bool true)], args := [d1, d2] }
  | _ => none }
def fnForksRow : OpenClaim := { program := "ytoljmkdfamffmaagreat", sum := "629dce9aa8b8eb462a7474346a0ac486f8e3d78b631a6537bb1be6bbae787bfa", func := "loop.example/g00878/laws.FnForks", spec := "fnForks", unfollowed := true, recurses := true, apart := false }
def FnForksSaid : Prop := fnForksRow.holds Tryz.pinned (OpenSpec.ofChange fnForksSpec)

/-- ITS FALSE NEIGHBOUR: 'it returns false'. Refute it at one input. -/
def fnForksWrong : ChangeSpec := { name := "fnForks", fn := fun _ => fun
  | [d1, d2] => { results := [.lit (.bool false)], args := [d1, d2] }
  | _ => none }
def FnForksWrongFalsely : Prop := fnForksRow.holds Tryz.pinned (OpenSpec.ofChange fnForksWrong)

/-- 'laws.FnDealers': WHATEVER THE INPUT: true; the input reads as it did. -/
def fnDealersSpec : ChangeSpec := { name := "fnDealers", fn := fun _ => fun
  | [d1, d2] => { results := [.lit (.bool true)], args := [d1, d2] }
  | _ => none }
def fnDealersRow : OpenClaim := { program := "ytoljmkdfamffmaagreat", sum := "629dce9aa8b8eb462a7474346a0ac486f8e3d78b631a6537bb1be6bbae787bfa", func := "loop.example/g00878/laws.FnDealers", spec := "fnDealers", unfollowed := true, recurses := true, apart := false }
def FnDealersSaid : Prop := fnDealersRow.holds Tryz.pinned (OpenSpec.ofChange fnDealersSpec)

/-- ITS FALSE NEIGHBOUR: 'it returns false'. Refute it at one input. -/
def fnDealersWrong : ChangeSpec := { name := "fnDealers", fn := fun _ => fun
  | [d1, d2] => { results := [.lit (.bool false)], args := [d1, d2] }
  | _ => none }
def FnDealersWrongFalsely : Prop := fnDealersRow.holds Tryz.pinned (OpenSpec.ofChange fnDealersWrong)

/-- 'laws.FnExactOpeningOf': WHATEVER THE INPUT: true; the input reads as it did. -/
def fnExactOpeningOfSpec : ChangeSpec := { name := "fnExactOpeningOf", fn := fun _ => fun
  | [d1, d2] => { results := [.lit (.bool true)], args := [d1, d2] }
  | _ => none }
def fnExactOpeningOfRow : OpenClaim := { program := "ytoljmkdfamffmaagreat", sum := "629dce9aa8b8eb462a7474346a0ac486f8e3d78b631a6537bb1be6bbae787bfa", func := "loop.example/g00878/laws.FnExactOpeningOf", spec := "fnExactOpeningOf", unfollowed := true, recurses := true, apart := false }
def FnExactOpeningOfSaid : Prop := fnExactOpeningOfRow.holds Tryz.pinned (OpenSpec.ofChange fnExactOpeningOfSpec)

/-- ITS FALSE NEIGHBOUR: 'it returns false'. Refute it at one input. -/
def fnExactOpeningOfWrong : ChangeSpec := { name := "fnExactOpeningOf", fn := fun _ => fun
  | [d1, d2] => { results := [.lit (.bool false)], args := [d1, d2] }
  | _ => none }
def FnExactOpeningOfWrongFalsely : Prop := fnExactOpeningOfRow.holds Tryz.pinned (OpenSpec.ofChange fnExactOpeningOfWrong)

/-- 'laws.FnGossip': WHATEVER THE INPUT: true; the input reads as it did. -/
def fnGossipSpec : ChangeSpec := { name := "fnGossip", fn := fun _ => fun
  | [d1, d2] => { results := [.lit (.bool true)], args := [d1, d2] }
  | _ => none }
def fnGossipRow : OpenClaim := { program := "ytoljmkdfamffmaagreat", sum := "629dce9aa8b8eb462a7474346a0ac486f8e3d78b631a6537bb1be6bbae787bfa", func := "loop.example/g00878/laws.FnGossip", spec := "fnGossip", unfollowed := true, recurses := true, apart := false }
def FnGossipSaid : Prop := fnGossipRow.holds Tryz.pinned (OpenSpec.ofChange fnGossipSpec)

/-- ITS FALSE NEIGHBOUR: 'it returns false'. Refute it at one input. -/
def fnGossipWrong : ChangeSpec := { name := "fnGossip", fn := fun _ => fun
  | [d1, d2] => { results := [.lit (.bool false)], args := [d1, d2] }
  | _ => none }
def FnGossipWrongFalsely : Prop := fnGossipRow.holds Tryz.pinned (OpenSpec.ofChange fnGossipWrong)

/-- 'laws.FnPrefixes': WHATEVER THE INPUT: true; the input reads as it did. -/
def fnPrefixesSpec : ChangeSpec := { name := "fnPrefixes", fn := fun _ => fun
  | [d1, d2] => { results := [.lit (.bool true)], args := [d1, d2] }
  | _ => none }
def fnPrefixesRow : OpenClaim := { program := "ytoljmkdfamffmaagreat", sum := "629dce9aa8b8eb462a7474346a0ac486f8e3d78b631a6537bb1be6bbae787bfa", func := "loop.example/g00878/laws.FnPrefixes", spec := "fnPrefixes", unfollowed := true, recurses := true, apart := false }
def FnPrefixesSaid : Prop := fnPrefixesRow.holds Tryz.pinned (OpenSpec.ofChange fnPrefixesSpec)

/-- ITS FALSE NEIGHBOUR: 'it returns false'. Refute it at one input. -/
def fnPrefixesWrong : ChangeSpec := { name := "fnPrefixes", fn := fun _ => fun
  | [d1, d2] => { results := [.lit (.bool false)], args := [d1, d2] }
  | _ => none }
def FnPrefixesWrongFalsely : Prop := fnPrefixesRow.holds Tryz.pinned (OpenSpec.ofChange fnPrefixesWrong)

/-- 'laws.FnHeads': WHATEVER THE INPUT: true; the input reads as it did. -/
def fnHeadsSpec : ChangeSpec := { name := "fnHeads", fn := fun _ => fun
  | [d1, d2] => { results := [.lit (.bool true)], args := [d1, d2] }
  | _ => none }
def fnHeadsRow : OpenClaim := { program := "ytoljmkdfamffmaagreat", sum := "629dce9aa8b8eb462a7474346a0ac486f8e3d78b631a6537bb1be6bbae787bfa", func := "loop.example/g00878/laws.FnHeads", spec := "fnHeads", unfollowed := true, recurses := true, apart := false }
def FnHeadsSaid : Prop := fnHeadsRow.holds Tryz.pinned (OpenSpec.ofChange fnHeadsSpec)

/-- ITS FALSE NEIGHBOUR: 'it returns false'. Refute it at one input. -/
def fnHeadsWrong : ChangeSpec := { name := "fnHeads", fn := fun _ => fun
  | [d1, d2] => { results := [.lit (.bool false)], args := [d1, d2] }
  | _ => none }
def FnHeadsWrongFalsely : Prop := fnHeadsRow.holds Tryz.pinned (OpenSpec.ofChange fnHeadsWrong)

/-- 'laws.FnWeeding': WHATEVER THE INPUT: true; the input reads as it did. -/
def fnWeedingSpec : ChangeSpec := { name := "fnWeeding", fn := fun _ => fun
  | [d1, d2] => { results := [.lit (.bool true)], args := [d1, d2] }
  | _ => none }
def fnWeedingRow : OpenClaim := { program := "ytoljmkdfamffmaagreat", sum := "629dce9aa8b8eb462a7474346a0ac486f8e3d78b631a6537bb1be6bbae787bfa", func := "loop.example/g00878/laws.FnWeeding", spec := "fnWeeding", unfollowed := true, recurses := true, apart := false }
def FnWeedingSaid : Prop := fnWeedingRow.holds Tryz.pinned (OpenSpec.ofChange fnWeedingSpec)

/-- ITS FALSE NEIGHBOUR: 'it returns false'. Refute it at one input. -/
def fnWeedingWrong : ChangeSpec := { name := "fnWeeding", fn := fun _ => fun
  | [d1, d2] => { results := [.lit (.bool false)], args := [d1, d2] }
  | _ => none }
def FnWeedingWrongFalsely : Prop := fnWeedingRow.holds Tryz.pinned (OpenSpec.ofChange fnWeedingWrong)

/- THE SECOND FORM. 'bulk': how many values and letters a reading holds, each counted each time it is reached (what is shared counts as often as it is met; a slice's spare places count too). A statement '..UptoSaid' is the law's where the arguments, and the package variables that the reading takes, are together of bulk at most 1048576: NARROWER than '..Said'. Prove '..Said' where nothing that the law and all that it calls make is longer than what came in: it says more and counts as full. Else prove '..UptoSaid'. A law counts once. -/
mutual
def uptoBulk {H : Type} : DataW H → Nat
  | .lit (.string bytes) => bytes.length + 1
  | .lit _ => 1
  | .nil => 1
  | .ptr d => uptoBulk d + 1
  | .slice elems spare => uptoBulkAll elems + uptoBulkAll spare + 1
  | .agg parts => uptoBulkAll parts + 1
  | .iface _ d => uptoBulk d + 1
  | .map entries => uptoBulkEntries entries + 1
  | .held _ => 1
def uptoBulkAll {H : Type} : List (DataW H) → Nat
  | [] => 0
  | d :: r => uptoBulk d + uptoBulkAll r
def uptoBulkEntries {H : Type} : List (Lit × DataW H) → Nat
  | [] => 0
  | x :: r => uptoBulkEntry x + uptoBulkEntries r
def uptoBulkEntry {H : Type} : Lit × DataW H → Nat
  | (.string bytes, d) => bytes.length + uptoBulk d + 1
  | (_, d) => uptoBulk d + 1
 end
def uptoSmall : (H : Type) → List (DataW H) → Bool := fun _ ds => decide (uptoBulkAll ds ≤ 1048576)
def OpenSpec.upto (s : _root_.Go.ChangeSpec) : _root_.Go.OpenSpec := { _root_.Go.OpenSpec.ofChange s with cond := some uptoSmall }

/-- 'laws.FnExactProvenPrefix', WHERE WHAT IT READS IS OF BULK AT MOST 1048576: true; the input reads as it did. -/
def fnExactProvenPrefixUptoRow : OpenClaim := { program := "ytoljmkdfamffmaagreat", sum := "629dce9aa8b8eb462a7474346a0ac486f8e3d78b631a6537bb1be6bbae787bfa", func := "loop.example/g00878/laws.FnExactProvenPrefix", spec := "fnExactProvenPrefix", unfollowed := true, recurses := true, apart := false, narrowed := true }
def FnExactProvenPrefixUptoSaid : Prop := fnExactProvenPrefixUptoRow.holds Tryz.pinned (OpenSpec.upto fnExactProvenPrefixSpec)

/-- 'laws.FnEntries', WHERE WHAT IT READS IS OF BULK AT MOST 1048576: true; the input reads as it did. -/
def fnEntriesUptoRow : OpenClaim := { program := "ytoljmkdfamffmaagreat", sum := "629dce9aa8b8eb462a7474346a0ac486f8e3d78b631a6537bb1be6bbae787bfa", func := "loop.example/g00878/laws.FnEntries", spec := "fnEntries", unfollowed := true, recurses := true, apart := false, narrowed := true }
def FnEntriesUptoSaid : Prop := fnEntriesUptoRow.holds Tryz.pinned (OpenSpec.upto fnEntriesSpec)

/-- 'laws.FnMixCodes', WHERE WHAT IT READS IS OF BULK AT MOST 1048576: true; the input reads as it did. -/
def fnMixCodesUptoRow : OpenClaim := { program := "ytoljmkdfamffmaagreat", sum := "629dce9aa8b8eb462a7474346a0ac486f8e3d78b631a6537bb1be6bbae787bfa", func := "loop.example/g00878/laws.FnMixCodes", spec := "fnMixCodes", unfollowed := true, recurses := true, apart := false, narrowed := true }
def FnMixCodesUptoSaid : Prop := fnMixCodesUptoRow.holds Tryz.pinned (OpenSpec.upto fnMixCodesSpec)

/-- 'laws.FnShares', WHERE WHAT IT READS IS OF BULK AT MOST 1048576: true; the input reads as it did. -/
def fnSharesUptoRow : OpenClaim := { program := "ytoljmkdfamffmaagreat", sum := "629dce9aa8b8eb462a7474346a0ac486f8e3d78b631a6537bb1be6bbae787bfa", func := "loop.example/g00878/laws.FnShares", spec := "fnShares", unfollowed := true, recurses := true, apart := false, narrowed := true }
def FnSharesUptoSaid : Prop := fnSharesUptoRow.holds Tryz.pinned (OpenSpec.upto fnSharesSpec)

/-- 'laws.FnForks', WHERE WHAT IT READS IS OF BULK AT MOST 1048576: true; the input reads as it did. -/
def fnForksUptoRow : OpenClaim := { program := "ytoljmkdfamffmaagreat", sum := "629dce9aa8b8eb462a7474346a0ac486f8e3d78b631a6537bb1be6bbae787bfa", func := "loop.example/g00878/laws.FnForks", spec := "fnForks", unfollowed := true, recurses := true, apart := false, narrowed := true }
def FnForksUptoSaid : Prop := fnForksUptoRow.holds Tryz.pinned (OpenSpec.upto fnForksSpec)

/-- 'laws.FnDealers', WHERE WHAT IT READS IS OF BULK AT MOST 1048576: true; the input reads as it did. -/
def fnDealersUptoRow : OpenClaim := { program := "ytoljmkdfamffmaagreat", sum := "629dce9aa8b8eb462a7474346a0ac486f8e3d78b631a6537bb1be6bbae787bfa", func := "loop.example/g00878/laws.FnDealers", spec := "fnDealers", unfollowed := true, recurses := true, apart := false, narrowed := true }
def FnDealersUptoSaid : Prop := fnDealersUptoRow.holds Tryz.pinned (OpenSpec.upto fnDealersSpec)

/-- 'laws.FnExactOpeningOf', WHERE WHAT IT READS IS OF BULK AT MOST 1048576: true; the input reads as it did. -/
def fnExactOpeningOfUptoRow : OpenClaim := { program := "ytoljmkdfamffmaagreat", sum := "629dce9aa8b8eb462a7474346a0ac486f8e3d78b631a6537bb1be6bbae787bfa", func := "loop.example/g00878/laws.FnExactOpeningOf", spec := "fnExactOpeningOf", unfollowed := true, recurses := true, apart := false, narrowed := true }
def FnExactOpeningOfUptoSaid : Prop := fnExactOpeningOfUptoRow.holds Tryz.pinned (OpenSpec.upto fnExactOpeningOfSpec)

/-- 'laws.FnGossip', WHERE WHAT IT READS IS OF BULK AT MOST 1048576: true; the input reads as it did. -/
def fnGossipUptoRow : OpenClaim := { program := "ytoljmkdfamffmaagreat", sum := "629dce9aa8b8eb462a7474346a0ac486f8e3d78b631a6537bb1be6bbae787bfa", func := "loop.example/g00878/laws.FnGossip", spec := "fnGossip", unfollowed := true, recurses := true, apart := false, narrowed := true }
def FnGossipUptoSaid : Prop := fnGossipUptoRow.holds Tryz.pinned (OpenSpec.upto fnGossipSpec)

/-- 'laws.FnPrefixes', WHERE WHAT IT READS IS OF BULK AT MOST 1048576: true; the input reads as it did. -/
def fnPrefixesUptoRow : OpenClaim := { program := "ytoljmkdfamffmaagreat", sum := "629dce9aa8b8eb462a7474346a0ac486f8e3d78b631a6537bb1be6bbae787bfa", func := "loop.example/g00878/laws.FnPrefixes", spec := "fnPrefixes", unfollowed := true, recurses := true, apart := false, narrowed := true }
def FnPrefixesUptoSaid : Prop := fnPrefixesUptoRow.holds Tryz.pinned (OpenSpec.upto fnPrefixesSpec)

/-- 'laws.FnHeads', WHERE WHAT IT READS IS OF BULK AT MOST 1048576: true; the input reads as it did. -/
def fnHeadsUptoRow : OpenClaim := { program := "ytoljmkdfamffmaagreat", sum := "629dce9aa8b8eb462a7474346a0ac486f8e3d78b631a6537bb1be6bbae787bfa", func := "loop.example/g00878/laws.FnHeads", spec := "fnHeads", unfollowed := true, recurses := true, apart := false, narrowed := true }
def FnHeadsUptoSaid : Prop := fnHeadsUptoRow.holds Tryz.pinned (OpenSpec.upto fnHeadsSpec)

/-- 'laws.FnWeeding', WHERE WHAT IT READS IS OF BULK AT MOST 1048576: true; the input reads as it did. -/
def fnWeedingUptoRow : OpenClaim := { program := "ytoljmkdfamffmaagreat", sum := "629dce9aa8b8eb462a7474346a0ac486f8e3d78b631a6537bb1be6bbae787bfa", func := "loop.example/g00878/laws.FnWeeding", spec := "fnWeeding", unfollowed := true, recurses := true, apart := false, narrowed := true }
def FnWeedingUptoSaid : Prop := fnWeedingUptoRow.holds Tryz.pinned (OpenSpec.upto fnWeedingSpec)

end Rows
end Go.Proofs.YtoljmkdfamffmaaGreat
