/-
  DERIVED. GIVEN WITH THE SEED: THE CARDS: each row of YtplemekcclpaoaaGreatDoorRows.lean that lists a variable, with what it lists TIED to the program's text (the seventh form; the later family's looks); each row that meets fmt, with fmt's text TOLD by the authors' own Lean function (tested against real Go, not proved from fmt's source: count such statements apart). THE CARD IS WHAT COUNTS. Prove the row's statement (the work); the ties are given (YtplemekcclpaoaaGreatDoorTie.lean); close each card by the builder's one call (the guide's Derived/Test/ToyasCard.lean, 'card_holds'). Laid BY PROGRAM, IN A SANDBOX (cutbox-door.mjs). By AI agents, Wed Nov 11 2026. No macro, syntax, notation, axiom, sorry.
-/
import Derived.Test.YtplemekcclpaoaaGreatDoorRows
import GoSem.ClaimSeven
namespace Go.Proofs.YtplemekcclpaoaaGreatDoor
namespace Rows

/-- THE TIED CARD OF 'laws.FnExactCountedBallots'. -/
def fnExactCountedBallotsCard : Claim7 := { stood := { row := fnExactCountedBallotsRow, standIns := [], harness := (true, "03bad641428658c922a7b1c1d0d3cb43dd0e5d312941e75c982a757edb29aebc"), looks := false }, kinds := [], alts := [], laidByText := true, laidKinds := [.data, .data, .data], laidTests := true, laidLooks := .later }
def FnExactCountedBallotsCardSaid : Prop := Claim7.holds Tryz.pinned (.plain (OpenSpec.ofChange fnExactCountedBallotsSpec)) fnExactCountedBallotsCard

/-- THE TIED CARD OF 'laws.FnExactCountedEntries'. -/
def fnExactCountedEntriesCard : Claim7 := { stood := { row := fnExactCountedEntriesRow, standIns := [], harness := (true, "03bad641428658c922a7b1c1d0d3cb43dd0e5d312941e75c982a757edb29aebc"), looks := false }, kinds := [], alts := [], laidByText := true, laidKinds := [.data, .data, .data], laidTests := true, laidLooks := .later }
def FnExactCountedEntriesCardSaid : Prop := Claim7.holds Tryz.pinned (.plain (OpenSpec.ofChange fnExactCountedEntriesSpec)) fnExactCountedEntriesCard

/-- THE SECOND FORM's CARD OF 'laws.FnExactCountedBallots'. -/
def fnExactCountedBallotsUptoCard : Claim7 := { stood := { row := fnExactCountedBallotsUptoRow, standIns := [], harness := (true, "03bad641428658c922a7b1c1d0d3cb43dd0e5d312941e75c982a757edb29aebc"), looks := false }, kinds := [], alts := [], laidByText := true, laidKinds := [.data, .data, .data], laidTests := true, laidLooks := .later }
def FnExactCountedBallotsUptoCardSaid : Prop := Claim7.holds Tryz.pinned (.plain (OpenSpec.upto fnExactCountedBallotsSpec)) fnExactCountedBallotsUptoCard

/-- THE SECOND FORM's CARD OF 'laws.FnExactCountedEntries'. -/
def fnExactCountedEntriesUptoCard : Claim7 := { stood := { row := fnExactCountedEntriesUptoRow, standIns := [], harness := (true, "03bad641428658c922a7b1c1d0d3cb43dd0e5d312941e75c982a757edb29aebc"), looks := false }, kinds := [], alts := [], laidByText := true, laidKinds := [.data, .data, .data], laidTests := true, laidLooks := .later }
def FnExactCountedEntriesUptoCardSaid : Prop := Claim7.holds Tryz.pinned (.plain (OpenSpec.upto fnExactCountedEntriesSpec)) fnExactCountedEntriesUptoCard
end Rows
end Go.Proofs.YtplemekcclpaoaaGreatDoor
