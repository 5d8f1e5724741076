/-
  DERIVED. GIVEN WITH THE SEED: THE CARDS: each row of YtekoabfndgochaaGreatDoorRows.lean that lists a variable, with what it lists TIED to the program's text (the seventh form; the later family's looks); each row that meets fmt, with fmt's text TOLD by the authors' own Lean function (tested against real Go, not proved from fmt's source: count such statements apart). THE CARD IS WHAT COUNTS. Prove the row's statement (the work); the ties are given (YtekoabfndgochaaGreatDoorTie.lean); close each card by the builder's one call (the guide's Derived/Test/ToyasCard.lean, 'card_holds'). Laid BY PROGRAM, IN A SANDBOX (cutbox-door.mjs). By AI agents, Wed Nov 11 2026. No macro, syntax, notation, axiom, sorry.
-/
import Derived.Test.YtekoabfndgochaaGreatDoorRows
import GoSem.ClaimSeven
namespace Go.Proofs.YtekoabfndgochaaGreatDoor
namespace Rows

/-- THE TIED CARD OF 'laws.FnReceipts'. -/
def fnReceiptsCard : Claim7 := { stood := { row := fnReceiptsRow, standIns := [], harness := (true, "381d84474c2d6421094624aff6b1f66ff802feac37314cdd86a0f52802ce5126"), looks := false }, kinds := [], alts := [], laidByText := true, laidKinds := [.data, .data, .data], laidTests := true, laidLooks := .later }
def FnReceiptsCardSaid : Prop := Claim7.holds Tryz.pinned (.plain (OpenSpec.ofChange fnReceiptsSpec)) fnReceiptsCard

/-- THE TIED CARD OF 'laws.FnSealed'. -/
def fnSealedCard : Claim7 := { stood := { row := fnSealedRow, standIns := [], harness := (true, "381d84474c2d6421094624aff6b1f66ff802feac37314cdd86a0f52802ce5126"), looks := false }, kinds := [], alts := [], laidByText := true, laidKinds := [.data, .data, .data], laidTests := true, laidLooks := .later }
def FnSealedCardSaid : Prop := Claim7.holds Tryz.pinned (.plain (OpenSpec.ofChange fnSealedSpec)) fnSealedCard

/-- THE SECOND FORM's CARD OF 'laws.FnReceipts'. -/
def fnReceiptsUptoCard : Claim7 := { stood := { row := fnReceiptsUptoRow, standIns := [], harness := (true, "381d84474c2d6421094624aff6b1f66ff802feac37314cdd86a0f52802ce5126"), looks := false }, kinds := [], alts := [], laidByText := true, laidKinds := [.data, .data, .data], laidTests := true, laidLooks := .later }
def FnReceiptsUptoCardSaid : Prop := Claim7.holds Tryz.pinned (.plain (OpenSpec.upto fnReceiptsSpec)) fnReceiptsUptoCard

/-- THE SECOND FORM's CARD OF 'laws.FnSealed'. -/
def fnSealedUptoCard : Claim7 := { stood := { row := fnSealedUptoRow, standIns := [], harness := (true, "381d84474c2d6421094624aff6b1f66ff802feac37314cdd86a0f52802ce5126"), looks := false }, kinds := [], alts := [], laidByText := true, laidKinds := [.data, .data, .data], laidTests := true, laidLooks := .later }
def FnSealedUptoCardSaid : Prop := Claim7.holds Tryz.pinned (.plain (OpenSpec.upto fnSealedSpec)) fnSealedUptoCard
end Rows
end Go.Proofs.YtekoabfndgochaaGreatDoor
