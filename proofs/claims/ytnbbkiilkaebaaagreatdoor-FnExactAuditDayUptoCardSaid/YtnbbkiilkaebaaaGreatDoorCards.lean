/-
  DERIVED. GIVEN WITH THE SEED: THE CARDS: each row of YtnbbkiilkaebaaaGreatDoorRows.lean that lists a variable, with what it lists TIED to the program's text (the seventh form; the later family's looks); each row that meets fmt, with fmt's text TOLD by the authors' own Lean function (tested against real Go, not proved from fmt's source: count such statements apart). THE CARD IS WHAT COUNTS. Prove the row's statement (the work); the ties are given (YtnbbkiilkaebaaaGreatDoorTie.lean); close each card by the builder's one call (the guide's Derived/Test/ToyasCard.lean, 'card_holds'). Laid BY PROGRAM, IN A SANDBOX (cutbox-door.mjs). By AI agents, Wed Nov 11 2026. No macro, syntax, notation, axiom, sorry.
-/
import Derived.Test.YtnbbkiilkaebaaaGreatDoorRows
import GoSem.ClaimSeven
namespace Go.Proofs.YtnbbkiilkaebaaaGreatDoor
namespace Rows

/-- THE TIED CARD OF 'laws.FnExactReceiptFor'. -/
def fnExactReceiptForCard : Claim7 := { stood := { row := fnExactReceiptForRow, standIns := [], harness := (true, "fd47c24ddd6a1f943577ae422c1fbee525ee1ddf3aae5a74e9ff7c28930cb590"), looks := false }, kinds := [], alts := [], laidByText := true, laidKinds := [.data, .data, .data], laidTests := true, laidLooks := .later }
def FnExactReceiptForCardSaid : Prop := Claim7.holds Tryz.pinned (.plain (OpenSpec.ofChange fnExactReceiptForSpec)) fnExactReceiptForCard

/-- THE TIED CARD OF 'laws.FnExactSealVote'. -/
def fnExactSealVoteCard : Claim7 := { stood := { row := fnExactSealVoteRow, standIns := [], harness := (true, "fd47c24ddd6a1f943577ae422c1fbee525ee1ddf3aae5a74e9ff7c28930cb590"), looks := false }, kinds := [], alts := [], laidByText := true, laidKinds := [.data, .data, .data], laidTests := true, laidLooks := .later }
def FnExactSealVoteCardSaid : Prop := Claim7.holds Tryz.pinned (.plain (OpenSpec.ofChange fnExactSealVoteSpec)) fnExactSealVoteCard

/-- THE TIED CARD OF 'laws.FnExactAuditSession'. -/
def fnExactAuditSessionCard : Claim7 := { stood := { row := fnExactAuditSessionRow, standIns := [], harness := (true, "fd47c24ddd6a1f943577ae422c1fbee525ee1ddf3aae5a74e9ff7c28930cb590"), looks := false }, kinds := [], alts := [], laidByText := true, laidKinds := [.data, .data, .data], laidTests := true, laidLooks := .later }
def FnExactAuditSessionCardSaid : Prop := Claim7.holds Tryz.pinned (.plain (OpenSpec.ofChange fnExactAuditSessionSpec)) fnExactAuditSessionCard

/-- THE TIED CARD OF 'laws.FnExactAuditDay'. -/
def fnExactAuditDayCard : Claim7 := { stood := { row := fnExactAuditDayRow, standIns := [], harness := (true, "fd47c24ddd6a1f943577ae422c1fbee525ee1ddf3aae5a74e9ff7c28930cb590"), looks := false }, kinds := [], alts := [], laidByText := true, laidKinds := [.data, .data, .data], laidTests := true, laidLooks := .later }
def FnExactAuditDayCardSaid : Prop := Claim7.holds Tryz.pinned (.plain (OpenSpec.ofChange fnExactAuditDaySpec)) fnExactAuditDayCard

/-- THE SECOND FORM's CARD OF 'laws.FnExactReceiptFor'. -/
def fnExactReceiptForUptoCard : Claim7 := { stood := { row := fnExactReceiptForUptoRow, standIns := [], harness := (true, "fd47c24ddd6a1f943577ae422c1fbee525ee1ddf3aae5a74e9ff7c28930cb590"), looks := false }, kinds := [], alts := [], laidByText := true, laidKinds := [.data, .data, .data], laidTests := true, laidLooks := .later }
def FnExactReceiptForUptoCardSaid : Prop := Claim7.holds Tryz.pinned (.plain (OpenSpec.upto fnExactReceiptForSpec)) fnExactReceiptForUptoCard

/-- THE SECOND FORM's CARD OF 'laws.FnExactSealVote'. -/
def fnExactSealVoteUptoCard : Claim7 := { stood := { row := fnExactSealVoteUptoRow, standIns := [], harness := (true, "fd47c24ddd6a1f943577ae422c1fbee525ee1ddf3aae5a74e9ff7c28930cb590"), looks := false }, kinds := [], alts := [], laidByText := true, laidKinds := [.data, .data, .data], laidTests := true, laidLooks := .later }
def FnExactSealVoteUptoCardSaid : Prop := Claim7.holds Tryz.pinned (.plain (OpenSpec.upto fnExactSealVoteSpec)) fnExactSealVoteUptoCard

/-- THE SECOND FORM's CARD OF 'laws.FnExactAuditSession'. -/
def fnExactAuditSessionUptoCard : Claim7 := { stood := { row := fnExactAuditSessionUptoRow, standIns := [], harness := (true, "fd47c24ddd6a1f943577ae422c1fbee525ee1ddf3aae5a74e9ff7c28930cb590"), looks := false }, kinds := [], alts := [], laidByText := true, laidKinds := [.data, .data, .data], laidTests := true, laidLooks := .later }
def FnExactAuditSessionUptoCardSaid : Prop := Claim7.holds Tryz.pinned (.plain (OpenSpec.upto fnExactAuditSessionSpec)) fnExactAuditSessionUptoCard

/-- THE SECOND FORM's CARD OF 'laws.FnExactAuditDay'. -/
def fnExactAuditDayUptoCard : Claim7 := { stood := { row := fnExactAuditDayUptoRow, standIns := [], harness := (true, "fd47c24ddd6a1f943577ae422c1fbee525ee1ddf3aae5a74e9ff7c28930cb590"), looks := false }, kinds := [], alts := [], laidByText := true, laidKinds := [.data, .data, .data], laidTests := true, laidLooks := .later }
def FnExactAuditDayUptoCardSaid : Prop := Claim7.holds Tryz.pinned (.plain (OpenSpec.upto fnExactAuditDaySpec)) fnExactAuditDayUptoCard
end Rows
end Go.Proofs.YtnbbkiilkaebaaaGreatDoor
