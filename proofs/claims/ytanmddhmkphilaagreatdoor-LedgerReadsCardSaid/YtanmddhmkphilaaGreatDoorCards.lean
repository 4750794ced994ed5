/-
  DERIVED. GIVEN WITH THE SEED: THE CARDS: each row of YtanmddhmkphilaaGreatDoorRows.lean that lists a variable, with what it lists TIED to the program's text (the seventh form; the later family's looks); each row that meets fmt, with fmt's text TOLD by the authors' own Lean function (tested against real Go, not proved from fmt's source: count such statements apart). THE CARD IS WHAT COUNTS. Prove the row's statement (the work); the ties are given (YtanmddhmkphilaaGreatDoorTie.lean); close each card by the builder's one call (the guide's Derived/Test/ToyasCard.lean, 'card_holds'). Laid BY PROGRAM, IN A SANDBOX (cutbox-door.mjs). By AI agents, Wed Nov 11 2026. No macro, syntax, notation, axiom, sorry.
-/
import Derived.Test.YtanmddhmkphilaaGreatDoorRows
import GoSem.ClaimSeven
namespace Go.Proofs.YtanmddhmkphilaaGreatDoor
namespace Rows

/-- THE TIED CARD OF 'rickyardlaw33.LedgerReads'. -/
def ledgerReadsCard : Claim7 := { stood := { row := ledgerReadsRow, standIns := [], harness := (true, "0fc43b712a607d1372f487df39cfd0822b8c799d9a986be4198d0cf3ba865e70"), looks := false }, kinds := [], alts := [], laidByText := true, laidKinds := [.data, .data, .data, .data, .pinned], laidTests := true, laidLooks := .later }
def LedgerReadsCardSaid : Prop := Claim7.holds Tryz.pinned (.plain (OpenSpec.ofChange ledgerReadsSpec)) ledgerReadsCard

/-- THE SECOND FORM's CARD OF 'rickyardlaw33.LedgerReads'. -/
def ledgerReadsUptoCard : Claim7 := { stood := { row := ledgerReadsUptoRow, standIns := [], harness := (true, "0fc43b712a607d1372f487df39cfd0822b8c799d9a986be4198d0cf3ba865e70"), looks := false }, kinds := [], alts := [], laidByText := true, laidKinds := [.data, .data, .data, .data, .pinned], laidTests := true, laidLooks := .later }
def LedgerReadsUptoCardSaid : Prop := Claim7.holds Tryz.pinned (.plain (OpenSpec.upto ledgerReadsSpec)) ledgerReadsUptoCard
end Rows
end Go.Proofs.YtanmddhmkphilaaGreatDoor
