/-
  DERIVED. GIVEN WITH THE SEED: THE CARDS: each row of YtanmddhmkphilaaDoorRows.lean that lists a variable, with what it lists TIED to the program's text (the seventh form; the later family's looks); each row that meets fmt, with fmt's text TOLD by the authors' own Lean function (tested against real Go, not proved from fmt's source: count such statements apart). THE CARD IS WHAT COUNTS. Prove the row's statement (the work); the ties are given (YtanmddhmkphilaaDoorTie.lean); close each card by the builder's one call (the guide's Derived/Test/ToyasCard.lean, 'card_holds'). Laid BY PROGRAM, IN A SANDBOX (cutbox-door.mjs). By AI agents, Wed Nov 11 2026. No macro, syntax, notation, axiom, sorry.
-/
import Derived.Test.YtanmddhmkphilaaDoorRows
import GoSem.ClaimSeven
namespace Go.Proofs.YtanmddhmkphilaaDoor
namespace Rows

/-- THE TIED CARD OF 'rickyardlaw32.ScriptReads'. -/
def scriptReadsCard : Claim7 := { stood := { row := scriptReadsRow, standIns := [], harness := (true, "10a4d32f936104b4d5e60b06d1bb08995e89810ddbc472bf8eced8744183060e"), looks := false }, kinds := [], alts := [], laidByText := true, laidKinds := [.data, .data, .pinned], laidTests := true, laidLooks := .later }
def ScriptReadsCardSaid : Prop := Claim7.holds Tryd.pinned (.plain (OpenSpec.ofChange scriptReadsSpec)) scriptReadsCard

/-- THE TIED CARD OF 'rickyardlaw33.LedgerPrints'. -/
def ledgerPrintsCard : Claim7 := { stood := { row := ledgerPrintsRow, standIns := [], harness := (true, "10a4d32f936104b4d5e60b06d1bb08995e89810ddbc472bf8eced8744183060e"), looks := false }, kinds := [], alts := [], laidByText := true, laidKinds := [.data, .data, .data, .data, .pinned], laidTests := true, laidLooks := .later }
def LedgerPrintsCardSaid : Prop := Claim7.holds Tryd.pinned (.plain (OpenSpec.ofChange ledgerPrintsSpec)) ledgerPrintsCard

/-- THE TIED CARD OF 'rickyardlaw33.LedgerApart'. -/
def ledgerApartCard : Claim7 := { stood := { row := ledgerApartRow, standIns := [], harness := (true, "10a4d32f936104b4d5e60b06d1bb08995e89810ddbc472bf8eced8744183060e"), looks := false }, kinds := [], alts := [], laidByText := true, laidKinds := [.data, .data, .data, .data, .pinned], laidTests := true, laidLooks := .later }
def LedgerApartCardSaid : Prop := Claim7.holds Tryd.pinned (.plain (OpenSpec.ofChange ledgerApartSpec)) ledgerApartCard

/-- THE TIED CARD OF 'rickyardlaw32.ScriptShows'. -/
def scriptShowsCard : Claim7 := { stood := { row := scriptShowsRow, standIns := [], harness := (true, "10a4d32f936104b4d5e60b06d1bb08995e89810ddbc472bf8eced8744183060e"), looks := false }, kinds := [], alts := [], laidByText := true, laidKinds := [.data, .data, .data, .data, .data, .pinned], laidTests := true, laidLooks := .later }
def ScriptShowsCardSaid : Prop := Claim7.holds Tryd.pinned (.plain (OpenSpec.ofChange scriptShowsSpec)) scriptShowsCard

/-- THE TIED CARD OF 'rickyardlaw32.ScriptTexts'. -/
def scriptTextsCard : Claim7 := { stood := { row := scriptTextsRow, standIns := [], harness := (true, "10a4d32f936104b4d5e60b06d1bb08995e89810ddbc472bf8eced8744183060e"), looks := false }, kinds := [], alts := [], laidByText := true, laidKinds := [.data, .data, .data, .data, .data, .pinned], laidTests := true, laidLooks := .later }
def ScriptTextsCardSaid : Prop := Claim7.holds Tryd.pinned (.plain (OpenSpec.ofChange scriptTextsSpec)) scriptTextsCard

/-- THE SECOND FORM's CARD OF 'rickyardlaw32.ScriptReads'. -/
def scriptReadsUptoCard : Claim7 := { stood := { row := scriptReadsUptoRow, standIns := [], harness := (true, "10a4d32f936104b4d5e60b06d1bb08995e89810ddbc472bf8eced8744183060e"), looks := false }, kinds := [], alts := [], laidByText := true, laidKinds := [.data, .data, .pinned], laidTests := true, laidLooks := .later }
def ScriptReadsUptoCardSaid : Prop := Claim7.holds Tryd.pinned (.plain (OpenSpec.upto scriptReadsSpec)) scriptReadsUptoCard

/-- THE SECOND FORM's CARD OF 'rickyardlaw33.LedgerPrints'. -/
def ledgerPrintsUptoCard : Claim7 := { stood := { row := ledgerPrintsUptoRow, standIns := [], harness := (true, "10a4d32f936104b4d5e60b06d1bb08995e89810ddbc472bf8eced8744183060e"), looks := false }, kinds := [], alts := [], laidByText := true, laidKinds := [.data, .data, .data, .data, .pinned], laidTests := true, laidLooks := .later }
def LedgerPrintsUptoCardSaid : Prop := Claim7.holds Tryd.pinned (.plain (OpenSpec.upto ledgerPrintsSpec)) ledgerPrintsUptoCard

/-- THE SECOND FORM's CARD OF 'rickyardlaw33.LedgerApart'. -/
def ledgerApartUptoCard : Claim7 := { stood := { row := ledgerApartUptoRow, standIns := [], harness := (true, "10a4d32f936104b4d5e60b06d1bb08995e89810ddbc472bf8eced8744183060e"), looks := false }, kinds := [], alts := [], laidByText := true, laidKinds := [.data, .data, .data, .data, .pinned], laidTests := true, laidLooks := .later }
def LedgerApartUptoCardSaid : Prop := Claim7.holds Tryd.pinned (.plain (OpenSpec.upto ledgerApartSpec)) ledgerApartUptoCard

/-- THE SECOND FORM's CARD OF 'rickyardlaw32.ScriptShows'. -/
def scriptShowsUptoCard : Claim7 := { stood := { row := scriptShowsUptoRow, standIns := [], harness := (true, "10a4d32f936104b4d5e60b06d1bb08995e89810ddbc472bf8eced8744183060e"), looks := false }, kinds := [], alts := [], laidByText := true, laidKinds := [.data, .data, .data, .data, .data, .pinned], laidTests := true, laidLooks := .later }
def ScriptShowsUptoCardSaid : Prop := Claim7.holds Tryd.pinned (.plain (OpenSpec.upto scriptShowsSpec)) scriptShowsUptoCard

/-- THE SECOND FORM's CARD OF 'rickyardlaw32.ScriptTexts'. -/
def scriptTextsUptoCard : Claim7 := { stood := { row := scriptTextsUptoRow, standIns := [], harness := (true, "10a4d32f936104b4d5e60b06d1bb08995e89810ddbc472bf8eced8744183060e"), looks := false }, kinds := [], alts := [], laidByText := true, laidKinds := [.data, .data, .data, .data, .data, .pinned], laidTests := true, laidLooks := .later }
def ScriptTextsUptoCardSaid : Prop := Claim7.holds Tryd.pinned (.plain (OpenSpec.upto scriptTextsSpec)) scriptTextsUptoCard
end Rows
end Go.Proofs.YtanmddhmkphilaaDoor
