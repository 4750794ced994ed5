/-
  DERIVED. GIVEN WITH THE SEED: THE CARDS: each row of YtepnfdggeobcaabDoorRows.lean that lists a variable, with what it lists TIED to the program's text (the seventh form; the later family's looks); each row that meets fmt, with fmt's text TOLD by the authors' own Lean function (tested against real Go, not proved from fmt's source: count such statements apart). THE CARD IS WHAT COUNTS. Prove the row's statement (the work); the ties are given (YtepnfdggeobcaabDoorTie.lean); close each card by the builder's one call (the guide's Derived/Test/ToyasCard.lean, 'card_holds'). Laid BY PROGRAM, IN A SANDBOX (cutbox-door.mjs). By AI agents, Wed Nov 11 2026. No macro, syntax, notation, axiom, sorry.
-/
import Derived.Test.YtepnfdggeobcaabDoorRows
import GoSem.ClaimSeven
namespace Go.Proofs.YtepnfdggeobcaabDoor
namespace Rows

/-- THE TIED CARD OF 'rickyardlaw03.DigitTickets'. -/
def digitTicketsCard : Claim7 := { stood := { row := digitTicketsRow, standIns := [], harness := (true, "eec6565fb1a0dcda9c65927b00e7a6d448a7e12bfd4ca28c51167ba6603050b8"), looks := false }, kinds := [], alts := [], laidByText := true, laidKinds := [.data, .data, .data], laidTests := true, laidLooks := .later }
def DigitTicketsCardSaid : Prop := Claim7.holds Tryd.pinned (.plain (OpenSpec.ofChange digitTicketsSpec)) digitTicketsCard

/-- THE TIED CARD OF 'rickyardlaw03.DigitApart'. -/
def digitApartCard : Claim7 := { stood := { row := digitApartRow, standIns := [], harness := (true, "eec6565fb1a0dcda9c65927b00e7a6d448a7e12bfd4ca28c51167ba6603050b8"), looks := false }, kinds := [], alts := [], laidByText := true, laidKinds := [.data, .data, .data], laidTests := true, laidLooks := .later }
def DigitApartCardSaid : Prop := Claim7.holds Tryd.pinned (.plain (OpenSpec.ofChange digitApartSpec)) digitApartCard

/-- THE TIED CARD OF 'rickyardlaw03.DigitHandles'. -/
def digitHandlesCard : Claim7 := { stood := { row := digitHandlesRow, standIns := [], harness := (true, "eec6565fb1a0dcda9c65927b00e7a6d448a7e12bfd4ca28c51167ba6603050b8"), looks := false }, kinds := [], alts := [], laidByText := true, laidKinds := [.data, .data, .data], laidTests := true, laidLooks := .later }
def DigitHandlesCardSaid : Prop := Claim7.holds Tryd.pinned (.plain (OpenSpec.ofChange digitHandlesSpec)) digitHandlesCard

/-- THE TIED CARD OF 'rickyardlaw32.ScriptParses'. -/
def scriptParsesCard : Claim7 := { stood := { row := scriptParsesRow, standIns := [], harness := (true, "eec6565fb1a0dcda9c65927b00e7a6d448a7e12bfd4ca28c51167ba6603050b8"), looks := false }, kinds := [], alts := [], laidByText := true, laidKinds := [.data], laidTests := true, laidLooks := .later }
def ScriptParsesCardSaid : Prop := Claim7.holds Tryd.pinned (.plain (OpenSpec.ofChange scriptParsesSpec)) scriptParsesCard

/-- THE TIED CARD OF 'rickyardlaw32.ScriptSames'. -/
def scriptSamesCard : Claim7 := { stood := { row := scriptSamesRow, standIns := [], harness := (true, "eec6565fb1a0dcda9c65927b00e7a6d448a7e12bfd4ca28c51167ba6603050b8"), looks := false }, kinds := [], alts := [], laidByText := true, laidKinds := [.data], laidTests := true, laidLooks := .later }
def ScriptSamesCardSaid : Prop := Claim7.holds Tryd.pinned (.plain (OpenSpec.ofChange scriptSamesSpec)) scriptSamesCard

/-- THE SECOND FORM's CARD OF 'rickyardlaw03.DigitTickets'. -/
def digitTicketsUptoCard : Claim7 := { stood := { row := digitTicketsUptoRow, standIns := [], harness := (true, "eec6565fb1a0dcda9c65927b00e7a6d448a7e12bfd4ca28c51167ba6603050b8"), looks := false }, kinds := [], alts := [], laidByText := true, laidKinds := [.data, .data, .data], laidTests := true, laidLooks := .later }
def DigitTicketsUptoCardSaid : Prop := Claim7.holds Tryd.pinned (.plain (OpenSpec.upto digitTicketsSpec)) digitTicketsUptoCard

/-- THE SECOND FORM's CARD OF 'rickyardlaw03.DigitApart'. -/
def digitApartUptoCard : Claim7 := { stood := { row := digitApartUptoRow, standIns := [], harness := (true, "eec6565fb1a0dcda9c65927b00e7a6d448a7e12bfd4ca28c51167ba6603050b8"), looks := false }, kinds := [], alts := [], laidByText := true, laidKinds := [.data, .data, .data], laidTests := true, laidLooks := .later }
def DigitApartUptoCardSaid : Prop := Claim7.holds Tryd.pinned (.plain (OpenSpec.upto digitApartSpec)) digitApartUptoCard

/-- THE SECOND FORM's CARD OF 'rickyardlaw03.DigitHandles'. -/
def digitHandlesUptoCard : Claim7 := { stood := { row := digitHandlesUptoRow, standIns := [], harness := (true, "eec6565fb1a0dcda9c65927b00e7a6d448a7e12bfd4ca28c51167ba6603050b8"), looks := false }, kinds := [], alts := [], laidByText := true, laidKinds := [.data, .data, .data], laidTests := true, laidLooks := .later }
def DigitHandlesUptoCardSaid : Prop := Claim7.holds Tryd.pinned (.plain (OpenSpec.upto digitHandlesSpec)) digitHandlesUptoCard

/-- THE SECOND FORM's CARD OF 'rickyardlaw32.ScriptParses'. -/
def scriptParsesUptoCard : Claim7 := { stood := { row := scriptParsesUptoRow, standIns := [], harness := (true, "eec6565fb1a0dcda9c65927b00e7a6d448a7e12bfd4ca28c51167ba6603050b8"), looks := false }, kinds := [], alts := [], laidByText := true, laidKinds := [.data], laidTests := true, laidLooks := .later }
def ScriptParsesUptoCardSaid : Prop := Claim7.holds Tryd.pinned (.plain (OpenSpec.upto scriptParsesSpec)) scriptParsesUptoCard

/-- THE SECOND FORM's CARD OF 'rickyardlaw32.ScriptSames'. -/
def scriptSamesUptoCard : Claim7 := { stood := { row := scriptSamesUptoRow, standIns := [], harness := (true, "eec6565fb1a0dcda9c65927b00e7a6d448a7e12bfd4ca28c51167ba6603050b8"), looks := false }, kinds := [], alts := [], laidByText := true, laidKinds := [.data], laidTests := true, laidLooks := .later }
def ScriptSamesUptoCardSaid : Prop := Claim7.holds Tryd.pinned (.plain (OpenSpec.upto scriptSamesSpec)) scriptSamesUptoCard
end Rows
end Go.Proofs.YtepnfdggeobcaabDoor
