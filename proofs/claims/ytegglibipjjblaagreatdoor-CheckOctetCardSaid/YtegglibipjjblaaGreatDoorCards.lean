/-
  DERIVED. GIVEN WITH THE SEED: THE CARDS: each row of YtegglibipjjblaaGreatDoorRows.lean that lists a variable, with what it lists TIED to the program's text (the seventh form; the later family's looks); each row that meets fmt, with fmt's text TOLD by the authors' own Lean function (tested against real Go, not proved from fmt's source: count such statements apart). THE CARD IS WHAT COUNTS. Prove the row's statement (the work); the ties are given (YtegglibipjjblaaGreatDoorTie.lean); close each card by the builder's one call (the guide's Derived/Test/ToyasCard.lean, 'card_holds'). Laid BY PROGRAM, IN A SANDBOX (cutbox-door.mjs). By AI agents, Wed Nov 11 2026. No macro, syntax, notation, axiom, sorry.
-/
import Derived.Test.YtegglibipjjblaaGreatDoorRows
import GoSem.ClaimSeven
namespace Go.Proofs.YtegglibipjjblaaGreatDoor
namespace Rows

/-- THE TIED CARD OF 'rickyardlaw26.MarkStates'. -/
def markStatesCard : Claim7 := { stood := { row := markStatesRow, standIns := [], harness := (true, "f0a693b46dc3038825bfa3607a3142e113c7bda9c9dc486269a01c2a8334ac39"), looks := true }, kinds := [], alts := [], laidByText := true, laidKinds := [.data], laidTests := true, laidLooks := .later }
def MarkStatesCardSaid : Prop := Claim7.holds Tryz.pinned (.plain (OpenSpec.ofChange markStatesSpec)) markStatesCard

/-- THE TIED CARD OF 'rickyardlaw26.MarkCharts'. -/
def markChartsCard : Claim7 := { stood := { row := markChartsRow, standIns := [], harness := (true, "f0a693b46dc3038825bfa3607a3142e113c7bda9c9dc486269a01c2a8334ac39"), looks := true }, kinds := [], alts := [], laidByText := true, laidKinds := [.data], laidTests := true, laidLooks := .later }
def MarkChartsCardSaid : Prop := Claim7.holds Tryz.pinned (.plain (OpenSpec.ofChange markChartsSpec)) markChartsCard

/-- THE TIED CARD OF 'rickyardlaw26.MarkSames'. -/
def markSamesCard : Claim7 := { stood := { row := markSamesRow, standIns := [], harness := (true, "f0a693b46dc3038825bfa3607a3142e113c7bda9c9dc486269a01c2a8334ac39"), looks := true }, kinds := [], alts := [], laidByText := true, laidKinds := [.data], laidTests := true, laidLooks := .later }
def MarkSamesCardSaid : Prop := Claim7.holds Tryz.pinned (.plain (OpenSpec.ofChange markSamesSpec)) markSamesCard

/-- THE TIED CARD OF 'rickyardlaw26.MarkOrder'. -/
def markOrderCard : Claim7 := { stood := { row := markOrderRow, standIns := [], harness := (true, "f0a693b46dc3038825bfa3607a3142e113c7bda9c9dc486269a01c2a8334ac39"), looks := true }, kinds := [], alts := [], laidByText := true, laidKinds := [.data], laidTests := true, laidLooks := .later }
def MarkOrderCardSaid : Prop := Claim7.holds Tryz.pinned (.plain (OpenSpec.ofChange markOrderSpec)) markOrderCard

/-- THE TIED CARD OF 'rickyardlaw26.MarkSpoilt'. -/
def markSpoiltCard : Claim7 := { stood := { row := markSpoiltRow, standIns := [], harness := (true, "f0a693b46dc3038825bfa3607a3142e113c7bda9c9dc486269a01c2a8334ac39"), looks := true }, kinds := [], alts := [], laidByText := true, laidKinds := [.data], laidTests := true, laidLooks := .later }
def MarkSpoiltCardSaid : Prop := Claim7.holds Tryz.pinned (.plain (OpenSpec.ofChange markSpoiltSpec)) markSpoiltCard

/-- THE TIED CARD OF 'rickyardlaw26.MarkOthers'. -/
def markOthersCard : Claim7 := { stood := { row := markOthersRow, standIns := [], harness := (true, "f0a693b46dc3038825bfa3607a3142e113c7bda9c9dc486269a01c2a8334ac39"), looks := true }, kinds := [], alts := [], laidByText := true, laidKinds := [.data], laidTests := true, laidLooks := .later }
def MarkOthersCardSaid : Prop := Claim7.holds Tryz.pinned (.plain (OpenSpec.ofChange markOthersSpec)) markOthersCard

/-- THE TIED CARD OF 'rickyardlaw27.CheckOctet'. -/
def checkOctetCard : Claim7 := { stood := { row := checkOctetRow, standIns := [], harness := (true, "f0a693b46dc3038825bfa3607a3142e113c7bda9c9dc486269a01c2a8334ac39"), looks := true }, kinds := [], alts := [], laidByText := true, laidKinds := [.data], laidTests := true, laidLooks := .later }
def CheckOctetCardSaid : Prop := Claim7.holds Tryz.pinned (.plain (OpenSpec.ofChange checkOctetSpec)) checkOctetCard

/-- THE TIED CARD OF 'rickyardlaw27.CheckCut'. -/
def checkCutCard : Claim7 := { stood := { row := checkCutRow, standIns := [], harness := (true, "f0a693b46dc3038825bfa3607a3142e113c7bda9c9dc486269a01c2a8334ac39"), looks := true }, kinds := [], alts := [], laidByText := true, laidKinds := [.data], laidTests := true, laidLooks := .later }
def CheckCutCardSaid : Prop := Claim7.holds Tryz.pinned (.plain (OpenSpec.ofChange checkCutSpec)) checkCutCard

/-- THE TIED CARD OF 'rickyardlaw27.CheckAny'. -/
def checkAnyCard : Claim7 := { stood := { row := checkAnyRow, standIns := [], harness := (true, "f0a693b46dc3038825bfa3607a3142e113c7bda9c9dc486269a01c2a8334ac39"), looks := true }, kinds := [], alts := [], laidByText := true, laidKinds := [.data], laidTests := true, laidLooks := .later }
def CheckAnyCardSaid : Prop := Claim7.holds Tryz.pinned (.plain (OpenSpec.ofChange checkAnySpec)) checkAnyCard

/-- THE TIED CARD OF 'rickyardlaw27.CheckStates'. -/
def checkStatesCard : Claim7 := { stood := { row := checkStatesRow, standIns := [], harness := (true, "f0a693b46dc3038825bfa3607a3142e113c7bda9c9dc486269a01c2a8334ac39"), looks := true }, kinds := [], alts := [], laidByText := true, laidKinds := [.data], laidTests := true, laidLooks := .later }
def CheckStatesCardSaid : Prop := Claim7.holds Tryz.pinned (.plain (OpenSpec.ofChange checkStatesSpec)) checkStatesCard

/-- THE TIED CARD OF 'rickyardlaw27.CheckSpoilt'. -/
def checkSpoiltCard : Claim7 := { stood := { row := checkSpoiltRow, standIns := [], harness := (true, "f0a693b46dc3038825bfa3607a3142e113c7bda9c9dc486269a01c2a8334ac39"), looks := true }, kinds := [], alts := [], laidByText := true, laidKinds := [.data], laidTests := true, laidLooks := .later }
def CheckSpoiltCardSaid : Prop := Claim7.holds Tryz.pinned (.plain (OpenSpec.ofChange checkSpoiltSpec)) checkSpoiltCard

/-- THE SECOND FORM's CARD OF 'rickyardlaw26.MarkStates'. -/
def markStatesUptoCard : Claim7 := { stood := { row := markStatesUptoRow, standIns := [], harness := (true, "f0a693b46dc3038825bfa3607a3142e113c7bda9c9dc486269a01c2a8334ac39"), looks := true }, kinds := [], alts := [], laidByText := true, laidKinds := [.data], laidTests := true, laidLooks := .later }
def MarkStatesUptoCardSaid : Prop := Claim7.holds Tryz.pinned (.plain (OpenSpec.upto markStatesSpec)) markStatesUptoCard

/-- THE SECOND FORM's CARD OF 'rickyardlaw26.MarkCharts'. -/
def markChartsUptoCard : Claim7 := { stood := { row := markChartsUptoRow, standIns := [], harness := (true, "f0a693b46dc3038825bfa3607a3142e113c7bda9c9dc486269a01c2a8334ac39"), looks := true }, kinds := [], alts := [], laidByText := true, laidKinds := [.data], laidTests := true, laidLooks := .later }
def MarkChartsUptoCardSaid : Prop := Claim7.holds Tryz.pinned (.plain (OpenSpec.upto markChartsSpec)) markChartsUptoCard

/-- THE SECOND FORM's CARD OF 'rickyardlaw26.MarkSames'. -/
def markSamesUptoCard : Claim7 := { stood := { row := markSamesUptoRow, standIns := [], harness := (true, "f0a693b46dc3038825bfa3607a3142e113c7bda9c9dc486269a01c2a8334ac39"), looks := true }, kinds := [], alts := [], laidByText := true, laidKinds := [.data], laidTests := true, laidLooks := .later }
def MarkSamesUptoCardSaid : Prop := Claim7.holds Tryz.pinned (.plain (OpenSpec.upto markSamesSpec)) markSamesUptoCard

/-- THE SECOND FORM's CARD OF 'rickyardlaw26.MarkOrder'. -/
def markOrderUptoCard : Claim7 := { stood := { row := markOrderUptoRow, standIns := [], harness := (true, "f0a693b46dc3038825bfa3607a3142e113c7bda9c9dc486269a01c2a8334ac39"), looks := true }, kinds := [], alts := [], laidByText := true, laidKinds := [.data], laidTests := true, laidLooks := .later }
def MarkOrderUptoCardSaid : Prop := Claim7.holds Tryz.pinned (.plain (OpenSpec.upto markOrderSpec)) markOrderUptoCard

/-- THE SECOND FORM's CARD OF 'rickyardlaw26.MarkSpoilt'. -/
def markSpoiltUptoCard : Claim7 := { stood := { row := markSpoiltUptoRow, standIns := [], harness := (true, "f0a693b46dc3038825bfa3607a3142e113c7bda9c9dc486269a01c2a8334ac39"), looks := true }, kinds := [], alts := [], laidByText := true, laidKinds := [.data], laidTests := true, laidLooks := .later }
def MarkSpoiltUptoCardSaid : Prop := Claim7.holds Tryz.pinned (.plain (OpenSpec.upto markSpoiltSpec)) markSpoiltUptoCard

/-- THE SECOND FORM's CARD OF 'rickyardlaw26.MarkOthers'. -/
def markOthersUptoCard : Claim7 := { stood := { row := markOthersUptoRow, standIns := [], harness := (true, "f0a693b46dc3038825bfa3607a3142e113c7bda9c9dc486269a01c2a8334ac39"), looks := true }, kinds := [], alts := [], laidByText := true, laidKinds := [.data], laidTests := true, laidLooks := .later }
def MarkOthersUptoCardSaid : Prop := Claim7.holds Tryz.pinned (.plain (OpenSpec.upto markOthersSpec)) markOthersUptoCard

/-- THE SECOND FORM's CARD OF 'rickyardlaw27.CheckOctet'. -/
def checkOctetUptoCard : Claim7 := { stood := { row := checkOctetUptoRow, standIns := [], harness := (true, "f0a693b46dc3038825bfa3607a3142e113c7bda9c9dc486269a01c2a8334ac39"), looks := true }, kinds := [], alts := [], laidByText := true, laidKinds := [.data], laidTests := true, laidLooks := .later }
def CheckOctetUptoCardSaid : Prop := Claim7.holds Tryz.pinned (.plain (OpenSpec.upto checkOctetSpec)) checkOctetUptoCard

/-- THE SECOND FORM's CARD OF 'rickyardlaw27.CheckCut'. -/
def checkCutUptoCard : Claim7 := { stood := { row := checkCutUptoRow, standIns := [], harness := (true, "f0a693b46dc3038825bfa3607a3142e113c7bda9c9dc486269a01c2a8334ac39"), looks := true }, kinds := [], alts := [], laidByText := true, laidKinds := [.data], laidTests := true, laidLooks := .later }
def CheckCutUptoCardSaid : Prop := Claim7.holds Tryz.pinned (.plain (OpenSpec.upto checkCutSpec)) checkCutUptoCard

/-- THE SECOND FORM's CARD OF 'rickyardlaw27.CheckAny'. -/
def checkAnyUptoCard : Claim7 := { stood := { row := checkAnyUptoRow, standIns := [], harness := (true, "f0a693b46dc3038825bfa3607a3142e113c7bda9c9dc486269a01c2a8334ac39"), looks := true }, kinds := [], alts := [], laidByText := true, laidKinds := [.data], laidTests := true, laidLooks := .later }
def CheckAnyUptoCardSaid : Prop := Claim7.holds Tryz.pinned (.plain (OpenSpec.upto checkAnySpec)) checkAnyUptoCard

/-- THE SECOND FORM's CARD OF 'rickyardlaw27.CheckStates'. -/
def checkStatesUptoCard : Claim7 := { stood := { row := checkStatesUptoRow, standIns := [], harness := (true, "f0a693b46dc3038825bfa3607a3142e113c7bda9c9dc486269a01c2a8334ac39"), looks := true }, kinds := [], alts := [], laidByText := true, laidKinds := [.data], laidTests := true, laidLooks := .later }
def CheckStatesUptoCardSaid : Prop := Claim7.holds Tryz.pinned (.plain (OpenSpec.upto checkStatesSpec)) checkStatesUptoCard

/-- THE SECOND FORM's CARD OF 'rickyardlaw27.CheckSpoilt'. -/
def checkSpoiltUptoCard : Claim7 := { stood := { row := checkSpoiltUptoRow, standIns := [], harness := (true, "f0a693b46dc3038825bfa3607a3142e113c7bda9c9dc486269a01c2a8334ac39"), looks := true }, kinds := [], alts := [], laidByText := true, laidKinds := [.data], laidTests := true, laidLooks := .later }
def CheckSpoiltUptoCardSaid : Prop := Claim7.holds Tryz.pinned (.plain (OpenSpec.upto checkSpoiltSpec)) checkSpoiltUptoCard
end Rows
end Go.Proofs.YtegglibipjjblaaGreatDoor
