/-
  DERIVED. GIVEN WITH THE SEED: THE CARDS: each row of YtjcghijjmhhldaaGreatDoorRows.lean that lists a variable, with what it lists TIED to the program's text (the seventh form; the later family's looks); each row that meets fmt, with fmt's text TOLD by the authors' own Lean function (tested against real Go, not proved from fmt's source: count such statements apart). THE CARD IS WHAT COUNTS. Prove the row's statement (the work); the ties are given (YtjcghijjmhhldaaGreatDoorTie.lean); close each card by the builder's one call (the guide's Derived/Test/ToyasCard.lean, 'card_holds'). Laid BY PROGRAM, IN A SANDBOX (cutbox-door.mjs). By AI agents, Wed Nov 11 2026. No macro, syntax, notation, axiom, sorry.
-/
import Derived.Test.YtjcghijjmhhldaaGreatDoorRows
import GoSem.ClaimSeven
namespace Go.Proofs.YtjcghijjmhhldaaGreatDoor
namespace Rows

/-- THE TIED CARD OF 'rickyardlaw28.MendFormats'. -/
def mendFormatsCard : Claim7 := { stood := { row := mendFormatsRow, standIns := [], harness := (true, "6c2eb2218efa5977f26ac973c4e3432f6028df9da3bffdd718df867ad0f3cfe0"), looks := true }, kinds := [], alts := [], laidByText := true, laidKinds := [.data], laidTests := true, laidLooks := .later }
def MendFormatsCardSaid : Prop := Claim7.holds Tryz.pinned (.plain (OpenSpec.ofChange mendFormatsSpec)) mendFormatsCard

/-- THE TIED CARD OF 'rickyardlaw28.MendRecovers'. -/
def mendRecoversCard : Claim7 := { stood := { row := mendRecoversRow, standIns := [], harness := (true, "6c2eb2218efa5977f26ac973c4e3432f6028df9da3bffdd718df867ad0f3cfe0"), looks := true }, kinds := [], alts := [], laidByText := true, laidKinds := [.data], laidTests := true, laidLooks := .later }
def MendRecoversCardSaid : Prop := Claim7.holds Tryz.pinned (.plain (OpenSpec.ofChange mendRecoversSpec)) mendRecoversCard

/-- THE TIED CARD OF 'rickyardlaw28.MendAny'. -/
def mendAnyCard : Claim7 := { stood := { row := mendAnyRow, standIns := [], harness := (true, "6c2eb2218efa5977f26ac973c4e3432f6028df9da3bffdd718df867ad0f3cfe0"), looks := true }, kinds := [], alts := [], laidByText := true, laidKinds := [.data], laidTests := true, laidLooks := .later }
def MendAnyCardSaid : Prop := Claim7.holds Tryz.pinned (.plain (OpenSpec.ofChange mendAnySpec)) mendAnyCard

/-- THE TIED CARD OF 'rickyardlaw28.MendTwice'. -/
def mendTwiceCard : Claim7 := { stood := { row := mendTwiceRow, standIns := [], harness := (true, "6c2eb2218efa5977f26ac973c4e3432f6028df9da3bffdd718df867ad0f3cfe0"), looks := true }, kinds := [], alts := [], laidByText := true, laidKinds := [.data], laidTests := true, laidLooks := .later }
def MendTwiceCardSaid : Prop := Claim7.holds Tryz.pinned (.plain (OpenSpec.ofChange mendTwiceSpec)) mendTwiceCard

/-- THE TIED CARD OF 'rickyardlaw28.MendBorn'. -/
def mendBornCard : Claim7 := { stood := { row := mendBornRow, standIns := [], harness := (true, "6c2eb2218efa5977f26ac973c4e3432f6028df9da3bffdd718df867ad0f3cfe0"), looks := true }, kinds := [], alts := [], laidByText := true, laidKinds := [.data], laidTests := true, laidLooks := .later }
def MendBornCardSaid : Prop := Claim7.holds Tryz.pinned (.plain (OpenSpec.ofChange mendBornSpec)) mendBornCard

/-- THE TIED CARD OF 'rickyardlaw28.MendCharts'. -/
def mendChartsCard : Claim7 := { stood := { row := mendChartsRow, standIns := [], harness := (true, "6c2eb2218efa5977f26ac973c4e3432f6028df9da3bffdd718df867ad0f3cfe0"), looks := true }, kinds := [], alts := [], laidByText := true, laidKinds := [.data], laidTests := true, laidLooks := .later }
def MendChartsCardSaid : Prop := Claim7.holds Tryz.pinned (.plain (OpenSpec.ofChange mendChartsSpec)) mendChartsCard

/-- THE SECOND FORM's CARD OF 'rickyardlaw28.MendFormats'. -/
def mendFormatsUptoCard : Claim7 := { stood := { row := mendFormatsUptoRow, standIns := [], harness := (true, "6c2eb2218efa5977f26ac973c4e3432f6028df9da3bffdd718df867ad0f3cfe0"), looks := true }, kinds := [], alts := [], laidByText := true, laidKinds := [.data], laidTests := true, laidLooks := .later }
def MendFormatsUptoCardSaid : Prop := Claim7.holds Tryz.pinned (.plain (OpenSpec.upto mendFormatsSpec)) mendFormatsUptoCard

/-- THE SECOND FORM's CARD OF 'rickyardlaw28.MendRecovers'. -/
def mendRecoversUptoCard : Claim7 := { stood := { row := mendRecoversUptoRow, standIns := [], harness := (true, "6c2eb2218efa5977f26ac973c4e3432f6028df9da3bffdd718df867ad0f3cfe0"), looks := true }, kinds := [], alts := [], laidByText := true, laidKinds := [.data], laidTests := true, laidLooks := .later }
def MendRecoversUptoCardSaid : Prop := Claim7.holds Tryz.pinned (.plain (OpenSpec.upto mendRecoversSpec)) mendRecoversUptoCard

/-- THE SECOND FORM's CARD OF 'rickyardlaw28.MendAny'. -/
def mendAnyUptoCard : Claim7 := { stood := { row := mendAnyUptoRow, standIns := [], harness := (true, "6c2eb2218efa5977f26ac973c4e3432f6028df9da3bffdd718df867ad0f3cfe0"), looks := true }, kinds := [], alts := [], laidByText := true, laidKinds := [.data], laidTests := true, laidLooks := .later }
def MendAnyUptoCardSaid : Prop := Claim7.holds Tryz.pinned (.plain (OpenSpec.upto mendAnySpec)) mendAnyUptoCard

/-- THE SECOND FORM's CARD OF 'rickyardlaw28.MendTwice'. -/
def mendTwiceUptoCard : Claim7 := { stood := { row := mendTwiceUptoRow, standIns := [], harness := (true, "6c2eb2218efa5977f26ac973c4e3432f6028df9da3bffdd718df867ad0f3cfe0"), looks := true }, kinds := [], alts := [], laidByText := true, laidKinds := [.data], laidTests := true, laidLooks := .later }
def MendTwiceUptoCardSaid : Prop := Claim7.holds Tryz.pinned (.plain (OpenSpec.upto mendTwiceSpec)) mendTwiceUptoCard

/-- THE SECOND FORM's CARD OF 'rickyardlaw28.MendBorn'. -/
def mendBornUptoCard : Claim7 := { stood := { row := mendBornUptoRow, standIns := [], harness := (true, "6c2eb2218efa5977f26ac973c4e3432f6028df9da3bffdd718df867ad0f3cfe0"), looks := true }, kinds := [], alts := [], laidByText := true, laidKinds := [.data], laidTests := true, laidLooks := .later }
def MendBornUptoCardSaid : Prop := Claim7.holds Tryz.pinned (.plain (OpenSpec.upto mendBornSpec)) mendBornUptoCard

/-- THE SECOND FORM's CARD OF 'rickyardlaw28.MendCharts'. -/
def mendChartsUptoCard : Claim7 := { stood := { row := mendChartsUptoRow, standIns := [], harness := (true, "6c2eb2218efa5977f26ac973c4e3432f6028df9da3bffdd718df867ad0f3cfe0"), looks := true }, kinds := [], alts := [], laidByText := true, laidKinds := [.data], laidTests := true, laidLooks := .later }
def MendChartsUptoCardSaid : Prop := Claim7.holds Tryz.pinned (.plain (OpenSpec.upto mendChartsSpec)) mendChartsUptoCard
end Rows
end Go.Proofs.YtjcghijjmhhldaaGreatDoor
