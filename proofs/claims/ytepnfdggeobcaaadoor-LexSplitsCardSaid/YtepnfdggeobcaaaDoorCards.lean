/-
  DERIVED. GIVEN WITH THE SEED: THE CARDS: each row of YtepnfdggeobcaaaDoorRows.lean that lists a variable, with what it lists TIED to the program's text (the seventh form; the later family's looks); each row that meets fmt, with fmt's text TOLD by the authors' own Lean function (tested against real Go, not proved from fmt's source: count such statements apart). THE CARD IS WHAT COUNTS. Prove the row's statement (the work); the ties are given (YtepnfdggeobcaaaDoorTie.lean); close each card by the builder's one call (the guide's Derived/Test/ToyasCard.lean, 'card_holds'). Laid BY PROGRAM, IN A SANDBOX (cutbox-door.mjs). By AI agents, Wed Nov 11 2026. No macro, syntax, notation, axiom, sorry.
-/
import Derived.Test.YtepnfdggeobcaaaDoorRows
import GoSem.ClaimSeven
namespace Go.Proofs.YtepnfdggeobcaaaDoor
namespace Rows

/-- THE TIED CARD OF 'rickyardlaw04.NameRights'. -/
def nameRightsCard : Claim7 := { stood := { row := nameRightsRow, standIns := [], harness := (true, "9f14a96ce8ec2009b41abe6127b4093583e1c2b9d2d377a159b66be2cbb0e4a6"), looks := false }, kinds := [], alts := [], laidByText := true, laidKinds := [.data, .data, .data], laidTests := true, laidLooks := .later }
def NameRightsCardSaid : Prop := Claim7.holds Tryd.pinned (.plain (OpenSpec.ofChange nameRightsSpec)) nameRightsCard

/-- THE TIED CARD OF 'rickyardlaw04.NameShows'. -/
def nameShowsCard : Claim7 := { stood := { row := nameShowsRow, standIns := [], harness := (true, "9f14a96ce8ec2009b41abe6127b4093583e1c2b9d2d377a159b66be2cbb0e4a6"), looks := false }, kinds := [], alts := [], laidByText := true, laidKinds := [.data, .data, .data], laidTests := true, laidLooks := .later }
def NameShowsCardSaid : Prop := Claim7.holds Tryd.pinned (.plain (OpenSpec.ofChange nameShowsSpec)) nameShowsCard

/-- THE TIED CARD OF 'rickyardlaw04.NameRunes'. -/
def nameRunesCard : Claim7 := { stood := { row := nameRunesRow, standIns := [], harness := (true, "9f14a96ce8ec2009b41abe6127b4093583e1c2b9d2d377a159b66be2cbb0e4a6"), looks := false }, kinds := [], alts := [], laidByText := true, laidKinds := [.data, .data, .data], laidTests := true, laidLooks := .later }
def NameRunesCardSaid : Prop := Claim7.holds Tryd.pinned (.plain (OpenSpec.ofChange nameRunesSpec)) nameRunesCard

/-- THE TIED CARD OF 'rickyardlaw04.NameCuts'. -/
def nameCutsCard : Claim7 := { stood := { row := nameCutsRow, standIns := [], harness := (true, "9f14a96ce8ec2009b41abe6127b4093583e1c2b9d2d377a159b66be2cbb0e4a6"), looks := false }, kinds := [], alts := [], laidByText := true, laidKinds := [.data, .data, .data], laidTests := true, laidLooks := .later }
def NameCutsCardSaid : Prop := Claim7.holds Tryd.pinned (.plain (OpenSpec.ofChange nameCutsSpec)) nameCutsCard

/-- THE TIED CARD OF 'rickyardlaw04.NameOrders'. -/
def nameOrdersCard : Claim7 := { stood := { row := nameOrdersRow, standIns := [], harness := (true, "9f14a96ce8ec2009b41abe6127b4093583e1c2b9d2d377a159b66be2cbb0e4a6"), looks := false }, kinds := [], alts := [], laidByText := true, laidKinds := [.data, .data, .data], laidTests := true, laidLooks := .later }
def NameOrdersCardSaid : Prop := Claim7.holds Tryd.pinned (.plain (OpenSpec.ofChange nameOrdersSpec)) nameOrdersCard

/-- THE TIED CARD OF 'rickyardlaw04.NameBetween'. -/
def nameBetweenCard : Claim7 := { stood := { row := nameBetweenRow, standIns := [], harness := (true, "9f14a96ce8ec2009b41abe6127b4093583e1c2b9d2d377a159b66be2cbb0e4a6"), looks := false }, kinds := [], alts := [], laidByText := true, laidKinds := [.data, .data, .data], laidTests := true, laidLooks := .later }
def NameBetweenCardSaid : Prop := Claim7.holds Tryd.pinned (.plain (OpenSpec.ofChange nameBetweenSpec)) nameBetweenCard

/-- THE TIED CARD OF 'rickyardlaw31.LexSplits'. -/
def lexSplitsCard : Claim7 := { stood := { row := lexSplitsRow, standIns := [], harness := (true, "9f14a96ce8ec2009b41abe6127b4093583e1c2b9d2d377a159b66be2cbb0e4a6"), looks := false }, kinds := [], alts := [], laidByText := true, laidKinds := [.data, .pinned], laidTests := true, laidLooks := .later }
def LexSplitsCardSaid : Prop := Claim7.holds Tryd.pinned (.plain (OpenSpec.ofChange lexSplitsSpec)) lexSplitsCard

/-- THE TIED CARD OF 'rickyardlaw03.DigitShows'. -/
def digitShowsCard : Claim7 := { stood := { row := digitShowsRow, standIns := [], harness := (true, "9f14a96ce8ec2009b41abe6127b4093583e1c2b9d2d377a159b66be2cbb0e4a6"), looks := false }, kinds := [], alts := [], laidByText := true, laidKinds := [.data, .data, .data], laidTests := true, laidLooks := .later }
def DigitShowsCardSaid : Prop := Claim7.holds Tryd.pinned (.plain (OpenSpec.ofChange digitShowsSpec)) digitShowsCard

/-- THE TIED CARD OF 'rickyardlaw03.DigitReads'. -/
def digitReadsCard : Claim7 := { stood := { row := digitReadsRow, standIns := [], harness := (true, "9f14a96ce8ec2009b41abe6127b4093583e1c2b9d2d377a159b66be2cbb0e4a6"), looks := false }, kinds := [], alts := [], laidByText := true, laidKinds := [.data, .data, .data], laidTests := true, laidLooks := .later }
def DigitReadsCardSaid : Prop := Claim7.holds Tryd.pinned (.plain (OpenSpec.ofChange digitReadsSpec)) digitReadsCard

/-- THE SECOND FORM's CARD OF 'rickyardlaw04.NameRights'. -/
def nameRightsUptoCard : Claim7 := { stood := { row := nameRightsUptoRow, standIns := [], harness := (true, "9f14a96ce8ec2009b41abe6127b4093583e1c2b9d2d377a159b66be2cbb0e4a6"), looks := false }, kinds := [], alts := [], laidByText := true, laidKinds := [.data, .data, .data], laidTests := true, laidLooks := .later }
def NameRightsUptoCardSaid : Prop := Claim7.holds Tryd.pinned (.plain (OpenSpec.upto nameRightsSpec)) nameRightsUptoCard

/-- THE SECOND FORM's CARD OF 'rickyardlaw04.NameShows'. -/
def nameShowsUptoCard : Claim7 := { stood := { row := nameShowsUptoRow, standIns := [], harness := (true, "9f14a96ce8ec2009b41abe6127b4093583e1c2b9d2d377a159b66be2cbb0e4a6"), looks := false }, kinds := [], alts := [], laidByText := true, laidKinds := [.data, .data, .data], laidTests := true, laidLooks := .later }
def NameShowsUptoCardSaid : Prop := Claim7.holds Tryd.pinned (.plain (OpenSpec.upto nameShowsSpec)) nameShowsUptoCard

/-- THE SECOND FORM's CARD OF 'rickyardlaw04.NameRunes'. -/
def nameRunesUptoCard : Claim7 := { stood := { row := nameRunesUptoRow, standIns := [], harness := (true, "9f14a96ce8ec2009b41abe6127b4093583e1c2b9d2d377a159b66be2cbb0e4a6"), looks := false }, kinds := [], alts := [], laidByText := true, laidKinds := [.data, .data, .data], laidTests := true, laidLooks := .later }
def NameRunesUptoCardSaid : Prop := Claim7.holds Tryd.pinned (.plain (OpenSpec.upto nameRunesSpec)) nameRunesUptoCard

/-- THE SECOND FORM's CARD OF 'rickyardlaw04.NameCuts'. -/
def nameCutsUptoCard : Claim7 := { stood := { row := nameCutsUptoRow, standIns := [], harness := (true, "9f14a96ce8ec2009b41abe6127b4093583e1c2b9d2d377a159b66be2cbb0e4a6"), looks := false }, kinds := [], alts := [], laidByText := true, laidKinds := [.data, .data, .data], laidTests := true, laidLooks := .later }
def NameCutsUptoCardSaid : Prop := Claim7.holds Tryd.pinned (.plain (OpenSpec.upto nameCutsSpec)) nameCutsUptoCard

/-- THE SECOND FORM's CARD OF 'rickyardlaw04.NameOrders'. -/
def nameOrdersUptoCard : Claim7 := { stood := { row := nameOrdersUptoRow, standIns := [], harness := (true, "9f14a96ce8ec2009b41abe6127b4093583e1c2b9d2d377a159b66be2cbb0e4a6"), looks := false }, kinds := [], alts := [], laidByText := true, laidKinds := [.data, .data, .data], laidTests := true, laidLooks := .later }
def NameOrdersUptoCardSaid : Prop := Claim7.holds Tryd.pinned (.plain (OpenSpec.upto nameOrdersSpec)) nameOrdersUptoCard

/-- THE SECOND FORM's CARD OF 'rickyardlaw04.NameBetween'. -/
def nameBetweenUptoCard : Claim7 := { stood := { row := nameBetweenUptoRow, standIns := [], harness := (true, "9f14a96ce8ec2009b41abe6127b4093583e1c2b9d2d377a159b66be2cbb0e4a6"), looks := false }, kinds := [], alts := [], laidByText := true, laidKinds := [.data, .data, .data], laidTests := true, laidLooks := .later }
def NameBetweenUptoCardSaid : Prop := Claim7.holds Tryd.pinned (.plain (OpenSpec.upto nameBetweenSpec)) nameBetweenUptoCard

/-- THE SECOND FORM's CARD OF 'rickyardlaw31.LexSplits'. -/
def lexSplitsUptoCard : Claim7 := { stood := { row := lexSplitsUptoRow, standIns := [], harness := (true, "9f14a96ce8ec2009b41abe6127b4093583e1c2b9d2d377a159b66be2cbb0e4a6"), looks := false }, kinds := [], alts := [], laidByText := true, laidKinds := [.data, .pinned], laidTests := true, laidLooks := .later }
def LexSplitsUptoCardSaid : Prop := Claim7.holds Tryd.pinned (.plain (OpenSpec.upto lexSplitsSpec)) lexSplitsUptoCard

/-- THE SECOND FORM's CARD OF 'rickyardlaw03.DigitShows'. -/
def digitShowsUptoCard : Claim7 := { stood := { row := digitShowsUptoRow, standIns := [], harness := (true, "9f14a96ce8ec2009b41abe6127b4093583e1c2b9d2d377a159b66be2cbb0e4a6"), looks := false }, kinds := [], alts := [], laidByText := true, laidKinds := [.data, .data, .data], laidTests := true, laidLooks := .later }
def DigitShowsUptoCardSaid : Prop := Claim7.holds Tryd.pinned (.plain (OpenSpec.upto digitShowsSpec)) digitShowsUptoCard

/-- THE SECOND FORM's CARD OF 'rickyardlaw03.DigitReads'. -/
def digitReadsUptoCard : Claim7 := { stood := { row := digitReadsUptoRow, standIns := [], harness := (true, "9f14a96ce8ec2009b41abe6127b4093583e1c2b9d2d377a159b66be2cbb0e4a6"), looks := false }, kinds := [], alts := [], laidByText := true, laidKinds := [.data, .data, .data], laidTests := true, laidLooks := .later }
def DigitReadsUptoCardSaid : Prop := Claim7.holds Tryd.pinned (.plain (OpenSpec.upto digitReadsSpec)) digitReadsUptoCard
end Rows
end Go.Proofs.YtepnfdggeobcaaaDoor
