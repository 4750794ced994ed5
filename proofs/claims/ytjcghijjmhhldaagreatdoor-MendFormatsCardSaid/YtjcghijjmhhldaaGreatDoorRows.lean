/-
  NARROWER THAN 'FOR EVERY INPUT', by the rows' own cells (each row's printed sentence says how): MendFormats: laid · MendRecovers: laid · MendAny: laid · MendTwice: laid · MendBorn: laid · MendCharts: laid.
  DERIVED. THE GIVEN ROWS OF THIS SEAT. 6 by the template 'for every input the law returns true; each argument reads behind the call as it read before'; 0 by the template 'total and deterministic' (their statements: YtjcghijjmhhldaaGreatDoorTotals.lean).
  GIVEN WITH THE SEED: the statements are not yours to turn. If you find one false, say at which input.
  Laid BY PROGRAM, IN A SANDBOX (cutbox-rows.mjs): the forced cells as the released guide's own fill.sh prints them over the translation 17d4a1415140e51f… (all of the seat's roots in one cut). By AI agents, Wed Nov 11 2026. No macro, syntax, notation, axiom, sorry.
-/
import Derived.Test.YtjcghijjmhhldaaGreatDoorChecked
import GoSem.Claim
import GoSem.ClaimJoined
import GoSem.ClaimMapViews
import Derived.JoinedTies
import Derived.KernelRfl
namespace Go.Proofs.YtjcghijjmhhldaaGreatDoor
/- THE CELL 'sum', in the pinned program and in every row, IS THE sha256 OF THE DUMP (.gsa) THAT YtjcghijjmhhldaaGreatDoorProg.lean LOADS. Nothing in Lean hashes anything: it is a label: what it is worth is what the hold of that sum in a sandbox is worth. -/
noncomputable def Tryz.pinned : Pinned := { name := "ytjcghijjmhhldaagreatdoor", sum := "17d4a1415140e51fee8bb6093c56b0911d285f4fae73735bc877cd01e6dbb7d9", checked := Tryz.checked }
namespace Rows
def none {H : Type} : Left H := { results := [], args := [] }

/- WHAT THE LISTED PACKAGE-LEVEL VARIABLES READ AS WHEN THE CALL BEGINS. Each datum BY PROGRAM (the guide's laid-datum.mjs) off the statement by which the dump's own 'gosem.cut.vars' lays the variable. In a bare row this is a premise. The card (YtjcghijjmhhldaaGreatDoorCards.lean) ties it to the program's text. -/
def laid_math_bits_deBruijn64tab {H : Type} : DataW H := .agg [.lit (.int .u8 0), .lit (.int .u8 1), .lit (.int .u8 56), .lit (.int .u8 2), .lit (.int .u8 57), .lit (.int .u8 49), .lit (.int .u8 28), .lit (.int .u8 3), .lit (.int .u8 61), .lit (.int .u8 58), .lit (.int .u8 42), .lit (.int .u8 50), .lit (.int .u8 38), .lit (.int .u8 29), .lit (.int .u8 17), .lit (.int .u8 4), .lit (.int .u8 62), .lit (.int .u8 47), .lit (.int .u8 59), .lit (.int .u8 36), .lit (.int .u8 45), .lit (.int .u8 43), .lit (.int .u8 51), .lit (.int .u8 22), .lit (.int .u8 53), .lit (.int .u8 39), .lit (.int .u8 33), .lit (.int .u8 30), .lit (.int .u8 24), .lit (.int .u8 18), .lit (.int .u8 12), .lit (.int .u8 5), .lit (.int .u8 63), .lit (.int .u8 55), .lit (.int .u8 48), .lit (.int .u8 27), .lit (.int .u8 60), .lit (.int .u8 41), .lit (.int .u8 37), .lit (.int .u8 16), .lit (.int .u8 46), .lit (.int .u8 35), .lit (.int .u8 44), .lit (.int .u8 21), .lit (.int .u8 52), .lit (.int .u8 32), .lit (.int .u8 23), .lit (.int .u8 11), .lit (.int .u8 54), .lit (.int .u8 26), .lit (.int .u8 40), .lit (.int .u8 15), .lit (.int .u8 34), .lit (.int .u8 20), .lit (.int .u8 31), .lit (.int .u8 10), .lit (.int .u8 25), .lit (.int .u8 14), .lit (.int .u8 19), .lit (.int .u8 9), .lit (.int .u8 13), .lit (.int .u8 8), .lit (.int .u8 7), .lit (.int .u8 6)]

/-- 'rickyardlaw28.MendFormats': WHATEVER THE INPUT: true; the input reads as it did. -/
def mendFormatsSpec : ChangeSpec := { name := "mendFormats", fn := fun _ => fun
  | [d1, d2, d3] => { results := [.lit (.bool true)], args := [d1, d2, d3] }
  | _ => none }
def mendFormatsRow : OpenClaim := { program := "ytjcghijjmhhldaagreatdoor", sum := "17d4a1415140e51fee8bb6093c56b0911d285f4fae73735bc877cd01e6dbb7d9", func := "rickyard/rickyardlaw28.MendFormats", spec := "mendFormats", unfollowed := true, recurses := true, named := ["math/bits.deBruijn64tab"], apart := false, laid := [("math/bits.deBruijn64tab", laid_math_bits_deBruijn64tab)] }
def MendFormatsSaid : Prop := mendFormatsRow.holds Tryz.pinned (OpenSpec.ofChange mendFormatsSpec)

/-- ITS FALSE NEIGHBOUR: 'it returns false'. Refute it at one input. -/
def mendFormatsWrong : ChangeSpec := { name := "mendFormats", fn := fun _ => fun
  | [d1, d2, d3] => { results := [.lit (.bool false)], args := [d1, d2, d3] }
  | _ => none }
def MendFormatsWrongFalsely : Prop := mendFormatsRow.holds Tryz.pinned (OpenSpec.ofChange mendFormatsWrong)

/-- 'rickyardlaw28.MendRecovers': WHATEVER THE INPUT: true; the input reads as it did. -/
def mendRecoversSpec : ChangeSpec := { name := "mendRecovers", fn := fun _ => fun
  | [d1, d2, d3] => { results := [.lit (.bool true)], args := [d1, d2, d3] }
  | _ => none }
def mendRecoversRow : OpenClaim := { program := "ytjcghijjmhhldaagreatdoor", sum := "17d4a1415140e51fee8bb6093c56b0911d285f4fae73735bc877cd01e6dbb7d9", func := "rickyard/rickyardlaw28.MendRecovers", spec := "mendRecovers", unfollowed := true, recurses := true, named := ["math/bits.deBruijn64tab"], apart := false, laid := [("math/bits.deBruijn64tab", laid_math_bits_deBruijn64tab)] }
def MendRecoversSaid : Prop := mendRecoversRow.holds Tryz.pinned (OpenSpec.ofChange mendRecoversSpec)

/-- ITS FALSE NEIGHBOUR: 'it returns false'. Refute it at one input. -/
def mendRecoversWrong : ChangeSpec := { name := "mendRecovers", fn := fun _ => fun
  | [d1, d2, d3] => { results := [.lit (.bool false)], args := [d1, d2, d3] }
  | _ => none }
def MendRecoversWrongFalsely : Prop := mendRecoversRow.holds Tryz.pinned (OpenSpec.ofChange mendRecoversWrong)

/-- 'rickyardlaw28.MendAny': WHATEVER THE INPUT: true; the input reads as it did. -/
def mendAnySpec : ChangeSpec := { name := "mendAny", fn := fun _ => fun
  | [d] => { results := [.lit (.bool true)], args := [d] }
  | _ => none }
def mendAnyRow : OpenClaim := { program := "ytjcghijjmhhldaagreatdoor", sum := "17d4a1415140e51fee8bb6093c56b0911d285f4fae73735bc877cd01e6dbb7d9", func := "rickyard/rickyardlaw28.MendAny", spec := "mendAny", unfollowed := true, recurses := true, named := ["math/bits.deBruijn64tab"], apart := false, laid := [("math/bits.deBruijn64tab", laid_math_bits_deBruijn64tab)] }
def MendAnySaid : Prop := mendAnyRow.holds Tryz.pinned (OpenSpec.ofChange mendAnySpec)

/-- ITS FALSE NEIGHBOUR: 'it returns false'. Refute it at one input. -/
def mendAnyWrong : ChangeSpec := { name := "mendAny", fn := fun _ => fun
  | [d] => { results := [.lit (.bool false)], args := [d] }
  | _ => none }
def MendAnyWrongFalsely : Prop := mendAnyRow.holds Tryz.pinned (OpenSpec.ofChange mendAnyWrong)

/-- 'rickyardlaw28.MendTwice': WHATEVER THE INPUT: true; the input reads as it did. -/
def mendTwiceSpec : ChangeSpec := { name := "mendTwice", fn := fun _ => fun
  | [d1, d2, d3] => { results := [.lit (.bool true)], args := [d1, d2, d3] }
  | _ => none }
def mendTwiceRow : OpenClaim := { program := "ytjcghijjmhhldaagreatdoor", sum := "17d4a1415140e51fee8bb6093c56b0911d285f4fae73735bc877cd01e6dbb7d9", func := "rickyard/rickyardlaw28.MendTwice", spec := "mendTwice", unfollowed := true, recurses := true, named := ["math/bits.deBruijn64tab"], apart := false, laid := [("math/bits.deBruijn64tab", laid_math_bits_deBruijn64tab)] }
def MendTwiceSaid : Prop := mendTwiceRow.holds Tryz.pinned (OpenSpec.ofChange mendTwiceSpec)

/-- ITS FALSE NEIGHBOUR: 'it returns false'. Refute it at one input. -/
def mendTwiceWrong : ChangeSpec := { name := "mendTwice", fn := fun _ => fun
  | [d1, d2, d3] => { results := [.lit (.bool false)], args := [d1, d2, d3] }
  | _ => none }
def MendTwiceWrongFalsely : Prop := mendTwiceRow.holds Tryz.pinned (OpenSpec.ofChange mendTwiceWrong)

/-- 'rickyardlaw28.MendBorn': WHATEVER THE INPUT: true; the input reads as it did. -/
def mendBornSpec : ChangeSpec := { name := "mendBorn", fn := fun _ => fun
  | [d1, d2, d3] => { results := [.lit (.bool true)], args := [d1, d2, d3] }
  | _ => none }
def mendBornRow : OpenClaim := { program := "ytjcghijjmhhldaagreatdoor", sum := "17d4a1415140e51fee8bb6093c56b0911d285f4fae73735bc877cd01e6dbb7d9", func := "rickyard/rickyardlaw28.MendBorn", spec := "mendBorn", unfollowed := true, recurses := true, named := ["math/bits.deBruijn64tab"], apart := false, laid := [("math/bits.deBruijn64tab", laid_math_bits_deBruijn64tab)] }
def MendBornSaid : Prop := mendBornRow.holds Tryz.pinned (OpenSpec.ofChange mendBornSpec)

/-- ITS FALSE NEIGHBOUR: 'it returns false'. Refute it at one input. -/
def mendBornWrong : ChangeSpec := { name := "mendBorn", fn := fun _ => fun
  | [d1, d2, d3] => { results := [.lit (.bool false)], args := [d1, d2, d3] }
  | _ => none }
def MendBornWrongFalsely : Prop := mendBornRow.holds Tryz.pinned (OpenSpec.ofChange mendBornWrong)

/-- 'rickyardlaw28.MendCharts': WHATEVER THE INPUT: true; the input reads as it did. -/
def mendChartsSpec : ChangeSpec := { name := "mendCharts", fn := fun _ => fun
  | [d1, d2, d3] => { results := [.lit (.bool true)], args := [d1, d2, d3] }
  | _ => none }
def mendChartsRow : OpenClaim := { program := "ytjcghijjmhhldaagreatdoor", sum := "17d4a1415140e51fee8bb6093c56b0911d285f4fae73735bc877cd01e6dbb7d9", func := "rickyard/rickyardlaw28.MendCharts", spec := "mendCharts", unfollowed := true, recurses := true, named := ["math/bits.deBruijn64tab"], apart := false, laid := [("math/bits.deBruijn64tab", laid_math_bits_deBruijn64tab)] }
def MendChartsSaid : Prop := mendChartsRow.holds Tryz.pinned (OpenSpec.ofChange mendChartsSpec)

/-- ITS FALSE NEIGHBOUR: 'it returns false'. Refute it at one input. -/
def mendChartsWrong : ChangeSpec := { name := "mendCharts", fn := fun _ => fun
  | [d1, d2, d3] => { results := [.lit (.bool false)], args := [d1, d2, d3] }
  | _ => none }
def MendChartsWrongFalsely : Prop := mendChartsRow.holds Tryz.pinned (OpenSpec.ofChange mendChartsWrong)

/- THE SECOND FORM. 'bulk': how many values and letters a reading holds, each counted each time it is reached (what is shared counts as often as it is met; a slice's spare places count too). A statement '..UptoSaid' is the law's where the arguments, and the package variables that the reading takes, are together of bulk at most 1048576: NARROWER than '..Said'. Prove '..Said' where nothing that the law and all that it calls make is longer than what came in: it says more and counts as full. Else prove '..UptoSaid'. A law counts once. -/
mutual
def uptoBulk {H : Type} : DataW H → Nat
  | .lit (.string bytes) => bytes.length + 1
  | .lit _ => 1
  | .nil => 1
  | .ptr d => uptoBulk d + 1
  | .slice elems spare => uptoBulkAll elems + uptoBulkAll spare + 1
  | .agg parts => uptoBulkAll parts + 1
  | .iface _ d => uptoBulk d + 1
  | .map entries => uptoBulkEntries entries + 1
  | .held _ => 1
def uptoBulkAll {H : Type} : List (DataW H) → Nat
  | [] => 0
  | d :: r => uptoBulk d + uptoBulkAll r
def uptoBulkEntries {H : Type} : List (Lit × DataW H) → Nat
  | [] => 0
  | x :: r => uptoBulkEntry x + uptoBulkEntries r
def uptoBulkEntry {H : Type} : Lit × DataW H → Nat
  | (.string bytes, d) => bytes.length + uptoBulk d + 1
  | (_, d) => uptoBulk d + 1
 end
def uptoSmall : (H : Type) → List (DataW H) → Bool := fun _ ds => decide (uptoBulkAll ds ≤ 1048576)
def OpenSpec.upto (s : _root_.Go.ChangeSpec) : _root_.Go.OpenSpec := { _root_.Go.OpenSpec.ofChange s with cond := some uptoSmall }

/-- 'rickyardlaw28.MendFormats', WHERE WHAT IT READS IS OF BULK AT MOST 1048576: true; the input reads as it did. -/
def mendFormatsUptoRow : OpenClaim := { program := "ytjcghijjmhhldaagreatdoor", sum := "17d4a1415140e51fee8bb6093c56b0911d285f4fae73735bc877cd01e6dbb7d9", func := "rickyard/rickyardlaw28.MendFormats", spec := "mendFormats", unfollowed := true, recurses := true, named := ["math/bits.deBruijn64tab"], apart := false, laid := [("math/bits.deBruijn64tab", laid_math_bits_deBruijn64tab)], narrowed := true }
def MendFormatsUptoSaid : Prop := mendFormatsUptoRow.holds Tryz.pinned (OpenSpec.upto mendFormatsSpec)

/-- 'rickyardlaw28.MendRecovers', WHERE WHAT IT READS IS OF BULK AT MOST 1048576: true; the input reads as it did. -/
def mendRecoversUptoRow : OpenClaim := { program := "ytjcghijjmhhldaagreatdoor", sum := "17d4a1415140e51fee8bb6093c56b0911d285f4fae73735bc877cd01e6dbb7d9", func := "rickyard/rickyardlaw28.MendRecovers", spec := "mendRecovers", unfollowed := true, recurses := true, named := ["math/bits.deBruijn64tab"], apart := false, laid := [("math/bits.deBruijn64tab", laid_math_bits_deBruijn64tab)], narrowed := true }
def MendRecoversUptoSaid : Prop := mendRecoversUptoRow.holds Tryz.pinned (OpenSpec.upto mendRecoversSpec)

/-- 'rickyardlaw28.MendAny', WHERE WHAT IT READS IS OF BULK AT MOST 1048576: true; the input reads as it did. -/
def mendAnyUptoRow : OpenClaim := { program := "ytjcghijjmhhldaagreatdoor", sum := "17d4a1415140e51fee8bb6093c56b0911d285f4fae73735bc877cd01e6dbb7d9", func := "rickyard/rickyardlaw28.MendAny", spec := "mendAny", unfollowed := true, recurses := true, named := ["math/bits.deBruijn64tab"], apart := false, laid := [("math/bits.deBruijn64tab", laid_math_bits_deBruijn64tab)], narrowed := true }
def MendAnyUptoSaid : Prop := mendAnyUptoRow.holds Tryz.pinned (OpenSpec.upto mendAnySpec)

/-- 'rickyardlaw28.MendTwice', WHERE WHAT IT READS IS OF BULK AT MOST 1048576: true; the input reads as it did. -/
def mendTwiceUptoRow : OpenClaim := { program := "ytjcghijjmhhldaagreatdoor", sum := "17d4a1415140e51fee8bb6093c56b0911d285f4fae73735bc877cd01e6dbb7d9", func := "rickyard/rickyardlaw28.MendTwice", spec := "mendTwice", unfollowed := true, recurses := true, named := ["math/bits.deBruijn64tab"], apart := false, laid := [("math/bits.deBruijn64tab", laid_math_bits_deBruijn64tab)], narrowed := true }
def MendTwiceUptoSaid : Prop := mendTwiceUptoRow.holds Tryz.pinned (OpenSpec.upto mendTwiceSpec)

/-- 'rickyardlaw28.MendBorn', WHERE WHAT IT READS IS OF BULK AT MOST 1048576: true; the input reads as it did. -/
def mendBornUptoRow : OpenClaim := { program := "ytjcghijjmhhldaagreatdoor", sum := "17d4a1415140e51fee8bb6093c56b0911d285f4fae73735bc877cd01e6dbb7d9", func := "rickyard/rickyardlaw28.MendBorn", spec := "mendBorn", unfollowed := true, recurses := true, named := ["math/bits.deBruijn64tab"], apart := false, laid := [("math/bits.deBruijn64tab", laid_math_bits_deBruijn64tab)], narrowed := true }
def MendBornUptoSaid : Prop := mendBornUptoRow.holds Tryz.pinned (OpenSpec.upto mendBornSpec)

/-- 'rickyardlaw28.MendCharts', WHERE WHAT IT READS IS OF BULK AT MOST 1048576: true; the input reads as it did. -/
def mendChartsUptoRow : OpenClaim := { program := "ytjcghijjmhhldaagreatdoor", sum := "17d4a1415140e51fee8bb6093c56b0911d285f4fae73735bc877cd01e6dbb7d9", func := "rickyard/rickyardlaw28.MendCharts", spec := "mendCharts", unfollowed := true, recurses := true, named := ["math/bits.deBruijn64tab"], apart := false, laid := [("math/bits.deBruijn64tab", laid_math_bits_deBruijn64tab)], narrowed := true }
def MendChartsUptoSaid : Prop := mendChartsUptoRow.holds Tryz.pinned (OpenSpec.upto mendChartsSpec)

end Rows
end Go.Proofs.YtjcghijjmhhldaaGreatDoor
