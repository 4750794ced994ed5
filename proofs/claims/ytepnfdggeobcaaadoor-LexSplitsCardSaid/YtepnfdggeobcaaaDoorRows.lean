/-
  NARROWER THAN 'FOR EVERY INPUT', by the rows' own cells (each row's printed sentence says how): NameRights: laid · NameShows: laid · NameRunes: laid · NameCuts: laid · NameOrders: laid · NameBetween: laid · LexSplits: laid · DigitShows: laid · DigitReads: laid.
  DERIVED. THE GIVEN ROWS OF THIS SEAT. 9 by the template 'for every input the law returns true; each argument reads behind the call as it read before'; 0 by the template 'total and deterministic' (their statements: YtepnfdggeobcaaaDoorTotals.lean).
  GIVEN WITH THE SEED: the statements are not yours to turn. If you find one false, say at which input.
  Laid BY PROGRAM, IN A SANDBOX (cutbox-rows.mjs): the forced cells as the released guide's own fill.sh prints them over the translation 42504e7de4e68bfa… (all of the seat's roots in one cut). By AI agents, Wed Nov 11 2026. No macro, syntax, notation, axiom, sorry.
-/
import Derived.Test.YtepnfdggeobcaaaDoorChecked
import GoSem.PinnedTables
import GoSem.Claim
import GoSem.ClaimJoined
import GoSem.ClaimMapViews
import Derived.JoinedTies
import Derived.KernelRfl
namespace Go.Proofs.YtepnfdggeobcaaaDoor
/- THE CELL 'sum', in the pinned program and in every row, IS THE sha256 OF THE DUMP (.gsa) THAT YtepnfdggeobcaaaDoorProg.lean LOADS. Nothing in Lean hashes anything: it is a label: what it is worth is what the hold of that sum in a sandbox is worth. -/
noncomputable def Tryd.pinned : Pinned := { name := "ytepnfdggeobcaaadoor", sum := "42504e7de4e68bfa449c6902fc3a01e0a7b3a3fbcbebe12bc110594f9d8c51c2", checked := Tryd.checked }
namespace Rows
def none {H : Type} : Left H := { results := [], args := [] }

/- WHAT THE LISTED PACKAGE-LEVEL VARIABLES READ AS WHEN THE CALL BEGINS. Each datum BY PROGRAM (the guide's laid-datum.mjs) off the statement by which the dump's own 'gosem.cut.vars' lays the variable. In a bare row this is a premise. The card (YtepnfdggeobcaaaDoorCards.lean) ties it to the program's text. -/
def laid_math_bits_deBruijn32tab {H : Type} : DataW H := .agg [.lit (.int .u8 0), .lit (.int .u8 1), .lit (.int .u8 28), .lit (.int .u8 2), .lit (.int .u8 29), .lit (.int .u8 14), .lit (.int .u8 24), .lit (.int .u8 3), .lit (.int .u8 30), .lit (.int .u8 22), .lit (.int .u8 20), .lit (.int .u8 15), .lit (.int .u8 25), .lit (.int .u8 17), .lit (.int .u8 4), .lit (.int .u8 8), .lit (.int .u8 31), .lit (.int .u8 27), .lit (.int .u8 13), .lit (.int .u8 23), .lit (.int .u8 21), .lit (.int .u8 19), .lit (.int .u8 16), .lit (.int .u8 7), .lit (.int .u8 26), .lit (.int .u8 12), .lit (.int .u8 18), .lit (.int .u8 6), .lit (.int .u8 11), .lit (.int .u8 5), .lit (.int .u8 10), .lit (.int .u8 9)]
def laid_math_bits_deBruijn64tab {H : Type} : DataW H := .agg [.lit (.int .u8 0), .lit (.int .u8 1), .lit (.int .u8 56), .lit (.int .u8 2), .lit (.int .u8 57), .lit (.int .u8 49), .lit (.int .u8 28), .lit (.int .u8 3), .lit (.int .u8 61), .lit (.int .u8 58), .lit (.int .u8 42), .lit (.int .u8 50), .lit (.int .u8 38), .lit (.int .u8 29), .lit (.int .u8 17), .lit (.int .u8 4), .lit (.int .u8 62), .lit (.int .u8 47), .lit (.int .u8 59), .lit (.int .u8 36), .lit (.int .u8 45), .lit (.int .u8 43), .lit (.int .u8 51), .lit (.int .u8 22), .lit (.int .u8 53), .lit (.int .u8 39), .lit (.int .u8 33), .lit (.int .u8 30), .lit (.int .u8 24), .lit (.int .u8 18), .lit (.int .u8 12), .lit (.int .u8 5), .lit (.int .u8 63), .lit (.int .u8 55), .lit (.int .u8 48), .lit (.int .u8 27), .lit (.int .u8 60), .lit (.int .u8 41), .lit (.int .u8 37), .lit (.int .u8 16), .lit (.int .u8 46), .lit (.int .u8 35), .lit (.int .u8 44), .lit (.int .u8 21), .lit (.int .u8 52), .lit (.int .u8 32), .lit (.int .u8 23), .lit (.int .u8 11), .lit (.int .u8 54), .lit (.int .u8 26), .lit (.int .u8 40), .lit (.int .u8 15), .lit (.int .u8 34), .lit (.int .u8 20), .lit (.int .u8 31), .lit (.int .u8 10), .lit (.int .u8 25), .lit (.int .u8 14), .lit (.int .u8 19), .lit (.int .u8 9), .lit (.int .u8 13), .lit (.int .u8 8), .lit (.int .u8 7), .lit (.int .u8 6)]
def laid_internal_strconv_uint64pow10 {H : Type} : DataW H := .agg [.lit (.int .u64 1), .lit (.int .u64 10), .lit (.int .u64 100), .lit (.int .u64 1000), .lit (.int .u64 10000), .lit (.int .u64 100000), .lit (.int .u64 1000000), .lit (.int .u64 10000000), .lit (.int .u64 100000000), .lit (.int .u64 1000000000), .lit (.int .u64 10000000000), .lit (.int .u64 100000000000), .lit (.int .u64 1000000000000), .lit (.int .u64 10000000000000), .lit (.int .u64 100000000000000), .lit (.int .u64 1000000000000000), .lit (.int .u64 10000000000000000), .lit (.int .u64 100000000000000000), .lit (.int .u64 1000000000000000000), .lit (.int .u64 10000000000000000000)]
def laid_unicode_utf8_acceptRanges {H : Type} : DataW H := .agg [.agg [.lit (.int .u8 128), .lit (.int .u8 191)], .agg [.lit (.int .u8 160), .lit (.int .u8 191)], .agg [.lit (.int .u8 128), .lit (.int .u8 159)], .agg [.lit (.int .u8 144), .lit (.int .u8 191)], .agg [.lit (.int .u8 128), .lit (.int .u8 143)], .agg [.lit (.int .u8 0), .lit (.int .u8 0)], .agg [.lit (.int .u8 0), .lit (.int .u8 0)], .agg [.lit (.int .u8 0), .lit (.int .u8 0)], .agg [.lit (.int .u8 0), .lit (.int .u8 0)], .agg [.lit (.int .u8 0), .lit (.int .u8 0)], .agg [.lit (.int .u8 0), .lit (.int .u8 0)], .agg [.lit (.int .u8 0), .lit (.int .u8 0)], .agg [.lit (.int .u8 0), .lit (.int .u8 0)], .agg [.lit (.int .u8 0), .lit (.int .u8 0)], .agg [.lit (.int .u8 0), .lit (.int .u8 0)], .agg [.lit (.int .u8 0), .lit (.int .u8 0)]]
/-- One of Go's own tables, pinned by name: the form's constant. -/
def laid_unicode_utf8_first : DataW Unit := Go.Pinned.utf8First

/-- 'rickyardlaw04.NameRights': WHATEVER THE INPUT: true; the input reads as it did. -/
def nameRightsSpec : ChangeSpec := { name := "nameRights", fn := fun _ => fun
  | [d1, d2] => { results := [.lit (.bool true)], args := [d1, d2] }
  | _ => none }
def nameRightsRow : OpenClaim := { program := "ytepnfdggeobcaaadoor", sum := "42504e7de4e68bfa449c6902fc3a01e0a7b3a3fbcbebe12bc110594f9d8c51c2", func := "rickyard/rickyardlaw04.NameRights", spec := "nameRights", named := ["internal/strconv.uint64pow10", "math/bits.deBruijn32tab", "math/bits.deBruijn64tab"], apart := false, laid := [("math/bits.deBruijn32tab", laid_math_bits_deBruijn32tab), ("math/bits.deBruijn64tab", laid_math_bits_deBruijn64tab), ("internal/strconv.uint64pow10", laid_internal_strconv_uint64pow10)] }
def NameRightsSaid : Prop := nameRightsRow.holds Tryd.pinned (OpenSpec.ofChange nameRightsSpec)

/-- ITS FALSE NEIGHBOUR: 'it returns false'. Refute it at one input. -/
def nameRightsWrong : ChangeSpec := { name := "nameRights", fn := fun _ => fun
  | [d1, d2] => { results := [.lit (.bool false)], args := [d1, d2] }
  | _ => none }
def NameRightsWrongFalsely : Prop := nameRightsRow.holds Tryd.pinned (OpenSpec.ofChange nameRightsWrong)

/-- 'rickyardlaw04.NameShows': WHATEVER THE INPUT: true; the input reads as it did. -/
def nameShowsSpec : ChangeSpec := { name := "nameShows", fn := fun _ => fun
  | [d] => { results := [.lit (.bool true)], args := [d] }
  | _ => none }
def nameShowsRow : OpenClaim := { program := "ytepnfdggeobcaaadoor", sum := "42504e7de4e68bfa449c6902fc3a01e0a7b3a3fbcbebe12bc110594f9d8c51c2", func := "rickyard/rickyardlaw04.NameShows", spec := "nameShows", recurses := true, named := ["internal/strconv.uint64pow10", "math/bits.deBruijn32tab", "math/bits.deBruijn64tab"], apart := false, laid := [("math/bits.deBruijn32tab", laid_math_bits_deBruijn32tab), ("math/bits.deBruijn64tab", laid_math_bits_deBruijn64tab), ("internal/strconv.uint64pow10", laid_internal_strconv_uint64pow10)] }
def NameShowsSaid : Prop := nameShowsRow.holds Tryd.pinned (OpenSpec.ofChange nameShowsSpec)

/-- ITS FALSE NEIGHBOUR: 'it returns false'. Refute it at one input. -/
def nameShowsWrong : ChangeSpec := { name := "nameShows", fn := fun _ => fun
  | [d] => { results := [.lit (.bool false)], args := [d] }
  | _ => none }
def NameShowsWrongFalsely : Prop := nameShowsRow.holds Tryd.pinned (OpenSpec.ofChange nameShowsWrong)

/-- 'rickyardlaw04.NameRunes': WHATEVER THE INPUT: true; the input reads as it did. -/
def nameRunesSpec : ChangeSpec := { name := "nameRunes", fn := fun _ => fun
  | [d] => { results := [.lit (.bool true)], args := [d] }
  | _ => none }
def nameRunesRow : OpenClaim := { program := "ytepnfdggeobcaaadoor", sum := "42504e7de4e68bfa449c6902fc3a01e0a7b3a3fbcbebe12bc110594f9d8c51c2", func := "rickyard/rickyardlaw04.NameRunes", spec := "nameRunes", named := ["internal/strconv.uint64pow10", "math/bits.deBruijn32tab", "math/bits.deBruijn64tab"], apart := false, laid := [("math/bits.deBruijn32tab", laid_math_bits_deBruijn32tab), ("math/bits.deBruijn64tab", laid_math_bits_deBruijn64tab), ("internal/strconv.uint64pow10", laid_internal_strconv_uint64pow10)] }
def NameRunesSaid : Prop := nameRunesRow.holds Tryd.pinned (OpenSpec.ofChange nameRunesSpec)

/-- ITS FALSE NEIGHBOUR: 'it returns false'. Refute it at one input. -/
def nameRunesWrong : ChangeSpec := { name := "nameRunes", fn := fun _ => fun
  | [d] => { results := [.lit (.bool false)], args := [d] }
  | _ => none }
def NameRunesWrongFalsely : Prop := nameRunesRow.holds Tryd.pinned (OpenSpec.ofChange nameRunesWrong)

/-- 'rickyardlaw04.NameCuts': WHATEVER THE INPUT: true; the input reads as it did. -/
def nameCutsSpec : ChangeSpec := { name := "nameCuts", fn := fun _ => fun
  | [d1, d2] => { results := [.lit (.bool true)], args := [d1, d2] }
  | _ => none }
def nameCutsRow : OpenClaim := { program := "ytepnfdggeobcaaadoor", sum := "42504e7de4e68bfa449c6902fc3a01e0a7b3a3fbcbebe12bc110594f9d8c51c2", func := "rickyard/rickyardlaw04.NameCuts", spec := "nameCuts", named := ["internal/strconv.uint64pow10", "math/bits.deBruijn32tab", "math/bits.deBruijn64tab"], apart := false, laid := [("math/bits.deBruijn32tab", laid_math_bits_deBruijn32tab), ("math/bits.deBruijn64tab", laid_math_bits_deBruijn64tab), ("internal/strconv.uint64pow10", laid_internal_strconv_uint64pow10)] }
def NameCutsSaid : Prop := nameCutsRow.holds Tryd.pinned (OpenSpec.ofChange nameCutsSpec)

/-- ITS FALSE NEIGHBOUR: 'it returns false'. Refute it at one input. -/
def nameCutsWrong : ChangeSpec := { name := "nameCuts", fn := fun _ => fun
  | [d1, d2] => { results := [.lit (.bool false)], args := [d1, d2] }
  | _ => none }
def NameCutsWrongFalsely : Prop := nameCutsRow.holds Tryd.pinned (OpenSpec.ofChange nameCutsWrong)

/-- 'rickyardlaw04.NameOrders': WHATEVER THE INPUT: true; the input reads as it did. -/
def nameOrdersSpec : ChangeSpec := { name := "nameOrders", fn := fun _ => fun
  | [d1, d2] => { results := [.lit (.bool true)], args := [d1, d2] }
  | _ => none }
def nameOrdersRow : OpenClaim := { program := "ytepnfdggeobcaaadoor", sum := "42504e7de4e68bfa449c6902fc3a01e0a7b3a3fbcbebe12bc110594f9d8c51c2", func := "rickyard/rickyardlaw04.NameOrders", spec := "nameOrders", named := ["internal/strconv.uint64pow10", "math/bits.deBruijn32tab", "math/bits.deBruijn64tab"], apart := false, laid := [("math/bits.deBruijn32tab", laid_math_bits_deBruijn32tab), ("math/bits.deBruijn64tab", laid_math_bits_deBruijn64tab), ("internal/strconv.uint64pow10", laid_internal_strconv_uint64pow10)] }
def NameOrdersSaid : Prop := nameOrdersRow.holds Tryd.pinned (OpenSpec.ofChange nameOrdersSpec)

/-- ITS FALSE NEIGHBOUR: 'it returns false'. Refute it at one input. -/
def nameOrdersWrong : ChangeSpec := { name := "nameOrders", fn := fun _ => fun
  | [d1, d2] => { results := [.lit (.bool false)], args := [d1, d2] }
  | _ => none }
def NameOrdersWrongFalsely : Prop := nameOrdersRow.holds Tryd.pinned (OpenSpec.ofChange nameOrdersWrong)

/-- 'rickyardlaw04.NameBetween': WHATEVER THE INPUT: true; the input reads as it did. -/
def nameBetweenSpec : ChangeSpec := { name := "nameBetween", fn := fun _ => fun
  | [d1, d2, d3] => { results := [.lit (.bool true)], args := [d1, d2, d3] }
  | _ => none }
def nameBetweenRow : OpenClaim := { program := "ytepnfdggeobcaaadoor", sum := "42504e7de4e68bfa449c6902fc3a01e0a7b3a3fbcbebe12bc110594f9d8c51c2", func := "rickyard/rickyardlaw04.NameBetween", spec := "nameBetween", named := ["internal/strconv.uint64pow10", "math/bits.deBruijn32tab", "math/bits.deBruijn64tab"], apart := false, laid := [("math/bits.deBruijn32tab", laid_math_bits_deBruijn32tab), ("math/bits.deBruijn64tab", laid_math_bits_deBruijn64tab), ("internal/strconv.uint64pow10", laid_internal_strconv_uint64pow10)] }
def NameBetweenSaid : Prop := nameBetweenRow.holds Tryd.pinned (OpenSpec.ofChange nameBetweenSpec)

/-- ITS FALSE NEIGHBOUR: 'it returns false'. Refute it at one input. -/
def nameBetweenWrong : ChangeSpec := { name := "nameBetween", fn := fun _ => fun
  | [d1, d2, d3] => { results := [.lit (.bool false)], args := [d1, d2, d3] }
  | _ => none }
def NameBetweenWrongFalsely : Prop := nameBetweenRow.holds Tryd.pinned (OpenSpec.ofChange nameBetweenWrong)

/-- 'rickyardlaw31.LexSplits': WHATEVER THE INPUT: true; the input reads as it did. -/
def lexSplitsSpec : ChangeSpec := { name := "lexSplits", fn := fun _ => fun
  | [d] => { results := [.lit (.bool true)], args := [d] }
  | _ => none }
def lexSplitsRow : OpenClaim := { program := "ytepnfdggeobcaaadoor", sum := "42504e7de4e68bfa449c6902fc3a01e0a7b3a3fbcbebe12bc110594f9d8c51c2", func := "rickyard/rickyardlaw31.LexSplits", spec := "lexSplits", inPlace := ["internal/bytealg.CountString", "internal/bytealg.IndexByteString", "internal/bytealg.IndexString"], named := ["unicode/utf8.first", "unicode/utf8.acceptRanges", "internal/bytealg.MaxLen"], apart := false, laid := [("unicode/utf8.acceptRanges", laid_unicode_utf8_acceptRanges), ("unicode/utf8.first", laid_unicode_utf8_first)] }
def LexSplitsSaid : Prop := lexSplitsRow.holds Tryd.pinned (OpenSpec.ofChange lexSplitsSpec)

/-- ITS FALSE NEIGHBOUR: 'it returns false'. Refute it at one input. -/
def lexSplitsWrong : ChangeSpec := { name := "lexSplits", fn := fun _ => fun
  | [d] => { results := [.lit (.bool false)], args := [d] }
  | _ => none }
def LexSplitsWrongFalsely : Prop := lexSplitsRow.holds Tryd.pinned (OpenSpec.ofChange lexSplitsWrong)

/-- 'rickyardlaw03.DigitShows': WHATEVER THE INPUT: true; the input reads as it did. -/
def digitShowsSpec : ChangeSpec := { name := "digitShows", fn := fun _ => fun
  | [d] => { results := [.lit (.bool true)], args := [d] }
  | _ => none }
def digitShowsRow : OpenClaim := { program := "ytepnfdggeobcaaadoor", sum := "42504e7de4e68bfa449c6902fc3a01e0a7b3a3fbcbebe12bc110594f9d8c51c2", func := "rickyard/rickyardlaw03.DigitShows", spec := "digitShows", inPlace := ["internal/bytealg.IndexByteString", "internal/bytealg.IndexString"], named := ["internal/bytealg.MaxLen", "internal/strconv.uint64pow10", "math/bits.deBruijn32tab", "math/bits.deBruijn64tab"], apart := false, laid := [("math/bits.deBruijn32tab", laid_math_bits_deBruijn32tab), ("math/bits.deBruijn64tab", laid_math_bits_deBruijn64tab), ("internal/strconv.uint64pow10", laid_internal_strconv_uint64pow10)] }
def DigitShowsSaid : Prop := digitShowsRow.holds Tryd.pinned (OpenSpec.ofChange digitShowsSpec)

/-- ITS FALSE NEIGHBOUR: 'it returns false'. Refute it at one input. -/
def digitShowsWrong : ChangeSpec := { name := "digitShows", fn := fun _ => fun
  | [d] => { results := [.lit (.bool false)], args := [d] }
  | _ => none }
def DigitShowsWrongFalsely : Prop := digitShowsRow.holds Tryd.pinned (OpenSpec.ofChange digitShowsWrong)

/-- 'rickyardlaw03.DigitReads': WHATEVER THE INPUT: true; the input reads as it did. -/
def digitReadsSpec : ChangeSpec := { name := "digitReads", fn := fun _ => fun
  | [d] => { results := [.lit (.bool true)], args := [d] }
  | _ => none }
def digitReadsRow : OpenClaim := { program := "ytepnfdggeobcaaadoor", sum := "42504e7de4e68bfa449c6902fc3a01e0a7b3a3fbcbebe12bc110594f9d8c51c2", func := "rickyard/rickyardlaw03.DigitReads", spec := "digitReads", inPlace := ["internal/bytealg.IndexByteString", "internal/bytealg.IndexString"], named := ["internal/bytealg.MaxLen", "internal/strconv.uint64pow10", "math/bits.deBruijn32tab", "math/bits.deBruijn64tab"], apart := false, laid := [("math/bits.deBruijn32tab", laid_math_bits_deBruijn32tab), ("math/bits.deBruijn64tab", laid_math_bits_deBruijn64tab), ("internal/strconv.uint64pow10", laid_internal_strconv_uint64pow10)] }
def DigitReadsSaid : Prop := digitReadsRow.holds Tryd.pinned (OpenSpec.ofChange digitReadsSpec)

/-- ITS FALSE NEIGHBOUR: 'it returns false'. Refute it at one input. -/
def digitReadsWrong : ChangeSpec := { name := "digitReads", fn := fun _ => fun
  | [d] => { results := [.lit (.bool false)], args := [d] }
  | _ => none }
def DigitReadsWrongFalsely : Prop := digitReadsRow.holds Tryd.pinned (OpenSpec.ofChange digitReadsWrong)

/- THE SECOND FORM. 'bulk': how many values and letters a reading holds, each counted each time it is reached (what is shared counts as often as it is met; a slice's spare places count too). A statement '..UptoSaid' is the law's where the arguments, and the package variables that the reading takes, are together of bulk at most 1048576: NARROWER than '..Said'. Prove '..Said' where nothing that the law and all that it calls make is longer than what came in: it says more and counts as full. Else prove '..UptoSaid'. A law counts once. -/
mutual
def uptoBulk {H : Type} : DataW H → Nat
  | .lit (.string bytes) => bytes.length + 1
  | .lit _ => 1
  | .nil => 1
  | .ptr d => uptoBulk d + 1
  | .slice elems spare => uptoBulkAll elems + uptoBulkAll spare + 1
  | .agg parts => uptoBulkAll parts + 1
  | .iface _ d => uptoBulk d + 1
  | .map entries => uptoBulkEntries entries + 1
  | .held _ => 1
def uptoBulkAll {H : Type} : List (DataW H) → Nat
  | [] => 0
  | d :: r => uptoBulk d + uptoBulkAll r
def uptoBulkEntries {H : Type} : List (Lit × DataW H) → Nat
  | [] => 0
  | x :: r => uptoBulkEntry x + uptoBulkEntries r
def uptoBulkEntry {H : Type} : Lit × DataW H → Nat
  | (.string bytes, d) => bytes.length + uptoBulk d + 1
  | (_, d) => uptoBulk d + 1
 end
def uptoSmall : (H : Type) → List (DataW H) → Bool := fun _ ds => decide (uptoBulkAll ds ≤ 1048576)
def OpenSpec.upto (s : _root_.Go.ChangeSpec) : _root_.Go.OpenSpec := { _root_.Go.OpenSpec.ofChange s with cond := some uptoSmall }

/-- 'rickyardlaw04.NameRights', WHERE WHAT IT READS IS OF BULK AT MOST 1048576: true; the input reads as it did. -/
def nameRightsUptoRow : OpenClaim := { program := "ytepnfdggeobcaaadoor", sum := "42504e7de4e68bfa449c6902fc3a01e0a7b3a3fbcbebe12bc110594f9d8c51c2", func := "rickyard/rickyardlaw04.NameRights", spec := "nameRights", named := ["internal/strconv.uint64pow10", "math/bits.deBruijn32tab", "math/bits.deBruijn64tab"], apart := false, laid := [("math/bits.deBruijn32tab", laid_math_bits_deBruijn32tab), ("math/bits.deBruijn64tab", laid_math_bits_deBruijn64tab), ("internal/strconv.uint64pow10", laid_internal_strconv_uint64pow10)], narrowed := true }
def NameRightsUptoSaid : Prop := nameRightsUptoRow.holds Tryd.pinned (OpenSpec.upto nameRightsSpec)

/-- 'rickyardlaw04.NameShows', WHERE WHAT IT READS IS OF BULK AT MOST 1048576: true; the input reads as it did. -/
def nameShowsUptoRow : OpenClaim := { program := "ytepnfdggeobcaaadoor", sum := "42504e7de4e68bfa449c6902fc3a01e0a7b3a3fbcbebe12bc110594f9d8c51c2", func := "rickyard/rickyardlaw04.NameShows", spec := "nameShows", recurses := true, named := ["internal/strconv.uint64pow10", "math/bits.deBruijn32tab", "math/bits.deBruijn64tab"], apart := false, laid := [("math/bits.deBruijn32tab", laid_math_bits_deBruijn32tab), ("math/bits.deBruijn64tab", laid_math_bits_deBruijn64tab), ("internal/strconv.uint64pow10", laid_internal_strconv_uint64pow10)], narrowed := true }
def NameShowsUptoSaid : Prop := nameShowsUptoRow.holds Tryd.pinned (OpenSpec.upto nameShowsSpec)

/-- 'rickyardlaw04.NameRunes', WHERE WHAT IT READS IS OF BULK AT MOST 1048576: true; the input reads as it did. -/
def nameRunesUptoRow : OpenClaim := { program := "ytepnfdggeobcaaadoor", sum := "42504e7de4e68bfa449c6902fc3a01e0a7b3a3fbcbebe12bc110594f9d8c51c2", func := "rickyard/rickyardlaw04.NameRunes", spec := "nameRunes", named := ["internal/strconv.uint64pow10", "math/bits.deBruijn32tab", "math/bits.deBruijn64tab"], apart := false, laid := [("math/bits.deBruijn32tab", laid_math_bits_deBruijn32tab), ("math/bits.deBruijn64tab", laid_math_bits_deBruijn64tab), ("internal/strconv.uint64pow10", laid_internal_strconv_uint64pow10)], narrowed := true }
def NameRunesUptoSaid : Prop := nameRunesUptoRow.holds Tryd.pinned (OpenSpec.upto nameRunesSpec)

/-- 'rickyardlaw04.NameCuts', WHERE WHAT IT READS IS OF BULK AT MOST 1048576: true; the input reads as it did. -/
def nameCutsUptoRow : OpenClaim := { program := "ytepnfdggeobcaaadoor", sum := "42504e7de4e68bfa449c6902fc3a01e0a7b3a3fbcbebe12bc110594f9d8c51c2", func := "rickyard/rickyardlaw04.NameCuts", spec := "nameCuts", named := ["internal/strconv.uint64pow10", "math/bits.deBruijn32tab", "math/bits.deBruijn64tab"], apart := false, laid := [("math/bits.deBruijn32tab", laid_math_bits_deBruijn32tab), ("math/bits.deBruijn64tab", laid_math_bits_deBruijn64tab), ("internal/strconv.uint64pow10", laid_internal_strconv_uint64pow10)], narrowed := true }
def NameCutsUptoSaid : Prop := nameCutsUptoRow.holds Tryd.pinned (OpenSpec.upto nameCutsSpec)

/-- 'rickyardlaw04.NameOrders', WHERE WHAT IT READS IS OF BULK AT MOST 1048576: true; the input reads as it did. -/
def nameOrdersUptoRow : OpenClaim := { program := "ytepnfdggeobcaaadoor", sum := "42504e7de4e68bfa449c6902fc3a01e0a7b3a3fbcbebe12bc110594f9d8c51c2", func := "rickyard/rickyardlaw04.NameOrders", spec := "nameOrders", named := ["internal/strconv.uint64pow10", "math/bits.deBruijn32tab", "math/bits.deBruijn64tab"], apart := false, laid := [("math/bits.deBruijn32tab", laid_math_bits_deBruijn32tab), ("math/bits.deBruijn64tab", laid_math_bits_deBruijn64tab), ("internal/strconv.uint64pow10", laid_internal_strconv_uint64pow10)], narrowed := true }
def NameOrdersUptoSaid : Prop := nameOrdersUptoRow.holds Tryd.pinned (OpenSpec.upto nameOrdersSpec)

/-- 'rickyardlaw04.NameBetween', WHERE WHAT IT READS IS OF BULK AT MOST 1048576: true; the input reads as it did. -/
def nameBetweenUptoRow : OpenClaim := { program := "ytepnfdggeobcaaadoor", sum := "42504e7de4e68bfa449c6902fc3a01e0a7b3a3fbcbebe12bc110594f9d8c51c2", func := "rickyard/rickyardlaw04.NameBetween", spec := "nameBetween", named := ["internal/strconv.uint64pow10", "math/bits.deBruijn32tab", "math/bits.deBruijn64tab"], apart := false, laid := [("math/bits.deBruijn32tab", laid_math_bits_deBruijn32tab), ("math/bits.deBruijn64tab", laid_math_bits_deBruijn64tab), ("internal/strconv.uint64pow10", laid_internal_strconv_uint64pow10)], narrowed := true }
def NameBetweenUptoSaid : Prop := nameBetweenUptoRow.holds Tryd.pinned (OpenSpec.upto nameBetweenSpec)

/-- 'rickyardlaw31.LexSplits', WHERE WHAT IT READS IS OF BULK AT MOST 1048576: true; the input reads as it did. -/
def lexSplitsUptoRow : OpenClaim := { program := "ytepnfdggeobcaaadoor", sum := "42504e7de4e68bfa449c6902fc3a01e0a7b3a3fbcbebe12bc110594f9d8c51c2", func := "rickyard/rickyardlaw31.LexSplits", spec := "lexSplits", inPlace := ["internal/bytealg.CountString", "internal/bytealg.IndexByteString", "internal/bytealg.IndexString"], named := ["unicode/utf8.first", "unicode/utf8.acceptRanges", "internal/bytealg.MaxLen"], apart := false, laid := [("unicode/utf8.acceptRanges", laid_unicode_utf8_acceptRanges), ("unicode/utf8.first", laid_unicode_utf8_first)], narrowed := true }
def LexSplitsUptoSaid : Prop := lexSplitsUptoRow.holds Tryd.pinned (OpenSpec.upto lexSplitsSpec)

/-- 'rickyardlaw03.DigitShows', WHERE WHAT IT READS IS OF BULK AT MOST 1048576: true; the input reads as it did. -/
def digitShowsUptoRow : OpenClaim := { program := "ytepnfdggeobcaaadoor", sum := "42504e7de4e68bfa449c6902fc3a01e0a7b3a3fbcbebe12bc110594f9d8c51c2", func := "rickyard/rickyardlaw03.DigitShows", spec := "digitShows", inPlace := ["internal/bytealg.IndexByteString", "internal/bytealg.IndexString"], named := ["internal/bytealg.MaxLen", "internal/strconv.uint64pow10", "math/bits.deBruijn32tab", "math/bits.deBruijn64tab"], apart := false, laid := [("math/bits.deBruijn32tab", laid_math_bits_deBruijn32tab), ("math/bits.deBruijn64tab", laid_math_bits_deBruijn64tab), ("internal/strconv.uint64pow10", laid_internal_strconv_uint64pow10)], narrowed := true }
def DigitShowsUptoSaid : Prop := digitShowsUptoRow.holds Tryd.pinned (OpenSpec.upto digitShowsSpec)

/-- 'rickyardlaw03.DigitReads', WHERE WHAT IT READS IS OF BULK AT MOST 1048576: true; the input reads as it did. -/
def digitReadsUptoRow : OpenClaim := { program := "ytepnfdggeobcaaadoor", sum := "42504e7de4e68bfa449c6902fc3a01e0a7b3a3fbcbebe12bc110594f9d8c51c2", func := "rickyard/rickyardlaw03.DigitReads", spec := "digitReads", inPlace := ["internal/bytealg.IndexByteString", "internal/bytealg.IndexString"], named := ["internal/bytealg.MaxLen", "internal/strconv.uint64pow10", "math/bits.deBruijn32tab", "math/bits.deBruijn64tab"], apart := false, laid := [("math/bits.deBruijn32tab", laid_math_bits_deBruijn32tab), ("math/bits.deBruijn64tab", laid_math_bits_deBruijn64tab), ("internal/strconv.uint64pow10", laid_internal_strconv_uint64pow10)], narrowed := true }
def DigitReadsUptoSaid : Prop := digitReadsUptoRow.holds Tryd.pinned (OpenSpec.upto digitReadsSpec)

end Rows
end Go.Proofs.YtepnfdggeobcaaaDoor
