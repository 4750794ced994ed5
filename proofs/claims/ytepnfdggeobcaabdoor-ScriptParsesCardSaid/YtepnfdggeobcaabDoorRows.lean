/-
  NARROWER THAN 'FOR EVERY INPUT', by the rows' own cells (each row's printed sentence says how): DigitTickets: laid · DigitApart: laid · DigitHandles: laid · ScriptParses: laid · ScriptSames: laid.
  DERIVED. THE GIVEN ROWS OF THIS SEAT. 5 by the template 'for every input the law returns true; each argument reads behind the call as it read before'; 0 by the template 'total and deterministic' (their statements: YtepnfdggeobcaabDoorTotals.lean).
  GIVEN WITH THE SEED: the statements are not yours to turn. If you find one false, say at which input.
  Laid BY PROGRAM, IN A SANDBOX (cutbox-rows.mjs): the forced cells as the released guide's own fill.sh prints them over the translation e050c11c66d6be1d… (all of the seat's roots in one cut). By AI agents, Wed Nov 11 2026. No macro, syntax, notation, axiom, sorry.
-/
import Derived.Test.YtepnfdggeobcaabDoorChecked
import GoSem.Claim
import GoSem.ClaimJoined
import GoSem.ClaimMapViews
import Derived.JoinedTies
import Derived.KernelRfl
namespace Go.Proofs.YtepnfdggeobcaabDoor
/- THE CELL 'sum', in the pinned program and in every row, IS THE sha256 OF THE DUMP (.gsa) THAT YtepnfdggeobcaabDoorProg.lean LOADS. Nothing in Lean hashes anything: it is a label: what it is worth is what the hold of that sum in a sandbox is worth. -/
noncomputable def Tryd.pinned : Pinned := { name := "ytepnfdggeobcaabdoor", sum := "e050c11c66d6be1d78f05b96a3e94aee3958d3e4689ab287c59b64191b6d11ee", checked := Tryd.checked }
namespace Rows
def none {H : Type} : Left H := { results := [], args := [] }

/- WHAT THE LISTED PACKAGE-LEVEL VARIABLES READ AS WHEN THE CALL BEGINS. Each datum BY PROGRAM (the guide's laid-datum.mjs) off the statement by which the dump's own 'gosem.cut.vars' lays the variable. In a bare row this is a premise. The card (YtepnfdggeobcaabDoorCards.lean) ties it to the program's text. -/
def laid_math_bits_deBruijn32tab {H : Type} : DataW H := .agg [.lit (.int .u8 0), .lit (.int .u8 1), .lit (.int .u8 28), .lit (.int .u8 2), .lit (.int .u8 29), .lit (.int .u8 14), .lit (.int .u8 24), .lit (.int .u8 3), .lit (.int .u8 30), .lit (.int .u8 22), .lit (.int .u8 20), .lit (.int .u8 15), .lit (.int .u8 25), .lit (.int .u8 17), .lit (.int .u8 4), .lit (.int .u8 8), .lit (.int .u8 31), .lit (.int .u8 27), .lit (.int .u8 13), .lit (.int .u8 23), .lit (.int .u8 21), .lit (.int .u8 19), .lit (.int .u8 16), .lit (.int .u8 7), .lit (.int .u8 26), .lit (.int .u8 12), .lit (.int .u8 18), .lit (.int .u8 6), .lit (.int .u8 11), .lit (.int .u8 5), .lit (.int .u8 10), .lit (.int .u8 9)]
def laid_math_bits_deBruijn64tab {H : Type} : DataW H := .agg [.lit (.int .u8 0), .lit (.int .u8 1), .lit (.int .u8 56), .lit (.int .u8 2), .lit (.int .u8 57), .lit (.int .u8 49), .lit (.int .u8 28), .lit (.int .u8 3), .lit (.int .u8 61), .lit (.int .u8 58), .lit (.int .u8 42), .lit (.int .u8 50), .lit (.int .u8 38), .lit (.int .u8 29), .lit (.int .u8 17), .lit (.int .u8 4), .lit (.int .u8 62), .lit (.int .u8 47), .lit (.int .u8 59), .lit (.int .u8 36), .lit (.int .u8 45), .lit (.int .u8 43), .lit (.int .u8 51), .lit (.int .u8 22), .lit (.int .u8 53), .lit (.int .u8 39), .lit (.int .u8 33), .lit (.int .u8 30), .lit (.int .u8 24), .lit (.int .u8 18), .lit (.int .u8 12), .lit (.int .u8 5), .lit (.int .u8 63), .lit (.int .u8 55), .lit (.int .u8 48), .lit (.int .u8 27), .lit (.int .u8 60), .lit (.int .u8 41), .lit (.int .u8 37), .lit (.int .u8 16), .lit (.int .u8 46), .lit (.int .u8 35), .lit (.int .u8 44), .lit (.int .u8 21), .lit (.int .u8 52), .lit (.int .u8 32), .lit (.int .u8 23), .lit (.int .u8 11), .lit (.int .u8 54), .lit (.int .u8 26), .lit (.int .u8 40), .lit (.int .u8 15), .lit (.int .u8 34), .lit (.int .u8 20), .lit (.int .u8 31), .lit (.int .u8 10), .lit (.int .u8 25), .lit (.int .u8 14), .lit (.int .u8 19), .lit (.int .u8 9), .lit (.int .u8 13), .lit (.int .u8 8), .lit (.int .u8 7), .lit (.int .u8 6)]
def laid_internal_strconv_uint64pow10 {H : Type} : DataW H := .agg [.lit (.int .u64 1), .lit (.int .u64 10), .lit (.int .u64 100), .lit (.int .u64 1000), .lit (.int .u64 10000), .lit (.int .u64 100000), .lit (.int .u64 1000000), .lit (.int .u64 10000000), .lit (.int .u64 100000000), .lit (.int .u64 1000000000), .lit (.int .u64 10000000000), .lit (.int .u64 100000000000), .lit (.int .u64 1000000000000), .lit (.int .u64 10000000000000), .lit (.int .u64 100000000000000), .lit (.int .u64 1000000000000000), .lit (.int .u64 10000000000000000), .lit (.int .u64 100000000000000000), .lit (.int .u64 1000000000000000000), .lit (.int .u64 10000000000000000000)]
def laid_rickyard_script_commands {H : Type} : DataW H := .agg [.agg [.lit (.string [98, 101, 103, 105, 110]), .lit (.string []), .lit (.int .i64 1)], .agg [.lit (.string [99, 111, 109, 109, 105, 116]), .lit (.string []), .lit (.int .i64 2)], .agg [.lit (.string [97, 98, 111, 114, 116]), .lit (.string []), .lit (.int .i64 3)], .agg [.lit (.string [110, 101, 119]), .lit (.string [110]), .lit (.int .i64 4)], .agg [.lit (.string [100, 114, 111, 112]), .lit (.string [110]), .lit (.int .i64 5)], .agg [.lit (.string [112, 117, 116]), .lit (.string [110, 107, 118]), .lit (.int .i64 6)], .agg [.lit (.string [109, 105, 110]), .lit (.string [110]), .lit (.int .i64 7)], .agg [.lit (.string [112, 111, 112]), .lit (.string [110]), .lit (.int .i64 8)], .agg [.lit (.string [108, 111, 119, 101, 114]), .lit (.string [110, 104, 107]), .lit (.int .i64 9)], .agg [.lit (.string [99, 117, 116]), .lit (.string [110, 104]), .lit (.int .i64 10)], .agg [.lit (.string [109, 101, 108, 100]), .lit (.string [110, 111]), .lit (.int .i64 11)], .agg [.lit (.string [103, 101, 116]), .lit (.string [104]), .lit (.int .i64 12)], .agg [.lit (.string [108, 101, 110]), .lit (.string [110]), .lit (.int .i64 13)], .agg [.lit (.string [108, 105, 115, 116]), .lit (.string [110]), .lit (.int .i64 14)], .agg [.lit (.string [110, 97, 109, 101, 115]), .lit (.string []), .lit (.int .i64 15)], .agg [.lit (.string [97, 114, 109]), .lit (.string [118]), .lit (.int .i64 16)], .agg [.lit (.string [112, 108, 97, 110]), .lit (.string [42]), .lit (.int .i64 17)], .agg [.lit (.string [99, 114, 97, 115, 104]), .lit (.string [42]), .lit (.int .i64 18)], .agg [.lit (.string [99, 104, 101, 99, 107]), .lit (.string []), .lit (.int .i64 19)], .agg [.lit (.string [101, 112, 111, 99, 104]), .lit (.string []), .lit (.int .i64 20)]]

/-- 'rickyardlaw03.DigitTickets': WHATEVER THE INPUT: true; the input reads as it did. -/
def digitTicketsSpec : ChangeSpec := { name := "digitTickets", fn := fun _ => fun
  | [d] => { results := [.lit (.bool true)], args := [d] }
  | _ => none }
def digitTicketsRow : OpenClaim := { program := "ytepnfdggeobcaabdoor", sum := "e050c11c66d6be1d78f05b96a3e94aee3958d3e4689ab287c59b64191b6d11ee", func := "rickyard/rickyardlaw03.DigitTickets", spec := "digitTickets", inPlace := ["internal/bytealg.IndexByteString", "internal/bytealg.IndexString"], named := ["internal/bytealg.MaxLen", "internal/strconv.uint64pow10", "math/bits.deBruijn32tab", "math/bits.deBruijn64tab"], apart := false, laid := [("math/bits.deBruijn32tab", laid_math_bits_deBruijn32tab), ("math/bits.deBruijn64tab", laid_math_bits_deBruijn64tab), ("internal/strconv.uint64pow10", laid_internal_strconv_uint64pow10)] }
def DigitTicketsSaid : Prop := digitTicketsRow.holds Tryd.pinned (OpenSpec.ofChange digitTicketsSpec)

/-- ITS FALSE NEIGHBOUR: 'it returns false'. Refute it at one input. -/
def digitTicketsWrong : ChangeSpec := { name := "digitTickets", fn := fun _ => fun
  | [d] => { results := [.lit (.bool false)], args := [d] }
  | _ => none }
def DigitTicketsWrongFalsely : Prop := digitTicketsRow.holds Tryd.pinned (OpenSpec.ofChange digitTicketsWrong)

/-- 'rickyardlaw03.DigitApart': WHATEVER THE INPUT: true; the input reads as it did. -/
def digitApartSpec : ChangeSpec := { name := "digitApart", fn := fun _ => fun
  | [d1, d2, d3] => { results := [.lit (.bool true)], args := [d1, d2, d3] }
  | _ => none }
def digitApartRow : OpenClaim := { program := "ytepnfdggeobcaabdoor", sum := "e050c11c66d6be1d78f05b96a3e94aee3958d3e4689ab287c59b64191b6d11ee", func := "rickyard/rickyardlaw03.DigitApart", spec := "digitApart", inPlace := ["internal/bytealg.IndexByteString", "internal/bytealg.IndexString"], named := ["internal/bytealg.MaxLen", "internal/strconv.uint64pow10", "math/bits.deBruijn32tab", "math/bits.deBruijn64tab"], apart := false, laid := [("math/bits.deBruijn32tab", laid_math_bits_deBruijn32tab), ("math/bits.deBruijn64tab", laid_math_bits_deBruijn64tab), ("internal/strconv.uint64pow10", laid_internal_strconv_uint64pow10)] }
def DigitApartSaid : Prop := digitApartRow.holds Tryd.pinned (OpenSpec.ofChange digitApartSpec)

/-- ITS FALSE NEIGHBOUR: 'it returns false'. Refute it at one input. -/
def digitApartWrong : ChangeSpec := { name := "digitApart", fn := fun _ => fun
  | [d1, d2, d3] => { results := [.lit (.bool false)], args := [d1, d2, d3] }
  | _ => none }
def DigitApartWrongFalsely : Prop := digitApartRow.holds Tryd.pinned (OpenSpec.ofChange digitApartWrong)

/-- 'rickyardlaw03.DigitHandles': WHATEVER THE INPUT: true; the input reads as it did. -/
def digitHandlesSpec : ChangeSpec := { name := "digitHandles", fn := fun _ => fun
  | [d] => { results := [.lit (.bool true)], args := [d] }
  | _ => none }
def digitHandlesRow : OpenClaim := { program := "ytepnfdggeobcaabdoor", sum := "e050c11c66d6be1d78f05b96a3e94aee3958d3e4689ab287c59b64191b6d11ee", func := "rickyard/rickyardlaw03.DigitHandles", spec := "digitHandles", inPlace := ["internal/bytealg.IndexByteString", "internal/bytealg.IndexString"], named := ["internal/bytealg.MaxLen", "internal/strconv.uint64pow10", "math/bits.deBruijn32tab", "math/bits.deBruijn64tab"], apart := false, laid := [("math/bits.deBruijn32tab", laid_math_bits_deBruijn32tab), ("math/bits.deBruijn64tab", laid_math_bits_deBruijn64tab), ("internal/strconv.uint64pow10", laid_internal_strconv_uint64pow10)] }
def DigitHandlesSaid : Prop := digitHandlesRow.holds Tryd.pinned (OpenSpec.ofChange digitHandlesSpec)

/-- ITS FALSE NEIGHBOUR: 'it returns false'. Refute it at one input. -/
def digitHandlesWrong : ChangeSpec := { name := "digitHandles", fn := fun _ => fun
  | [d] => { results := [.lit (.bool false)], args := [d] }
  | _ => none }
def DigitHandlesWrongFalsely : Prop := digitHandlesRow.holds Tryd.pinned (OpenSpec.ofChange digitHandlesWrong)

/-- 'rickyardlaw32.ScriptParses': WHATEVER THE INPUT: true; the input reads as it did. -/
def scriptParsesSpec : ChangeSpec := { name := "scriptParses", fn := fun _ => fun
  | [d] => { results := [.lit (.bool true)], args := [d] }
  | _ => none }
def scriptParsesRow : OpenClaim := { program := "ytepnfdggeobcaabdoor", sum := "e050c11c66d6be1d78f05b96a3e94aee3958d3e4689ab287c59b64191b6d11ee", func := "rickyard/rickyardlaw32.ScriptParses", spec := "scriptParses", inPlace := ["internal/abi.NoEscape", "internal/bytealg.MakeNoZero", "internal/bytealg.IndexByteString", "internal/bytealg.IndexString"], unfollowed := true, recurses := true, named := ["rickyard/script.commands", "internal/bytealg.MaxLen"], apart := false, laid := [("rickyard/script.commands", laid_rickyard_script_commands)] }
def ScriptParsesSaid : Prop := scriptParsesRow.holds Tryd.pinned (OpenSpec.ofChange scriptParsesSpec)

/-- ITS FALSE NEIGHBOUR: 'it returns false'. Refute it at one input. -/
def scriptParsesWrong : ChangeSpec := { name := "scriptParses", fn := fun _ => fun
  | [d] => { results := [.lit (.bool false)], args := [d] }
  | _ => none }
def ScriptParsesWrongFalsely : Prop := scriptParsesRow.holds Tryd.pinned (OpenSpec.ofChange scriptParsesWrong)

/-- 'rickyardlaw32.ScriptSames': WHATEVER THE INPUT: true; the input reads as it did. -/
def scriptSamesSpec : ChangeSpec := { name := "scriptSames", fn := fun _ => fun
  | [d1, d2] => { results := [.lit (.bool true)], args := [d1, d2] }
  | _ => none }
def scriptSamesRow : OpenClaim := { program := "ytepnfdggeobcaabdoor", sum := "e050c11c66d6be1d78f05b96a3e94aee3958d3e4689ab287c59b64191b6d11ee", func := "rickyard/rickyardlaw32.ScriptSames", spec := "scriptSames", inPlace := ["internal/abi.NoEscape", "internal/bytealg.MakeNoZero", "internal/bytealg.IndexByteString", "internal/bytealg.IndexString"], unfollowed := true, recurses := true, named := ["rickyard/script.commands", "internal/bytealg.MaxLen"], apart := false, laid := [("rickyard/script.commands", laid_rickyard_script_commands)] }
def ScriptSamesSaid : Prop := scriptSamesRow.holds Tryd.pinned (OpenSpec.ofChange scriptSamesSpec)

/-- ITS FALSE NEIGHBOUR: 'it returns false'. Refute it at one input. -/
def scriptSamesWrong : ChangeSpec := { name := "scriptSames", fn := fun _ => fun
  | [d1, d2] => { results := [.lit (.bool false)], args := [d1, d2] }
  | _ => none }
def ScriptSamesWrongFalsely : Prop := scriptSamesRow.holds Tryd.pinned (OpenSpec.ofChange scriptSamesWrong)

/- THE SECOND FORM. 'bulk': how many values and letters a reading holds, each counted each time it is reached (what is shared counts as often as it is met; a slice's spare places count too). A statement '..UptoSaid' is the law's where the arguments, and the package variables that the reading takes, are together of bulk at most 1048576: NARROWER than '..Said'. Prove '..Said' where nothing that the law and all that it calls make is longer than what came in: it says more and counts as full. Else prove '..UptoSaid'. A law counts once. -/
mutual
def uptoBulk {H : Type} : DataW H → Nat
  | .lit (.string bytes) => bytes.length + 1
  | .lit _ => 1
  | .nil => 1
  | .ptr d => uptoBulk d + 1
  | .slice elems spare => uptoBulkAll elems + uptoBulkAll spare + 1
  | .agg parts => uptoBulkAll parts + 1
  | .iface _ d => uptoBulk d + 1
  | .map entries => uptoBulkEntries entries + 1
  | .held _ => 1
def uptoBulkAll {H : Type} : List (DataW H) → Nat
  | [] => 0
  | d :: r => uptoBulk d + uptoBulkAll r
def uptoBulkEntries {H : Type} : List (Lit × DataW H) → Nat
  | [] => 0
  | x :: r => uptoBulkEntry x + uptoBulkEntries r
def uptoBulkEntry {H : Type} : Lit × DataW H → Nat
  | (.string bytes, d) => bytes.length + uptoBulk d + 1
  | (_, d) => uptoBulk d + 1
 end
def uptoSmall : (H : Type) → List (DataW H) → Bool := fun _ ds => decide (uptoBulkAll ds ≤ 1048576)
def OpenSpec.upto (s : _root_.Go.ChangeSpec) : _root_.Go.OpenSpec := { _root_.Go.OpenSpec.ofChange s with cond := some uptoSmall }

/-- 'rickyardlaw03.DigitTickets', WHERE WHAT IT READS IS OF BULK AT MOST 1048576: true; the input reads as it did. -/
def digitTicketsUptoRow : OpenClaim := { program := "ytepnfdggeobcaabdoor", sum := "e050c11c66d6be1d78f05b96a3e94aee3958d3e4689ab287c59b64191b6d11ee", func := "rickyard/rickyardlaw03.DigitTickets", spec := "digitTickets", inPlace := ["internal/bytealg.IndexByteString", "internal/bytealg.IndexString"], named := ["internal/bytealg.MaxLen", "internal/strconv.uint64pow10", "math/bits.deBruijn32tab", "math/bits.deBruijn64tab"], apart := false, laid := [("math/bits.deBruijn32tab", laid_math_bits_deBruijn32tab), ("math/bits.deBruijn64tab", laid_math_bits_deBruijn64tab), ("internal/strconv.uint64pow10", laid_internal_strconv_uint64pow10)], narrowed := true }
def DigitTicketsUptoSaid : Prop := digitTicketsUptoRow.holds Tryd.pinned (OpenSpec.upto digitTicketsSpec)

/-- 'rickyardlaw03.DigitApart', WHERE WHAT IT READS IS OF BULK AT MOST 1048576: true; the input reads as it did. -/
def digitApartUptoRow : OpenClaim := { program := "ytepnfdggeobcaabdoor", sum := "e050c11c66d6be1d78f05b96a3e94aee3958d3e4689ab287c59b64191b6d11ee", func := "rickyard/rickyardlaw03.DigitApart", spec := "digitApart", inPlace := ["internal/bytealg.IndexByteString", "internal/bytealg.IndexString"], named := ["internal/bytealg.MaxLen", "internal/strconv.uint64pow10", "math/bits.deBruijn32tab", "math/bits.deBruijn64tab"], apart := false, laid := [("math/bits.deBruijn32tab", laid_math_bits_deBruijn32tab), ("math/bits.deBruijn64tab", laid_math_bits_deBruijn64tab), ("internal/strconv.uint64pow10", laid_internal_strconv_uint64pow10)], narrowed := true }
def DigitApartUptoSaid : Prop := digitApartUptoRow.holds Tryd.pinned (OpenSpec.upto digitApartSpec)

/-- 'rickyardlaw03.DigitHandles', WHERE WHAT IT READS IS OF BULK AT MOST 1048576: true; the input reads as it did. -/
def digitHandlesUptoRow : OpenClaim := { program := "ytepnfdggeobcaabdoor", sum := "e050c11c66d6be1d78f05b96a3e94aee3958d3e4689ab287c59b64191b6d11ee", func := "rickyard/rickyardlaw03.DigitHandles", spec := "digitHandles", inPlace := ["internal/bytealg.IndexByteString", "internal/bytealg.IndexString"], named := ["internal/bytealg.MaxLen", "internal/strconv.uint64pow10", "math/bits.deBruijn32tab", "math/bits.deBruijn64tab"], apart := false, laid := [("math/bits.deBruijn32tab", laid_math_bits_deBruijn32tab), ("math/bits.deBruijn64tab", laid_math_bits_deBruijn64tab), ("internal/strconv.uint64pow10", laid_internal_strconv_uint64pow10)], narrowed := true }
def DigitHandlesUptoSaid : Prop := digitHandlesUptoRow.holds Tryd.pinned (OpenSpec.upto digitHandlesSpec)

/-- 'rickyardlaw32.ScriptParses', WHERE WHAT IT READS IS OF BULK AT MOST 1048576: true; the input reads as it did. -/
def scriptParsesUptoRow : OpenClaim := { program := "ytepnfdggeobcaabdoor", sum := "e050c11c66d6be1d78f05b96a3e94aee3958d3e4689ab287c59b64191b6d11ee", func := "rickyard/rickyardlaw32.ScriptParses", spec := "scriptParses", inPlace := ["internal/abi.NoEscape", "internal/bytealg.MakeNoZero", "internal/bytealg.IndexByteString", "internal/bytealg.IndexString"], unfollowed := true, recurses := true, named := ["rickyard/script.commands", "internal/bytealg.MaxLen"], apart := false, laid := [("rickyard/script.commands", laid_rickyard_script_commands)], narrowed := true }
def ScriptParsesUptoSaid : Prop := scriptParsesUptoRow.holds Tryd.pinned (OpenSpec.upto scriptParsesSpec)

/-- 'rickyardlaw32.ScriptSames', WHERE WHAT IT READS IS OF BULK AT MOST 1048576: true; the input reads as it did. -/
def scriptSamesUptoRow : OpenClaim := { program := "ytepnfdggeobcaabdoor", sum := "e050c11c66d6be1d78f05b96a3e94aee3958d3e4689ab287c59b64191b6d11ee", func := "rickyard/rickyardlaw32.ScriptSames", spec := "scriptSames", inPlace := ["internal/abi.NoEscape", "internal/bytealg.MakeNoZero", "internal/bytealg.IndexByteString", "internal/bytealg.IndexString"], unfollowed := true, recurses := true, named := ["rickyard/script.commands", "internal/bytealg.MaxLen"], apart := false, laid := [("rickyard/script.commands", laid_rickyard_script_commands)], narrowed := true }
def ScriptSamesUptoSaid : Prop := scriptSamesUptoRow.holds Tryd.pinned (OpenSpec.upto scriptSamesSpec)

end Rows
end Go.Proofs.YtepnfdggeobcaabDoor
