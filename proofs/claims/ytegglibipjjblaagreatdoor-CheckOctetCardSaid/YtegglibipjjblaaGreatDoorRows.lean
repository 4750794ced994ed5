/-
  NARROWER THAN 'FOR EVERY INPUT', by the rows' own cells (each row's printed sentence says how): MarkStates: laid · MarkCharts: laid · MarkSames: laid · MarkOrder: laid · MarkSpoilt: laid · MarkOthers: laid · CheckOctet: laid · CheckCut: laid · CheckAny: laid · CheckStates: laid · CheckSpoilt: laid.
  DERIVED. THE GIVEN ROWS OF THIS SEAT. 11 by the template 'for every input the law returns true; each argument reads behind the call as it read before'; 0 by the template 'total and deterministic' (their statements: YtegglibipjjblaaGreatDoorTotals.lean).
  GIVEN WITH THE SEED: the statements are not yours to turn. If you find one false, say at which input.
  Laid BY PROGRAM, IN A SANDBOX (cutbox-rows.mjs): the forced cells as the released guide's own fill.sh prints them over the translation 69ccb0323483db2a… (all of the seat's roots in one cut). By AI agents, Wed Nov 11 2026. No macro, syntax, notation, axiom, sorry.
-/
import Derived.Test.YtegglibipjjblaaGreatDoorChecked
import GoSem.Claim
import GoSem.ClaimJoined
import GoSem.ClaimMapViews
import Derived.JoinedTies
import Derived.KernelRfl
namespace Go.Proofs.YtegglibipjjblaaGreatDoor
/- THE CELL 'sum', in the pinned program and in every row, IS THE sha256 OF THE DUMP (.gsa) THAT YtegglibipjjblaaGreatDoorProg.lean LOADS. Nothing in Lean hashes anything: it is a label: what it is worth is what the hold of that sum in a sandbox is worth. -/
noncomputable def Tryz.pinned : Pinned := { name := "ytegglibipjjblaagreatdoor", sum := "69ccb0323483db2a57deaeef4c23350476029f8c01105e9295969ea85b07dcae", checked := Tryz.checked }
namespace Rows
def none {H : Type} : Left H := { results := [], args := [] }

/- WHAT THE LISTED PACKAGE-LEVEL VARIABLES READ AS WHEN THE CALL BEGINS. Each datum BY PROGRAM (the guide's laid-datum.mjs) off the statement by which the dump's own 'gosem.cut.vars' lays the variable. In a bare row this is a premise. The card (YtegglibipjjblaaGreatDoorCards.lean) ties it to the program's text. -/
def laid_math_bits_deBruijn64tab {H : Type} : DataW H := .agg [.lit (.int .u8 0), .lit (.int .u8 1), .lit (.int .u8 56), .lit (.int .u8 2), .lit (.int .u8 57), .lit (.int .u8 49), .lit (.int .u8 28), .lit (.int .u8 3), .lit (.int .u8 61), .lit (.int .u8 58), .lit (.int .u8 42), .lit (.int .u8 50), .lit (.int .u8 38), .lit (.int .u8 29), .lit (.int .u8 17), .lit (.int .u8 4), .lit (.int .u8 62), .lit (.int .u8 47), .lit (.int .u8 59), .lit (.int .u8 36), .lit (.int .u8 45), .lit (.int .u8 43), .lit (.int .u8 51), .lit (.int .u8 22), .lit (.int .u8 53), .lit (.int .u8 39), .lit (.int .u8 33), .lit (.int .u8 30), .lit (.int .u8 24), .lit (.int .u8 18), .lit (.int .u8 12), .lit (.int .u8 5), .lit (.int .u8 63), .lit (.int .u8 55), .lit (.int .u8 48), .lit (.int .u8 27), .lit (.int .u8 60), .lit (.int .u8 41), .lit (.int .u8 37), .lit (.int .u8 16), .lit (.int .u8 46), .lit (.int .u8 35), .lit (.int .u8 44), .lit (.int .u8 21), .lit (.int .u8 52), .lit (.int .u8 32), .lit (.int .u8 23), .lit (.int .u8 11), .lit (.int .u8 54), .lit (.int .u8 26), .lit (.int .u8 40), .lit (.int .u8 15), .lit (.int .u8 34), .lit (.int .u8 20), .lit (.int .u8 31), .lit (.int .u8 10), .lit (.int .u8 25), .lit (.int .u8 14), .lit (.int .u8 19), .lit (.int .u8 9), .lit (.int .u8 13), .lit (.int .u8 8), .lit (.int .u8 7), .lit (.int .u8 6)]

/-- 'rickyardlaw26.MarkStates': WHATEVER THE INPUT: true; the input reads as it did. -/
def markStatesSpec : ChangeSpec := { name := "markStates", fn := fun _ => fun
  | [d1, d2] => { results := [.lit (.bool true)], args := [d1, d2] }
  | _ => none }
def markStatesRow : OpenClaim := { program := "ytegglibipjjblaagreatdoor", sum := "69ccb0323483db2a57deaeef4c23350476029f8c01105e9295969ea85b07dcae", func := "rickyard/rickyardlaw26.MarkStates", spec := "markStates", unfollowed := true, recurses := true, named := ["math/bits.deBruijn64tab"], apart := false, laid := [("math/bits.deBruijn64tab", laid_math_bits_deBruijn64tab)] }
def MarkStatesSaid : Prop := markStatesRow.holds Tryz.pinned (OpenSpec.ofChange markStatesSpec)

/-- ITS FALSE NEIGHBOUR: 'it returns false'. Refute it at one input. -/
def markStatesWrong : ChangeSpec := { name := "markStates", fn := fun _ => fun
  | [d1, d2] => { results := [.lit (.bool false)], args := [d1, d2] }
  | _ => none }
def MarkStatesWrongFalsely : Prop := markStatesRow.holds Tryz.pinned (OpenSpec.ofChange markStatesWrong)

/-- 'rickyardlaw26.MarkCharts': WHATEVER THE INPUT: true; the input reads as it did. -/
def markChartsSpec : ChangeSpec := { name := "markCharts", fn := fun _ => fun
  | [d1, d2, d3] => { results := [.lit (.bool true)], args := [d1, d2, d3] }
  | _ => none }
def markChartsRow : OpenClaim := { program := "ytegglibipjjblaagreatdoor", sum := "69ccb0323483db2a57deaeef4c23350476029f8c01105e9295969ea85b07dcae", func := "rickyard/rickyardlaw26.MarkCharts", spec := "markCharts", unfollowed := true, recurses := true, named := ["math/bits.deBruijn64tab"], apart := false, laid := [("math/bits.deBruijn64tab", laid_math_bits_deBruijn64tab)] }
def MarkChartsSaid : Prop := markChartsRow.holds Tryz.pinned (OpenSpec.ofChange markChartsSpec)

/-- ITS FALSE NEIGHBOUR: 'it returns false'. Refute it at one input. -/
def markChartsWrong : ChangeSpec := { name := "markCharts", fn := fun _ => fun
  | [d1, d2, d3] => { results := [.lit (.bool false)], args := [d1, d2, d3] }
  | _ => none }
def MarkChartsWrongFalsely : Prop := markChartsRow.holds Tryz.pinned (OpenSpec.ofChange markChartsWrong)

/-- 'rickyardlaw26.MarkSames': WHATEVER THE INPUT: true; the input reads as it did. -/
def markSamesSpec : ChangeSpec := { name := "markSames", fn := fun _ => fun
  | [d1, d2] => { results := [.lit (.bool true)], args := [d1, d2] }
  | _ => none }
def markSamesRow : OpenClaim := { program := "ytegglibipjjblaagreatdoor", sum := "69ccb0323483db2a57deaeef4c23350476029f8c01105e9295969ea85b07dcae", func := "rickyard/rickyardlaw26.MarkSames", spec := "markSames", unfollowed := true, recurses := true, named := ["math/bits.deBruijn64tab"], apart := false, laid := [("math/bits.deBruijn64tab", laid_math_bits_deBruijn64tab)] }
def MarkSamesSaid : Prop := markSamesRow.holds Tryz.pinned (OpenSpec.ofChange markSamesSpec)

/-- ITS FALSE NEIGHBOUR: 'it returns false'. Refute it at one input. -/
def markSamesWrong : ChangeSpec := { name := "markSames", fn := fun _ => fun
  | [d1, d2] => { results := [.lit (.bool false)], args := [d1, d2] }
  | _ => none }
def MarkSamesWrongFalsely : Prop := markSamesRow.holds Tryz.pinned (OpenSpec.ofChange markSamesWrong)

/-- 'rickyardlaw26.MarkOrder': WHATEVER THE INPUT: true; the input reads as it did. -/
def markOrderSpec : ChangeSpec := { name := "markOrder", fn := fun _ => fun
  | [d1, d2] => { results := [.lit (.bool true)], args := [d1, d2] }
  | _ => none }
def markOrderRow : OpenClaim := { program := "ytegglibipjjblaagreatdoor", sum := "69ccb0323483db2a57deaeef4c23350476029f8c01105e9295969ea85b07dcae", func := "rickyard/rickyardlaw26.MarkOrder", spec := "markOrder", unfollowed := true, recurses := true, named := ["math/bits.deBruijn64tab"], apart := false, laid := [("math/bits.deBruijn64tab", laid_math_bits_deBruijn64tab)] }
def MarkOrderSaid : Prop := markOrderRow.holds Tryz.pinned (OpenSpec.ofChange markOrderSpec)

/-- ITS FALSE NEIGHBOUR: 'it returns false'. Refute it at one input. -/
def markOrderWrong : ChangeSpec := { name := "markOrder", fn := fun _ => fun
  | [d1, d2] => { results := [.lit (.bool false)], args := [d1, d2] }
  | _ => none }
def MarkOrderWrongFalsely : Prop := markOrderRow.holds Tryz.pinned (OpenSpec.ofChange markOrderWrong)

/-- 'rickyardlaw26.MarkSpoilt': WHATEVER THE INPUT: true; the input reads as it did. -/
def markSpoiltSpec : ChangeSpec := { name := "markSpoilt", fn := fun _ => fun
  | [d1, d2] => { results := [.lit (.bool true)], args := [d1, d2] }
  | _ => none }
def markSpoiltRow : OpenClaim := { program := "ytegglibipjjblaagreatdoor", sum := "69ccb0323483db2a57deaeef4c23350476029f8c01105e9295969ea85b07dcae", func := "rickyard/rickyardlaw26.MarkSpoilt", spec := "markSpoilt", unfollowed := true, recurses := true, named := ["math/bits.deBruijn64tab"], apart := false, laid := [("math/bits.deBruijn64tab", laid_math_bits_deBruijn64tab)] }
def MarkSpoiltSaid : Prop := markSpoiltRow.holds Tryz.pinned (OpenSpec.ofChange markSpoiltSpec)

/-- ITS FALSE NEIGHBOUR: 'it returns false'. Refute it at one input. -/
def markSpoiltWrong : ChangeSpec := { name := "markSpoilt", fn := fun _ => fun
  | [d1, d2] => { results := [.lit (.bool false)], args := [d1, d2] }
  | _ => none }
def MarkSpoiltWrongFalsely : Prop := markSpoiltRow.holds Tryz.pinned (OpenSpec.ofChange markSpoiltWrong)

/-- 'rickyardlaw26.MarkOthers': WHATEVER THE INPUT: true; the input reads as it did. -/
def markOthersSpec : ChangeSpec := { name := "markOthers", fn := fun _ => fun
  | [d1, d2, d3] => { results := [.lit (.bool true)], args := [d1, d2, d3] }
  | _ => none }
def markOthersRow : OpenClaim := { program := "ytegglibipjjblaagreatdoor", sum := "69ccb0323483db2a57deaeef4c23350476029f8c01105e9295969ea85b07dcae", func := "rickyard/rickyardlaw26.MarkOthers", spec := "markOthers", unfollowed := true, recurses := true, named := ["math/bits.deBruijn64tab"], apart := false, laid := [("math/bits.deBruijn64tab", laid_math_bits_deBruijn64tab)] }
def MarkOthersSaid : Prop := markOthersRow.holds Tryz.pinned (OpenSpec.ofChange markOthersSpec)

/-- ITS FALSE NEIGHBOUR: 'it returns false'. Refute it at one input. -/
def markOthersWrong : ChangeSpec := { name := "markOthers", fn := fun _ => fun
  | [d1, d2, d3] => { results := [.lit (.bool false)], args := [d1, d2, d3] }
  | _ => none }
def MarkOthersWrongFalsely : Prop := markOthersRow.holds Tryz.pinned (OpenSpec.ofChange markOthersWrong)

/-- 'rickyardlaw27.CheckOctet': WHATEVER THE INPUT: true; the input reads as it did. -/
def checkOctetSpec : ChangeSpec := { name := "checkOctet", fn := fun _ => fun
  | [d1, d2, d3] => { results := [.lit (.bool true)], args := [d1, d2, d3] }
  | _ => none }
def checkOctetRow : OpenClaim := { program := "ytegglibipjjblaagreatdoor", sum := "69ccb0323483db2a57deaeef4c23350476029f8c01105e9295969ea85b07dcae", func := "rickyard/rickyardlaw27.CheckOctet", spec := "checkOctet", unfollowed := true, recurses := true, named := ["math/bits.deBruijn64tab"], apart := false, laid := [("math/bits.deBruijn64tab", laid_math_bits_deBruijn64tab)] }
def CheckOctetSaid : Prop := checkOctetRow.holds Tryz.pinned (OpenSpec.ofChange checkOctetSpec)

/-- ITS FALSE NEIGHBOUR: 'it returns false'. Refute it at one input. -/
def checkOctetWrong : ChangeSpec := { name := "checkOctet", fn := fun _ => fun
  | [d1, d2, d3] => { results := [.lit (.bool false)], args := [d1, d2, d3] }
  | _ => none }
def CheckOctetWrongFalsely : Prop := checkOctetRow.holds Tryz.pinned (OpenSpec.ofChange checkOctetWrong)

/-- 'rickyardlaw27.CheckCut': WHATEVER THE INPUT: true; the input reads as it did. -/
def checkCutSpec : ChangeSpec := { name := "checkCut", fn := fun _ => fun
  | [d1, d2] => { results := [.lit (.bool true)], args := [d1, d2] }
  | _ => none }
def checkCutRow : OpenClaim := { program := "ytegglibipjjblaagreatdoor", sum := "69ccb0323483db2a57deaeef4c23350476029f8c01105e9295969ea85b07dcae", func := "rickyard/rickyardlaw27.CheckCut", spec := "checkCut", unfollowed := true, recurses := true, named := ["math/bits.deBruijn64tab"], apart := false, laid := [("math/bits.deBruijn64tab", laid_math_bits_deBruijn64tab)] }
def CheckCutSaid : Prop := checkCutRow.holds Tryz.pinned (OpenSpec.ofChange checkCutSpec)

/-- ITS FALSE NEIGHBOUR: 'it returns false'. Refute it at one input. -/
def checkCutWrong : ChangeSpec := { name := "checkCut", fn := fun _ => fun
  | [d1, d2] => { results := [.lit (.bool false)], args := [d1, d2] }
  | _ => none }
def CheckCutWrongFalsely : Prop := checkCutRow.holds Tryz.pinned (OpenSpec.ofChange checkCutWrong)

/-- 'rickyardlaw27.CheckAny': WHATEVER THE INPUT: true; the input reads as it did. -/
def checkAnySpec : ChangeSpec := { name := "checkAny", fn := fun _ => fun
  | [d] => { results := [.lit (.bool true)], args := [d] }
  | _ => none }
def checkAnyRow : OpenClaim := { program := "ytegglibipjjblaagreatdoor", sum := "69ccb0323483db2a57deaeef4c23350476029f8c01105e9295969ea85b07dcae", func := "rickyard/rickyardlaw27.CheckAny", spec := "checkAny", unfollowed := true, recurses := true, named := ["math/bits.deBruijn64tab"], apart := false, laid := [("math/bits.deBruijn64tab", laid_math_bits_deBruijn64tab)] }
def CheckAnySaid : Prop := checkAnyRow.holds Tryz.pinned (OpenSpec.ofChange checkAnySpec)

/-- ITS FALSE NEIGHBOUR: 'it returns false'. Refute it at one input. -/
def checkAnyWrong : ChangeSpec := { name := "checkAny", fn := fun _ => fun
  | [d] => { results := [.lit (.bool false)], args := [d] }
  | _ => none }
def CheckAnyWrongFalsely : Prop := checkAnyRow.holds Tryz.pinned (OpenSpec.ofChange checkAnyWrong)

/-- 'rickyardlaw27.CheckStates': WHATEVER THE INPUT: true; the input reads as it did. -/
def checkStatesSpec : ChangeSpec := { name := "checkStates", fn := fun _ => fun
  | [d1, d2, d3] => { results := [.lit (.bool true)], args := [d1, d2, d3] }
  | _ => none }
def checkStatesRow : OpenClaim := { program := "ytegglibipjjblaagreatdoor", sum := "69ccb0323483db2a57deaeef4c23350476029f8c01105e9295969ea85b07dcae", func := "rickyard/rickyardlaw27.CheckStates", spec := "checkStates", unfollowed := true, recurses := true, named := ["math/bits.deBruijn64tab"], apart := false, laid := [("math/bits.deBruijn64tab", laid_math_bits_deBruijn64tab)] }
def CheckStatesSaid : Prop := checkStatesRow.holds Tryz.pinned (OpenSpec.ofChange checkStatesSpec)

/-- ITS FALSE NEIGHBOUR: 'it returns false'. Refute it at one input. -/
def checkStatesWrong : ChangeSpec := { name := "checkStates", fn := fun _ => fun
  | [d1, d2, d3] => { results := [.lit (.bool false)], args := [d1, d2, d3] }
  | _ => none }
def CheckStatesWrongFalsely : Prop := checkStatesRow.holds Tryz.pinned (OpenSpec.ofChange checkStatesWrong)

/-- 'rickyardlaw27.CheckSpoilt': WHATEVER THE INPUT: true; the input reads as it did. -/
def checkSpoiltSpec : ChangeSpec := { name := "checkSpoilt", fn := fun _ => fun
  | [d1, d2, d3] => { results := [.lit (.bool true)], args := [d1, d2, d3] }
  | _ => none }
def checkSpoiltRow : OpenClaim := { program := "ytegglibipjjblaagreatdoor", sum := "69ccb0323483db2a57deaeef4c23350476029f8c01105e9295969ea85b07dcae", func := "rickyard/rickyardlaw27.CheckSpoilt", spec := "checkSpoilt", unfollowed := true, recurses := true, named := ["math/bits.deBruijn64tab"], apart := false, laid := [("math/bits.deBruijn64tab", laid_math_bits_deBruijn64tab)] }
def CheckSpoiltSaid : Prop := checkSpoiltRow.holds Tryz.pinned (OpenSpec.ofChange checkSpoiltSpec)

/-- ITS FALSE NEIGHBOUR: 'it returns false'. Refute it at one input. -/
def checkSpoiltWrong : ChangeSpec := { name := "checkSpoilt", fn := fun _ => fun
  | [d1, d2, d3] => { results := [.lit (.bool false)], args := [d1, d2, d3] }
  | _ => none }
def CheckSpoiltWrongFalsely : Prop := checkSpoiltRow.holds Tryz.pinned (OpenSpec.ofChange checkSpoiltWrong)

/- THE SECOND FORM. 'bulk': how many values and letters a reading holds, each counted each time it is reached (what is shared counts as often as it is met; a slice's spare places count too). A statement '..UptoSaid' is the law's where the arguments, and the package variables that the reading takes, are together of bulk at most 1048576: NARROWER than '..Said'. Prove '..Said' where nothing that the law and all that it calls make is longer than what came in: it says more and counts as full. Else prove '..UptoSaid'. A law counts once. -/
mutual
def uptoBulk {H : Type} : DataW H → Nat
  | .lit (.string bytes) => bytes.length + 1
  | .lit _ => 1
  | .nil => 1
  | .ptr d => uptoBulk d + 1
  | .slice elems spare => uptoBulkAll elems + uptoBulkAll spare + 1
  | .agg parts => uptoBulkAll parts + 1
  | .iface _ d => uptoBulk d + 1
  | .map entries => uptoBulkEntries entries + 1
  | .held _ => 1
def uptoBulkAll {H : Type} : List (DataW H) → Nat
  | [] => 0
  | d :: r => uptoBulk d + uptoBulkAll r
def uptoBulkEntries {H : Type} : List (Lit × DataW H) → Nat
  | [] => 0
  | x :: r => uptoBulkEntry x + uptoBulkEntries r
def uptoBulkEntry {H : Type} : Lit × DataW H → Nat
  | (.string bytes, d) => bytes.length + uptoBulk d + 1
  | (_, d) => uptoBulk d + 1
 end
def uptoSmall : (H : Type) → List (DataW H) → Bool := fun _ ds => decide (uptoBulkAll ds ≤ 1048576)
def OpenSpec.upto (s : _root_.Go.ChangeSpec) : _root_.Go.OpenSpec := { _root_.Go.OpenSpec.ofChange s with cond := some uptoSmall }

/-- 'rickyardlaw26.MarkStates', WHERE WHAT IT READS IS OF BULK AT MOST 1048576: true; the input reads as it did. -/
def markStatesUptoRow : OpenClaim := { program := "ytegglibipjjblaagreatdoor", sum := "69ccb0323483db2a57deaeef4c23350476029f8c01105e9295969ea85b07dcae", func := "rickyard/rickyardlaw26.MarkStates", spec := "markStates", unfollowed := true, recurses := true, named := ["math/bits.deBruijn64tab"], apart := false, laid := [("math/bits.deBruijn64tab", laid_math_bits_deBruijn64tab)], narrowed := true }
def MarkStatesUptoSaid : Prop := markStatesUptoRow.holds Tryz.pinned (OpenSpec.upto markStatesSpec)

/-- 'rickyardlaw26.MarkCharts', WHERE WHAT IT READS IS OF BULK AT MOST 1048576: true; the input reads as it did. -/
def markChartsUptoRow : OpenClaim := { program := "ytegglibipjjblaagreatdoor", sum := "69ccb0323483db2a57deaeef4c23350476029f8c01105e9295969ea85b07dcae", func := "rickyard/rickyardlaw26.MarkCharts", spec := "markCharts", unfollowed := true, recurses := true, named := ["math/bits.deBruijn64tab"], apart := false, laid := [("math/bits.deBruijn64tab", laid_math_bits_deBruijn64tab)], narrowed := true }
def MarkChartsUptoSaid : Prop := markChartsUptoRow.holds Tryz.pinned (OpenSpec.upto markChartsSpec)

/-- 'rickyardlaw26.MarkSames', WHERE WHAT IT READS IS OF BULK AT MOST 1048576: true; the input reads as it did. -/
def markSamesUptoRow : OpenClaim := { program := "ytegglibipjjblaagreatdoor", sum := "69ccb0323483db2a57deaeef4c23350476029f8c01105e9295969ea85b07dcae", func := "rickyard/rickyardlaw26.MarkSames", spec := "markSames", unfollowed := true, recurses := true, named := ["math/bits.deBruijn64tab"], apart := false, laid := [("math/bits.deBruijn64tab", laid_math_bits_deBruijn64tab)], narrowed := true }
def MarkSamesUptoSaid : Prop := markSamesUptoRow.holds Tryz.pinned (OpenSpec.upto markSamesSpec)

/-- 'rickyardlaw26.MarkOrder', WHERE WHAT IT READS IS OF BULK AT MOST 1048576: true; the input reads as it did. -/
def markOrderUptoRow : OpenClaim := { program := "ytegglibipjjblaagreatdoor", sum := "69ccb0323483db2a57deaeef4c23350476029f8c01105e9295969ea85b07dcae", func := "rickyard/rickyardlaw26.MarkOrder", spec := "markOrder", unfollowed := true, recurses := true, named := ["math/bits.deBruijn64tab"], apart := false, laid := [("math/bits.deBruijn64tab", laid_math_bits_deBruijn64tab)], narrowed := true }
def MarkOrderUptoSaid : Prop := markOrderUptoRow.holds Tryz.pinned (OpenSpec.upto markOrderSpec)

/-- 'rickyardlaw26.MarkSpoilt', WHERE WHAT IT READS IS OF BULK AT MOST 1048576: true; the input reads as it did. -/
def markSpoiltUptoRow : OpenClaim := { program := "ytegglibipjjblaagreatdoor", sum := "69ccb0323483db2a57deaeef4c23350476029f8c01105e9295969ea85b07dcae", func := "rickyard/rickyardlaw26.MarkSpoilt", spec := "markSpoilt", unfollowed := true, recurses := true, named := ["math/bits.deBruijn64tab"], apart := false, laid := [("math/bits.deBruijn64tab", laid_math_bits_deBruijn64tab)], narrowed := true }
def MarkSpoiltUptoSaid : Prop := markSpoiltUptoRow.holds Tryz.pinned (OpenSpec.upto markSpoiltSpec)

/-- 'rickyardlaw26.MarkOthers', WHERE WHAT IT READS IS OF BULK AT MOST 1048576: true; the input reads as it did. -/
def markOthersUptoRow : OpenClaim := { program := "ytegglibipjjblaagreatdoor", sum := "69ccb0323483db2a57deaeef4c23350476029f8c01105e9295969ea85b07dcae", func := "rickyard/rickyardlaw26.MarkOthers", spec := "markOthers", unfollowed := true, recurses := true, named := ["math/bits.deBruijn64tab"], apart := false, laid := [("math/bits.deBruijn64tab", laid_math_bits_deBruijn64tab)], narrowed := true }
def MarkOthersUptoSaid : Prop := markOthersUptoRow.holds Tryz.pinned (OpenSpec.upto markOthersSpec)

/-- 'rickyardlaw27.CheckOctet', WHERE WHAT IT READS IS OF BULK AT MOST 1048576: true; the input reads as it did. -/
def checkOctetUptoRow : OpenClaim := { program := "ytegglibipjjblaagreatdoor", sum := "69ccb0323483db2a57deaeef4c23350476029f8c01105e9295969ea85b07dcae", func := "rickyard/rickyardlaw27.CheckOctet", spec := "checkOctet", unfollowed := true, recurses := true, named := ["math/bits.deBruijn64tab"], apart := false, laid := [("math/bits.deBruijn64tab", laid_math_bits_deBruijn64tab)], narrowed := true }
def CheckOctetUptoSaid : Prop := checkOctetUptoRow.holds Tryz.pinned (OpenSpec.upto checkOctetSpec)

/-- 'rickyardlaw27.CheckCut', WHERE WHAT IT READS IS OF BULK AT MOST 1048576: true; the input reads as it did. -/
def checkCutUptoRow : OpenClaim := { program := "ytegglibipjjblaagreatdoor", sum := "69ccb0323483db2a57deaeef4c23350476029f8c01105e9295969ea85b07dcae", func := "rickyard/rickyardlaw27.CheckCut", spec := "checkCut", unfollowed := true, recurses := true, named := ["math/bits.deBruijn64tab"], apart := false, laid := [("math/bits.deBruijn64tab", laid_math_bits_deBruijn64tab)], narrowed := true }
def CheckCutUptoSaid : Prop := checkCutUptoRow.holds Tryz.pinned (OpenSpec.upto checkCutSpec)

/-- 'rickyardlaw27.CheckAny', WHERE WHAT IT READS IS OF BULK AT MOST 1048576: true; the input reads as it did. -/
def checkAnyUptoRow : OpenClaim := { program := "ytegglibipjjblaagreatdoor", sum := "69ccb0323483db2a57deaeef4c23350476029f8c01105e9295969ea85b07dcae", func := "rickyard/rickyardlaw27.CheckAny", spec := "checkAny", unfollowed := true, recurses := true, named := ["math/bits.deBruijn64tab"], apart := false, laid := [("math/bits.deBruijn64tab", laid_math_bits_deBruijn64tab)], narrowed := true }
def CheckAnyUptoSaid : Prop := checkAnyUptoRow.holds Tryz.pinned (OpenSpec.upto checkAnySpec)

/-- 'rickyardlaw27.CheckStates', WHERE WHAT IT READS IS OF BULK AT MOST 1048576: true; the input reads as it did. -/
def checkStatesUptoRow : OpenClaim := { program := "ytegglibipjjblaagreatdoor", sum := "69ccb0323483db2a57deaeef4c23350476029f8c01105e9295969ea85b07dcae", func := "rickyard/rickyardlaw27.CheckStates", spec := "checkStates", unfollowed := true, recurses := true, named := ["math/bits.deBruijn64tab"], apart := false, laid := [("math/bits.deBruijn64tab", laid_math_bits_deBruijn64tab)], narrowed := true }
def CheckStatesUptoSaid : Prop := checkStatesUptoRow.holds Tryz.pinned (OpenSpec.upto checkStatesSpec)

/-- 'rickyardlaw27.CheckSpoilt', WHERE WHAT IT READS IS OF BULK AT MOST 1048576: true; the input reads as it did. -/
def checkSpoiltUptoRow : OpenClaim := { program := "ytegglibipjjblaagreatdoor", sum := "69ccb0323483db2a57deaeef4c23350476029f8c01105e9295969ea85b07dcae", func := "rickyard/rickyardlaw27.CheckSpoilt", spec := "checkSpoilt", unfollowed := true, recurses := true, named := ["math/bits.deBruijn64tab"], apart := false, laid := [("math/bits.deBruijn64tab", laid_math_bits_deBruijn64tab)], narrowed := true }
def CheckSpoiltUptoSaid : Prop := checkSpoiltUptoRow.holds Tryz.pinned (OpenSpec.upto checkSpoiltSpec)

end Rows
end Go.Proofs.YtegglibipjjblaaGreatDoor
