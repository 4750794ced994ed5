/- Functions of the program, as the machine runs them: written by gvseat.py. -/
import Derived.Test.YtanmddhmkphilaaDoorGvDef
import Derived.Test.YtanmddhmkphilaaDoorGvZRun
import Derived.Test.YtanmddhmkphilaaDoorGvBDi
import Derived.Test.YtanmddhmkphilaaDoorGvBLaa
namespace Go.Gv
set_option linter.unusedVariables false
set_option maxRecDepth 10000
set_option maxHeartbeats 4000000
noncomputable section
/-- rickyard/rickyardlaw31.LexSplits (42); calls 1 law31_awake, 4 ref31_Same, 43 lex_Lines, 44 ref31_Lines, 45 lex_Split, 46 ref31_Split -/
def b_law31_LexSplits : Oracle → Nat → List DV → M (List DV) := fun c n args =>
  J.s args fun s args =>
  D.nil args <|
  M.call (c 1 []) fun ds =>
  J.b ds fun x ds =>
  D.nil ds <|
  M.join (fun st => J.b st fun b1 st => D.nil st <|
    bif b1 then
      M.call (c 1 []) fun ds =>
      J.b ds fun x1 ds =>
      D.nil ds <|
      M.ret [.bool x1]
    else
      M.call (c 43 [.str s]) fun ds =>
      J.l 1 ds fun x2 x2n ds =>
      D.nil ds <|
      M.call (c 44 [.str s]) fun ds =>
      J.l 1 ds fun x3 x3n ds =>
      D.nil ds <|
      M.call (c 4 [.slice 1 x2 x2n, .slice 1 x3 x3n]) fun ds =>
      J.b ds fun x4 ds =>
      D.nil ds <|
      bif !x4 then
        M.ret [.bool false]
      else
        M.call (c 45 [.str s]) fun ds =>
        J.l 1 ds fun x5 x5n ds =>
        J.i .i64 ds fun x6 ds =>
        J.i .i64 ds fun x7 ds =>
        D.nil ds <|
        M.call (c 46 [.str s]) fun ds =>
        J.l 1 ds fun x8 x8n ds =>
        J.i .i64 ds fun x9 ds =>
        J.i .i64 ds fun x10 ds =>
        D.nil ds <|
        M.join (fun st => J.b st fun b2 st => D.nil st <|
          M.join (fun st => J.b st fun b3 st => D.nil st <|
            bif b3 then
              M.ret [.bool false]
            else
              M.join (fun st =>
              D.nil st <|
            M.ret [.bool true]) fun jk4 =>
            M.loop (fun rec1 st =>
              J.i .i64 st fun i st =>
            D.nil st <|
            bif decide (i < (x5n : Int)) then
              M.nn x5 fun i1 o =>
            M.chk (inB i x5n) <|
            M.load1 i1 (i.toNat * 1 + o) fun d =>
            D.slice 1 d fun x11 x11n =>
            M.nn x8 fun i2 o1 =>
            M.chk (inB i x8n) <|
            M.load1 i2 (i.toNat * 1 + o1) fun d1 =>
            D.slice 1 d1 fun x12 x12n =>
            M.call (c 4 [.slice 1 x11 x11n, .slice 1 x12 x12n]) fun ds =>
            J.b ds fun x13 ds =>
            D.nil ds <|
            bif !x13 then
              M.ret [.bool false]
            else
              rec1 [.int .i64 (wr64 (i + 1))]
            else
              jk4 []) n [.int .i64 0]) fun jk3 =>
          bif b2 then
            jk3 [.bool true]
          else
            jk3 [.bool (!((x5n : Int) == (x8n : Int)))]) fun jk2 =>
        bif !(x7 == x10) then
          jk2 [.bool true]
        else
          jk2 [.bool (!(x6 == x9))]) fun jk1 =>
  bif !x then
    jk1 [.bool true]
  else
    jk1 [.bool (decide ((s.length : Int) > 5000))]
/-- rickyard/lex.Lines (43); calls 58 strings_Split -/
def b_lex_Lines : Oracle → Nat → List DV → M (List DV) := fun c n args =>
  J.s args fun s args =>
  D.nil args <|
  M.base fun b0 =>
  M.call (c 58 [.str s, .str (bs [10])]) fun ds =>
  J.l 1 ds fun x xn ds =>
  D.nil ds <|
  M.retF b0 [.slice 1 x xn]
/-- rickyard/rickyardref31.Lines (44); calls  -/
def b_ref31_Lines : Oracle → Nat → List DV → M (List DV) := fun c n args =>
  J.s args fun s args =>
  D.nil args <|
  M.base fun b0 =>
  M.join (fun st =>
    J.l 1 st fun out outn st =>
    J.s st fun line st =>
    D.nil st <|
    M.new [.str line] fun i =>
    M.load i 0 1 fun cs =>
    M.app 1 out outn cs 1 4398046511104 fun p =>
    M.retF b0 [.slice 1 p (outn + 1)]) fun jk1 =>
  M.loop (fun rec1 st =>
    J.l 1 st fun out1 out1n st =>
    J.s st fun line1 st =>
    J.i .i64 st fun i1 st =>
    D.nil st <|
    bif decide (i1 < (s.length : Int)) then
      M.chk (inB i1 s.length) <|
      M.join (fun st =>
        J.l 1 st fun out2 out2n st =>
        J.s st fun line2 st =>
        D.nil st <|
        rec1 [.slice 1 out2 out2n, .str line2, .int .i64 (wr64 (i1 + 1))]) fun jk2 =>
      bif (byteAt s i1) == 10 then
        M.new [.str line1] fun i2 =>
        M.load i2 0 1 fun cs1 =>
        M.app 1 out1 out1n cs1 1 4398046511104 fun p1 =>
        jk2 [.slice 1 p1 (out1n + 1), .str (bs [])]
      else
        M.chk (decide (0 ≤ wr64 (i1 + 1)) && decide (wr64 (i1 + 1) ≤ (s.length : Int))) <|
        M.chk (decide (0 ≤ i1) && decide (i1 ≤ (((wr64 (i1 + 1)).toNat : Nat) : Int))) <|
        M.chk (Nat.ble (line1.length + ((s.take ((wr64 (i1 + 1)).toNat)).drop i1.toNat).length) 4611686018427387904) <|
        jk2 [.slice 1 out1 out1n, .str (line1 ++ ((s.take ((wr64 (i1 + 1)).toNat)).drop i1.toNat))]
    else
      jk1 [.slice 1 out1 out1n, .str line1]) n [.slice 0 none 0, .str (bs []), .int .i64 0]
/-- rickyard/lex.Split (45); calls 43 lex_Lines, 2 lex_Words -/
def b_lex_Split : Oracle → Nat → List DV → M (List DV) := fun c n args =>
  J.s args fun s args =>
  D.nil args <|
  M.base fun b0 =>
  bif decide ((s.length : Int) > 4000) then
    M.retF b0 [.slice 0 none 0, .int .i64 0, .int .i64 40]
  else
    M.call (c 43 [.str s]) fun ds =>
    J.l 1 ds fun x xn ds =>
    D.nil ds <|
    M.join (fun st =>
      J.l 1 st fun out outn st =>
      D.nil st <|
      M.retF b0 [.slice 1 out outn, .int .i64 0, .int .i64 0]) fun jk1 =>
    M.loop (fun rec1 st =>
      J.l 1 st fun out1 out1n st =>
      J.i .i64 st fun x1 st =>
      D.nil st <|
      bif decide (x1 < (xn : Int)) then
        M.nn x fun i o =>
        M.chk (inB x1 xn) <|
        M.load1 i (x1.toNat * 1 + o) fun d =>
        D.str d fun x2 =>
        M.call (c 2 [.str x2]) fun ds =>
        J.l 1 ds fun x3 x3n ds =>
        J.i .i64 ds fun x4 ds =>
        D.nil ds <|
        bif !(x4 == 0) then
          M.retF b0 [.slice 0 none 0, .int .i64 (wr64 (x1 + 1)), .int .i64 x4]
        else
          M.new [.slice 1 x3 x3n] fun i1 =>
          M.load i1 0 1 fun cs =>
          M.app 1 out1 out1n cs 1 2932031007402 fun p =>
          rec1 [.slice 1 p (out1n + 1), .int .i64 (wr64 (x1 + 1))]
      else
        jk1 [.slice 1 out1 out1n]) n [.slice 0 none 0, .int .i64 0]
/-- rickyard/rickyardref31.Split (46); calls 44 ref31_Lines, 3 ref31_Words -/
def b_ref31_Split : Oracle → Nat → List DV → M (List DV) := fun c n args =>
  J.s args fun s args =>
  D.nil args <|
  M.base fun b0 =>
  bif decide ((s.length : Int) > 4000) then
    M.retF b0 [.slice 0 none 0, .int .i64 0, .int .i64 40]
  else
    M.call (c 44 [.str s]) fun ds =>
    J.l 1 ds fun x xn ds =>
    D.nil ds <|
    M.join (fun st =>
      J.l 1 st fun out outn st =>
      D.nil st <|
      M.retF b0 [.slice 1 out outn, .int .i64 0, .int .i64 0]) fun jk1 =>
    M.loop (fun rec1 st =>
      J.l 1 st fun out1 out1n st =>
      J.i .i64 st fun i st =>
      D.nil st <|
      bif decide (i < (xn : Int)) then
        M.nn x fun i1 o =>
        M.chk (inB i xn) <|
        M.load1 i1 (i.toNat * 1 + o) fun d =>
        D.str d fun x1 =>
        M.call (c 3 [.str x1]) fun ds =>
        J.l 1 ds fun x2 x2n ds =>
        J.i .i64 ds fun x3 ds =>
        D.nil ds <|
        bif !(x3 == 0) then
          M.retF b0 [.slice 0 none 0, .int .i64 (wr64 (i + 1)), .int .i64 x3]
        else
          M.new [.slice 1 x2 x2n] fun i2 =>
          M.load i2 0 1 fun cs =>
          M.app 1 out1 out1n cs 1 2932031007402 fun p =>
          rec1 [.slice 1 p (out1n + 1), .int .i64 (wr64 (i + 1))]
      else
        jk1 [.slice 1 out1 out1n]) n [.slice 0 none 0, .int .i64 0]
/-- strings.Split (58); calls 65 strings_genSplit -/
def b_strings_Split : Oracle → Nat → List DV → M (List DV) := fun c n args =>
  J.s args fun s args =>
  J.s args fun sep args =>
  D.nil args <|
  M.base fun b0 =>
  M.call (c 65 [.str s, .str sep, .int .i64 0, .int .i64 (-1)]) fun ds =>
  J.l 1 ds fun x xn ds =>
  D.nil ds <|
  M.retF b0 [.slice 1 x xn]
/-- strings.genSplit (65); calls 73 strings_explode, 75 strings_Count, 74 strings_Index -/
def b_strings_genSplit : Oracle → Nat → List DV → M (List DV) := fun c n args =>
  J.s args fun s args =>
  J.s args fun sep args =>
  J.i .i64 args fun sepSave args =>
  J.i .i64 args fun n1 args =>
  D.nil args <|
  M.base fun b0 =>
  bif n1 == 0 then
    M.retF b0 [.slice 0 none 0]
  else
    bif sep == (bs []) then
      M.call (c 73 [.str s, .int .i64 n1]) fun ds =>
      J.l 1 ds fun x xn ds =>
      D.nil ds <|
      M.retF b0 [.slice 1 x xn]
    else
      M.join (fun st =>
        J.i .i64 st fun n2 st =>
        D.nil st <|
        M.chk (decide (0 ≤ (if (wr64 ((s.length : Int) + 1)) < n2 then (wr64 ((s.length : Int) + 1)) else n2)) && decide ((if (wr64 ((s.length : Int) + 1)) < n2 then (wr64 ((s.length : Int) + 1)) else n2) ≤ (if (wr64 ((s.length : Int) + 1)) < n2 then (wr64 ((s.length : Int) + 1)) else n2)) && decide ((if (wr64 ((s.length : Int) + 1)) < n2 then (wr64 ((s.length : Int) + 1)) else n2) ≤ 4398046511104)) <|
        M.new (rep ((if (wr64 ((s.length : Int) + 1)) < n2 then (wr64 ((s.length : Int) + 1)) else n2).toNat) [.str (bs [])]) fun i =>
        M.join (fun st =>
          J.s st fun s1 st =>
          J.i .i64 st fun i1 st =>
          D.nil st <|
          M.chk (inB i1 ((if (wr64 ((s.length : Int) + 1)) < n2 then (wr64 ((s.length : Int) + 1)) else n2).toNat)) <|
          M.store i (i1.toNat * 1) [.str s1] <|
          M.chk (decide (0 ≤ wr64 (i1 + 1)) && decide (wr64 (i1 + 1) ≤ (((if (wr64 ((s.length : Int) + 1)) < n2 then (wr64 ((s.length : Int) + 1)) else n2).toNat : Nat) : Int))) <|
          M.retF b0 [.slice 1 (some (i, 0)) ((wr64 (i1 + 1)).toNat)]) fun jk2 =>
        M.loop (fun rec1 st =>
          J.s st fun s2 st =>
          J.i .i64 st fun i2 st =>
          D.nil st <|
          bif decide (i2 < wr64 ((if (wr64 ((s.length : Int) + 1)) < n2 then (wr64 ((s.length : Int) + 1)) else n2) - 1)) then
            M.call (c 74 [.str s2, .str sep]) fun ds =>
            J.i .i64 ds fun x1 ds =>
            D.nil ds <|
            bif decide (x1 < 0) then
              jk2 [.str s2, .int .i64 i2]
            else
              M.chk (decide (0 ≤ wr64 (x1 + sepSave)) && decide (wr64 (x1 + sepSave) ≤ (s2.length : Int))) <|
            M.chk (inB i2 ((if (wr64 ((s.length : Int) + 1)) < n2 then (wr64 ((s.length : Int) + 1)) else n2).toNat)) <|
            M.store i (i2.toNat * 1) [.str (s2.take ((wr64 (x1 + sepSave)).toNat))] <|
            M.chk (decide (0 ≤ wr64 (x1 + (sep.length : Int))) && decide (wr64 (x1 + (sep.length : Int)) ≤ (s2.length : Int))) <|
            rec1 [.str (s2.drop ((wr64 (x1 + (sep.length : Int))).toNat)), .int .i64 (wr64 (i2 + 1))]
          else
            jk2 [.str s2, .int .i64 i2]) n [.str s, .int .i64 0]) fun jk1 =>
      bif decide (n1 < 0) then
        M.call (c 75 [.str s, .str sep]) fun ds =>
        J.i .i64 ds fun x2 ds =>
        D.nil ds <|
        jk1 [.int .i64 (wr64 (x2 + 1))]
      else
        jk1 [.int .i64 n1]
/-- strings.explode (73); calls 81 utf8_RuneCountInString, 82 utf8_DecodeRuneInString -/
def b_strings_explode : Oracle → Nat → List DV → M (List DV) := fun c n args =>
  J.s args fun s args =>
  J.i .i64 args fun n1 args =>
  D.nil args <|
  M.base fun b0 =>
  M.call (c 81 [.str s]) fun ds =>
  J.i .i64 ds fun x ds =>
  D.nil ds <|
  M.join (fun st => J.b st fun b1 st => D.nil st <|
    M.join (fun st =>
      J.i .i64 st fun n2 st =>
      D.nil st <|
      M.chk (decide (0 ≤ n2) && decide (n2 ≤ n2) && decide (n2 ≤ 4398046511104)) <|
      M.new (rep n2.toNat [.str (bs [])]) fun i =>
      M.join (fun st =>
        J.s st fun s1 st =>
        D.nil st <|
        M.join (fun st =>
          D.nil st <|
          M.retF b0 [.slice 1 (some (i, 0)) n2.toNat]) fun jk4 =>
        bif decide (n2 > 0) then
          M.chk (inB (wr64 (n2 - 1)) n2.toNat) <|
          M.store i (((wr64 (n2 - 1)).toNat) * 1) [.str s1] <|
          jk4 []
        else
          jk4 []) fun jk3 =>
      M.loop (fun rec1 st =>
        J.s st fun s2 st =>
        J.i .i64 st fun i1 st =>
        D.nil st <|
        bif decide (i1 < wr64 (n2 - 1)) then
          M.call (c 82 [.str s2]) fun ds =>
          J.i .i32 ds fun x1 ds =>
          J.i .i64 ds fun x2 ds =>
          D.nil ds <|
          M.chk (decide (0 ≤ x2) && decide (x2 ≤ (s2.length : Int))) <|
          M.chk (inB i1 n2.toNat) <|
          M.store i (i1.toNat * 1) [.str (s2.take x2.toNat)] <|
          M.chk (decide (0 ≤ x2) && decide (x2 ≤ (s2.length : Int))) <|
          rec1 [.str (s2.drop x2.toNat), .int .i64 (wr64 (i1 + 1))]
        else
          jk3 [.str s2]) n [.str s, .int .i64 0]) fun jk2 =>
    bif b1 then
      jk2 [.int .i64 x]
    else
      jk2 [.int .i64 n1]) fun jk1 =>
  bif decide (n1 < 0) then
    jk1 [.bool true]
  else
    jk1 [.bool (decide (n1 > x))]
/-- strings.Index (74); calls 84 stringslite_Index -/
def b_strings_Index : Oracle → Nat → List DV → M (List DV) := fun c n args =>
  J.s args fun s args =>
  J.s args fun substr args =>
  D.nil args <|
  M.call (c 84 [.str s, .str substr]) fun ds =>
  J.i .i64 ds fun x ds =>
  D.nil ds <|
  M.ret [.int .i64 x]
/-- strings.Count (75); calls 74 strings_Index, 81 utf8_RuneCountInString, 83 bytealg_CountString -/
def b_strings_Count : Oracle → Nat → List DV → M (List DV) := fun c n args =>
  J.s args fun s args =>
  J.s args fun substr args =>
  D.nil args <|
  bif (substr.length : Int) == 0 then
    M.call (c 81 [.str s]) fun ds =>
    J.i .i64 ds fun x ds =>
    D.nil ds <|
    M.ret [.int .i64 (wr64 (x + 1))]
  else
    bif (substr.length : Int) == 1 then
      M.chk (inB 0 substr.length) <|
      M.call (c 83 [.str s, .int .u8 (byteAt substr 0)]) fun ds =>
      J.i .i64 ds fun x1 ds =>
      D.nil ds <|
      M.ret [.int .i64 x1]
    else
      M.loop (fun rec1 st =>
        J.s st fun s1 st =>
        J.i .i64 st fun n1 st =>
        D.nil st <|
        M.call (c 74 [.str s1, .str substr]) fun ds =>
        J.i .i64 ds fun x2 ds =>
        D.nil ds <|
        bif x2 == (-1) then
          M.ret [.int .i64 n1]
        else
          M.chk (decide (0 ≤ wr64 (x2 + (substr.length : Int))) && decide (wr64 (x2 + (substr.length : Int)) ≤ (s1.length : Int))) <|
          rec1 [.str (s1.drop ((wr64 (x2 + (substr.length : Int))).toNat)), .int .i64 (wr64 (n1 + 1))]) n [.str s, .int .i64 0]
/-- unicode/utf8.RuneCountInString (81); calls  -/
def b_utf8_RuneCountInString : Oracle → Nat → List DV → M (List DV) := fun c n args =>
  J.s args fun s args =>
  D.nil args <|
  M.join (fun st =>
    J.i .i64 st fun n1 st =>
    D.nil st <|
    M.ret [.int .i64 n1]) fun jk1 =>
  M.loop (fun rec1 st =>
    J.i .i64 st fun n2 st =>
    J.n st fun p st =>
    D.nil st <|
    bif Nat.blt p s.length then
    rec1 [.int .i64 (wr64 (n2 + 1)), .nat (p + runeW s p)]
    else
    jk1 [.int .i64 n2]) n [.int .i64 0, .nat 0]
/-- unicode/utf8.DecodeRuneInString (82); calls 87 utf8_decodeRuneInStringSlow -/
def b_utf8_DecodeRuneInString : Oracle → Nat → List DV → M (List DV) := fun c n args =>
  J.s args fun s args =>
  D.nil args <|
  M.join (fun st => J.b st fun b1 st => D.nil st <|
    bif b1 then
      M.chk (inB 0 s.length) <|
      M.ret [.int .i32 (IntKind.wrap .i32 (byteAt s 0)), .int .i64 1]
    else
      M.call (c 87 [.str s]) fun ds =>
      J.i .i32 ds fun x ds =>
      J.i .i64 ds fun x1 ds =>
      D.nil ds <|
      M.ret [.int .i32 x, .int .i64 x1]) fun jk1 =>
  bif !(s == (bs [])) then
    M.chk (inB 0 s.length) <|
    jk1 [.bool (decide (byteAt s 0 < 128))]
  else
    jk1 [.bool false]
/-- unicode/utf8.decodeRuneInStringSlow (87); calls  -/
def b_utf8_decodeRuneInStringSlow : Oracle → Nat → List DV → M (List DV) := fun c n args =>
  J.s args fun s args =>
  D.nil args <|
  bif decide ((s.length : Int) < 1) then
    M.ret [.int .i32 65533, .int .i64 0]
  else
    M.chk (inB 0 s.length) <|
    M.chk (inB (byteAt s 0) 256) <|
    M.load1 4 (((byteAt s 0).toNat) * 1 + 0) fun d =>
    D.int .u8 d fun x =>
    bif decide (x ≥ 240) then
      M.chk (inB 0 s.length) <|
      M.ret [.int .i32 (bits .or .i32 (bits .andNot .i32 (IntKind.wrap .i32 (byteAt s 0)) ((IntKind.wrap .i32 ((IntKind.wrap .i32 (x)) * 2 ^ 31)).fdiv (2 ^ 31))) (bits .and .i32 65533 ((IntKind.wrap .i32 ((IntKind.wrap .i32 (x)) * 2 ^ 31)).fdiv (2 ^ 31)))), .int .i64 1]
    else
      M.chk (inB (x.fdiv (2 ^ 4)) 16) <|
      M.load 5 (((x.fdiv (2 ^ 4)).toNat) * 2 + 0) 2 fun cs =>
      J.i .u8 cs fun x1 r =>
      J.i .u8 r fun x2 r =>
      D.nil r <|
      bif decide ((s.length : Int) < wr64 (bits .and .u8 x 7)) then
        M.ret [.int .i32 65533, .int .i64 1]
      else
        M.chk (inB 1 s.length) <|
        M.join (fun st => J.b st fun b1 st => D.nil st <|
          bif b1 then
            M.ret [.int .i32 65533, .int .i64 1]
          else
            bif decide (wr64 (bits .and .u8 x 7) ≤ 2) then
              M.ret [.int .i32 (bits .or .i32 (IntKind.wrap .i32 ((IntKind.wrap .i32 (bits .and .u8 (byteAt s 0) 31)) * 2 ^ 6)) (IntKind.wrap .i32 (bits .and .u8 (byteAt s 1) 63))), .int .i64 2]
            else
              M.chk (inB 2 s.length) <|
            M.join (fun st => J.b st fun b2 st => D.nil st <|
              bif b2 then
              M.ret [.int .i32 65533, .int .i64 1]
            else
              bif decide (wr64 (bits .and .u8 x 7) ≤ 3) then
              M.ret [.int .i32 (bits .or .i32 (bits .or .i32 (IntKind.wrap .i32 ((IntKind.wrap .i32 (bits .and .u8 (byteAt s 0) 15)) * 2 ^ 12)) (IntKind.wrap .i32 ((IntKind.wrap .i32 (bits .and .u8 (byteAt s 1) 63)) * 2 ^ 6))) (IntKind.wrap .i32 (bits .and .u8 (byteAt s 2) 63))), .int .i64 3]
            else
              M.chk (inB 3 s.length) <|
            M.join (fun st => J.b st fun b3 st => D.nil st <|
              bif b3 then
              M.ret [.int .i32 65533, .int .i64 1]
            else
              M.ret [.int .i32 (bits .or .i32 (bits .or .i32 (bits .or .i32 (IntKind.wrap .i32 ((IntKind.wrap .i32 (bits .and .u8 (byteAt s 0) 7)) * 2 ^ 18)) (IntKind.wrap .i32 ((IntKind.wrap .i32 (bits .and .u8 (byteAt s 1) 63)) * 2 ^ 12))) (IntKind.wrap .i32 ((IntKind.wrap .i32 (bits .and .u8 (byteAt s 2) 63)) * 2 ^ 6))) (IntKind.wrap .i32 (bits .and .u8 (byteAt s 3) 63))), .int .i64 4]) fun jk3 =>
            bif decide (byteAt s 3 < 128) then
              jk3 [.bool true]
            else
              jk3 [.bool (decide ((191 : Int) < byteAt s 3))]) fun jk2 =>
            bif decide (byteAt s 2 < 128) then
              jk2 [.bool true]
            else
              jk2 [.bool (decide ((191 : Int) < byteAt s 2))]) fun jk1 =>
        bif decide (byteAt s 1 < x1) then
          jk1 [.bool true]
        else
          jk1 [.bool (decide (x2 < byteAt s 1))]
end
structure H_utf8_RuneCountInString (Bd : Bodies) : Prop where
  eq : Bd 81 = b_utf8_RuneCountInString
structure H_utf8_decodeRuneInStringSlow (Bd : Bodies) : Prop where
  eq : Bd 87 = b_utf8_decodeRuneInStringSlow
structure H_utf8_DecodeRuneInString (Bd : Bodies) : Prop where
  eq : Bd 82 = b_utf8_DecodeRuneInString
  utf8_decodeRuneInStringSlow : H_utf8_decodeRuneInStringSlow Bd
structure H_strings_explode (Bd : Bodies) : Prop where
  eq : Bd 73 = b_strings_explode
  utf8_RuneCountInString : H_utf8_RuneCountInString Bd
  utf8_DecodeRuneInString : H_utf8_DecodeRuneInString Bd
structure H_strings_Index (Bd : Bodies) : Prop where
  eq : Bd 74 = b_strings_Index
  stringslite_Index : H_stringslite_Index Bd
structure H_bytealg_CountString (Bd : Bodies) : Prop where
  eq : Bd 83 = nat_CountString
structure H_strings_Count (Bd : Bodies) : Prop where
  eq : Bd 75 = b_strings_Count
  strings_Index : H_strings_Index Bd
  utf8_RuneCountInString : H_utf8_RuneCountInString Bd
  bytealg_CountString : H_bytealg_CountString Bd
structure H_strings_genSplit (Bd : Bodies) : Prop where
  eq : Bd 65 = b_strings_genSplit
  strings_explode : H_strings_explode Bd
  strings_Count : H_strings_Count Bd
  strings_Index : H_strings_Index Bd
structure H_strings_Split (Bd : Bodies) : Prop where
  eq : Bd 58 = b_strings_Split
  strings_genSplit : H_strings_genSplit Bd
structure H_lex_Lines (Bd : Bodies) : Prop where
  eq : Bd 43 = b_lex_Lines
  strings_Split : H_strings_Split Bd
structure H_ref31_Lines (Bd : Bodies) : Prop where
  eq : Bd 44 = b_ref31_Lines
structure H_lex_Split (Bd : Bodies) : Prop where
  eq : Bd 45 = b_lex_Split
  lex_Lines : H_lex_Lines Bd
  lex_Words : H_lex_Words Bd
structure H_ref31_Split (Bd : Bodies) : Prop where
  eq : Bd 46 = b_ref31_Split
  ref31_Lines : H_ref31_Lines Bd
  ref31_Words : H_ref31_Words Bd
structure H_law31_LexSplits (Bd : Bodies) : Prop where
  eq : Bd 42 = b_law31_LexSplits
  law31_awake : H_law31_awake Bd
  ref31_Same : H_ref31_Same Bd
  lex_Lines : H_lex_Lines Bd
  ref31_Lines : H_ref31_Lines Bd
  lex_Split : H_lex_Split Bd
  ref31_Split : H_ref31_Split Bd
end Go.Gv
