/- Functions of the program, as the machine runs them: written by gvseat.py. -/
import Derived.Test.YtanmddhmkphilaaDoorGvDef
import Derived.Test.YtanmddhmkphilaaDoorGvZRun
import Derived.Test.YtanmddhmkphilaaDoorGvBNa4
namespace Go.Gv
set_option linter.unusedVariables false
set_option maxRecDepth 10000
set_option maxHeartbeats 4000000
noncomputable section
/-- rickyard/rickyardlaw03.DigitShows (47); calls 48 law03_awake, 49 digit_Show, 50 digit_Read, 51 ref03_Show -/
def b_law03_DigitShows : Oracle → Nat → List DV → M (List DV) := fun c n args =>
  J.i .i64 args fun n1 args =>
  D.nil args <|
  M.call (c 48 []) fun ds =>
  J.b ds fun x ds =>
  D.nil ds <|
  bif !x then
    M.ret [.bool false]
  else
    M.call (c 49 [.int .i64 n1]) fun ds =>
    J.s ds fun x1 ds =>
    D.nil ds <|
    M.call (c 50 [.str x1]) fun ds =>
    J.i .i64 ds fun x2 ds =>
    J.b ds fun x3 ds =>
    D.nil ds <|
    M.call (c 51 [.int .i64 n1]) fun ds =>
    J.s ds fun x4 ds =>
    D.nil ds <|
    M.join (fun st => J.b st fun b1 st => D.nil st <|
      M.join (fun st => J.b st fun b2 st => D.nil st <|
        M.ret [.bool b2]) fun jk2 =>
      bif b1 then
        jk2 [.bool (x2 == n1)]
      else
        jk2 [.bool false]) fun jk1 =>
    bif x1 == x4 then
      jk1 [.bool x3]
    else
      jk1 [.bool false]
/-- rickyard/rickyardlaw03.awake (48); calls 49 digit_Show, 59 digit_ReadHandle -/
def b_law03_awake : Oracle → Nat → List DV → M (List DV) := fun c n args =>
  D.nil args <|
  M.call (c 59 [.str (bs [51, 46, 49])]) fun ds =>
  J.a ds fun cs ds =>
  J.i .i64 cs fun x r =>
  J.i .i64 r fun x1 r =>
  D.nil r <|
  J.b ds fun x2 ds =>
  D.nil ds <|
  M.join (fun st => J.b st fun b1 st => D.nil st <|
    M.join (fun st => J.b st fun b2 st => D.nil st <|
      M.ret [.bool b2]) fun jk2 =>
    bif b1 then
      M.call (c 49 [.int .i64 (-9223372036854775808)]) fun ds =>
      J.s ds fun x3 ds =>
      D.nil ds <|
      jk2 [.bool (x3 == (bs [45, 57, 50, 50, 51, 51, 55, 50, 48, 51, 54, 56, 53, 52, 55, 55, 53, 56, 48, 56]))]
    else
      jk2 [.bool false]) fun jk1 =>
  bif x2 then
    jk1 [.bool ((x == 3) && ((x1 == 1) && true))]
  else
    jk1 [.bool false]
/-- rickyard/digit.Show (49); calls 60 strconv_Itoa -/
def b_digit_Show : Oracle → Nat → List DV → M (List DV) := fun c n args =>
  J.i .i64 args fun n1 args =>
  D.nil args <|
  M.call (c 60 [.int .i64 n1]) fun ds =>
  J.s ds fun x ds =>
  D.nil ds <|
  M.ret [.str x]
/-- rickyard/digit.Read (50); calls 62 digit_reader_takes, 61 digit_reader_number -/
def b_digit_Read : Oracle → Nat → List DV → M (List DV) := fun c n args =>
  J.s args fun s args =>
  D.nil args <|
  M.new [.int .i64 0, .int .i64 0, .bool false] fun x =>
  M.join (fun st =>
    D.nil st <|
    M.call (c 61 [.ptr (some (x, 0))]) fun ds =>
    J.i .i64 ds fun x1 ds =>
    J.b ds fun x2 ds =>
    D.nil ds <|
    M.ret [.int .i64 x1, .bool x2]) fun jk1 =>
  M.loop (fun rec1 st =>
    J.n st fun p st =>
    D.nil st <|
    bif Nat.blt p s.length then
    M.call (c 62 [.ptr (some (x, 0)), .int .i32 (runeAt s p)]) fun ds =>
    J.b ds fun x3 ds =>
    D.nil ds <|
    bif !x3 then
      M.ret [.int .i64 0, .bool false]
    else
      rec1 [.nat (p + runeW s p)]
    else
    jk1 []) n [.nat 0]
/-- rickyard/rickyardref03.Show (51); calls  -/
def b_ref03_Show : Oracle → Nat → List DV → M (List DV) := fun c n args =>
  J.i .i64 args fun n1 args =>
  D.nil args <|
  bif n1 == 0 then
    M.ret [.str (bs [48])]
  else
    M.join (fun st =>
      J.s st fun s st =>
      D.nil st <|
      bif decide (n1 < 0) then
        M.chk (Nat.ble ((bs [45]).length + s.length) 4611686018427387904) <|
        M.ret [.str ((bs [45]) ++ s)]
      else
        M.ret [.str s]) fun jk1 =>
    M.loop (fun rec1 st =>
      J.s st fun s1 st =>
      J.i .i64 st fun m st =>
      D.nil st <|
      bif !(m == 0) then
        M.join (fun st =>
          J.i .i64 st fun d st =>
          D.nil st <|
          M.new [.int .u8 (IntKind.wrap .u8 (wr64 (48 + d)))] fun i =>
          M.load i 0 1 fun cs =>
          D.oct cs fun l =>
          M.chk (Nat.ble (l.length + s1.length) 4611686018427387904) <|
          rec1 [.str (l ++ s1), .int .i64 (wr64 (m.tdiv 10))]) fun jk2 =>
        bif decide (m.tmod 10 < 0) then
          jk2 [.int .i64 (wr64 (0 - (m.tmod 10)))]
        else
          jk2 [.int .i64 (m.tmod 10)]
      else
        jk1 [.str s1]) n [.str (bs []), .int .i64 n1]
/-- rickyard/rickyardlaw03.DigitReads (52); calls 48 law03_awake, 50 digit_Read, 53 ref03_Read -/
def b_law03_DigitReads : Oracle → Nat → List DV → M (List DV) := fun c n args =>
  J.s args fun s args =>
  D.nil args <|
  M.call (c 48 []) fun ds =>
  J.b ds fun x ds =>
  D.nil ds <|
  M.join (fun st => J.b st fun b1 st => D.nil st <|
    bif b1 then
      M.call (c 48 []) fun ds =>
      J.b ds fun x1 ds =>
      D.nil ds <|
      M.ret [.bool x1]
    else
      M.call (c 50 [.str s]) fun ds =>
      J.i .i64 ds fun x2 ds =>
      J.b ds fun x3 ds =>
      D.nil ds <|
      M.call (c 53 [.str s]) fun ds =>
      J.i .i64 ds fun x4 ds =>
      J.b ds fun x5 ds =>
      D.nil ds <|
      M.join (fun st => J.b st fun b2 st => D.nil st <|
        M.ret [.bool b2]) fun jk2 =>
      bif x3 == x5 then
        jk2 [.bool (x2 == x4)]
      else
        jk2 [.bool false]) fun jk1 =>
  bif !x then
    jk1 [.bool true]
  else
    jk1 [.bool (decide ((s.length : Int) > 200))]
/-- rickyard/rickyardref03.Read (53); calls 51 ref03_Show -/
def b_ref03_Read : Oracle → Nat → List DV → M (List DV) := fun c n args =>
  J.s args fun s args =>
  D.nil args <|
  bif decide ((s.length : Int) > 20) then
    M.ret [.int .i64 0, .bool false]
  else
    M.join (fun st =>
      J.i .i64 st fun n1 st =>
      D.nil st <|
      M.call (c 51 [.int .i64 n1]) fun ds =>
      J.s ds fun x ds =>
      D.nil ds <|
      bif !(x == s) then
        M.ret [.int .i64 0, .bool false]
      else
        M.ret [.int .i64 n1, .bool true]) fun jk1 =>
    M.loop (fun rec1 st =>
      J.i .i64 st fun n2 st =>
      J.i .i64 st fun i st =>
      D.nil st <|
      bif decide (i < (s.length : Int)) then
        M.join (fun st => J.b st fun b1 st => D.nil st <|
          M.join (fun st =>
            J.i .i64 st fun n3 st =>
            D.nil st <|
            rec1 [.int .i64 n3, .int .i64 (wr64 (i + 1))]) fun jk3 =>
          bif b1 then
            M.chk (inB i s.length) <|
            M.chk (inB 0 s.length) <|
            M.join (fun st =>
              J.i .i64 st fun d st =>
            D.nil st <|
            jk3 [.int .i64 (wr64 ((wr64 (n2 * 10)) + d))]) fun jk4 =>
            bif (byteAt s 0) == 45 then
              jk4 [.int .i64 (wr64 (0 - (wr64 ((wr64 (byteAt s i)) - 48))))]
            else
              jk4 [.int .i64 (wr64 ((wr64 (byteAt s i)) - 48))]
          else
            jk3 [.int .i64 n2]) fun jk2 =>
        bif decide (i > 0) then
          jk2 [.bool true]
        else
          M.chk (inB 0 s.length) <|
          jk2 [.bool (!((byteAt s 0) == 45))]
      else
        jk1 [.int .i64 n2]) n [.int .i64 0, .int .i64 0]
/-- rickyard/digit.ReadHandle (59); calls 50 digit_Read, 66 strings_Cut -/
def b_digit_ReadHandle : Oracle → Nat → List DV → M (List DV) := fun c n args =>
  J.s args fun s args =>
  D.nil args <|
  M.call (c 66 [.str s, .str (bs [46])]) fun ds =>
  J.s ds fun x ds =>
  J.s ds fun x1 ds =>
  J.b ds fun x2 ds =>
  D.nil ds <|
  M.call (c 50 [.str x]) fun ds =>
  J.i .i64 ds fun x3 ds =>
  J.b ds fun x4 ds =>
  D.nil ds <|
  M.call (c 50 [.str x1]) fun ds =>
  J.i .i64 ds fun x5 ds =>
  J.b ds fun x6 ds =>
  D.nil ds <|
  M.join (fun st => J.b st fun b1 st => D.nil st <|
    M.join (fun st => J.b st fun b2 st => D.nil st <|
      M.join (fun st => J.b st fun b3 st => D.nil st <|
        bif b3 then
          M.ret [.agg [.int .i64 0, .int .i64 0], .bool false]
        else
          M.ret [.agg [.int .i64 x3, .int .i64 x5], .bool true]) fun jk3 =>
      bif b2 then
        jk3 [.bool true]
      else
        jk3 [.bool (decide ((if x5 < x3 then x5 else x3) < 0))]) fun jk2 =>
    bif b1 then
      jk2 [.bool true]
    else
      jk2 [.bool (!x6)]) fun jk1 =>
  bif !x2 then
    jk1 [.bool true]
  else
    jk1 [.bool (!x4)]
/-- strconv.Itoa (60); calls 67 strconv_Itoa_ -/
def b_strconv_Itoa : Oracle → Nat → List DV → M (List DV) := fun c n args =>
  J.i .i64 args fun i args =>
  D.nil args <|
  M.call (c 67 [.int .i64 i]) fun ds =>
  J.s ds fun x ds =>
  D.nil ds <|
  M.ret [.str x]
/-- (*rickyard/digit.reader).number (61); calls  -/
def b_digit_reader_number : Oracle → Nat → List DV → M (List DV) := fun c n args =>
  J.p args fun x args =>
  D.nil args <|
  M.nn x fun i o =>
  M.load1 i (o + 1) fun d =>
  D.int .i64 d fun x1 =>
  M.join (fun st =>
    J.b st fun x2 st =>
    D.nil st <|
    bif x2 then
      M.ret [.int .i64 0, .bool false]
    else
      M.nn x fun i1 o1 =>
      M.load1 i1 (o1 + 2) fun d1 =>
      D.bool d1 fun x3 =>
      bif x3 then
        M.nn x fun i2 o2 =>
        M.load1 i2 o2 fun d2 =>
        D.int .i64 d2 fun x4 =>
        M.ret [.int .i64 x4, .bool true]
      else
        M.nn x fun i3 o3 =>
        M.load1 i3 o3 fun d3 =>
        D.int .i64 d3 fun x5 =>
        M.ret [.int .i64 (wr64 (0 - x5)), .bool true]) fun jk1 =>
  bif x1 == 0 then
    jk1 [.bool (x1 == 0)]
  else
    M.nn x fun i4 o4 =>
    M.load1 i4 (o4 + 2) fun d4 =>
    D.bool d4 fun x6 =>
    M.join (fun st => J.b st fun b1 st => D.nil st <|
      M.join (fun st =>
        J.b st fun x7 st =>
        D.nil st <|
        jk1 [.bool x7]) fun jk3 =>
      bif b1 then
        jk3 [.bool b1]
      else
        M.nn x fun i5 o5 =>
        M.load1 i5 (o5 + 2) fun d5 =>
        D.bool d5 fun x8 =>
        M.join (fun st => J.b st fun b2 st => D.nil st <|
          jk3 [.bool b2]) fun jk4 =>
        bif !x8 then
          M.nn x fun i6 o6 =>
          M.load1 i6 o6 fun d6 =>
          D.int .i64 d6 fun x9 =>
          jk4 [.bool (x9 == (-9223372036854775808))]
        else
          jk4 [.bool false]) fun jk2 =>
    bif x6 then
      M.nn x fun i7 o7 =>
      M.load1 i7 o7 fun d7 =>
      D.int .i64 d7 fun x10 =>
      jk2 [.bool (x10 == 0)]
    else
      jk2 [.bool false]
/-- (*rickyard/digit.reader).takes (62); calls  -/
def b_digit_reader_takes : Oracle → Nat → List DV → M (List DV) := fun c n args =>
  J.p args fun x args =>
  J.i .i32 args fun r1 args =>
  D.nil args <|
  M.join (fun st => J.b st fun b1 st => D.nil st <|
    M.join (fun st => J.b st fun b2 st => D.nil st <|
      bif b2 then
        M.nn x fun i o =>
        M.store i (o + 2) [.bool true] <|
        M.ret [.bool true]
      else
        M.join (fun st => J.b st fun b3 st => D.nil st <|
          M.join (fun st => J.b st fun b4 st => D.nil st <|
            bif b4 then
              M.ret [.bool false]
            else
              M.nn x fun i1 o1 =>
            M.load1 i1 o1 fun d =>
            D.int .i64 d fun x1 =>
            bif decide (x1 < wr64 ((wr64 ((-9223372036854775808) + (wr64 (IntKind.wrap .i32 (r1 - 48))))).tdiv 10)) then
              M.ret [.bool false]
            else
              M.nn x fun i2 o2 =>
            M.load1 i2 o2 fun d1 =>
            D.int .i64 d1 fun x2 =>
            M.nn x fun i3 o3 =>
            M.store i3 o3 [.int .i64 (wr64 ((wr64 (10 * x2)) - (wr64 (IntKind.wrap .i32 (r1 - 48)))))] <|
            M.nn x fun i4 o4 =>
            M.load1 i4 (o4 + 1) fun d2 =>
            D.int .i64 d2 fun x3 =>
            M.nn x fun i5 o5 =>
            M.store i5 (o5 + 1) [.int .i64 (wr64 (x3 + 1))] <|
            M.ret [.bool true]) fun jk4 =>
          bif b3 then
            jk4 [.bool true]
          else
            M.nn x fun i6 o6 =>
            M.load1 i6 (o6 + 1) fun d3 =>
            D.int .i64 d3 fun x4 =>
            M.join (fun st => J.b st fun b5 st => D.nil st <|
              jk4 [.bool b5]) fun jk5 =>
            bif decide (x4 > 0) then
              M.nn x fun i7 o7 =>
            M.load1 i7 o7 fun d4 =>
            D.int .i64 d4 fun x5 =>
            jk5 [.bool (x5 == 0)]
            else
              jk5 [.bool false]) fun jk3 =>
        bif decide (r1 < 48) then
          jk3 [.bool true]
        else
          jk3 [.bool (decide (r1 > 57))]) fun jk2 =>
    bif b1 then
      M.nn x fun i8 o8 =>
      M.load1 i8 (o8 + 2) fun d5 =>
      D.bool d5 fun x6 =>
      jk2 [.bool (!x6)]
    else
      jk2 [.bool false]) fun jk1 =>
  bif r1 == 45 then
    M.nn x fun i9 o9 =>
    M.load1 i9 (o9 + 1) fun d6 =>
    D.int .i64 d6 fun x7 =>
    jk1 [.bool (x7 == 0)]
  else
    jk1 [.bool false]
/-- strings.Cut (66); calls 76 stringslite_Cut -/
def b_strings_Cut : Oracle → Nat → List DV → M (List DV) := fun c n args =>
  J.s args fun s args =>
  J.s args fun sep args =>
  D.nil args <|
  M.call (c 76 [.str s, .str sep]) fun ds =>
  J.s ds fun x ds =>
  J.s ds fun x1 ds =>
  J.b ds fun x2 ds =>
  D.nil ds <|
  M.ret [.str x, .str x1, .bool x2]
/-- internal/strconv.Itoa (67); calls 63 strconv_FormatInt_ -/
def b_strconv_Itoa_ : Oracle → Nat → List DV → M (List DV) := fun c n args =>
  J.i .i64 args fun i args =>
  D.nil args <|
  M.call (c 63 [.int .i64 i, .int .i64 10]) fun ds =>
  J.s ds fun x ds =>
  D.nil ds <|
  M.ret [.str x]
/-- internal/stringslite.Cut (76); calls 84 stringslite_Index -/
def b_stringslite_Cut : Oracle → Nat → List DV → M (List DV) := fun c n args =>
  J.s args fun s args =>
  J.s args fun sep args =>
  D.nil args <|
  M.call (c 84 [.str s, .str sep]) fun ds =>
  J.i .i64 ds fun x ds =>
  D.nil ds <|
  bif decide (x ≥ 0) then
    M.chk (decide (0 ≤ x) && decide (x ≤ (s.length : Int))) <|
    M.chk (decide (0 ≤ wr64 (x + (sep.length : Int))) && decide (wr64 (x + (sep.length : Int)) ≤ (s.length : Int))) <|
    M.ret [.str (s.take x.toNat), .str (s.drop ((wr64 (x + (sep.length : Int))).toNat)), .bool true]
  else
    M.ret [.str s, .str (bs []), .bool false]
/-- internal/stringslite.Index (84); calls 88 stringslite_IndexByte -/
def b_stringslite_Index : Oracle → Nat → List DV → M (List DV) := fun c n args =>
  J.s args fun s args =>
  J.s args fun substr args =>
  D.nil args <|
  M.join (fun st => J.b st fun b1 st => D.nil st <|
    bif b1 then
      M.ret [.int .i64 0]
    else
      bif (substr.length : Int) == 1 then
        M.chk (inB 0 substr.length) <|
        M.call (c 88 [.str s, .int .u8 (byteAt substr 0)]) fun ds =>
        J.i .i64 ds fun x ds =>
        D.nil ds <|
        M.ret [.int .i64 x]
      else
        bif decide ((substr.length : Int) ≥ (s.length : Int)) then
          M.ret [.int .i64 (-1)]
        else
          fail) fun jk1 =>
  bif (substr.length : Int) == 0 then
    jk1 [.bool true]
  else
    jk1 [.bool (substr == s)]
/-- internal/stringslite.IndexByte (88); calls 89 bytealg_IndexByteString -/
def b_stringslite_IndexByte : Oracle → Nat → List DV → M (List DV) := fun c n args =>
  J.s args fun s args =>
  J.i .u8 args fun c1 args =>
  D.nil args <|
  M.call (c 89 [.str s, .int .u8 c1]) fun ds =>
  J.i .i64 ds fun x ds =>
  D.nil ds <|
  M.ret [.int .i64 x]
end
structure H_strconv_Itoa_ (Bd : Bodies) : Prop where
  eq : Bd 67 = b_strconv_Itoa_
  strconv_FormatInt_ : H_strconv_FormatInt_ Bd
structure H_strconv_Itoa (Bd : Bodies) : Prop where
  eq : Bd 60 = b_strconv_Itoa
  strconv_Itoa_ : H_strconv_Itoa_ Bd
structure H_digit_Show (Bd : Bodies) : Prop where
  eq : Bd 49 = b_digit_Show
  strconv_Itoa : H_strconv_Itoa Bd
structure H_digit_reader_takes (Bd : Bodies) : Prop where
  eq : Bd 62 = b_digit_reader_takes
structure H_digit_reader_number (Bd : Bodies) : Prop where
  eq : Bd 61 = b_digit_reader_number
structure H_digit_Read (Bd : Bodies) : Prop where
  eq : Bd 50 = b_digit_Read
  digit_reader_takes : H_digit_reader_takes Bd
  digit_reader_number : H_digit_reader_number Bd
structure H_bytealg_IndexByteString (Bd : Bodies) : Prop where
  eq : Bd 89 = nat_IndexByteString
structure H_stringslite_IndexByte (Bd : Bodies) : Prop where
  eq : Bd 88 = b_stringslite_IndexByte
  bytealg_IndexByteString : H_bytealg_IndexByteString Bd
structure H_stringslite_Index (Bd : Bodies) : Prop where
  eq : Bd 84 = b_stringslite_Index
  stringslite_IndexByte : H_stringslite_IndexByte Bd
structure H_stringslite_Cut (Bd : Bodies) : Prop where
  eq : Bd 76 = b_stringslite_Cut
  stringslite_Index : H_stringslite_Index Bd
structure H_strings_Cut (Bd : Bodies) : Prop where
  eq : Bd 66 = b_strings_Cut
  stringslite_Cut : H_stringslite_Cut Bd
structure H_digit_ReadHandle (Bd : Bodies) : Prop where
  eq : Bd 59 = b_digit_ReadHandle
  digit_Read : H_digit_Read Bd
  strings_Cut : H_strings_Cut Bd
structure H_law03_awake (Bd : Bodies) : Prop where
  eq : Bd 48 = b_law03_awake
  digit_Show : H_digit_Show Bd
  digit_ReadHandle : H_digit_ReadHandle Bd
structure H_ref03_Show (Bd : Bodies) : Prop where
  eq : Bd 51 = b_ref03_Show
structure H_law03_DigitShows (Bd : Bodies) : Prop where
  eq : Bd 47 = b_law03_DigitShows
  law03_awake : H_law03_awake Bd
  digit_Show : H_digit_Show Bd
  digit_Read : H_digit_Read Bd
  ref03_Show : H_ref03_Show Bd
structure H_ref03_Read (Bd : Bodies) : Prop where
  eq : Bd 53 = b_ref03_Read
  ref03_Show : H_ref03_Show Bd
structure H_law03_DigitReads (Bd : Bodies) : Prop where
  eq : Bd 52 = b_law03_DigitReads
  law03_awake : H_law03_awake Bd
  digit_Read : H_digit_Read Bd
  ref03_Read : H_ref03_Read Bd
end Go.Gv
