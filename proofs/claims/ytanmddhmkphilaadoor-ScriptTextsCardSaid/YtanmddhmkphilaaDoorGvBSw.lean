/- Functions of the program, as the machine runs them: written by gvseat.py. -/
import Derived.Test.YtanmddhmkphilaaDoorGvDef
import Derived.Test.YtanmddhmkphilaaDoorGvBDb
import Derived.Test.YtanmddhmkphilaaDoorGvBDi
import Derived.Test.YtanmddhmkphilaaDoorGvBLaa
import Derived.Test.YtanmddhmkphilaaDoorGvBLj
import Derived.Test.YtanmddhmkphilaaDoorGvBSp
import Derived.Test.YtanmddhmkphilaaDoorGvBSr
namespace Go.Gv
set_option linter.unusedVariables false
set_option maxRecDepth 10000
set_option maxHeartbeats 4000000
noncomputable section
/-- rickyard/rickyardlaw32.ScriptShows (123); calls 101 law32_awake, 121 script_Read, 104 ref32_Same, 107 law32_Small, 124 script_Show, 125 ref32_Line, 106 script_Same -/
def b_law32_ScriptShows : Oracle → Nat → List DV → M (List DV) := fun c n args =>
  J.a args fun cs args =>
  J.i .i64 cs fun a r =>
  J.s r fun a1 r =>
  J.s r fun a2 r =>
  J.i .i64 r fun a3 r =>
  J.i .i64 r fun a4 r =>
  J.i .i64 r fun a5 r =>
  J.i .i64 r fun a6 r =>
  J.l 1 r fun a7 a7n r =>
  D.nil r <|
  D.nil args <|
  M.call (c 101 []) fun ds =>
  J.b ds fun x ds =>
  D.nil ds <|
  M.join (fun st => J.b st fun b1 st => D.nil st <|
    bif b1 then
      M.call (c 101 []) fun ds =>
      J.b ds fun x1 ds =>
      D.nil ds <|
      M.ret [.bool x1]
    else
      M.call (c 124 [.agg [.int .i64 a, .str a1, .str a2, .int .i64 a3, .int .i64 a4, .int .i64 a5, .int .i64 a6, .slice 1 a7 a7n]]) fun ds =>
      J.s ds fun x2 ds =>
      J.b ds fun x3 ds =>
      D.nil ds <|
      M.call (c 125 [.agg [.int .i64 a, .str a1, .str a2, .int .i64 a3, .int .i64 a4, .int .i64 a5, .int .i64 a6, .slice 1 a7 a7n]]) fun ds =>
      J.s ds fun x4 ds =>
      J.b ds fun x5 ds =>
      D.nil ds <|
      M.join (fun st => J.b st fun b2 st => D.nil st <|
        bif b2 then
          M.ret [.bool false]
        else
          bif !x3 then
            M.ret [.bool true]
          else
            M.call (c 121 [.str x2]) fun ds =>
            J.l 8 ds fun x6 x6n ds =>
            J.i .i64 ds fun x7 ds =>
            J.i .i64 ds fun x8 ds =>
            D.nil ds <|
            M.join (fun st => J.b st fun b3 st => D.nil st <|
              M.join (fun st => J.b st fun b4 st => D.nil st <|
              M.join (fun st => J.b st fun b5 st => D.nil st <|
              M.join (fun st => J.b st fun b6 st => D.nil st <|
              M.ret [.bool b6]) fun jk6 =>
            bif b5 then
              M.nn x6 fun i o =>
            M.chk (inB 0 x6n) <|
            M.load i (0 + o) 8 fun cs1 =>
            J.i .i64 cs1 fun x9 r =>
            J.s r fun x10 r =>
            J.s r fun x11 r =>
            J.i .i64 r fun x12 r =>
            J.i .i64 r fun x13 r =>
            J.i .i64 r fun x14 r =>
            J.i .i64 r fun x15 r =>
            J.l 1 r fun x16 x16n r =>
            D.nil r <|
            M.call (c 106 [.agg [.int .i64 x9, .str x10, .str x11, .int .i64 x12, .int .i64 x13, .int .i64 x14, .int .i64 x15, .slice 1 x16 x16n], .agg [.int .i64 a, .str a1, .str a2, .int .i64 a3, .int .i64 a4, .int .i64 a5, .int .i64 a6, .slice 1 a7 a7n]]) fun ds =>
            J.b ds fun x17 ds =>
            D.nil ds <|
            jk6 [.bool x17]
            else
              jk6 [.bool false]) fun jk5 =>
            bif b4 then
              M.nn x6 fun i1 o1 =>
            M.chk (inB 0 x6n) <|
            M.load i1 (0 + o1) 8 fun cs2 =>
            J.i .i64 cs2 fun x18 r =>
            J.s r fun x19 r =>
            J.s r fun x20 r =>
            J.i .i64 r fun x21 r =>
            J.i .i64 r fun x22 r =>
            J.i .i64 r fun x23 r =>
            J.i .i64 r fun x24 r =>
            J.l 1 r fun x25 x25n r =>
            D.nil r <|
            M.call (c 104 [.agg [.int .i64 x18, .str x19, .str x20, .int .i64 x21, .int .i64 x22, .int .i64 x23, .int .i64 x24, .slice 1 x25 x25n], .agg [.int .i64 a, .str a1, .str a2, .int .i64 a3, .int .i64 a4, .int .i64 a5, .int .i64 a6, .slice 1 a7 a7n]]) fun ds =>
            J.b ds fun x26 ds =>
            D.nil ds <|
            jk5 [.bool x26]
            else
              jk5 [.bool false]) fun jk4 =>
            bif b3 then
              jk4 [.bool ((x6n : Int) == 1)]
            else
              jk4 [.bool false]) fun jk3 =>
            bif x8 == 0 then
              jk3 [.bool (x7 == 0)]
            else
              jk3 [.bool false]) fun jk2 =>
      bif !(x3 == x5) then
        jk2 [.bool true]
      else
        jk2 [.bool (!(x2 == x4))]) fun jk1 =>
  bif !x then
    jk1 [.bool true]
  else
    M.call (c 107 [.agg [.int .i64 a, .str a1, .str a2, .int .i64 a3, .int .i64 a4, .int .i64 a5, .int .i64 a6, .slice 1 a7 a7n]]) fun ds =>
    J.b ds fun x27 ds =>
    D.nil ds <|
    jk1 [.bool (!x27)]
/-- rickyard/script.Show (124); calls 106 script_Same, 102 script_Parse, 109 script_find, 128 script_Show_1, 129 script_give, 8 lex_Join -/
def b_script_Show : Oracle → Nat → List DV → M (List DV) := fun c n args =>
  J.a args fun cs args =>
  J.i .i64 cs fun a r =>
  J.s r fun a1 r =>
  J.s r fun a2 r =>
  J.i .i64 r fun a3 r =>
  J.i .i64 r fun a4 r =>
  J.i .i64 r fun a5 r =>
  J.i .i64 r fun a6 r =>
  J.l 1 r fun a7 a7n r =>
  D.nil r <|
  D.nil args <|
  M.new [.int .i64 a, .str a1, .str a2, .int .i64 a3, .int .i64 a4, .int .i64 a5, .int .i64 a6, .slice 1 a7 a7n] fun a8 =>
  M.load a8 0 8 fun cs1 =>
  J.i .i64 cs1 fun x r =>
  J.s r fun x1 r =>
  J.s r fun x2 r =>
  J.i .i64 r fun x3 r =>
  J.i .i64 r fun x4 r =>
  J.i .i64 r fun x5 r =>
  J.i .i64 r fun x6 r =>
  J.l 1 r fun x7 x7n r =>
  D.nil r <|
  M.call (c 106 [.agg [.int .i64 x, .str x1, .str x2, .int .i64 x3, .int .i64 x4, .int .i64 x5, .int .i64 x6, .slice 1 x7 x7n], .agg [.int .i64 0, .str (bs []), .str (bs []), .int .i64 0, .int .i64 0, .int .i64 0, .int .i64 0, .slice 0 none 0]]) fun ds =>
  J.b ds fun x8 ds =>
  D.nil ds <|
  bif x8 then
    M.ret [.str (bs []), .bool true]
  else
    M.call (c 109 [.func 128 [] [.ptr (some (a8, 0))]]) fun ds =>
    J.a ds fun cs2 ds =>
    J.s cs2 fun x9 r =>
    J.s r fun x10 r =>
    J.i .i64 r fun x11 r =>
    D.nil r <|
    J.b ds fun x12 ds =>
    D.nil ds <|
    bif !x12 then
      M.ret [.str (bs []), .bool false]
    else
      M.new [.str x9] fun i =>
      M.join (fun st =>
        J.l 1 st fun words wordsn st =>
        D.nil st <|
        M.call (c 8 [.slice 1 words wordsn]) fun ds =>
        J.s ds fun x13 ds =>
        J.b ds fun x14 ds =>
        D.nil ds <|
        M.call (c 102 [.slice 1 words wordsn]) fun ds =>
        J.a ds fun cs3 ds =>
        J.i .i64 cs3 fun x15 r =>
        J.s r fun x16 r =>
        J.s r fun x17 r =>
        J.i .i64 r fun x18 r =>
        J.i .i64 r fun x19 r =>
        J.i .i64 r fun x20 r =>
        J.i .i64 r fun x21 r =>
        J.l 1 r fun x22 x22n r =>
        D.nil r <|
        J.i .i64 ds fun x23 ds =>
        D.nil ds <|
        M.join (fun st => J.b st fun b1 st => D.nil st <|
          M.join (fun st => J.b st fun b2 st => D.nil st <|
            bif b2 then
              M.ret [.str (bs []), .bool false]
            else
              M.ret [.str x13, .bool true]) fun jk3 =>
          bif b1 then
            jk3 [.bool true]
          else
            M.load a8 0 8 fun cs4 =>
            J.i .i64 cs4 fun x24 r =>
            J.s r fun x25 r =>
            J.s r fun x26 r =>
            J.i .i64 r fun x27 r =>
            J.i .i64 r fun x28 r =>
            J.i .i64 r fun x29 r =>
            J.i .i64 r fun x30 r =>
            J.l 1 r fun x31 x31n r =>
            D.nil r <|
            M.call (c 106 [.agg [.int .i64 x24, .str x25, .str x26, .int .i64 x27, .int .i64 x28, .int .i64 x29, .int .i64 x30, .slice 1 x31 x31n], .agg [.int .i64 x15, .str x16, .str x17, .int .i64 x18, .int .i64 x19, .int .i64 x20, .int .i64 x21, .slice 1 x22 x22n]]) fun ds =>
            J.b ds fun x32 ds =>
            D.nil ds <|
            jk3 [.bool (!x32)]) fun jk2 =>
        bif !x14 then
          jk2 [.bool true]
        else
          jk2 [.bool (!(x23 == 0))]) fun jk1 =>
      M.loop (fun rec1 st =>
        J.l 1 st fun words1 words1n st =>
        J.n st fun p st =>
        D.nil st <|
        bif Nat.blt p x10.length then
        M.load a8 0 8 fun cs5 =>
        J.i .i64 cs5 fun x33 r =>
        J.s r fun x34 r =>
        J.s r fun x35 r =>
        J.i .i64 r fun x36 r =>
        J.i .i64 r fun x37 r =>
        J.i .i64 r fun x38 r =>
        J.i .i64 r fun x39 r =>
        J.l 1 r fun x40 x40n r =>
        D.nil r <|
        M.call (c 129 [.agg [.int .i64 x33, .str x34, .str x35, .int .i64 x36, .int .i64 x37, .int .i64 x38, .int .i64 x39, .slice 1 x40 x40n], .int .i32 (runeAt x10 p)]) fun ds =>
        J.l 1 ds fun x41 x41n ds =>
        D.nil ds <|
        M.rd x41 (x41n * 1) fun cs6 =>
        M.app 1 words1 words1n cs6 x41n 4398046511104 fun p1 =>
        rec1 [.slice 1 p1 (words1n + x41n), .nat (p + runeW x10 p)]
        else
        jk1 [.slice 1 words1 words1n]) n [.slice 1 (some (i, 0)) 1, .nat 0]
/-- rickyard/rickyardref32.Line (125); calls 104 ref32_Same, 103 ref32_Parse, 99 ref03_Handle, 112 ref32_table, 51 ref03_Show, 3 ref31_Words, 4 ref31_Same -/
def b_ref32_Line : Oracle → Nat → List DV → M (List DV) := fun c n args =>
  J.a args fun cs args =>
  J.i .i64 cs fun a r =>
  J.s r fun a1 r =>
  J.s r fun a2 r =>
  J.i .i64 r fun a3 r =>
  J.i .i64 r fun a4 r =>
  J.i .i64 r fun a5 r =>
  J.i .i64 r fun a6 r =>
  J.l 1 r fun a7 a7n r =>
  D.nil r <|
  D.nil args <|
  M.call (c 112 []) fun ds =>
  J.l 1 ds fun x xn ds =>
  J.l 1 ds fun x1 x1n ds =>
  D.nil ds <|
  M.join (fun st => J.b st fun b1 st => D.nil st <|
    M.join (fun st => J.b st fun b2 st => D.nil st <|
      bif b2 then
        M.ret [.str (bs []), .bool false]
      else
        M.join (fun st =>
          J.l 1 st fun w wn st =>
          D.nil st <|
          M.join (fun st =>
            J.l 1 st fun w1 w1n st =>
            D.nil st <|
            M.join (fun st =>
              J.s st fun line st =>
            D.nil st <|
            M.call (c 3 [.str line]) fun ds =>
            J.l 1 ds fun x2 x2n ds =>
            J.i .i64 ds fun x3 ds =>
            D.nil ds <|
            M.call (c 103 [.slice 1 x2 x2n]) fun ds =>
            J.a ds fun cs1 ds =>
            J.i .i64 cs1 fun x4 r =>
            J.s r fun x5 r =>
            J.s r fun x6 r =>
            J.i .i64 r fun x7 r =>
            J.i .i64 r fun x8 r =>
            J.i .i64 r fun x9 r =>
            J.i .i64 r fun x10 r =>
            J.l 1 r fun x11 x11n r =>
            D.nil r <|
            J.i .i64 ds fun x12 ds =>
            D.nil ds <|
            M.join (fun st => J.b st fun b3 st => D.nil st <|
              M.join (fun st => J.b st fun b4 st => D.nil st <|
              M.join (fun st => J.b st fun b5 st => D.nil st <|
              bif b5 then
              M.ret [.str (bs []), .bool false]
            else
              M.ret [.str line, .bool true]) fun jk8 =>
            bif b4 then
              jk8 [.bool true]
            else
              M.call (c 104 [.agg [.int .i64 a, .str a1, .str a2, .int .i64 a3, .int .i64 a4, .int .i64 a5, .int .i64 a6, .slice 1 a7 a7n], .agg [.int .i64 x4, .str x5, .str x6, .int .i64 x7, .int .i64 x8, .int .i64 x9, .int .i64 x10, .slice 1 x11 x11n]]) fun ds =>
            J.b ds fun x13 ds =>
            D.nil ds <|
            jk8 [.bool (!x13)]) fun jk7 =>
            bif b3 then
              jk7 [.bool true]
            else
              M.call (c 4 [.slice 1 x2 x2n, .slice 1 w1 w1n]) fun ds =>
            J.b ds fun x14 ds =>
            D.nil ds <|
            jk7 [.bool (!x14)]) fun jk6 =>
            bif !(x3 == 0) then
              jk6 [.bool true]
            else
              jk6 [.bool (!(x12 == 0))]) fun jk5 =>
            M.loop (fun rec1 st =>
              J.s st fun line1 st =>
            J.i .i64 st fun i st =>
            D.nil st <|
            bif decide (i < (w1n : Int)) then
              M.join (fun st =>
              J.s st fun line2 st =>
            D.nil st <|
            M.nn w1 fun i1 o =>
            M.chk (inB i w1n) <|
            M.load1 i1 (i.toNat * 1 + o) fun d =>
            D.str d fun x15 =>
            M.chk (Nat.ble (line2.length + x15.length) 4611686018427387904) <|
            rec1 [.str (line2 ++ x15), .int .i64 (wr64 (i + 1))]) fun jk9 =>
            bif decide (i > 0) then
              M.chk (Nat.ble (line1.length + (bs [32]).length) 4611686018427387904) <|
            jk9 [.str (line1 ++ (bs [32]))]
            else
              jk9 [.str line1]
            else
              jk5 [.str line1]) n [.str (bs []), .int .i64 0]) fun jk4 =>
          M.loop (fun rec2 st =>
            J.l 1 st fun w2 w2n st =>
            J.i .i64 st fun k st =>
            D.nil st <|
            M.nn x1 fun i2 o1 =>
            M.chk (inB a x1n) <|
            M.load1 i2 (a.toNat * 1 + o1) fun d1 =>
            D.str d1 fun x16 =>
            bif decide (k < (x16.length : Int)) then
              M.join (fun st =>
              J.l 1 st fun w3 w3n st =>
            D.nil st <|
            rec2 [.slice 1 w3 w3n, .int .i64 (wr64 (k + 1))]) fun jk10 =>
            M.nn x1 fun i3 o2 =>
            M.chk (inB a x1n) <|
            M.load1 i3 (a.toNat * 1 + o2) fun d2 =>
            D.str d2 fun x17 =>
            M.chk (inB k x17.length) <|
            M.join (fun st =>
              J.l 1 st fun w4 w4n st =>
            D.nil st <|
            jk10 [.slice 1 w4 w4n]) fun jk11 =>
            M.join (fun st =>
              J.l 1 st fun w5 w5n st =>
            D.nil st <|
            jk11 [.slice 1 w5 w5n]) fun jk12 =>
            bif (byteAt x17 k) == 78 then
              M.new [.str a1] fun i4 =>
            M.load i4 0 1 fun cs2 =>
            M.app 1 w2 w2n cs2 1 4398046511104 fun p =>
            jk12 [.slice 1 p (w2n + 1)]
            else
              M.join (fun st =>
              J.l 1 st fun w6 w6n st =>
            D.nil st <|
            jk12 [.slice 1 w6 w6n]) fun jk13 =>
            bif (byteAt x17 k) == 79 then
              M.new [.str a2] fun i5 =>
            M.load i5 0 1 fun cs3 =>
            M.app 1 w2 w2n cs3 1 4398046511104 fun p1 =>
            jk13 [.slice 1 p1 (w2n + 1)]
            else
              M.join (fun st =>
              J.l 1 st fun w7 w7n st =>
            D.nil st <|
            jk13 [.slice 1 w7 w7n]) fun jk14 =>
            bif (byteAt x17 k) == 75 then
              M.call (c 51 [.int .i64 a5]) fun ds =>
            J.s ds fun x18 ds =>
            D.nil ds <|
            M.new [.str x18] fun i6 =>
            M.load i6 0 1 fun cs4 =>
            M.app 1 w2 w2n cs4 1 4398046511104 fun p2 =>
            jk14 [.slice 1 p2 (w2n + 1)]
            else
              M.join (fun st =>
              J.l 1 st fun w8 w8n st =>
            D.nil st <|
            jk14 [.slice 1 w8 w8n]) fun jk15 =>
            bif (byteAt x17 k) == 86 then
              M.call (c 51 [.int .i64 a6]) fun ds =>
            J.s ds fun x19 ds =>
            D.nil ds <|
            M.new [.str x19] fun i7 =>
            M.load i7 0 1 fun cs5 =>
            M.app 1 w2 w2n cs5 1 4398046511104 fun p3 =>
            jk15 [.slice 1 p3 (w2n + 1)]
            else
              M.join (fun st =>
              J.l 1 st fun w9 w9n st =>
            D.nil st <|
            jk15 [.slice 1 w9 w9n]) fun jk16 =>
            bif (byteAt x17 k) == 72 then
              M.call (c 99 [.agg [.int .i64 a3, .int .i64 a4]]) fun ds =>
            J.s ds fun x20 ds =>
            D.nil ds <|
            M.new [.str x20] fun i8 =>
            M.load i8 0 1 fun cs6 =>
            M.app 1 w2 w2n cs6 1 4398046511104 fun p4 =>
            jk16 [.slice 1 p4 (w2n + 1)]
            else
              M.join (fun st =>
              J.l 1 st fun w10 w10n st =>
            D.nil st <|
            jk16 [.slice 1 w10 w10n]) fun jk17 =>
            bif (byteAt x17 k) == 42 then
              M.join (fun st =>
              J.l 1 st fun w11 w11n st =>
            D.nil st <|
            jk17 [.slice 1 w11 w11n]) fun jk18 =>
            M.loop (fun rec3 st =>
              J.l 1 st fun w12 w12n st =>
            J.i .i64 st fun i9 st =>
            D.nil st <|
            bif decide (i9 < (a7n : Int)) then
              M.nn a7 fun i10 o3 =>
            M.chk (inB i9 a7n) <|
            M.load1 i10 (i9.toNat * 1 + o3) fun d3 =>
            D.int .i64 d3 fun x21 =>
            M.call (c 51 [.int .i64 x21]) fun ds =>
            J.s ds fun x22 ds =>
            D.nil ds <|
            M.new [.str x22] fun i11 =>
            M.load i11 0 1 fun cs7 =>
            M.app 1 w12 w12n cs7 1 4398046511104 fun p5 =>
            rec3 [.slice 1 p5 (w12n + 1), .int .i64 (wr64 (i9 + 1))]
            else
              jk18 [.slice 1 w12 w12n]) n [.slice 1 w2 w2n, .int .i64 0]
            else
              jk17 [.slice 1 w2 w2n]
            else
              jk4 [.slice 1 w2 w2n]) n [.slice 1 w wn, .int .i64 0]) fun jk3 =>
        bif decide (a > 0) then
          M.nn x fun i12 o4 =>
          M.chk (inB a xn) <|
          M.load1 i12 (a.toNat * 1 + o4) fun d4 =>
          D.str d4 fun x23 =>
          M.new [.str x23] fun i13 =>
          M.load i13 0 1 fun cs8 =>
          M.app 1 none 0 cs8 1 4398046511104 fun p6 =>
          jk3 [.slice 1 p6 1]
        else
          jk3 [.slice 0 none 0]) fun jk2 =>
    bif b1 then
      jk2 [.bool true]
    else
      jk2 [.bool (decide ((a7n : Int) > 60))]) fun jk1 =>
  bif decide (a < 0) then
    jk1 [.bool true]
  else
    jk1 [.bool (decide (a ≥ (xn : Int)))]
/-- rickyard/rickyardlaw32.ScriptTexts (126); calls 101 law32_awake, 121 script_Read, 104 ref32_Same, 107 law32_Small, 125 ref32_Line, 127 script_Text -/
def b_law32_ScriptTexts : Oracle → Nat → List DV → M (List DV) := fun c n args =>
  J.l 8 args fun l ln args =>
  D.nil args <|
  M.call (c 101 []) fun ds =>
  J.b ds fun x ds =>
  D.nil ds <|
  M.join (fun st => J.b st fun b1 st => D.nil st <|
    bif b1 then
      M.call (c 101 []) fun ds =>
      J.b ds fun x1 ds =>
      D.nil ds <|
      M.ret [.bool x1]
    else
      M.join (fun st =>
        J.s st fun want st =>
        J.b st fun ok st =>
        D.nil st <|
        M.call (c 127 [.slice 8 l ln]) fun ds =>
        J.s ds fun x2 ds =>
        J.b ds fun x3 ds =>
        D.nil ds <|
        M.join (fun st => J.b st fun b2 st => D.nil st <|
          bif b2 then
            M.join (fun st => J.b st fun b3 st => D.nil st <|
              M.ret [.bool b3]) fun jk4 =>
            bif !x3 then
              jk4 [.bool (x2 == (bs []))]
            else
              jk4 [.bool false]
          else
            M.call (c 121 [.str x2]) fun ds =>
            J.l 8 ds fun x4 x4n ds =>
            J.i .i64 ds fun x5 ds =>
            J.i .i64 ds fun x6 ds =>
            D.nil ds <|
            M.join (fun st => J.b st fun b4 st => D.nil st <|
              M.join (fun st => J.b st fun b5 st => D.nil st <|
              M.join (fun st => J.b st fun b6 st => D.nil st <|
              M.join (fun st => J.b st fun b7 st => D.nil st <|
              M.join (fun st => J.b st fun b8 st => D.nil st <|
              bif b8 then
              M.ret [.bool false]
            else
              M.join (fun st =>
              D.nil st <|
            M.ret [.bool true]) fun jk10 =>
            M.loop (fun rec1 st =>
              J.i .i64 st fun i st =>
            D.nil st <|
            bif decide (i < (ln : Int)) then
              M.nn x4 fun i1 o =>
            M.chk (inB i x4n) <|
            M.load i1 (i.toNat * 8 + o) 8 fun cs =>
            J.i .i64 cs fun x7 r =>
            J.s r fun x8 r =>
            J.s r fun x9 r =>
            J.i .i64 r fun x10 r =>
            J.i .i64 r fun x11 r =>
            J.i .i64 r fun x12 r =>
            J.i .i64 r fun x13 r =>
            J.l 1 r fun x14 x14n r =>
            D.nil r <|
            M.nn l fun i2 o1 =>
            M.chk (inB i ln) <|
            M.load i2 (i.toNat * 8 + o1) 8 fun cs1 =>
            J.i .i64 cs1 fun x15 r =>
            J.s r fun x16 r =>
            J.s r fun x17 r =>
            J.i .i64 r fun x18 r =>
            J.i .i64 r fun x19 r =>
            J.i .i64 r fun x20 r =>
            J.i .i64 r fun x21 r =>
            J.l 1 r fun x22 x22n r =>
            D.nil r <|
            M.call (c 104 [.agg [.int .i64 x7, .str x8, .str x9, .int .i64 x10, .int .i64 x11, .int .i64 x12, .int .i64 x13, .slice 1 x14 x14n], .agg [.int .i64 x15, .str x16, .str x17, .int .i64 x18, .int .i64 x19, .int .i64 x20, .int .i64 x21, .slice 1 x22 x22n]]) fun ds =>
            J.b ds fun x23 ds =>
            D.nil ds <|
            bif !x23 then
              M.ret [.bool false]
            else
              rec1 [.int .i64 (wr64 (i + 1))]
            else
              jk10 []) n [.int .i64 0]) fun jk9 =>
            bif b7 then
              jk9 [.bool true]
            else
              M.nn x4 fun i3 o2 =>
            M.chk (inB (ln : Int) x4n) <|
            M.load i3 (((ln : Int).toNat) * 8 + o2) 8 fun cs2 =>
            J.i .i64 cs2 fun x24 r =>
            J.s r fun x25 r =>
            J.s r fun x26 r =>
            J.i .i64 r fun x27 r =>
            J.i .i64 r fun x28 r =>
            J.i .i64 r fun x29 r =>
            J.i .i64 r fun x30 r =>
            J.l 1 r fun x31 x31n r =>
            D.nil r <|
            M.call (c 104 [.agg [.int .i64 x24, .str x25, .str x26, .int .i64 x27, .int .i64 x28, .int .i64 x29, .int .i64 x30, .slice 1 x31 x31n], .agg [.int .i64 0, .str (bs []), .str (bs []), .int .i64 0, .int .i64 0, .int .i64 0, .int .i64 0, .slice 0 none 0]]) fun ds =>
            J.b ds fun x32 ds =>
            D.nil ds <|
            jk9 [.bool (!x32)]) fun jk8 =>
            bif b6 then
              jk8 [.bool true]
            else
              jk8 [.bool (!((x4n : Int) == (wr64 ((ln : Int) + 1))))]) fun jk7 =>
            bif b5 then
              jk7 [.bool true]
            else
              jk7 [.bool (!(x5 == 0))]) fun jk6 =>
            bif b4 then
              jk6 [.bool true]
            else
              jk6 [.bool (!(x6 == 0))]) fun jk5 =>
            bif !x3 then
              jk5 [.bool true]
            else
              jk5 [.bool (!(x2 == want))]) fun jk3 =>
        bif !ok then
          jk3 [.bool true]
        else
          jk3 [.bool (decide ((want.length : Int) > 4000))]) fun jk2 =>
      M.loop (fun rec2 st =>
        J.s st fun want1 st =>
        J.b st fun ok1 st =>
        J.i .i64 st fun i4 st =>
        D.nil st <|
        bif decide (i4 < (ln : Int)) then
          M.nn l fun i5 o3 =>
          M.chk (inB i4 ln) <|
          M.load i5 (i4.toNat * 8 + o3) 8 fun cs3 =>
          J.i .i64 cs3 fun x33 r =>
          J.s r fun x34 r =>
          J.s r fun x35 r =>
          J.i .i64 r fun x36 r =>
          J.i .i64 r fun x37 r =>
          J.i .i64 r fun x38 r =>
          J.i .i64 r fun x39 r =>
          J.l 1 r fun x40 x40n r =>
          D.nil r <|
          M.call (c 107 [.agg [.int .i64 x33, .str x34, .str x35, .int .i64 x36, .int .i64 x37, .int .i64 x38, .int .i64 x39, .slice 1 x40 x40n]]) fun ds =>
          J.b ds fun x41 ds =>
          D.nil ds <|
          bif !x41 then
            M.ret [.bool true]
          else
            M.nn l fun i6 o4 =>
            M.chk (inB i4 ln) <|
            M.load i6 (i4.toNat * 8 + o4) 8 fun cs4 =>
            J.i .i64 cs4 fun x42 r =>
            J.s r fun x43 r =>
            J.s r fun x44 r =>
            J.i .i64 r fun x45 r =>
            J.i .i64 r fun x46 r =>
            J.i .i64 r fun x47 r =>
            J.i .i64 r fun x48 r =>
            J.l 1 r fun x49 x49n r =>
            D.nil r <|
            M.call (c 125 [.agg [.int .i64 x42, .str x43, .str x44, .int .i64 x45, .int .i64 x46, .int .i64 x47, .int .i64 x48, .slice 1 x49 x49n]]) fun ds =>
            J.s ds fun x50 ds =>
            J.b ds fun x51 ds =>
            D.nil ds <|
            M.join (fun st => J.b st fun b9 st => D.nil st <|
              M.chk (Nat.ble (want1.length + x50.length) 4611686018427387904) <|
            M.chk (Nat.ble ((want1 ++ x50).length + (bs [10]).length) 4611686018427387904) <|
            rec2 [.str ((want1 ++ x50) ++ (bs [10])), .bool b9, .int .i64 (wr64 (i4 + 1))]) fun jk11 =>
            bif ok1 then
              jk11 [.bool x51]
            else
              jk11 [.bool false]
        else
          jk2 [.str want1, .bool ok1]) n [.str (bs []), .bool true, .int .i64 0]) fun jk1 =>
  bif !x then
    jk1 [.bool true]
  else
    jk1 [.bool (decide ((ln : Int) > 60))]
/-- rickyard/script.Text (127); calls 124 script_Show -/
def b_script_Text : Oracle → Nat → List DV → M (List DV) := fun c n args =>
  J.l 8 args fun l ln args =>
  D.nil args <|
  M.join (fun st =>
    J.s st fun out st =>
    D.nil st <|
    M.ret [.str out, .bool true]) fun jk1 =>
  M.loop (fun rec1 st =>
    J.s st fun out1 st =>
    J.i .i64 st fun x st =>
    D.nil st <|
    bif decide (x < (ln : Int)) then
      M.nn l fun i o =>
      M.chk (inB x ln) <|
      M.load i (x.toNat * 8 + o) 8 fun cs =>
      J.i .i64 cs fun x1 r =>
      J.s r fun x2 r =>
      J.s r fun x3 r =>
      J.i .i64 r fun x4 r =>
      J.i .i64 r fun x5 r =>
      J.i .i64 r fun x6 r =>
      J.i .i64 r fun x7 r =>
      J.l 1 r fun x8 x8n r =>
      D.nil r <|
      M.call (c 124 [.agg [.int .i64 x1, .str x2, .str x3, .int .i64 x4, .int .i64 x5, .int .i64 x6, .int .i64 x7, .slice 1 x8 x8n]]) fun ds =>
      J.s ds fun x9 ds =>
      J.b ds fun x10 ds =>
      D.nil ds <|
      M.join (fun st => J.b st fun b1 st => D.nil st <|
        bif b1 then
          M.ret [.str (bs []), .bool false]
        else
          M.chk (Nat.ble (x9.length + (bs [10]).length) 4611686018427387904) <|
          M.chk (Nat.ble (out1.length + (x9 ++ (bs [10])).length) 4611686018427387904) <|
          rec1 [.str (out1 ++ (x9 ++ (bs [10]))), .int .i64 (wr64 (x + 1))]) fun jk2 =>
      bif !x10 then
        jk2 [.bool true]
      else
        jk2 [.bool (decide (wr64 ((wr64 ((out1.length : Int) + (x9.length : Int))) + 1) > 4000))]
    else
      jk1 [.str out1]) n [.str (bs []), .int .i64 0]
/-- rickyard/script.Show$1 (128); calls  -/
def b_script_Show_1 : Oracle → Nat → List DV → M (List DV) := fun c n args =>
  J.a args fun cs args =>
  J.s cs fun c1 r =>
  J.s r fun c2 r =>
  J.i .i64 r fun c3 r =>
  D.nil r <|
  J.p args fun x args =>
  D.nil args <|
  M.nn x fun i o =>
  M.load1 i o fun d =>
  D.int .i64 d fun x1 =>
  M.ret [.bool (c3 == x1)]
/-- rickyard/script.give (129); calls 98 digit_ShowHandle, 49 digit_Show -/
def b_script_give : Oracle → Nat → List DV → M (List DV) := fun c n args =>
  J.a args fun cs args =>
  J.i .i64 cs fun a r =>
  J.s r fun a1 r =>
  J.s r fun a2 r =>
  J.i .i64 r fun a3 r =>
  J.i .i64 r fun a4 r =>
  J.i .i64 r fun a5 r =>
  J.i .i64 r fun a6 r =>
  J.l 1 r fun a7 a7n r =>
  D.nil r <|
  J.i .i32 args fun want args =>
  D.nil args <|
  M.base fun b0 =>
  bif want == 110 then
    M.new [.str a1] fun i =>
    M.retF b0 [.slice 1 (some (i, 0)) 1]
  else
    bif want == 111 then
      M.new [.str a2] fun i1 =>
      M.retF b0 [.slice 1 (some (i1, 0)) 1]
    else
      bif want == 107 then
        M.call (c 49 [.int .i64 a5]) fun ds =>
        J.s ds fun x ds =>
        D.nil ds <|
        M.new [.str x] fun i2 =>
        M.retF b0 [.slice 1 (some (i2, 0)) 1]
      else
        bif want == 118 then
          M.call (c 49 [.int .i64 a6]) fun ds =>
          J.s ds fun x1 ds =>
          D.nil ds <|
          M.new [.str x1] fun i3 =>
          M.retF b0 [.slice 1 (some (i3, 0)) 1]
        else
          bif want == 104 then
            M.call (c 98 [.agg [.int .i64 a3, .int .i64 a4]]) fun ds =>
            J.s ds fun x2 ds =>
            D.nil ds <|
            M.new [.str x2] fun i4 =>
            M.retF b0 [.slice 1 (some (i4, 0)) 1]
          else
            M.join (fun st =>
              J.l 1 st fun out outn st =>
            D.nil st <|
            M.retF b0 [.slice 1 out outn]) fun jk1 =>
            M.loop (fun rec1 st =>
              J.l 1 st fun out1 out1n st =>
            J.i .i64 st fun x3 st =>
            D.nil st <|
            bif decide (x3 < (a7n : Int)) then
              M.nn a7 fun i5 o =>
            M.chk (inB x3 a7n) <|
            M.load1 i5 (x3.toNat * 1 + o) fun d =>
            D.int .i64 d fun x4 =>
            M.call (c 49 [.int .i64 x4]) fun ds =>
            J.s ds fun x5 ds =>
            D.nil ds <|
            M.new [.str x5] fun i6 =>
            M.load i6 0 1 fun cs1 =>
            M.app 1 out1 out1n cs1 1 4398046511104 fun p =>
            rec1 [.slice 1 p (out1n + 1), .int .i64 (wr64 (x3 + 1))]
            else
              jk1 [.slice 1 out1 out1n]) n [.slice 0 none 0, .int .i64 0]
end
structure H_script_Show_1 (Bd : Bodies) : Prop where
  eq : Bd 128 = b_script_Show_1
structure H_script_give (Bd : Bodies) : Prop where
  eq : Bd 129 = b_script_give
  digit_ShowHandle : H_digit_ShowHandle Bd
  digit_Show : H_digit_Show Bd
structure H_script_Show (Bd : Bodies) : Prop where
  eq : Bd 124 = b_script_Show
  script_Same : H_script_Same Bd
  script_Parse : H_script_Parse Bd
  script_find : H_script_find Bd
  script_Show_1 : H_script_Show_1 Bd
  script_give : H_script_give Bd
  lex_Join : H_lex_Join Bd
structure H_ref32_Line (Bd : Bodies) : Prop where
  eq : Bd 125 = b_ref32_Line
  ref32_Same : H_ref32_Same Bd
  ref32_Parse : H_ref32_Parse Bd
  ref03_Handle : H_ref03_Handle Bd
  ref32_table : H_ref32_table Bd
  ref03_Show : H_ref03_Show Bd
  ref31_Words : H_ref31_Words Bd
  ref31_Same : H_ref31_Same Bd
structure H_law32_ScriptShows (Bd : Bodies) : Prop where
  eq : Bd 123 = b_law32_ScriptShows
  law32_awake : H_law32_awake Bd
  script_Read : H_script_Read Bd
  ref32_Same : H_ref32_Same Bd
  law32_Small : H_law32_Small Bd
  script_Show : H_script_Show Bd
  ref32_Line : H_ref32_Line Bd
  script_Same : H_script_Same Bd
structure H_script_Text (Bd : Bodies) : Prop where
  eq : Bd 127 = b_script_Text
  script_Show : H_script_Show Bd
structure H_law32_ScriptTexts (Bd : Bodies) : Prop where
  eq : Bd 126 = b_law32_ScriptTexts
  law32_awake : H_law32_awake Bd
  script_Read : H_script_Read Bd
  ref32_Same : H_ref32_Same Bd
  law32_Small : H_law32_Small Bd
  ref32_Line : H_ref32_Line Bd
  script_Text : H_script_Text Bd
end Go.Gv
