/- Functions of the program, as the machine runs them: written by gvseat.py. -/
import Derived.Test.YtanmddhmkphilaaDoorGvDef
import Derived.Test.YtanmddhmkphilaaDoorGvShelf2
import Derived.Test.YtanmddhmkphilaaDoorGvBDb
import Derived.Test.YtanmddhmkphilaaDoorGvBDi
import Derived.Test.YtanmddhmkphilaaDoorGvBLaa
namespace Go.Gv
set_option linter.unusedVariables false
set_option maxRecDepth 10000
set_option maxHeartbeats 4000000
noncomputable section
/-- rickyard/rickyardlaw32.ScriptParses (100); calls 101 law32_awake, 102 script_Parse, 103 ref32_Parse, 104 ref32_Same -/
def b_law32_ScriptParses : Oracle → Nat → List DV → M (List DV) := fun c n args =>
  J.l 1 args fun words wordsn args =>
  D.nil args <|
  M.call (c 101 []) fun ds =>
  J.b ds fun x ds =>
  D.nil ds <|
  M.join (fun st => J.b st fun b1 st => D.nil st <|
    bif b1 then
      M.call (c 101 []) fun ds =>
      J.b ds fun x1 ds =>
      D.nil ds <|
      M.ret [.bool x1]
    else
      M.join (fun st =>
        D.nil st <|
        M.call (c 102 [.slice 1 words wordsn]) fun ds =>
        J.a ds fun cs ds =>
        J.i .i64 cs fun x2 r =>
        J.s r fun x3 r =>
        J.s r fun x4 r =>
        J.i .i64 r fun x5 r =>
        J.i .i64 r fun x6 r =>
        J.i .i64 r fun x7 r =>
        J.i .i64 r fun x8 r =>
        J.l 1 r fun x9 x9n r =>
        D.nil r <|
        J.i .i64 ds fun x10 ds =>
        D.nil ds <|
        M.call (c 103 [.slice 1 words wordsn]) fun ds =>
        J.a ds fun cs1 ds =>
        J.i .i64 cs1 fun x11 r =>
        J.s r fun x12 r =>
        J.s r fun x13 r =>
        J.i .i64 r fun x14 r =>
        J.i .i64 r fun x15 r =>
        J.i .i64 r fun x16 r =>
        J.i .i64 r fun x17 r =>
        J.l 1 r fun x18 x18n r =>
        D.nil r <|
        J.i .i64 ds fun x19 ds =>
        D.nil ds <|
        M.join (fun st => J.b st fun b2 st => D.nil st <|
          M.ret [.bool b2]) fun jk3 =>
        bif x10 == x19 then
          M.call (c 104 [.agg [.int .i64 x2, .str x3, .str x4, .int .i64 x5, .int .i64 x6, .int .i64 x7, .int .i64 x8, .slice 1 x9 x9n], .agg [.int .i64 x11, .str x12, .str x13, .int .i64 x14, .int .i64 x15, .int .i64 x16, .int .i64 x17, .slice 1 x18 x18n]]) fun ds =>
          J.b ds fun x20 ds =>
          D.nil ds <|
          jk3 [.bool x20]
        else
          jk3 [.bool false]) fun jk2 =>
      M.loop (fun rec1 st =>
        J.i .i64 st fun i st =>
        D.nil st <|
        bif decide (i < (wordsn : Int)) then
          M.nn words fun i1 o =>
          M.chk (inB i wordsn) <|
          M.load1 i1 (i.toNat * 1 + o) fun d =>
          D.str d fun x21 =>
          bif decide ((x21.length : Int) > 100) then
            M.ret [.bool true]
          else
            rec1 [.int .i64 (wr64 (i + 1))]
        else
          jk2 []) n [.int .i64 0]) fun jk1 =>
  bif !x then
    jk1 [.bool true]
  else
    jk1 [.bool (decide ((wordsn : Int) > 60))]
/-- rickyard/rickyardlaw32.awake (101); calls 102 script_Parse, 106 script_Same -/
def b_law32_awake : Oracle → Nat → List DV → M (List DV) := fun c n args =>
  D.nil args <|
  M.new [.str (bs [112, 117, 116]), .str (bs [97]), .str (bs [45, 53]), .str (bs [55])] fun i =>
  M.call (c 102 [.slice 1 (some (i, 0)) 4]) fun ds =>
  J.a ds fun cs ds =>
  J.i .i64 cs fun x r =>
  J.s r fun x1 r =>
  J.s r fun x2 r =>
  J.i .i64 r fun x3 r =>
  J.i .i64 r fun x4 r =>
  J.i .i64 r fun x5 r =>
  J.i .i64 r fun x6 r =>
  J.l 1 r fun x7 x7n r =>
  D.nil r <|
  J.i .i64 ds fun x8 ds =>
  D.nil ds <|
  M.new [.str (bs [112, 117, 116]), .str (bs [97]), .str (bs [53])] fun i1 =>
  M.call (c 102 [.slice 1 (some (i1, 0)) 3]) fun ds =>
  J.a ds fun cs1 ds =>
  J.i .i64 cs1 fun x9 r =>
  J.s r fun x10 r =>
  J.s r fun x11 r =>
  J.i .i64 r fun x12 r =>
  J.i .i64 r fun x13 r =>
  J.i .i64 r fun x14 r =>
  J.i .i64 r fun x15 r =>
  J.l 1 r fun x16 x16n r =>
  D.nil r <|
  J.i .i64 ds fun x17 ds =>
  D.nil ds <|
  M.join (fun st => J.b st fun b1 st => D.nil st <|
    M.join (fun st => J.b st fun b2 st => D.nil st <|
      M.ret [.bool b2]) fun jk2 =>
    bif b1 then
      M.call (c 106 [.agg [.int .i64 x, .str x1, .str x2, .int .i64 x3, .int .i64 x4, .int .i64 x5, .int .i64 x6, .slice 1 x7 x7n], .agg [.int .i64 6, .str (bs [97]), .str (bs []), .int .i64 0, .int .i64 0, .int .i64 (-5), .int .i64 7, .slice 0 none 0]]) fun ds =>
      J.b ds fun x18 ds =>
      D.nil ds <|
      jk2 [.bool x18]
    else
      jk2 [.bool false]) fun jk1 =>
  bif x8 == 0 then
    jk1 [.bool (x17 == 42)]
  else
    jk1 [.bool false]
/-- rickyard/script.Parse (102); calls 109 script_find, 108 script_Parse_1, 111 strings_Repeat, 110 script_take -/
def b_script_Parse : Oracle → Nat → List DV → M (List DV) := fun c n args =>
  J.l 1 args fun words wordsn args =>
  D.nil args <|
  M.base fun b0 =>
  M.new [.slice 1 words wordsn] fun words1 =>
  M.load1 words1 0 fun d =>
  D.slice 1 d fun x xn =>
  bif (xn : Int) == 0 then
    M.retF b0 [.agg [.int .i64 0, .str (bs []), .str (bs []), .int .i64 0, .int .i64 0, .int .i64 0, .int .i64 0, .slice 0 none 0], .int .i64 0]
  else
    M.call (c 109 [.func 108 [] [.ptr (some (words1, 0))]]) fun ds =>
    J.a ds fun cs ds =>
    J.s cs fun x1 r =>
    J.s r fun x2 r =>
    J.i .i64 r fun x3 r =>
    D.nil r <|
    J.b ds fun x4 ds =>
    D.nil ds <|
    M.load1 words1 0 fun d1 =>
    D.slice 1 d1 fun x5 x5n =>
    M.chk (decide ((1 : Int) ≤ (x5n : Int))) <|
    M.join (fun st => J.b st fun b1 st => D.nil st <|
      bif b1 then
        M.retF b0 [.agg [.int .i64 0, .str (bs []), .str (bs []), .int .i64 0, .int .i64 0, .int .i64 0, .int .i64 0, .slice 0 none 0], .int .i64 42]
      else
        M.new [.int .i64 0, .str (bs []), .str (bs []), .int .i64 0, .int .i64 0, .int .i64 0, .int .i64 0, .slice 0 none 0] fun a =>
        M.store a 0 [.int .i64 x3, .str (bs []), .str (bs []), .int .i64 0, .int .i64 0, .int .i64 0, .int .i64 0, .slice 0 none 0] <|
        M.join (fun st =>
          J.a st fun cs1 st =>
          J.s cs1 fun c1 r =>
          J.s r fun c2 r =>
          J.i .i64 r fun c3 r =>
          D.nil r <|
          D.nil st <|
          M.join (fun st =>
            J.a st fun cs2 st =>
            J.i .i64 cs2 fun x6 r =>
            J.s r fun x7 r =>
            J.s r fun x8 r =>
            J.i .i64 r fun x9 r =>
            J.i .i64 r fun x10 r =>
            J.i .i64 r fun x11 r =>
            J.i .i64 r fun x12 r =>
            J.l 1 r fun x13 x13n r =>
            D.nil r <|
            D.nil st <|
            M.load a 0 8 fun cs3 =>
            J.i .i64 cs3 fun x14 r =>
            J.s r fun x15 r =>
            J.s r fun x16 r =>
            J.i .i64 r fun x17 r =>
            J.i .i64 r fun x18 r =>
            J.i .i64 r fun x19 r =>
            J.i .i64 r fun x20 r =>
            J.l 1 r fun x21 x21n r =>
            D.nil r <|
            M.retF b0 [.agg [.int .i64 x14, .str x15, .str x16, .int .i64 x17, .int .i64 x18, .int .i64 x19, .int .i64 x20, .slice 1 x21 x21n], .int .i64 0]) fun jk3 =>
          M.loop (fun rec1 st =>
            J.a st fun cs4 st =>
            J.i .i64 cs4 fun x22 r =>
            J.s r fun x23 r =>
            J.s r fun x24 r =>
            J.i .i64 r fun x25 r =>
            J.i .i64 r fun x26 r =>
            J.i .i64 r fun x27 r =>
            J.i .i64 r fun x28 r =>
            J.l 1 r fun x29 x29n r =>
            D.nil r <|
            J.n st fun p st =>
            D.nil st <|
            bif Nat.blt p c2.length then
            M.nn (cutA true x5 1) fun i o =>
            M.chk (inB (p : Int) (x5n - 1)) <|
            M.load1 i (((p : Int).toNat) * 1 + o) fun d2 =>
            D.str d2 fun x30 =>
            M.call (c 110 [.ptr (some (a, 0)), .int .i32 (runeAt c2 p), .str x30]) fun ds =>
            J.b ds fun x31 ds =>
            D.nil ds <|
            bif !x31 then
              M.retF b0 [.agg [.int .i64 0, .str (bs []), .str (bs []), .int .i64 0, .int .i64 0, .int .i64 0, .int .i64 0, .slice 0 none 0], .int .i64 42]
            else
              rec1 [.agg [.int .i64 x22, .str x23, .str x24, .int .i64 x25, .int .i64 x26, .int .i64 x27, .int .i64 x28, .slice 1 x29 x29n], .nat (p + runeW c2 p)]
            else
            jk3 [.agg [.int .i64 x22, .str x23, .str x24, .int .i64 x25, .int .i64 x26, .int .i64 x27, .int .i64 x28, .slice 1 x29 x29n]]) n [.agg [.int .i64 0, .str (bs []), .str (bs []), .int .i64 0, .int .i64 0, .int .i64 0, .int .i64 0, .slice 0 none 0], .nat 0]) fun jk2 =>
        bif x2 == (bs [42]) then
          M.call (c 111 [.str (bs [42]), .int .i64 ((x5n - 1 : Nat) : Int)]) fun ds =>
          J.s ds fun x32 ds =>
          D.nil ds <|
          jk2 [.agg [.str x1, .str x32, .int .i64 x3]]
        else
          jk2 [.agg [.str x1, .str x2, .int .i64 x3]]) fun jk1 =>
    bif !x4 then
      jk1 [.bool true]
    else
      M.join (fun st => J.b st fun b2 st => D.nil st <|
        jk1 [.bool b2]) fun jk4 =>
      bif !(x2 == (bs [42])) then
        jk4 [.bool (!(((x5n - 1 : Nat) : Int) == (x2.length : Int)))]
      else
        jk4 [.bool false]
/-- rickyard/rickyardref32.Parse (103); calls 95 ref03_ReadHandle, 53 ref03_Read, 112 ref32_table, 6 ref31_Plain -/
def b_ref32_Parse : Oracle → Nat → List DV → M (List DV) := fun c n args =>
  J.l 1 args fun w wn args =>
  D.nil args <|
  M.base fun b0 =>
  bif (wn : Int) == 0 then
    M.retF b0 [.agg [.int .i64 0, .str (bs []), .str (bs []), .int .i64 0, .int .i64 0, .int .i64 0, .int .i64 0, .slice 0 none 0], .int .i64 0]
  else
    M.call (c 112 []) fun ds =>
    J.l 1 ds fun x xn ds =>
    J.l 1 ds fun x1 x1n ds =>
    D.nil ds <|
    M.join (fun st =>
      J.a st fun cs st =>
      J.i .i64 cs fun x2 r =>
      J.s r fun x3 r =>
      J.s r fun x4 r =>
      J.i .i64 r fun x5 r =>
      J.i .i64 r fun x6 r =>
      J.i .i64 r fun x7 r =>
      J.i .i64 r fun x8 r =>
      J.l 1 r fun x9 x9n r =>
      D.nil r <|
      D.nil st <|
      M.retF b0 [.agg [.int .i64 0, .str (bs []), .str (bs []), .int .i64 0, .int .i64 0, .int .i64 0, .int .i64 0, .slice 0 none 0], .int .i64 42]) fun jk1 =>
    M.loop (fun rec1 st =>
      J.a st fun cs1 st =>
      J.i .i64 cs1 fun x10 r =>
      J.s r fun x11 r =>
      J.s r fun x12 r =>
      J.i .i64 r fun x13 r =>
      J.i .i64 r fun x14 r =>
      J.i .i64 r fun x15 r =>
      J.i .i64 r fun x16 r =>
      J.l 1 r fun x17 x17n r =>
      D.nil r <|
      J.i .i64 st fun i st =>
      D.nil st <|
      bif decide (i < (xn : Int)) then
        M.join (fun st =>
          J.a st fun cs2 st =>
          J.i .i64 cs2 fun x18 r =>
          J.s r fun x19 r =>
          J.s r fun x20 r =>
          J.i .i64 r fun x21 r =>
          J.i .i64 r fun x22 r =>
          J.i .i64 r fun x23 r =>
          J.i .i64 r fun x24 r =>
          J.l 1 r fun x25 x25n r =>
          D.nil r <|
          D.nil st <|
          rec1 [.agg [.int .i64 x18, .str x19, .str x20, .int .i64 x21, .int .i64 x22, .int .i64 x23, .int .i64 x24, .slice 1 x25 x25n], .int .i64 (wr64 (i + 1))]) fun jk2 =>
        M.nn x fun i1 o =>
        M.chk (inB i xn) <|
        M.load1 i1 (i.toNat * 1 + o) fun d =>
        D.str d fun x26 =>
        M.nn w fun i2 o1 =>
        M.chk (inB 0 wn) <|
        M.load1 i2 (0 + o1) fun d1 =>
        D.str d1 fun x27 =>
        bif !(x26 == x27) then
          jk2 [.agg [.int .i64 x10, .str x11, .str x12, .int .i64 x13, .int .i64 x14, .int .i64 x15, .int .i64 x16, .slice 1 x17 x17n]]
        else
          M.nn x1 fun i3 o2 =>
          M.chk (inB i x1n) <|
          M.load1 i3 (i.toNat * 1 + o2) fun d2 =>
          D.str d2 fun x28 =>
          M.join (fun st =>
            J.s st fun want st =>
            D.nil st <|
            bif !((want.length : Int) == (wr64 ((wn : Int) - 1))) then
              M.retF b0 [.agg [.int .i64 0, .str (bs []), .str (bs []), .int .i64 0, .int .i64 0, .int .i64 0, .int .i64 0, .slice 0 none 0], .int .i64 42]
            else
              M.join (fun st =>
              J.a st fun cs3 st =>
            J.i .i64 cs3 fun x29 r =>
            J.s r fun x30 r =>
            J.s r fun x31 r =>
            J.i .i64 r fun x32 r =>
            J.i .i64 r fun x33 r =>
            J.i .i64 r fun x34 r =>
            J.i .i64 r fun x35 r =>
            J.l 1 r fun x36 x36n r =>
            D.nil r <|
            J.a st fun cs4 st =>
            J.i .i64 cs4 fun a r =>
            J.s r fun a1 r =>
            J.s r fun a2 r =>
            J.i .i64 r fun a3 r =>
            J.i .i64 r fun a4 r =>
            J.i .i64 r fun a5 r =>
            J.i .i64 r fun a6 r =>
            J.l 1 r fun a7 a7n r =>
            D.nil r <|
            D.nil st <|
            M.retF b0 [.agg [.int .i64 a, .str a1, .str a2, .int .i64 a3, .int .i64 a4, .int .i64 a5, .int .i64 a6, .slice 1 a7 a7n], .int .i64 0]) fun jk4 =>
            M.loop (fun rec2 st =>
              J.a st fun cs5 st =>
            J.i .i64 cs5 fun x37 r =>
            J.s r fun x38 r =>
            J.s r fun x39 r =>
            J.i .i64 r fun x40 r =>
            J.i .i64 r fun x41 r =>
            J.i .i64 r fun x42 r =>
            J.i .i64 r fun x43 r =>
            J.l 1 r fun x44 x44n r =>
            D.nil r <|
            J.a st fun cs6 st =>
            J.i .i64 cs6 fun a8 r =>
            J.s r fun a9 r =>
            J.s r fun a10 r =>
            J.i .i64 r fun a11 r =>
            J.i .i64 r fun a12 r =>
            J.i .i64 r fun a13 r =>
            J.i .i64 r fun a14 r =>
            J.l 1 r fun a15 a15n r =>
            D.nil r <|
            J.i .i64 st fun k st =>
            D.nil st <|
            bif decide (k < (want.length : Int)) then
              M.nn w fun i4 o3 =>
            M.chk (inB (wr64 (k + 1)) wn) <|
            M.load1 i4 (((wr64 (k + 1)).toNat) * 1 + o3) fun d3 =>
            D.str d3 fun x45 =>
            M.call (c 53 [.str x45]) fun ds =>
            J.i .i64 ds fun x46 ds =>
            J.b ds fun x47 ds =>
            D.nil ds <|
            M.nn w fun i5 o4 =>
            M.chk (inB (wr64 (k + 1)) wn) <|
            M.load1 i5 (((wr64 (k + 1)).toNat) * 1 + o4) fun d4 =>
            D.str d4 fun x48 =>
            M.call (c 95 [.str x48]) fun ds =>
            J.a ds fun cs7 ds =>
            J.i .i64 cs7 fun x49 r =>
            J.i .i64 r fun x50 r =>
            D.nil r <|
            J.b ds fun x51 ds =>
            D.nil ds <|
            M.chk (inB k want.length) <|
            M.join (fun st =>
              J.a st fun cs8 st =>
            J.i .i64 cs8 fun a16 r =>
            J.s r fun a17 r =>
            J.s r fun a18 r =>
            J.i .i64 r fun a19 r =>
            J.i .i64 r fun a20 r =>
            J.i .i64 r fun a21 r =>
            J.i .i64 r fun a22 r =>
            J.l 1 r fun a23 a23n r =>
            D.nil r <|
            J.b st fun ok st =>
            D.nil st <|
            bif !ok then
              M.retF b0 [.agg [.int .i64 0, .str (bs []), .str (bs []), .int .i64 0, .int .i64 0, .int .i64 0, .int .i64 0, .slice 0 none 0], .int .i64 42]
            else
              rec2 [.agg [.int .i64 x37, .str x38, .str x39, .int .i64 x40, .int .i64 x41, .int .i64 x42, .int .i64 x43, .slice 1 x44 x44n], .agg [.int .i64 a16, .str a17, .str a18, .int .i64 a19, .int .i64 a20, .int .i64 a21, .int .i64 a22, .slice 1 a23 a23n], .int .i64 (wr64 (k + 1))]) fun jk5 =>
            bif (byteAt want k) == 78 then
              M.nn w fun i6 o5 =>
            M.chk (inB (wr64 (k + 1)) wn) <|
            M.load1 i6 (((wr64 (k + 1)).toNat) * 1 + o5) fun d5 =>
            D.str d5 fun x52 =>
            M.call (c 6 [.str x52]) fun ds =>
            J.b ds fun x53 ds =>
            D.nil ds <|
            jk5 [.agg [.int .i64 a8, .str x52, .str a10, .int .i64 a11, .int .i64 a12, .int .i64 a13, .int .i64 a14, .slice 1 a15 a15n], .bool x53]
            else
              M.join (fun st =>
              J.a st fun cs9 st =>
            J.i .i64 cs9 fun a24 r =>
            J.s r fun a25 r =>
            J.s r fun a26 r =>
            J.i .i64 r fun a27 r =>
            J.i .i64 r fun a28 r =>
            J.i .i64 r fun a29 r =>
            J.i .i64 r fun a30 r =>
            J.l 1 r fun a31 a31n r =>
            D.nil r <|
            J.b st fun ok1 st =>
            D.nil st <|
            jk5 [.agg [.int .i64 a24, .str a25, .str a26, .int .i64 a27, .int .i64 a28, .int .i64 a29, .int .i64 a30, .slice 1 a31 a31n], .bool ok1]) fun jk6 =>
            bif (byteAt want k) == 79 then
              M.nn w fun i7 o6 =>
            M.chk (inB (wr64 (k + 1)) wn) <|
            M.load1 i7 (((wr64 (k + 1)).toNat) * 1 + o6) fun d6 =>
            D.str d6 fun x54 =>
            M.call (c 6 [.str x54]) fun ds =>
            J.b ds fun x55 ds =>
            D.nil ds <|
            jk6 [.agg [.int .i64 a8, .str a9, .str x54, .int .i64 a11, .int .i64 a12, .int .i64 a13, .int .i64 a14, .slice 1 a15 a15n], .bool x55]
            else
              M.join (fun st =>
              J.a st fun cs10 st =>
            J.i .i64 cs10 fun a32 r =>
            J.s r fun a33 r =>
            J.s r fun a34 r =>
            J.i .i64 r fun a35 r =>
            J.i .i64 r fun a36 r =>
            J.i .i64 r fun a37 r =>
            J.i .i64 r fun a38 r =>
            J.l 1 r fun a39 a39n r =>
            D.nil r <|
            J.b st fun ok2 st =>
            D.nil st <|
            jk6 [.agg [.int .i64 a32, .str a33, .str a34, .int .i64 a35, .int .i64 a36, .int .i64 a37, .int .i64 a38, .slice 1 a39 a39n], .bool ok2]) fun jk7 =>
            bif (byteAt want k) == 75 then
              jk7 [.agg [.int .i64 a8, .str a9, .str a10, .int .i64 a11, .int .i64 a12, .int .i64 x46, .int .i64 a14, .slice 1 a15 a15n], .bool x47]
            else
              M.join (fun st =>
              J.a st fun cs11 st =>
            J.i .i64 cs11 fun a40 r =>
            J.s r fun a41 r =>
            J.s r fun a42 r =>
            J.i .i64 r fun a43 r =>
            J.i .i64 r fun a44 r =>
            J.i .i64 r fun a45 r =>
            J.i .i64 r fun a46 r =>
            J.l 1 r fun a47 a47n r =>
            D.nil r <|
            J.b st fun ok3 st =>
            D.nil st <|
            jk7 [.agg [.int .i64 a40, .str a41, .str a42, .int .i64 a43, .int .i64 a44, .int .i64 a45, .int .i64 a46, .slice 1 a47 a47n], .bool ok3]) fun jk8 =>
            bif (byteAt want k) == 86 then
              jk8 [.agg [.int .i64 a8, .str a9, .str a10, .int .i64 a11, .int .i64 a12, .int .i64 a13, .int .i64 x46, .slice 1 a15 a15n], .bool x47]
            else
              M.join (fun st =>
              J.a st fun cs12 st =>
            J.i .i64 cs12 fun a48 r =>
            J.s r fun a49 r =>
            J.s r fun a50 r =>
            J.i .i64 r fun a51 r =>
            J.i .i64 r fun a52 r =>
            J.i .i64 r fun a53 r =>
            J.i .i64 r fun a54 r =>
            J.l 1 r fun a55 a55n r =>
            D.nil r <|
            J.b st fun ok4 st =>
            D.nil st <|
            jk8 [.agg [.int .i64 a48, .str a49, .str a50, .int .i64 a51, .int .i64 a52, .int .i64 a53, .int .i64 a54, .slice 1 a55 a55n], .bool ok4]) fun jk9 =>
            bif (byteAt want k) == 72 then
              jk9 [.agg [.int .i64 a8, .str a9, .str a10, .int .i64 x49, .int .i64 x50, .int .i64 a13, .int .i64 a14, .slice 1 a15 a15n], .bool x51]
            else
              M.join (fun st =>
              J.a st fun cs13 st =>
            J.i .i64 cs13 fun a56 r =>
            J.s r fun a57 r =>
            J.s r fun a58 r =>
            J.i .i64 r fun a59 r =>
            J.i .i64 r fun a60 r =>
            J.i .i64 r fun a61 r =>
            J.i .i64 r fun a62 r =>
            J.l 1 r fun a63 a63n r =>
            D.nil r <|
            D.nil st <|
            jk9 [.agg [.int .i64 a56, .str a57, .str a58, .int .i64 a59, .int .i64 a60, .int .i64 a61, .int .i64 a62, .slice 1 a63 a63n], .bool x47]) fun jk10 =>
            bif (byteAt want k) == 42 then
              M.new [.int .i64 x46] fun i8 =>
            M.load i8 0 1 fun cs14 =>
            M.app 1 a15 a15n cs14 1 8796093022208 fun p =>
            jk10 [.agg [.int .i64 a8, .str a9, .str a10, .int .i64 a11, .int .i64 a12, .int .i64 a13, .int .i64 a14, .slice 1 p (a15n + 1)]]
            else
              jk10 [.agg [.int .i64 a8, .str a9, .str a10, .int .i64 a11, .int .i64 a12, .int .i64 a13, .int .i64 a14, .slice 1 a15 a15n]]
            else
              jk4 [.agg [.int .i64 x37, .str x38, .str x39, .int .i64 x40, .int .i64 x41, .int .i64 x42, .int .i64 x43, .slice 1 x44 x44n], .agg [.int .i64 a8, .str a9, .str a10, .int .i64 a11, .int .i64 a12, .int .i64 a13, .int .i64 a14, .slice 1 a15 a15n]]) n [.agg [.int .i64 x10, .str x11, .str x12, .int .i64 x13, .int .i64 x14, .int .i64 x15, .int .i64 x16, .slice 1 x17 x17n], .agg [.int .i64 i, .str (bs []), .str (bs []), .int .i64 0, .int .i64 0, .int .i64 0, .int .i64 0, .slice 0 none 0], .int .i64 0]) fun jk3 =>
          bif x28 == (bs [42]) then
            M.join (fun st =>
              J.s st fun want1 st =>
            D.nil st <|
            jk3 [.str want1]) fun jk11 =>
            M.loop (fun rec3 st =>
              J.s st fun want2 st =>
            J.i .i64 st fun k1 st =>
            D.nil st <|
            bif decide (k1 < (wn : Int)) then
              M.chk (Nat.ble (want2.length + (bs [42]).length) 4611686018427387904) <|
            rec3 [.str (want2 ++ (bs [42])), .int .i64 (wr64 (k1 + 1))]
            else
              jk11 [.str want2]) n [.str (bs []), .int .i64 1]
          else
            jk3 [.str x28]
      else
        jk1 [.agg [.int .i64 x10, .str x11, .str x12, .int .i64 x13, .int .i64 x14, .int .i64 x15, .int .i64 x16, .slice 1 x17 x17n]]) n [.agg [.int .i64 0, .str (bs []), .str (bs []), .int .i64 0, .int .i64 0, .int .i64 0, .int .i64 0, .slice 0 none 0], .int .i64 1]
/-- rickyard/rickyardref32.Same (104); calls 113 ref01_Ints -/
def b_ref32_Same : Oracle → Nat → List DV → M (List DV) := fun c n args =>
  J.a args fun cs args =>
  J.i .i64 cs fun a r =>
  J.s r fun a1 r =>
  J.s r fun a2 r =>
  J.i .i64 r fun a3 r =>
  J.i .i64 r fun a4 r =>
  J.i .i64 r fun a5 r =>
  J.i .i64 r fun a6 r =>
  J.l 1 r fun a7 a7n r =>
  D.nil r <|
  J.a args fun cs1 args =>
  J.i .i64 cs1 fun b1 r =>
  J.s r fun b2 r =>
  J.s r fun b3 r =>
  J.i .i64 r fun b4 r =>
  J.i .i64 r fun b5 r =>
  J.i .i64 r fun b6 r =>
  J.i .i64 r fun b7 r =>
  J.l 1 r fun b8 b8n r =>
  D.nil r <|
  D.nil args <|
  M.join (fun st => J.b st fun b9 st => D.nil st <|
    M.join (fun st => J.b st fun b10 st => D.nil st <|
      M.join (fun st => J.b st fun b11 st => D.nil st <|
        M.join (fun st => J.b st fun b12 st => D.nil st <|
          M.join (fun st => J.b st fun b13 st => D.nil st <|
            M.join (fun st => J.b st fun b14 st => D.nil st <|
              M.ret [.bool b14]) fun jk6 =>
            bif b13 then
              M.call (c 113 [.slice 1 a7 a7n, .slice 1 b8 b8n]) fun ds =>
            J.b ds fun x ds =>
            D.nil ds <|
            jk6 [.bool x]
            else
              jk6 [.bool false]) fun jk5 =>
          bif b12 then
            jk5 [.bool (a6 == b7)]
          else
            jk5 [.bool false]) fun jk4 =>
        bif b11 then
          jk4 [.bool (a5 == b6)]
        else
          jk4 [.bool false]) fun jk3 =>
      bif b10 then
        jk3 [.bool ((a3 == b4) && ((a4 == b5) && true))]
      else
        jk3 [.bool false]) fun jk2 =>
    bif b9 then
      jk2 [.bool (a2 == b3)]
    else
      jk2 [.bool false]) fun jk1 =>
  bif a == b1 then
    jk1 [.bool (a1 == b2)]
  else
    jk1 [.bool false]
/-- rickyard/rickyardlaw32.ScriptSames (105); calls 101 law32_awake, 104 ref32_Same, 107 law32_Small, 106 script_Same -/
def b_law32_ScriptSames : Oracle → Nat → List DV → M (List DV) := fun c n args =>
  J.a args fun cs args =>
  J.i .i64 cs fun a r =>
  J.s r fun a1 r =>
  J.s r fun a2 r =>
  J.i .i64 r fun a3 r =>
  J.i .i64 r fun a4 r =>
  J.i .i64 r fun a5 r =>
  J.i .i64 r fun a6 r =>
  J.l 1 r fun a7 a7n r =>
  D.nil r <|
  J.a args fun cs1 args =>
  J.i .i64 cs1 fun b1 r =>
  J.s r fun b2 r =>
  J.s r fun b3 r =>
  J.i .i64 r fun b4 r =>
  J.i .i64 r fun b5 r =>
  J.i .i64 r fun b6 r =>
  J.i .i64 r fun b7 r =>
  J.l 1 r fun b8 b8n r =>
  D.nil r <|
  D.nil args <|
  M.call (c 101 []) fun ds =>
  J.b ds fun x ds =>
  D.nil ds <|
  M.join (fun st => J.b st fun b9 st => D.nil st <|
    M.join (fun st => J.b st fun b10 st => D.nil st <|
      bif b10 then
        M.call (c 101 []) fun ds =>
        J.b ds fun x1 ds =>
        D.nil ds <|
        M.ret [.bool x1]
      else
        M.callN (c 106 [.agg [.int .i64 a, .str a1, .str a2, .int .i64 a3, .int .i64 a4, .int .i64 a5, .int .i64 a6, .slice 1 a7 a7n], .agg [.int .i64 b1, .str b2, .str b3, .int .i64 b4, .int .i64 b5, .int .i64 b6, .int .i64 b7, .slice 1 b8 b8n]]) fun ds =>
        J.b ds fun x2 ds =>
        D.nil ds <|
        M.call (c 104 [.agg [.int .i64 a, .str a1, .str a2, .int .i64 a3, .int .i64 a4, .int .i64 a5, .int .i64 a6, .slice 1 a7 a7n], .agg [.int .i64 b1, .str b2, .str b3, .int .i64 b4, .int .i64 b5, .int .i64 b6, .int .i64 b7, .slice 1 b8 b8n]]) fun ds =>
        J.b ds fun x3 ds =>
        D.nil ds <|
        M.join (fun st => J.b st fun b11 st => D.nil st <|
          M.ret [.bool b11]) fun jk3 =>
        bif x2 == x3 then
          M.call (c 106 [.agg [.int .i64 a, .str a1, .str a2, .int .i64 a3, .int .i64 a4, .int .i64 a5, .int .i64 a6, .slice 1 a7 a7n], .agg [.int .i64 a, .str a1, .str a2, .int .i64 a3, .int .i64 a4, .int .i64 a5, .int .i64 a6, .slice 1 a7 a7n]]) fun ds =>
          J.b ds fun x4 ds =>
          D.nil ds <|
          jk3 [.bool x4]
        else
          jk3 [.bool false]) fun jk2 =>
    bif b9 then
      jk2 [.bool true]
    else
      M.call (c 107 [.agg [.int .i64 b1, .str b2, .str b3, .int .i64 b4, .int .i64 b5, .int .i64 b6, .int .i64 b7, .slice 1 b8 b8n]]) fun ds =>
      J.b ds fun x5 ds =>
      D.nil ds <|
      jk2 [.bool (!x5)]) fun jk1 =>
  bif !x then
    jk1 [.bool true]
  else
    M.call (c 107 [.agg [.int .i64 a, .str a1, .str a2, .int .i64 a3, .int .i64 a4, .int .i64 a5, .int .i64 a6, .slice 1 a7 a7n]]) fun ds =>
    J.b ds fun x6 ds =>
    D.nil ds <|
    jk1 [.bool (!x6)]
/-- rickyard/script.Same (106); calls 114 slices_Equal_int_int -/
def b_script_Same : Oracle → Nat → List DV → M (List DV) := fun c n args =>
  J.a args fun cs args =>
  J.i .i64 cs fun a r =>
  J.s r fun a1 r =>
  J.s r fun a2 r =>
  J.i .i64 r fun a3 r =>
  J.i .i64 r fun a4 r =>
  J.i .i64 r fun a5 r =>
  J.i .i64 r fun a6 r =>
  J.l 1 r fun a7 a7n r =>
  D.nil r <|
  J.a args fun cs1 args =>
  J.i .i64 cs1 fun b1 r =>
  J.s r fun b2 r =>
  J.s r fun b3 r =>
  J.i .i64 r fun b4 r =>
  J.i .i64 r fun b5 r =>
  J.i .i64 r fun b6 r =>
  J.i .i64 r fun b7 r =>
  J.l 1 r fun b8 b8n r =>
  D.nil r <|
  D.nil args <|
  M.join (fun st => J.b st fun b9 st => D.nil st <|
    M.join (fun st => J.b st fun b10 st => D.nil st <|
      M.join (fun st => J.b st fun b11 st => D.nil st <|
        M.join (fun st => J.b st fun b12 st => D.nil st <|
          M.join (fun st => J.b st fun b13 st => D.nil st <|
            M.join (fun st => J.b st fun b14 st => D.nil st <|
              M.ret [.bool b14]) fun jk6 =>
            bif b13 then
              M.call (c 114 [.slice 1 a7 a7n, .slice 1 b8 b8n]) fun ds =>
            J.b ds fun x ds =>
            D.nil ds <|
            jk6 [.bool x]
            else
              jk6 [.bool false]) fun jk5 =>
          bif b12 then
            jk5 [.bool (a6 == b7)]
          else
            jk5 [.bool false]) fun jk4 =>
        bif b11 then
          jk4 [.bool (a5 == b6)]
        else
          jk4 [.bool false]) fun jk3 =>
      bif b10 then
        jk3 [.bool ((a3 == b4) && ((a4 == b5) && true))]
      else
        jk3 [.bool false]) fun jk2 =>
    bif b9 then
      jk2 [.bool (a2 == b3)]
    else
      jk2 [.bool false]) fun jk1 =>
  bif a == b1 then
    jk1 [.bool (a1 == b2)]
  else
    jk1 [.bool false]
/-- rickyard/rickyardlaw32.Small (107); calls  -/
def b_law32_Small : Oracle → Nat → List DV → M (List DV) := fun c n args =>
  J.a args fun cs args =>
  J.i .i64 cs fun a r =>
  J.s r fun a1 r =>
  J.s r fun a2 r =>
  J.i .i64 r fun a3 r =>
  J.i .i64 r fun a4 r =>
  J.i .i64 r fun a5 r =>
  J.i .i64 r fun a6 r =>
  J.l 1 r fun a7 a7n r =>
  D.nil r <|
  D.nil args <|
  M.join (fun st => J.b st fun b1 st => D.nil st <|
    M.join (fun st => J.b st fun b2 st => D.nil st <|
      M.ret [.bool b2]) fun jk2 =>
    bif b1 then
      jk2 [.bool (decide ((a7n : Int) ≤ 50))]
    else
      jk2 [.bool false]) fun jk1 =>
  bif decide ((a1.length : Int) ≤ 60) then
    jk1 [.bool (decide ((a2.length : Int) ≤ 60))]
  else
    jk1 [.bool false]
/-- rickyard/script.Parse$1 (108); calls  -/
def b_script_Parse_1 : Oracle → Nat → List DV → M (List DV) := fun c n args =>
  J.a args fun cs args =>
  J.s cs fun c1 r =>
  J.s r fun c2 r =>
  J.i .i64 r fun c3 r =>
  D.nil r <|
  J.p args fun x args =>
  D.nil args <|
  M.nn x fun i o =>
  M.load1 i o fun d =>
  D.slice 1 d fun x1 x1n =>
  M.nn x1 fun i1 o1 =>
  M.chk (inB 0 x1n) <|
  M.load1 i1 (0 + o1) fun d1 =>
  D.str d1 fun x2 =>
  M.ret [.bool (c1 == x2)]
/-- rickyard/script.find (109); calls  -/
def b_script_find : Oracle → Nat → List DV → M (List DV) := fun c n args =>
  J.f args fun holds holdsf holdsc args =>
  D.nil args <|
  M.load 0 0 60 fun cs =>
  D.len cs 60 <|
  M.join (fun st =>
    J.a st fun cs1 st =>
    J.s cs1 fun x r =>
    J.s r fun x1 r =>
    J.i .i64 r fun x2 r =>
    D.nil r <|
    D.nil st <|
    M.ret [.agg [.str (bs []), .str (bs []), .int .i64 0], .bool false]) fun jk1 =>
  M.loop (fun rec1 st =>
    J.a st fun cs2 st =>
    J.s cs2 fun x3 r =>
    J.s r fun x4 r =>
    J.i .i64 r fun x5 r =>
    D.nil r <|
    J.i .i64 st fun x6 st =>
    D.nil st <|
    bif decide (x6 < 20) then
      M.chk (inB x6 20) <|
      D.len ((cs.drop (x6.toNat * 3)).take 3) 3 <|
      M.call (c holds (holdsf ++ [.agg ((cs.drop (x6.toNat * 3)).take 3)] ++ holdsc)) fun ds =>
      J.b ds fun x7 ds =>
      D.nil ds <|
      bif x7 then
        D.len ((cs.drop (x6.toNat * 3)).take 3) 3 <|
        M.ret [.agg ((cs.drop (x6.toNat * 3)).take 3), .bool true]
      else
        rec1 [.agg [.str x3, .str x4, .int .i64 x5], .int .i64 (wr64 (x6 + 1))]
    else
      jk1 [.agg [.str x3, .str x4, .int .i64 x5]]) n [.agg [.str (bs []), .str (bs []), .int .i64 0], .int .i64 0]
/-- rickyard/script.take (110); calls 59 digit_ReadHandle, 50 digit_Read, 9 lex_Plain -/
def b_script_take : Oracle → Nat → List DV → M (List DV) := fun c n args =>
  J.p args fun a args =>
  J.i .i32 args fun want args =>
  J.s args fun word args =>
  D.nil args <|
  M.join (fun st =>
    J.b st fun ok st =>
    D.nil st <|
    M.ret [.bool ok]) fun jk1 =>
  bif want == 110 then
    M.call (c 9 [.str word]) fun ds =>
    J.b ds fun x ds =>
    D.nil ds <|
    M.nn a fun i o =>
    M.store i (o + 1) [.str word] <|
    jk1 [.bool x]
  else
    M.join (fun st =>
      J.b st fun ok1 st =>
      D.nil st <|
      jk1 [.bool ok1]) fun jk2 =>
    bif want == 111 then
      M.call (c 9 [.str word]) fun ds =>
      J.b ds fun x1 ds =>
      D.nil ds <|
      M.nn a fun i1 o1 =>
      M.store i1 (o1 + 2) [.str word] <|
      jk2 [.bool x1]
    else
      M.join (fun st =>
        J.b st fun ok2 st =>
        D.nil st <|
        jk2 [.bool ok2]) fun jk3 =>
      bif want == 107 then
        M.call (c 50 [.str word]) fun ds =>
        J.i .i64 ds fun x2 ds =>
        J.b ds fun x3 ds =>
        D.nil ds <|
        M.nn a fun i2 o2 =>
        M.store i2 (o2 + 5) [.int .i64 x2] <|
        jk3 [.bool x3]
      else
        M.join (fun st =>
          J.b st fun ok3 st =>
          D.nil st <|
          jk3 [.bool ok3]) fun jk4 =>
        bif want == 118 then
          M.call (c 50 [.str word]) fun ds =>
          J.i .i64 ds fun x4 ds =>
          J.b ds fun x5 ds =>
          D.nil ds <|
          M.nn a fun i3 o3 =>
          M.store i3 (o3 + 6) [.int .i64 x4] <|
          jk4 [.bool x5]
        else
          M.join (fun st =>
            J.b st fun ok4 st =>
            D.nil st <|
            jk4 [.bool ok4]) fun jk5 =>
          bif want == 104 then
            M.call (c 59 [.str word]) fun ds =>
            J.a ds fun cs ds =>
            J.i .i64 cs fun x6 r =>
            J.i .i64 r fun x7 r =>
            D.nil r <|
            J.b ds fun x8 ds =>
            D.nil ds <|
            M.nn a fun i4 o4 =>
            M.store i4 (o4 + 3) [.int .i64 x6, .int .i64 x7] <|
            jk5 [.bool x8]
          else
            M.join (fun st =>
              J.b st fun ok5 st =>
            D.nil st <|
            jk5 [.bool ok5]) fun jk6 =>
            bif want == 42 then
              M.call (c 50 [.str word]) fun ds =>
            J.i .i64 ds fun x9 ds =>
            J.b ds fun x10 ds =>
            D.nil ds <|
            M.nn a fun i5 o5 =>
            M.load1 i5 (o5 + 7) fun d =>
            D.slice 1 d fun x11 x11n =>
            M.new [.int .i64 x9] fun i6 =>
            M.load i6 0 1 fun cs1 =>
            M.app 1 x11 x11n cs1 1 8796093022208 fun p =>
            M.nn a fun i7 o6 =>
            M.store i7 (o6 + 7) [.slice 1 p (x11n + 1)] <|
            jk6 [.bool x10]
            else
              jk6 [.bool false]
/-- rickyard/rickyardref32.table (112); calls  -/
def b_ref32_table : Oracle → Nat → List DV → M (List DV) := fun c n args =>
  D.nil args <|
  M.base fun b0 =>
  M.new [.str (bs []), .str (bs [98, 101, 103, 105, 110]), .str (bs [99, 111, 109, 109, 105, 116]), .str (bs [97, 98, 111, 114, 116]), .str (bs [110, 101, 119]), .str (bs [100, 114, 111, 112]), .str (bs [112, 117, 116]), .str (bs [109, 105, 110]), .str (bs [112, 111, 112]), .str (bs [108, 111, 119, 101, 114]), .str (bs [99, 117, 116]), .str (bs [109, 101, 108, 100]), .str (bs [103, 101, 116]), .str (bs [108, 101, 110]), .str (bs [108, 105, 115, 116]), .str (bs [110, 97, 109, 101, 115]), .str (bs [97, 114, 109]), .str (bs [112, 108, 97, 110]), .str (bs [99, 114, 97, 115, 104]), .str (bs [99, 104, 101, 99, 107]), .str (bs [101, 112, 111, 99, 104])] fun i =>
  M.new [.str (bs []), .str (bs []), .str (bs []), .str (bs []), .str (bs [78]), .str (bs [78]), .str (bs [78, 75, 86]), .str (bs [78]), .str (bs [78]), .str (bs [78, 72, 75]), .str (bs [78, 72]), .str (bs [78, 79]), .str (bs [72]), .str (bs [78]), .str (bs [78]), .str (bs []), .str (bs [86]), .str (bs [42]), .str (bs [42]), .str (bs []), .str (bs [])] fun i1 =>
  M.retF b0 [.slice 1 (some (i, 0)) 21, .slice 1 (some (i1, 0)) 21]
/-- rickyard/rickyardref01.Ints (113); calls  -/
def b_ref01_Ints : Oracle → Nat → List DV → M (List DV) := fun c n args =>
  J.l 1 args fun a an args =>
  J.l 1 args fun b1 b1n args =>
  D.nil args <|
  bif !((an : Int) == (b1n : Int)) then
    M.ret [.bool false]
  else
    M.join (fun st =>
      D.nil st <|
      M.ret [.bool true]) fun jk1 =>
    M.loop (fun rec1 st =>
      J.i .i64 st fun i st =>
      D.nil st <|
      bif decide (i < (an : Int)) then
        M.nn a fun i1 o =>
        M.chk (inB i an) <|
        M.load1 i1 (i.toNat * 1 + o) fun d =>
        D.int .i64 d fun x =>
        M.nn b1 fun i2 o1 =>
        M.chk (inB i b1n) <|
        M.load1 i2 (i.toNat * 1 + o1) fun d1 =>
        D.int .i64 d1 fun x1 =>
        bif !(x == x1) then
          M.ret [.bool false]
        else
          rec1 [.int .i64 (wr64 (i + 1))]
      else
        jk1 []) n [.int .i64 0]
/-- slices.Equal[[]int,int] (114); calls  -/
def b_slices_Equal_int_int : Oracle → Nat → List DV → M (List DV) := fun c n args =>
  J.l 1 args fun s1 s1n args =>
  J.l 1 args fun s2 s2n args =>
  D.nil args <|
  bif !((s1n : Int) == (s2n : Int)) then
    M.ret [.bool false]
  else
    M.join (fun st =>
      D.nil st <|
      M.ret [.bool true]) fun jk1 =>
    M.loop (fun rec1 st =>
      J.i .i64 st fun x st =>
      D.nil st <|
      bif decide (x < (s1n : Int)) then
        M.nn s1 fun i o =>
        M.chk (inB x s1n) <|
        M.load1 i (x.toNat * 1 + o) fun d =>
        D.int .i64 d fun x1 =>
        M.nn s2 fun i1 o1 =>
        M.chk (inB x s2n) <|
        M.load1 i1 (x.toNat * 1 + o1) fun d1 =>
        D.int .i64 d1 fun x2 =>
        bif !(x1 == x2) then
          M.ret [.bool false]
        else
          rec1 [.int .i64 (wr64 (x + 1))]
      else
        jk1 []) n [.int .i64 0]
end
structure H_script_find (Bd : Bodies) : Prop where
  eq : Bd 109 = b_script_find
structure H_script_Parse_1 (Bd : Bodies) : Prop where
  eq : Bd 108 = b_script_Parse_1
structure H_strings_Repeat (Bd : Bodies) : Prop where
  eq : Bd 111 = lib_Repeat
structure H_script_take (Bd : Bodies) : Prop where
  eq : Bd 110 = b_script_take
  digit_ReadHandle : H_digit_ReadHandle Bd
  digit_Read : H_digit_Read Bd
  lex_Plain : H_lex_Plain Bd
structure H_script_Parse (Bd : Bodies) : Prop where
  eq : Bd 102 = b_script_Parse
  script_find : H_script_find Bd
  script_Parse_1 : H_script_Parse_1 Bd
  strings_Repeat : H_strings_Repeat Bd
  script_take : H_script_take Bd
structure H_slices_Equal_int_int (Bd : Bodies) : Prop where
  eq : Bd 114 = b_slices_Equal_int_int
structure H_script_Same (Bd : Bodies) : Prop where
  eq : Bd 106 = b_script_Same
  slices_Equal_int_int : H_slices_Equal_int_int Bd
structure H_law32_awake (Bd : Bodies) : Prop where
  eq : Bd 101 = b_law32_awake
  script_Parse : H_script_Parse Bd
  script_Same : H_script_Same Bd
structure H_ref32_table (Bd : Bodies) : Prop where
  eq : Bd 112 = b_ref32_table
structure H_ref32_Parse (Bd : Bodies) : Prop where
  eq : Bd 103 = b_ref32_Parse
  ref03_ReadHandle : H_ref03_ReadHandle Bd
  ref03_Read : H_ref03_Read Bd
  ref32_table : H_ref32_table Bd
  ref31_Plain : H_ref31_Plain Bd
structure H_ref01_Ints (Bd : Bodies) : Prop where
  eq : Bd 113 = b_ref01_Ints
structure H_ref32_Same (Bd : Bodies) : Prop where
  eq : Bd 104 = b_ref32_Same
  ref01_Ints : H_ref01_Ints Bd
structure H_law32_ScriptParses (Bd : Bodies) : Prop where
  eq : Bd 100 = b_law32_ScriptParses
  law32_awake : H_law32_awake Bd
  script_Parse : H_script_Parse Bd
  ref32_Parse : H_ref32_Parse Bd
  ref32_Same : H_ref32_Same Bd
structure H_law32_Small (Bd : Bodies) : Prop where
  eq : Bd 107 = b_law32_Small
structure H_law32_ScriptSames (Bd : Bodies) : Prop where
  eq : Bd 105 = b_law32_ScriptSames
  law32_awake : H_law32_awake Bd
  ref32_Same : H_ref32_Same Bd
  law32_Small : H_law32_Small Bd
  script_Same : H_script_Same Bd
end Go.Gv
