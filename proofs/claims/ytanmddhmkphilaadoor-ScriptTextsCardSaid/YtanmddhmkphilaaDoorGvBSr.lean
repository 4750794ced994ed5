/- Functions of the program, as the machine runs them: written by gvseat.py. -/
import Derived.Test.YtanmddhmkphilaaDoorGvDef
import Derived.Test.YtanmddhmkphilaaDoorGvBLs
import Derived.Test.YtanmddhmkphilaaDoorGvBSp
namespace Go.Gv
set_option linter.unusedVariables false
set_option maxRecDepth 10000
set_option maxHeartbeats 4000000
noncomputable section
/-- rickyard/rickyardlaw32.ScriptReads (120); calls 101 law32_awake, 121 script_Read, 122 ref32_Read, 104 ref32_Same -/
def b_law32_ScriptReads : Oracle → Nat → List DV → M (List DV) := fun c n args =>
  J.s args fun s args =>
  D.nil args <|
  M.call (c 101 []) fun ds =>
  J.b ds fun x ds =>
  D.nil ds <|
  M.join (fun st => J.b st fun b1 st => D.nil st <|
    bif b1 then
      M.call (c 101 []) fun ds =>
      J.b ds fun x1 ds =>
      D.nil ds <|
      M.ret [.bool x1]
    else
      M.call (c 121 [.str s]) fun ds =>
      J.l 8 ds fun x2 x2n ds =>
      J.i .i64 ds fun x3 ds =>
      J.i .i64 ds fun x4 ds =>
      D.nil ds <|
      M.call (c 122 [.str s]) fun ds =>
      J.l 8 ds fun x5 x5n ds =>
      J.i .i64 ds fun x6 ds =>
      J.i .i64 ds fun x7 ds =>
      D.nil ds <|
      M.join (fun st => J.b st fun b2 st => D.nil st <|
        M.join (fun st => J.b st fun b3 st => D.nil st <|
          bif b3 then
            M.ret [.bool false]
          else
            M.join (fun st =>
              D.nil st <|
            M.ret [.bool true]) fun jk4 =>
            M.loop (fun rec1 st =>
              J.i .i64 st fun i st =>
            D.nil st <|
            bif decide (i < (x2n : Int)) then
              M.nn x2 fun i1 o =>
            M.chk (inB i x2n) <|
            M.load i1 (i.toNat * 8 + o) 8 fun cs =>
            J.i .i64 cs fun x8 r =>
            J.s r fun x9 r =>
            J.s r fun x10 r =>
            J.i .i64 r fun x11 r =>
            J.i .i64 r fun x12 r =>
            J.i .i64 r fun x13 r =>
            J.i .i64 r fun x14 r =>
            J.l 1 r fun x15 x15n r =>
            D.nil r <|
            M.nn x5 fun i2 o1 =>
            M.chk (inB i x5n) <|
            M.load i2 (i.toNat * 8 + o1) 8 fun cs1 =>
            J.i .i64 cs1 fun x16 r =>
            J.s r fun x17 r =>
            J.s r fun x18 r =>
            J.i .i64 r fun x19 r =>
            J.i .i64 r fun x20 r =>
            J.i .i64 r fun x21 r =>
            J.i .i64 r fun x22 r =>
            J.l 1 r fun x23 x23n r =>
            D.nil r <|
            M.call (c 104 [.agg [.int .i64 x8, .str x9, .str x10, .int .i64 x11, .int .i64 x12, .int .i64 x13, .int .i64 x14, .slice 1 x15 x15n], .agg [.int .i64 x16, .str x17, .str x18, .int .i64 x19, .int .i64 x20, .int .i64 x21, .int .i64 x22, .slice 1 x23 x23n]]) fun ds =>
            J.b ds fun x24 ds =>
            D.nil ds <|
            bif !x24 then
              M.ret [.bool false]
            else
              rec1 [.int .i64 (wr64 (i + 1))]
            else
              jk4 []) n [.int .i64 0]) fun jk3 =>
        bif b2 then
          jk3 [.bool true]
        else
          jk3 [.bool (!((x2n : Int) == (x5n : Int)))]) fun jk2 =>
      bif !(x4 == x7) then
        jk2 [.bool true]
      else
        jk2 [.bool (!(x3 == x6))]) fun jk1 =>
  bif !x then
    jk1 [.bool true]
  else
    jk1 [.bool (decide ((s.length : Int) > 4200))]
/-- rickyard/script.Read (121); calls 102 script_Parse, 45 lex_Split -/
def b_script_Read : Oracle → Nat → List DV → M (List DV) := fun c n args =>
  J.s args fun s args =>
  D.nil args <|
  M.base fun b0 =>
  M.call (c 45 [.str s]) fun ds =>
  J.l 1 ds fun x xn ds =>
  J.i .i64 ds fun x1 ds =>
  J.i .i64 ds fun x2 ds =>
  D.nil ds <|
  bif !(x2 == 0) then
    M.retF b0 [.slice 0 none 0, .int .i64 x1, .int .i64 x2]
  else
    M.join (fun st =>
      J.l 8 st fun out outn st =>
      D.nil st <|
      M.retF b0 [.slice 8 out outn, .int .i64 0, .int .i64 0]) fun jk1 =>
    M.loop (fun rec1 st =>
      J.l 8 st fun out1 out1n st =>
      J.i .i64 st fun x3 st =>
      D.nil st <|
      bif decide (x3 < (xn : Int)) then
        M.nn x fun i o =>
        M.chk (inB x3 xn) <|
        M.load1 i (x3.toNat * 1 + o) fun d =>
        D.slice 1 d fun x4 x4n =>
        M.call (c 102 [.slice 1 x4 x4n]) fun ds =>
        J.a ds fun cs ds =>
        J.i .i64 cs fun x5 r =>
        J.s r fun x6 r =>
        J.s r fun x7 r =>
        J.i .i64 r fun x8 r =>
        J.i .i64 r fun x9 r =>
        J.i .i64 r fun x10 r =>
        J.i .i64 r fun x11 r =>
        J.l 1 r fun x12 x12n r =>
        D.nil r <|
        J.i .i64 ds fun x13 ds =>
        D.nil ds <|
        bif !(x13 == 0) then
          M.retF b0 [.slice 0 none 0, .int .i64 (wr64 (x3 + 1)), .int .i64 x13]
        else
          M.new [.int .i64 x5, .str x6, .str x7, .int .i64 x8, .int .i64 x9, .int .i64 x10, .int .i64 x11, .slice 1 x12 x12n] fun i1 =>
          M.load i1 0 8 fun cs1 =>
          M.app 8 out1 out1n cs1 1 733007751850 fun p =>
          rec1 [.slice 8 p (out1n + 1), .int .i64 (wr64 (x3 + 1))]
      else
        jk1 [.slice 8 out1 out1n]) n [.slice 0 none 0, .int .i64 0]
/-- rickyard/rickyardref32.Read (122); calls 46 ref31_Split, 103 ref32_Parse -/
def b_ref32_Read : Oracle → Nat → List DV → M (List DV) := fun c n args =>
  J.s args fun s args =>
  D.nil args <|
  M.base fun b0 =>
  M.call (c 46 [.str s]) fun ds =>
  J.l 1 ds fun x xn ds =>
  J.i .i64 ds fun x1 ds =>
  J.i .i64 ds fun x2 ds =>
  D.nil ds <|
  bif !(x2 == 0) then
    M.retF b0 [.slice 0 none 0, .int .i64 x1, .int .i64 x2]
  else
    M.join (fun st =>
      J.l 8 st fun out outn st =>
      D.nil st <|
      M.retF b0 [.slice 8 out outn, .int .i64 0, .int .i64 0]) fun jk1 =>
    M.loop (fun rec1 st =>
      J.l 8 st fun out1 out1n st =>
      J.i .i64 st fun i st =>
      D.nil st <|
      bif decide (i < (xn : Int)) then
        M.nn x fun i1 o =>
        M.chk (inB i xn) <|
        M.load1 i1 (i.toNat * 1 + o) fun d =>
        D.slice 1 d fun x3 x3n =>
        M.call (c 103 [.slice 1 x3 x3n]) fun ds =>
        J.a ds fun cs ds =>
        J.i .i64 cs fun x4 r =>
        J.s r fun x5 r =>
        J.s r fun x6 r =>
        J.i .i64 r fun x7 r =>
        J.i .i64 r fun x8 r =>
        J.i .i64 r fun x9 r =>
        J.i .i64 r fun x10 r =>
        J.l 1 r fun x11 x11n r =>
        D.nil r <|
        J.i .i64 ds fun x12 ds =>
        D.nil ds <|
        bif !(x12 == 0) then
          M.retF b0 [.slice 0 none 0, .int .i64 (wr64 (i + 1)), .int .i64 x12]
        else
          M.new [.int .i64 x4, .str x5, .str x6, .int .i64 x7, .int .i64 x8, .int .i64 x9, .int .i64 x10, .slice 1 x11 x11n] fun i2 =>
          M.load i2 0 8 fun cs1 =>
          M.app 8 out1 out1n cs1 1 733007751850 fun p =>
          rec1 [.slice 8 p (out1n + 1), .int .i64 (wr64 (i + 1))]
      else
        jk1 [.slice 8 out1 out1n]) n [.slice 0 none 0, .int .i64 0]
end
structure H_script_Read (Bd : Bodies) : Prop where
  eq : Bd 121 = b_script_Read
  script_Parse : H_script_Parse Bd
  lex_Split : H_lex_Split Bd
structure H_ref32_Read (Bd : Bodies) : Prop where
  eq : Bd 122 = b_ref32_Read
  ref31_Split : H_ref31_Split Bd
  ref32_Parse : H_ref32_Parse Bd
structure H_law32_ScriptReads (Bd : Bodies) : Prop where
  eq : Bd 120 = b_law32_ScriptReads
  law32_awake : H_law32_awake Bd
  script_Read : H_script_Read Bd
  ref32_Read : H_ref32_Read Bd
  ref32_Same : H_ref32_Same Bd
end Go.Gv
