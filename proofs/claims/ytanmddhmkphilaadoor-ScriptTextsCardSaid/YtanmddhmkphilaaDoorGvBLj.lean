/- Functions of the program, as the machine runs them: written by gvseat.py. -/
import Derived.Test.YtanmddhmkphilaaDoorGvDef
import Derived.Test.YtanmddhmkphilaaDoorGvShelf
import Derived.Test.YtanmddhmkphilaaDoorGvBLaa
namespace Go.Gv
set_option linter.unusedVariables false
set_option maxRecDepth 10000
set_option maxHeartbeats 4000000
noncomputable section
/-- rickyard/rickyardlaw31.LexJoins (7); calls 1 law31_awake, 2 lex_Words, 4 ref31_Same, 6 ref31_Plain, 9 lex_Plain, 8 lex_Join -/
def b_law31_LexJoins : Oracle → Nat → List DV → M (List DV) := fun c n args =>
  J.l 1 args fun words wordsn args =>
  D.nil args <|
  M.call (c 1 []) fun ds =>
  J.b ds fun x ds =>
  D.nil ds <|
  M.join (fun st => J.b st fun b1 st => D.nil st <|
    bif b1 then
      M.call (c 1 []) fun ds =>
      J.b ds fun x1 ds =>
      D.nil ds <|
      M.ret [.bool x1]
    else
      M.join (fun st =>
        J.b st fun ok st =>
        D.nil st <|
        M.call (c 8 [.slice 1 words wordsn]) fun ds =>
        J.s ds fun x2 ds =>
        J.b ds fun x3 ds =>
        D.nil ds <|
        bif !ok then
          M.join (fun st => J.b st fun b2 st => D.nil st <|
            M.ret [.bool b2]) fun jk3 =>
          bif !x3 then
            jk3 [.bool (x2 == (bs []))]
          else
            jk3 [.bool false]
        else
          M.call (c 2 [.str x2]) fun ds =>
          J.l 1 ds fun x4 x4n ds =>
          J.i .i64 ds fun x5 ds =>
          D.nil ds <|
          M.join (fun st => J.b st fun b3 st => D.nil st <|
            M.join (fun st => J.b st fun b4 st => D.nil st <|
              M.ret [.bool b4]) fun jk5 =>
            bif b3 then
              M.call (c 4 [.slice 1 x4 x4n, .slice 1 words wordsn]) fun ds =>
            J.b ds fun x6 ds =>
            D.nil ds <|
            jk5 [.bool x6]
            else
              jk5 [.bool false]) fun jk4 =>
          bif x3 then
            jk4 [.bool (x5 == 0)]
          else
            jk4 [.bool false]) fun jk2 =>
      M.loop (fun rec1 st =>
        J.b st fun ok1 st =>
        J.i .i64 st fun i st =>
        D.nil st <|
        bif decide (i < (wordsn : Int)) then
          M.nn words fun i1 o =>
          M.chk (inB i wordsn) <|
          M.load1 i1 (i.toNat * 1 + o) fun d =>
          D.str d fun x7 =>
          bif decide ((x7.length : Int) > 100) then
            M.ret [.bool true]
          else
            M.nn words fun i2 o1 =>
            M.chk (inB i wordsn) <|
            M.load1 i2 (i.toNat * 1 + o1) fun d1 =>
            D.str d1 fun x8 =>
            M.callX (c 9 [.str x8]) fun ds =>
            J.b ds fun x9 ds =>
            D.nil ds <|
            M.nn words fun i3 o2 =>
            M.chk (inB i wordsn) <|
            M.load1 i3 (i.toNat * 1 + o2) fun d2 =>
            D.str d2 fun x10 =>
            M.call (c 6 [.str x10]) fun ds =>
            J.b ds fun x11 ds =>
            D.nil ds <|
            bif !(x9 == x11) then
              M.ret [.bool false]
            else
              M.join (fun st => J.b st fun b5 st => D.nil st <|
              rec1 [.bool b5, .int .i64 (wr64 (i + 1))]) fun jk6 =>
            bif ok1 then
              M.nn words fun i4 o3 =>
            M.chk (inB i wordsn) <|
            M.load1 i4 (i.toNat * 1 + o3) fun d3 =>
            D.str d3 fun x12 =>
            M.call (c 6 [.str x12]) fun ds =>
            J.b ds fun x13 ds =>
            D.nil ds <|
            jk6 [.bool x13]
            else
              jk6 [.bool false]
        else
          jk2 [.bool ok1]) n [.bool (decide ((wordsn : Int) ≤ 40)), .int .i64 0]) fun jk1 =>
  bif !x then
    jk1 [.bool true]
  else
    jk1 [.bool (decide ((wordsn : Int) > 60))]
/-- rickyard/lex.Join (8); calls 9 lex_Plain, 14 strings_Join -/
def b_lex_Join : Oracle → Nat → List DV → M (List DV) := fun c n args =>
  J.l 1 args fun words wordsn args =>
  D.nil args <|
  bif decide ((wordsn : Int) > 40) then
    M.ret [.str (bs []), .bool false]
  else
    M.join (fun st =>
      D.nil st <|
      M.call (c 14 [.slice 1 words wordsn, .str (bs [32])]) fun ds =>
      J.s ds fun x ds =>
      D.nil ds <|
      M.ret [.str x, .bool true]) fun jk1 =>
    M.loop (fun rec1 st =>
      J.i .i64 st fun x1 st =>
      D.nil st <|
      bif decide (x1 < (wordsn : Int)) then
        M.nn words fun i o =>
        M.chk (inB x1 wordsn) <|
        M.load1 i (x1.toNat * 1 + o) fun d =>
        D.str d fun x2 =>
        M.call (c 9 [.str x2]) fun ds =>
        J.b ds fun x3 ds =>
        D.nil ds <|
        bif !x3 then
          M.ret [.str (bs []), .bool false]
        else
          rec1 [.int .i64 (wr64 (x1 + 1))]
      else
        jk1 []) n [.int .i64 0]
end
structure H_strings_Join (Bd : Bodies) : Prop where
  eq : Bd 14 = lib_Join
structure H_lex_Join (Bd : Bodies) : Prop where
  eq : Bd 8 = b_lex_Join
  lex_Plain : H_lex_Plain Bd
  strings_Join : H_strings_Join Bd
structure H_law31_LexJoins (Bd : Bodies) : Prop where
  eq : Bd 7 = b_law31_LexJoins
  law31_awake : H_law31_awake Bd
  lex_Words : H_lex_Words Bd
  ref31_Same : H_ref31_Same Bd
  ref31_Plain : H_ref31_Plain Bd
  lex_Plain : H_lex_Plain Bd
  lex_Join : H_lex_Join Bd
end Go.Gv
