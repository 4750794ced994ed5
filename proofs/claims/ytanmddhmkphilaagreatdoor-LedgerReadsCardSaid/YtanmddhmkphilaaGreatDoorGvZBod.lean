/- Functions of the program, as the machine runs them: written by gvseat.py. -/
import Derived.Test.YtanmddhmkphilaaGreatDoorGvDef
import Derived.Test.YtanmddhmkphilaaGreatDoorGvShelf
import Derived.Test.YtanmddhmkphilaaGreatDoorGvZRun
import Derived.Test.YtanmddhmkphilaaGreatDoorGvShelf2
namespace Go.Gv
set_option linter.unusedVariables false
set_option maxRecDepth 10000
set_option maxHeartbeats 4000000
noncomputable section
/-- rickyard/rickyardref04.Runes (12); calls 15 ref04_First -/
def b_ref04_Runes : Oracle → Nat → List DV → M (List DV) := fun c n args =>
  J.s args fun s args =>
  D.nil args <|
  M.base fun b0 =>
  M.join (fun st =>
    J.l 1 st fun out outn st =>
    D.nil st <|
    M.retF b0 [.slice 1 out outn]) fun jk1 =>
  M.loop (fun rec1 st =>
    J.s st fun s1 st =>
    J.l 1 st fun out1 out1n st =>
    D.nil st <|
    bif decide ((s1.length : Int) > 0) then
      M.call (c 15 [.str s1]) fun ds =>
      J.i .i64 ds fun x ds =>
      J.i .i64 ds fun x1 ds =>
      D.nil ds <|
      M.new [.int .i64 x] fun i =>
      M.load i 0 1 fun cs =>
      M.app 1 out1 out1n cs 1 8796093022208 fun p =>
      M.chk (decide (0 ≤ x1) && decide (x1 ≤ (s1.length : Int))) <|
      rec1 [.str (s1.drop x1.toNat), .slice 1 p (out1n + 1)]
    else
      jk1 [.slice 1 out1 out1n]) n [.str s, .slice 0 none 0]
/-- rickyard/rickyardref04.First (15); calls 19 ref04_follows -/
def b_ref04_First : Oracle → Nat → List DV → M (List DV) := fun c n args =>
  J.s args fun s args =>
  D.nil args <|
  M.chk (inB 0 s.length) <|
  bif decide (byteAt s 0 < 128) then
    M.ret [.int .i64 (wr64 (byteAt s 0)), .int .i64 1]
  else
    M.join (fun st => J.b st fun b1 st => D.nil st <|
      M.join (fun st => J.b st fun b2 st => D.nil st <|
        bif b2 then
          M.chk (inB 1 s.length) <|
          M.ret [.int .i64 (wr64 ((wr64 ((wr64 (IntKind.wrap .u8 ((byteAt s 0) - 192))) * 64)) + (wr64 (IntKind.wrap .u8 ((byteAt s 1) - 128))))), .int .i64 2]
        else
          M.join (fun st => J.b st fun b3 st => D.nil st <|
            M.join (fun st =>
              D.nil st <|
            M.ret [.int .i64 65533, .int .i64 1]) fun jk4 =>
            bif b3 then
              M.join (fun st =>
              J.i .u8 st fun lo st =>
            D.nil st <|
            M.join (fun st =>
              J.i .u8 st fun hi st =>
            D.nil st <|
            M.call (c 19 [.str s, .int .i64 1, .int .u8 lo, .int .u8 hi]) fun ds =>
            J.b ds fun x ds =>
            D.nil ds <|
            M.join (fun st => J.b st fun b4 st => D.nil st <|
              bif b4 then
              M.chk (inB 1 s.length) <|
            M.chk (inB 2 s.length) <|
            M.ret [.int .i64 (wr64 ((wr64 ((wr64 ((wr64 (IntKind.wrap .u8 ((byteAt s 0) - 224))) * 4096)) + (wr64 ((wr64 (IntKind.wrap .u8 ((byteAt s 1) - 128))) * 64)))) + (wr64 (IntKind.wrap .u8 ((byteAt s 2) - 128))))), .int .i64 3]
            else
              jk4 []) fun jk7 =>
            bif x then
              M.call (c 19 [.str s, .int .i64 2, .int .u8 128, .int .u8 191]) fun ds =>
            J.b ds fun x1 ds =>
            D.nil ds <|
            jk7 [.bool x1]
            else
              jk7 [.bool false]) fun jk6 =>
            bif (byteAt s 0) == 237 then
              jk6 [.int .u8 159]
            else
              jk6 [.int .u8 191]) fun jk5 =>
            bif (byteAt s 0) == 224 then
              jk5 [.int .u8 160]
            else
              jk5 [.int .u8 128]
            else
              M.join (fun st => J.b st fun b5 st => D.nil st <|
              M.join (fun st =>
              D.nil st <|
            jk4 []) fun jk9 =>
            bif b5 then
              M.join (fun st =>
              J.i .u8 st fun lo1 st =>
            D.nil st <|
            M.join (fun st =>
              J.i .u8 st fun hi1 st =>
            D.nil st <|
            M.call (c 19 [.str s, .int .i64 1, .int .u8 lo1, .int .u8 hi1]) fun ds =>
            J.b ds fun x2 ds =>
            D.nil ds <|
            M.join (fun st => J.b st fun b6 st => D.nil st <|
              M.join (fun st => J.b st fun b7 st => D.nil st <|
              bif b7 then
              M.chk (inB 1 s.length) <|
            M.chk (inB 2 s.length) <|
            M.chk (inB 3 s.length) <|
            M.ret [.int .i64 (wr64 ((wr64 ((wr64 ((wr64 ((wr64 (IntKind.wrap .u8 ((byteAt s 0) - 240))) * 262144)) + (wr64 ((wr64 (IntKind.wrap .u8 ((byteAt s 1) - 128))) * 4096)))) + (wr64 ((wr64 (IntKind.wrap .u8 ((byteAt s 2) - 128))) * 64)))) + (wr64 (IntKind.wrap .u8 ((byteAt s 3) - 128))))), .int .i64 4]
            else
              jk9 []) fun jk13 =>
            bif b6 then
              M.call (c 19 [.str s, .int .i64 3, .int .u8 128, .int .u8 191]) fun ds =>
            J.b ds fun x3 ds =>
            D.nil ds <|
            jk13 [.bool x3]
            else
              jk13 [.bool false]) fun jk12 =>
            bif x2 then
              M.call (c 19 [.str s, .int .i64 2, .int .u8 128, .int .u8 191]) fun ds =>
            J.b ds fun x4 ds =>
            D.nil ds <|
            jk12 [.bool x4]
            else
              jk12 [.bool false]) fun jk11 =>
            bif (byteAt s 0) == 244 then
              jk11 [.int .u8 143]
            else
              jk11 [.int .u8 191]) fun jk10 =>
            bif (byteAt s 0) == 240 then
              jk10 [.int .u8 144]
            else
              jk10 [.int .u8 128]
            else
              jk9 []) fun jk8 =>
            bif decide (byteAt s 0 ≥ 240) then
              jk8 [.bool (decide (byteAt s 0 ≤ 244))]
            else
              jk8 [.bool false]) fun jk3 =>
          bif decide (byteAt s 0 ≥ 224) then
            jk3 [.bool (decide (byteAt s 0 ≤ 239))]
          else
            jk3 [.bool false]) fun jk2 =>
      bif b1 then
        M.call (c 19 [.str s, .int .i64 1, .int .u8 128, .int .u8 191]) fun ds =>
        J.b ds fun x5 ds =>
        D.nil ds <|
        jk2 [.bool x5]
      else
        jk2 [.bool false]) fun jk1 =>
    bif decide (byteAt s 0 ≥ 194) then
      jk1 [.bool (decide (byteAt s 0 ≤ 223))]
    else
      jk1 [.bool false]
/-- rickyard/rickyardref04.follows (19); calls  -/
def b_ref04_follows : Oracle → Nat → List DV → M (List DV) := fun c n args =>
  J.s args fun s args =>
  J.i .i64 args fun at1 args =>
  J.i .u8 args fun lo args =>
  J.i .u8 args fun hi args =>
  D.nil args <|
  M.join (fun st => J.b st fun b1 st => D.nil st <|
    M.join (fun st => J.b st fun b2 st => D.nil st <|
      M.ret [.bool b2]) fun jk2 =>
    bif b1 then
      M.chk (inB at1 s.length) <|
      jk2 [.bool (decide (byteAt s at1 ≤ hi))]
    else
      jk2 [.bool false]) fun jk1 =>
  bif decide (at1 < (s.length : Int)) then
    M.chk (inB at1 s.length) <|
    jk1 [.bool (decide (byteAt s at1 ≥ lo))]
  else
    jk1 [.bool false]
end
structure H_ref04_follows (Bd : Bodies) : Prop where
  eq : Bd 19 = b_ref04_follows
structure H_ref04_First (Bd : Bodies) : Prop where
  eq : Bd 15 = b_ref04_First
  ref04_follows : H_ref04_follows Bd
structure H_ref04_Runes (Bd : Bodies) : Prop where
  eq : Bd 12 = b_ref04_Runes
  ref04_First : H_ref04_First Bd
end Go.Gv

/- Functions of the program, as the machine runs them: written by gvseat.py. -/
namespace Go.Gv
set_option linter.unusedVariables false
set_option maxRecDepth 10000
set_option maxHeartbeats 4000000
noncomputable section
def str_0 : List UInt8 := bs [48, 48, 48, 49, 48, 50, 48, 51, 48, 52, 48, 53, 48, 54, 48, 55, 48, 56, 48, 57, 49, 48, 49, 49, 49, 50, 49, 51, 49, 52, 49, 53, 49, 54, 49, 55, 49, 56, 49, 57, 50, 48, 50, 49, 50, 50, 50, 51, 50, 52, 50, 53, 50, 54, 50, 55, 50, 56, 50, 57, 51, 48, 51, 49, 51, 50, 51, 51, 51, 52, 51, 53, 51, 54, 51, 55, 51, 56, 51, 57, 52, 48, 52, 49, 52, 50, 52, 51, 52, 52, 52, 53, 52, 54, 52, 55, 52, 56, 52, 57, 53, 48, 53, 49, 53, 50, 53, 51, 53, 52, 53, 53, 53, 54, 53, 55, 53, 56, 53, 57, 54, 48, 54, 49, 54, 50, 54, 51, 54, 52, 54, 53, 54, 54, 54, 55, 54, 56, 54, 57, 55, 48, 55, 49, 55, 50, 55, 51, 55, 52, 55, 53, 55, 54, 55, 55, 55, 56, 55, 57, 56, 48, 56, 49, 56, 50, 56, 51, 56, 52, 56, 53, 56, 54, 56, 55, 56, 56, 56, 57, 57, 48, 57, 49, 57, 50, 57, 51, 57, 52, 57, 53, 57, 54, 57, 55, 57, 56, 57, 57]
def str_2 : List UInt8 := bs [0, 1, 2, 2, 3, 3, 3, 3, 4, 4, 4, 4, 4, 4, 4, 4, 5, 5, 5, 5, 5, 5, 5, 5, 5, 5, 5, 5, 5, 5, 5, 5, 6, 6, 6, 6, 6, 6, 6, 6, 6, 6, 6, 6, 6, 6, 6, 6, 6, 6, 6, 6, 6, 6, 6, 6, 6, 6, 6, 6, 6, 6, 6, 6, 7, 7, 7, 7, 7, 7, 7, 7, 7, 7, 7, 7, 7, 7, 7, 7, 7, 7, 7, 7, 7, 7, 7, 7, 7, 7, 7, 7, 7, 7, 7, 7, 7, 7, 7, 7, 7, 7, 7, 7, 7, 7, 7, 7, 7, 7, 7, 7, 7, 7, 7, 7, 7, 7, 7, 7, 7, 7, 7, 7, 7, 7, 7, 7, 8, 8, 8, 8, 8, 8, 8, 8, 8, 8, 8, 8, 8, 8, 8, 8, 8, 8, 8, 8, 8, 8, 8, 8, 8, 8, 8, 8, 8, 8, 8, 8, 8, 8, 8, 8, 8, 8, 8, 8, 8, 8, 8, 8, 8, 8, 8, 8, 8, 8, 8, 8, 8, 8, 8, 8, 8, 8, 8, 8, 8, 8, 8, 8, 8, 8, 8, 8, 8, 8, 8, 8, 8, 8, 8, 8, 8, 8, 8, 8, 8, 8, 8, 8, 8, 8, 8, 8, 8, 8, 8, 8, 8, 8, 8, 8, 8, 8, 8, 8, 8, 8, 8, 8, 8, 8, 8, 8, 8, 8, 8, 8, 8, 8, 8, 8, 8, 8, 8, 8, 8, 8, 8, 8, 8, 8, 8, 8]
/-- rickyard/name.Right (26); calls 28 name_Of -/
def b_name_Right : Oracle → Nat → List DV → M (List DV) := fun c n args =>
  J.s args fun s args =>
  D.nil args <|
  M.join (fun st =>
    J.i .i64 st fun n1 st =>
    D.nil st <|
    M.ret [.bool (decide (n1 > 0))]) fun jk1 =>
  M.loop (fun rec1 st =>
    J.i .i64 st fun n2 st =>
    J.n st fun p st =>
    D.nil st <|
    bif Nat.blt p s.length then
    M.join (fun st => J.b st fun b1 st => D.nil st <|
      bif b1 then
        M.ret [.bool false]
      else
        rec1 [.int .i64 (wr64 (n2 + 1)), .nat (p + runeW s p)]) fun jk2 =>
    bif decide (wr64 (n2 + 1) > 8) then
      jk2 [.bool true]
    else
      M.call (c 28 [.int .i32 (runeAt s p)]) fun ds =>
      J.b ds fun x ds =>
      D.nil ds <|
      jk2 [.bool (!x)]
    else
    jk1 [.int .i64 n2]) n [.int .i64 0, .nat 0]
/-- rickyard/rickyardref04.Right (27); calls 29 ref04_Of, 12 ref04_Runes -/
def b_ref04_Right : Oracle → Nat → List DV → M (List DV) := fun c n args =>
  J.s args fun s args =>
  D.nil args <|
  M.call (c 12 [.str s]) fun ds =>
  J.l 1 ds fun x xn ds =>
  D.nil ds <|
  M.join (fun st => J.b st fun b1 st => D.nil st <|
    M.join (fun st =>
      J.b st fun ok st =>
      D.nil st <|
      M.ret [.bool ok]) fun jk2 =>
    M.loop (fun rec1 st =>
      J.b st fun ok1 st =>
      J.i .i64 st fun i st =>
      D.nil st <|
      bif decide (i < (xn : Int)) then
        M.join (fun st => J.b st fun b2 st => D.nil st <|
          rec1 [.bool b2, .int .i64 (wr64 (i + 1))]) fun jk3 =>
        bif ok1 then
          M.nn x fun i1 o =>
          M.chk (inB i xn) <|
          M.load1 i1 (i.toNat * 1 + o) fun d =>
          D.int .i64 d fun x1 =>
          M.call (c 29 [.int .i64 x1]) fun ds =>
          J.b ds fun x2 ds =>
          D.nil ds <|
          jk3 [.bool x2]
        else
          jk3 [.bool false]
      else
        jk2 [.bool ok1]) n [.bool b1, .int .i64 0]) fun jk1 =>
  bif decide ((xn : Int) > 0) then
    jk1 [.bool (decide ((xn : Int) ≤ 8))]
  else
    jk1 [.bool false]
/-- rickyard/name.Of (28); calls 54 name_spans -/
def b_name_Of : Oracle → Nat → List DV → M (List DV) := fun c n args =>
  J.i .i32 args fun r1 args =>
  D.nil args <|
  M.call (c 54 []) fun ds =>
  J.a ds fun cs ds =>
  D.len cs 12 <|
  D.nil ds <|
  M.join (fun st =>
    D.nil st <|
    M.ret [.bool false]) fun jk1 =>
  M.loop (fun rec1 st =>
    J.i .i64 st fun x st =>
    D.nil st <|
    bif decide (x < 6) then
      M.chk (inB x 6) <|
      D.len ((cs.drop (x.toNat * 2)).take 2) 2 <|
      D.nth ((cs.drop (x.toNat * 2)).take 2) 0 fun d =>
      D.int .i32 d fun x1 =>
      M.join (fun st => J.b st fun b1 st => D.nil st <|
        bif b1 then
          M.ret [.bool true]
        else
          rec1 [.int .i64 (wr64 (x + 1))]) fun jk2 =>
      bif decide (r1 ≥ x1) then
        D.nth ((cs.drop (x.toNat * 2)).take 2) 1 fun d1 =>
        D.int .i32 d1 fun x2 =>
        jk2 [.bool (decide (r1 ≤ x2))]
      else
        jk2 [.bool false]
    else
      jk1 []) n [.int .i64 0]
/-- rickyard/rickyardref04.Of (29); calls  -/
def b_ref04_Of : Oracle → Nat → List DV → M (List DV) := fun c n args =>
  J.i .i64 args fun r1 args =>
  D.nil args <|
  M.join (fun st => J.b st fun b1 st => D.nil st <|
    M.join (fun st => J.b st fun b2 st => D.nil st <|
      M.join (fun st => J.b st fun b3 st => D.nil st <|
        M.join (fun st => J.b st fun b4 st => D.nil st <|
          M.join (fun st => J.b st fun b5 st => D.nil st <|
            M.join (fun st => J.b st fun b6 st => D.nil st <|
              M.ret [.bool b6]) fun jk6 =>
            bif b5 then
              jk6 [.bool true]
            else
              M.join (fun st => J.b st fun b7 st => D.nil st <|
              jk6 [.bool b7]) fun jk7 =>
            bif decide (r1 ≥ 161) then
              jk7 [.bool (decide (r1 ≤ 65519))]
            else
              jk7 [.bool false]) fun jk5 =>
          bif b4 then
            jk5 [.bool true]
          else
            jk5 [.bool (r1 == 95)]) fun jk4 =>
        bif b3 then
          jk4 [.bool true]
        else
          jk4 [.bool (r1 == 45)]) fun jk3 =>
      bif b2 then
        jk3 [.bool true]
      else
        M.join (fun st => J.b st fun b8 st => D.nil st <|
          jk3 [.bool b8]) fun jk8 =>
        bif decide (r1 ≥ 48) then
          jk8 [.bool (decide (r1 ≤ 57))]
        else
          jk8 [.bool false]) fun jk2 =>
    bif b1 then
      jk2 [.bool true]
    else
      M.join (fun st => J.b st fun b9 st => D.nil st <|
        jk2 [.bool b9]) fun jk9 =>
      bif decide (r1 ≥ 65) then
        jk9 [.bool (decide (r1 ≤ 90))]
      else
        jk9 [.bool false]) fun jk1 =>
  bif decide (r1 ≥ 97) then
    jk1 [.bool (decide (r1 ≤ 122))]
  else
    jk1 [.bool false]
/-- rickyard/name.Runes (34); calls  -/
def b_name_Runes : Oracle → Nat → List DV → M (List DV) := fun c n args =>
  J.s args fun s args =>
  D.nil args <|
  M.base fun b0 =>
  M.join (fun st =>
    J.l 1 st fun out outn st =>
    D.nil st <|
    M.retF b0 [.slice 1 out outn]) fun jk1 =>
  M.loop (fun rec1 st =>
    J.l 1 st fun out1 out1n st =>
    J.n st fun p st =>
    D.nil st <|
    bif Nat.blt p s.length then
    M.new [.int .i32 (runeAt s p)] fun i =>
    M.load i 0 1 fun cs =>
    M.app 1 out1 out1n cs 1 17592186044416 fun p1 =>
    rec1 [.slice 1 p1 (out1n + 1), .nat (p + runeW s p)]
    else
    jk1 [.slice 1 out1 out1n]) n [.slice 0 none 0, .nat 0]
/-- rickyard/name.Compare (39); calls 34 name_Runes, 57 slices_Compare_rune_rune -/
def b_name_Compare : Oracle → Nat → List DV → M (List DV) := fun c n args =>
  J.s args fun a args =>
  J.s args fun b1 args =>
  D.nil args <|
  M.call (c 34 [.str a]) fun ds =>
  J.l 1 ds fun x xn ds =>
  D.nil ds <|
  M.call (c 34 [.str b1]) fun ds =>
  J.l 1 ds fun x1 x1n ds =>
  D.nil ds <|
  M.call (c 57 [.slice 1 x xn, .slice 1 x1 x1n]) fun ds =>
  J.i .i64 ds fun x2 ds =>
  D.nil ds <|
  M.ret [.int .i64 x2]
/-- rickyard/rickyardref04.Compare (40); calls 12 ref04_Runes -/
def b_ref04_Compare : Oracle → Nat → List DV → M (List DV) := fun c n args =>
  J.s args fun a args =>
  J.s args fun b1 args =>
  D.nil args <|
  M.call (c 12 [.str a]) fun ds =>
  J.l 1 ds fun x xn ds =>
  D.nil ds <|
  M.call (c 12 [.str b1]) fun ds =>
  J.l 1 ds fun x1 x1n ds =>
  D.nil ds <|
  M.join (fun st =>
    D.nil st <|
    bif decide ((xn : Int) < (x1n : Int)) then
      M.ret [.int .i64 (-1)]
    else
      bif decide ((xn : Int) > (x1n : Int)) then
        M.ret [.int .i64 1]
      else
        M.ret [.int .i64 0]) fun jk1 =>
  M.loop (fun rec1 st =>
    J.i .i64 st fun i st =>
    D.nil st <|
    M.join (fun st => J.b st fun b2 st => D.nil st <|
      bif b2 then
        M.nn x fun i1 o =>
        M.chk (inB i xn) <|
        M.load1 i1 (i.toNat * 1 + o) fun d =>
        D.int .i64 d fun x2 =>
        M.nn x1 fun i2 o1 =>
        M.chk (inB i x1n) <|
        M.load1 i2 (i.toNat * 1 + o1) fun d1 =>
        D.int .i64 d1 fun x3 =>
        bif decide (x2 < x3) then
          M.ret [.int .i64 (-1)]
        else
          M.nn x fun i3 o2 =>
          M.chk (inB i xn) <|
          M.load1 i3 (i.toNat * 1 + o2) fun d2 =>
          D.int .i64 d2 fun x4 =>
          M.nn x1 fun i4 o3 =>
          M.chk (inB i x1n) <|
          M.load1 i4 (i.toNat * 1 + o3) fun d3 =>
          D.int .i64 d3 fun x5 =>
          bif decide (x4 > x5) then
            M.ret [.int .i64 1]
          else
            rec1 [.int .i64 (wr64 (i + 1))]
      else
        jk1 []) fun jk2 =>
    bif decide (i < (xn : Int)) then
      jk2 [.bool (decide (i < (x1n : Int)))]
    else
      jk2 [.bool false]) n [.int .i64 0]
/-- rickyard/name.spans (54); calls  -/
def b_name_spans : Oracle → Nat → List DV → M (List DV) := fun c n args =>
  D.nil args <|
  M.ret [.agg [.int .i32 97, .int .i32 122, .int .i32 65, .int .i32 90, .int .i32 48, .int .i32 57, .int .i32 45, .int .i32 45, .int .i32 95, .int .i32 95, .int .i32 161, .int .i32 65519]]
/-- slices.Compare[[]rune,rune] (57); calls 64 cmp_Compare_rune -/
def b_slices_Compare_rune_rune : Oracle → Nat → List DV → M (List DV) := fun c n args =>
  J.l 1 args fun s1 s1n args =>
  J.l 1 args fun s2 s2n args =>
  D.nil args <|
  M.join (fun st =>
    D.nil st <|
    bif decide ((s1n : Int) < (s2n : Int)) then
      M.ret [.int .i64 (-1)]
    else
      M.ret [.int .i64 0]) fun jk1 =>
  M.loop (fun rec1 st =>
    J.i .i64 st fun x st =>
    D.nil st <|
    bif decide (x < (s1n : Int)) then
      M.nn s1 fun i o =>
      M.chk (inB x s1n) <|
      M.load1 i (x.toNat * 1 + o) fun d =>
      D.int .i32 d fun x1 =>
      bif decide (x ≥ (s2n : Int)) then
        M.ret [.int .i64 1]
      else
        M.nn s2 fun i1 o1 =>
        M.chk (inB x s2n) <|
        M.load1 i1 (x.toNat * 1 + o1) fun d1 =>
        D.int .i32 d1 fun x2 =>
        M.call (c 64 [.int .i32 x1, .int .i32 x2]) fun ds =>
        J.i .i64 ds fun x3 ds =>
        D.nil ds <|
        bif !(x3 == 0) then
          M.ret [.int .i64 x3]
        else
          rec1 [.int .i64 (wr64 (x + 1))]
    else
      jk1 []) n [.int .i64 0]
/-- internal/strconv.FormatInt (63); calls 68 strconv_small, 69 strconv_numDigits, 70 strconv_formatBase10, 71 strconv_formatBits -/
def b_strconv_FormatInt_ : Oracle → Nat → List DV → M (List DV) := fun c n args =>
  J.i .i64 args fun i args =>
  J.i .i64 args fun base args =>
  D.nil args <|
  bif base == 10 then
    M.join (fun st => J.b st fun b1 st => D.nil st <|
      bif b1 then
        M.call (c 68 [.int .i64 i]) fun ds =>
        J.s ds fun x ds =>
        D.nil ds <|
        M.ret [.str x]
      else
        M.new (List.replicate 24 (.int .u8 0)) fun a =>
        M.join (fun st =>
          J.i .u64 st fun u st =>
          D.nil st <|
          M.call (c 69 [.int .u64 u]) fun ds =>
          J.i .i64 ds fun x1 ds =>
          D.nil ds <|
          M.load a 0 24 fun _ =>
          M.chk (decide (0 ≤ wr64 (1 + x1)) && decide (wr64 (1 + x1) ≤ 24)) <|
          M.chk (decide ((1 : Int) ≤ (((wr64 (1 + x1)).toNat : Nat) : Int))) <|
          M.call (c 70 [.slice 1 (some (a, 1)) (((wr64 (1 + x1)).toNat) - 1), .int .u64 u]) fun ds =>
          D.nil ds <|
          bif decide (i < 0) then
            M.store a 0 [.int .u8 45] <|
            M.load a 0 24 fun _ =>
            M.chk (decide (0 ≤ wr64 (1 + x1)) && decide (wr64 (1 + x1) ≤ 24)) <|
            M.load a 0 ((wr64 (1 + x1)).toNat) fun cs =>
            D.oct cs fun l =>
            M.ret [.str l]
          else
            M.load a 0 24 fun _ =>
            M.chk (decide (0 ≤ wr64 (1 + x1)) && decide (wr64 (1 + x1) ≤ 24)) <|
            M.chk (decide ((1 : Int) ≤ (((wr64 (1 + x1)).toNat : Nat) : Int))) <|
            M.load a 1 (((wr64 (1 + x1)).toNat) - 1) fun cs1 =>
            D.oct cs1 fun l1 =>
            M.ret [.str l1]) fun jk2 =>
        bif decide (i < 0) then
          jk2 [.int .u64 (IntKind.wrap .u64 (0 - (IntKind.wrap .u64 (i))))]
        else
          jk2 [.int .u64 (IntKind.wrap .u64 (i))]) fun jk1 =>
    bif decide ((0 : Int) ≤ i) then
      jk1 [.bool (decide (i < 100))]
    else
      jk1 [.bool false]
  else
    M.call (c 71 [.slice 0 none 0, .int .u64 (IntKind.wrap .u64 (i)), .int .i64 base, .bool (decide (i < 0)), .bool false]) fun ds =>
    J.l 1 ds fun x2 x2n ds =>
    J.s ds fun x3 ds =>
    D.nil ds <|
    M.ret [.str x3]
/-- cmp.Compare[rune] (64); calls 72 cmp_isNaN_rune -/
def b_cmp_Compare_rune : Oracle → Nat → List DV → M (List DV) := fun c n args =>
  J.i .i32 args fun x args =>
  J.i .i32 args fun y args =>
  D.nil args <|
  M.call (c 72 [.int .i32 x]) fun ds =>
  J.b ds fun x1 ds =>
  D.nil ds <|
  M.call (c 72 [.int .i32 y]) fun ds =>
  J.b ds fun x2 ds =>
  D.nil ds <|
  bif x1 then
    bif x2 then
      M.ret [.int .i64 0]
    else
      M.ret [.int .i64 (-1)]
  else
    bif x2 then
      M.ret [.int .i64 1]
    else
      bif decide (x < y) then
        M.ret [.int .i64 (-1)]
      else
        bif decide (x > y) then
          M.ret [.int .i64 1]
        else
          M.ret [.int .i64 0]
/-- internal/strconv.small (68); calls  -/
def b_strconv_small : Oracle → Nat → List DV → M (List DV) := fun c n args =>
  J.i .i64 args fun i args =>
  D.nil args <|
  bif decide (i < 10) then
    M.chk (decide (0 ≤ wr64 (i + 1)) && decide (wr64 (i + 1) ≤ (((bs [48, 49, 50, 51, 52, 53, 54, 55, 56, 57, 97, 98, 99, 100, 101, 102, 103, 104, 105, 106, 107, 108, 109, 110, 111, 112, 113, 114, 115, 116, 117, 118, 119, 120, 121, 122]).length : Nat) : Int))) <|
    M.chk (decide (0 ≤ i) && decide (i ≤ (((wr64 (i + 1)).toNat : Nat) : Int))) <|
    M.ret [.str (((bs [48, 49, 50, 51, 52, 53, 54, 55, 56, 57, 97, 98, 99, 100, 101, 102, 103, 104, 105, 106, 107, 108, 109, 110, 111, 112, 113, 114, 115, 116, 117, 118, 119, 120, 121, 122]).take ((wr64 (i + 1)).toNat)).drop i.toNat)]
  else
    M.chk (decide (0 ≤ wr64 ((wr64 (i * 2)) + 2)) && decide (wr64 ((wr64 (i * 2)) + 2) ≤ (str_0.length : Int))) <|
    M.chk (decide (0 ≤ wr64 (i * 2)) && decide (wr64 (i * 2) ≤ (((wr64 ((wr64 (i * 2)) + 2)).toNat : Nat) : Int))) <|
    M.ret [.str ((str_0.take ((wr64 ((wr64 (i * 2)) + 2)).toNat)).drop ((wr64 (i * 2)).toNat))]
/-- internal/strconv.numDigits (69); calls 78 strconv_log10Pow2, 77 bits_Len64, 85 internal_strconv_bool2_int -/
def b_strconv_numDigits : Oracle → Nat → List DV → M (List DV) := fun c n args =>
  J.i .u64 args fun d args =>
  D.nil args <|
  M.call (c 77 [.int .u64 d]) fun ds =>
  J.i .i64 ds fun x ds =>
  D.nil ds <|
  M.call (c 78 [.int .i64 x]) fun ds =>
  J.i .i64 ds fun x1 ds =>
  D.nil ds <|
  M.chk (inB x1 20) <|
  M.load1 1 (x1.toNat * 1 + 0) fun d1 =>
  D.int .u64 d1 fun x2 =>
  M.call (c 85 [.bool (decide (d ≥ x2))]) fun ds =>
  J.i .i64 ds fun x3 ds =>
  D.nil ds <|
  M.ret [.int .i64 (wr64 (x1 + x3))]
/-- internal/strconv.formatBase10 (70); calls  -/
def b_strconv_formatBase10 : Oracle → Nat → List DV → M (List DV) := fun c n args =>
  J.l 1 args fun a an args =>
  J.i .u64 args fun u args =>
  D.nil args <|
  M.join (fun st =>
    J.i .u64 st fun u1 st =>
    J.i .i64 st fun nd st =>
    D.nil st <|
    M.join (fun st =>
      J.i .i64 st fun nd1 st =>
      J.i .u32 st fun x st =>
      D.nil st <|
      M.join (fun st =>
        J.i .i64 st fun nd2 st =>
        J.i .u32 st fun x1 st =>
        D.nil st <|
        M.join (fun st =>
          D.nil st <|
          M.ret []) fun jk4 =>
        bif decide (nd2 > 0) then
          M.nn a fun i o =>
          M.chk (inB 0 an) <|
          M.store i (0 + o) [.int .u8 (IntKind.wrap .u8 (IntKind.wrap .u32 (48 + x1)))] <|
          jk4 []
        else
          jk4 []) fun jk3 =>
      bif decide (nd1 ≥ 2) then
        M.chk (inB (IntKind.wrap .u32 ((IntKind.wrap .u32 ((x.tmod 100) * 2)) + 1)) str_0.length) <|
        M.chk (inB (IntKind.wrap .u32 ((x.tmod 100) * 2)) str_0.length) <|
        M.nn a fun i1 o1 =>
        M.chk (inB (wr64 (nd1 - 1)) an) <|
        M.store i1 (((wr64 (nd1 - 1)).toNat) * 1 + o1) [.int .u8 (byteAt str_0 (IntKind.wrap .u32 ((IntKind.wrap .u32 ((x.tmod 100) * 2)) + 1)))] <|
        M.nn a fun i2 o2 =>
        M.chk (inB (wr64 (nd1 - 2)) an) <|
        M.store i2 (((wr64 (nd1 - 2)).toNat) * 1 + o2) [.int .u8 (byteAt str_0 (IntKind.wrap .u32 ((x.tmod 100) * 2)))] <|
        jk3 [.int .i64 (wr64 (nd1 - 2)), .int .u32 (IntKind.wrap .u32 (x.tdiv 100))]
      else
        jk3 [.int .i64 nd1, .int .u32 x]) fun jk2 =>
    bif decide (nd ≥ 4) then
      M.chk (inB (IntKind.wrap .u32 ((IntKind.wrap .u32 ((((IntKind.wrap .u32 (u1)).tmod 10000).tmod 100) * 2)) + 1)) str_0.length) <|
      M.chk (inB (IntKind.wrap .u32 ((((IntKind.wrap .u32 (u1)).tmod 10000).tmod 100) * 2)) str_0.length) <|
      M.nn a fun i3 o3 =>
      M.chk (inB (wr64 (nd - 1)) an) <|
      M.store i3 (((wr64 (nd - 1)).toNat) * 1 + o3) [.int .u8 (byteAt str_0 (IntKind.wrap .u32 ((IntKind.wrap .u32 ((((IntKind.wrap .u32 (u1)).tmod 10000).tmod 100) * 2)) + 1)))] <|
      M.nn a fun i4 o4 =>
      M.chk (inB (wr64 (nd - 2)) an) <|
      M.store i4 (((wr64 (nd - 2)).toNat) * 1 + o4) [.int .u8 (byteAt str_0 (IntKind.wrap .u32 ((((IntKind.wrap .u32 (u1)).tmod 10000).tmod 100) * 2)))] <|
      M.chk (inB (IntKind.wrap .u32 ((IntKind.wrap .u32 ((IntKind.wrap .u32 (((IntKind.wrap .u32 (u1)).tmod 10000).tdiv 100)) * 2)) + 1)) str_0.length) <|
      M.chk (inB (IntKind.wrap .u32 ((IntKind.wrap .u32 (((IntKind.wrap .u32 (u1)).tmod 10000).tdiv 100)) * 2)) str_0.length) <|
      M.nn a fun i5 o5 =>
      M.chk (inB (wr64 (nd - 3)) an) <|
      M.store i5 (((wr64 (nd - 3)).toNat) * 1 + o5) [.int .u8 (byteAt str_0 (IntKind.wrap .u32 ((IntKind.wrap .u32 ((IntKind.wrap .u32 (((IntKind.wrap .u32 (u1)).tmod 10000).tdiv 100)) * 2)) + 1)))] <|
      M.nn a fun i6 o6 =>
      M.chk (inB (wr64 (nd - 4)) an) <|
      M.store i6 (((wr64 (nd - 4)).toNat) * 1 + o6) [.int .u8 (byteAt str_0 (IntKind.wrap .u32 ((IntKind.wrap .u32 (((IntKind.wrap .u32 (u1)).tmod 10000).tdiv 100)) * 2)))] <|
      jk2 [.int .i64 (wr64 (nd - 4)), .int .u32 (IntKind.wrap .u32 ((IntKind.wrap .u32 (u1)).tdiv 10000))]
    else
      jk2 [.int .i64 nd, .int .u32 (IntKind.wrap .u32 (u1))]) fun jk1 =>
  M.loop (fun rec1 st =>
    J.i .u64 st fun u2 st =>
    J.i .i64 st fun nd3 st =>
    D.nil st <|
    bif decide (nd3 ≥ 8) then
      M.chk (inB (IntKind.wrap .u32 ((IntKind.wrap .u32 ((((IntKind.wrap .u32 (u2.tmod 100000000)).tmod 10000).tmod 100) * 2)) + 1)) str_0.length) <|
      M.chk (inB (IntKind.wrap .u32 ((((IntKind.wrap .u32 (u2.tmod 100000000)).tmod 10000).tmod 100) * 2)) str_0.length) <|
      M.nn a fun i7 o7 =>
      M.chk (inB (wr64 (nd3 - 1)) an) <|
      M.store i7 (((wr64 (nd3 - 1)).toNat) * 1 + o7) [.int .u8 (byteAt str_0 (IntKind.wrap .u32 ((IntKind.wrap .u32 ((((IntKind.wrap .u32 (u2.tmod 100000000)).tmod 10000).tmod 100) * 2)) + 1)))] <|
      M.nn a fun i8 o8 =>
      M.chk (inB (wr64 (nd3 - 2)) an) <|
      M.store i8 (((wr64 (nd3 - 2)).toNat) * 1 + o8) [.int .u8 (byteAt str_0 (IntKind.wrap .u32 ((((IntKind.wrap .u32 (u2.tmod 100000000)).tmod 10000).tmod 100) * 2)))] <|
      M.chk (inB (IntKind.wrap .u32 ((IntKind.wrap .u32 ((IntKind.wrap .u32 (((IntKind.wrap .u32 (u2.tmod 100000000)).tmod 10000).tdiv 100)) * 2)) + 1)) str_0.length) <|
      M.chk (inB (IntKind.wrap .u32 ((IntKind.wrap .u32 (((IntKind.wrap .u32 (u2.tmod 100000000)).tmod 10000).tdiv 100)) * 2)) str_0.length) <|
      M.nn a fun i9 o9 =>
      M.chk (inB (wr64 (nd3 - 3)) an) <|
      M.store i9 (((wr64 (nd3 - 3)).toNat) * 1 + o9) [.int .u8 (byteAt str_0 (IntKind.wrap .u32 ((IntKind.wrap .u32 ((IntKind.wrap .u32 (((IntKind.wrap .u32 (u2.tmod 100000000)).tmod 10000).tdiv 100)) * 2)) + 1)))] <|
      M.nn a fun i10 o10 =>
      M.chk (inB (wr64 (nd3 - 4)) an) <|
      M.store i10 (((wr64 (nd3 - 4)).toNat) * 1 + o10) [.int .u8 (byteAt str_0 (IntKind.wrap .u32 ((IntKind.wrap .u32 (((IntKind.wrap .u32 (u2.tmod 100000000)).tmod 10000).tdiv 100)) * 2)))] <|
      M.chk (inB (IntKind.wrap .u32 ((IntKind.wrap .u32 (((IntKind.wrap .u32 ((IntKind.wrap .u32 (u2.tmod 100000000)).tdiv 10000)).tmod 100) * 2)) + 1)) str_0.length) <|
      M.chk (inB (IntKind.wrap .u32 (((IntKind.wrap .u32 ((IntKind.wrap .u32 (u2.tmod 100000000)).tdiv 10000)).tmod 100) * 2)) str_0.length) <|
      M.nn a fun i11 o11 =>
      M.chk (inB (wr64 (nd3 - 5)) an) <|
      M.store i11 (((wr64 (nd3 - 5)).toNat) * 1 + o11) [.int .u8 (byteAt str_0 (IntKind.wrap .u32 ((IntKind.wrap .u32 (((IntKind.wrap .u32 ((IntKind.wrap .u32 (u2.tmod 100000000)).tdiv 10000)).tmod 100) * 2)) + 1)))] <|
      M.nn a fun i12 o12 =>
      M.chk (inB (wr64 (nd3 - 6)) an) <|
      M.store i12 (((wr64 (nd3 - 6)).toNat) * 1 + o12) [.int .u8 (byteAt str_0 (IntKind.wrap .u32 (((IntKind.wrap .u32 ((IntKind.wrap .u32 (u2.tmod 100000000)).tdiv 10000)).tmod 100) * 2)))] <|
      M.chk (inB (IntKind.wrap .u32 ((IntKind.wrap .u32 ((IntKind.wrap .u32 ((IntKind.wrap .u32 ((IntKind.wrap .u32 (u2.tmod 100000000)).tdiv 10000)).tdiv 100)) * 2)) + 1)) str_0.length) <|
      M.chk (inB (IntKind.wrap .u32 ((IntKind.wrap .u32 ((IntKind.wrap .u32 ((IntKind.wrap .u32 (u2.tmod 100000000)).tdiv 10000)).tdiv 100)) * 2)) str_0.length) <|
      M.nn a fun i13 o13 =>
      M.chk (inB (wr64 (nd3 - 7)) an) <|
      M.store i13 (((wr64 (nd3 - 7)).toNat) * 1 + o13) [.int .u8 (byteAt str_0 (IntKind.wrap .u32 ((IntKind.wrap .u32 ((IntKind.wrap .u32 ((IntKind.wrap .u32 ((IntKind.wrap .u32 (u2.tmod 100000000)).tdiv 10000)).tdiv 100)) * 2)) + 1)))] <|
      M.nn a fun i14 o14 =>
      M.chk (inB (wr64 (nd3 - 8)) an) <|
      M.store i14 (((wr64 (nd3 - 8)).toNat) * 1 + o14) [.int .u8 (byteAt str_0 (IntKind.wrap .u32 ((IntKind.wrap .u32 ((IntKind.wrap .u32 ((IntKind.wrap .u32 (u2.tmod 100000000)).tdiv 10000)).tdiv 100)) * 2)))] <|
      rec1 [.int .u64 (IntKind.wrap .u64 (u2.tdiv 100000000)), .int .i64 (wr64 (nd3 - 8))]
    else
      jk1 [.int .u64 u2, .int .i64 nd3]) n [.int .u64 u, .int .i64 (an : Int)]
/-- internal/strconv.formatBits (71); calls 79 strconv_isPowerOfTwo, 80 bits_TrailingZeros -/
def b_strconv_formatBits : Oracle → Nat → List DV → M (List DV) := fun c n args =>
  J.l 1 args fun dst dstn args =>
  J.i .u64 args fun u args =>
  J.i .i64 args fun base args =>
  J.b args fun neg args =>
  J.b args fun append args =>
  D.nil args <|
  M.base fun b0 =>
  M.join (fun st => J.b st fun b1 st => D.nil st <|
    M.join (fun st => J.b st fun b2 st => D.nil st <|
      M.join (fun st =>
        D.nil st <|
        M.new (List.replicate 65 (.int .u8 0)) fun a =>
        M.join (fun st =>
          J.i .u64 st fun u1 st =>
          D.nil st <|
          M.call (c 79 [.int .i64 base]) fun ds =>
          J.b ds fun x ds =>
          D.nil ds <|
          M.join (fun st =>
            J.i .i64 st fun i st =>
            D.nil st <|
            M.join (fun st =>
              J.i .i64 st fun i1 st =>
            D.nil st <|
            bif append then
              M.load a 0 65 fun _ =>
            M.chk (decide (0 ≤ i1) && decide (i1 ≤ 65)) <|
            M.load a (i1.toNat * 1) ((65 - i1.toNat) * 1) fun cs =>
            M.app 1 dst dstn cs (65 - i1.toNat) 70368744177664 fun p =>
            M.retF b0 [.slice 1 p (dstn + (65 - i1.toNat)), .str (bs [])]
            else
              M.load a 0 65 fun _ =>
            M.chk (decide (0 ≤ i1) && decide (i1 ≤ 65)) <|
            M.load a (i1.toNat * 1) (65 - i1.toNat) fun cs1 =>
            D.oct cs1 fun l =>
            M.retF b0 [.slice 0 none 0, .str l]) fun jk6 =>
            bif neg then
              M.chk (inB (wr64 (i - 1)) 65) <|
            M.store a (((wr64 (i - 1)).toNat) * 1 + 0) [.int .u8 45] <|
            jk6 [.int .i64 (wr64 (i - 1))]
            else
              jk6 [.int .i64 i]) fun jk5 =>
          bif x then
            M.call (c 80 [.int .u64 (IntKind.wrap .u64 (base))]) fun ds =>
            J.i .i64 ds fun x1 ds =>
            D.nil ds <|
            M.join (fun st =>
              J.i .u64 st fun u2 st =>
            J.i .i64 st fun i2 st =>
            D.nil st <|
            M.chk (inB u2 ((bs [48, 49, 50, 51, 52, 53, 54, 55, 56, 57, 97, 98, 99, 100, 101, 102, 103, 104, 105, 106, 107, 108, 109, 110, 111, 112, 113, 114, 115, 116, 117, 118, 119, 120, 121, 122]).length)) <|
            M.chk (inB (wr64 (i2 - 1)) 65) <|
            M.store a (((wr64 (i2 - 1)).toNat) * 1 + 0) [.int .u8 (byteAt (bs [48, 49, 50, 51, 52, 53, 54, 55, 56, 57, 97, 98, 99, 100, 101, 102, 103, 104, 105, 106, 107, 108, 109, 110, 111, 112, 113, 114, 115, 116, 117, 118, 119, 120, 121, 122]) u2)] <|
            jk5 [.int .i64 (wr64 (i2 - 1))]) fun jk7 =>
            M.loop (fun rec1 st =>
              J.i .u64 st fun u3 st =>
            J.i .i64 st fun i3 st =>
            D.nil st <|
            bif decide (u3 ≥ IntKind.wrap .u64 (base)) then
              M.chk (inB (bits .and .u64 u3 (IntKind.wrap .u64 ((IntKind.wrap .u64 (base)) - 1))) ((bs [48, 49, 50, 51, 52, 53, 54, 55, 56, 57, 97, 98, 99, 100, 101, 102, 103, 104, 105, 106, 107, 108, 109, 110, 111, 112, 113, 114, 115, 116, 117, 118, 119, 120, 121, 122]).length)) <|
            M.chk (inB (wr64 (i3 - 1)) 65) <|
            M.store a (((wr64 (i3 - 1)).toNat) * 1 + 0) [.int .u8 (byteAt (bs [48, 49, 50, 51, 52, 53, 54, 55, 56, 57, 97, 98, 99, 100, 101, 102, 103, 104, 105, 106, 107, 108, 109, 110, 111, 112, 113, 114, 115, 116, 117, 118, 119, 120, 121, 122]) (bits .and .u64 u3 (IntKind.wrap .u64 ((IntKind.wrap .u64 (base)) - 1))))] <|
            M.chk (decide (0 ≤ IntKind.wrap .u64 (x1))) <|
            rec1 [.int .u64 (u3.fdiv (2 ^ (min (IntKind.wrap .u64 (x1)).toNat 64))), .int .i64 (wr64 (i3 - 1))]
            else
              jk7 [.int .u64 u3, .int .i64 i3]) n [.int .u64 u1, .int .i64 65]
          else
            M.join (fun st =>
              J.i .u64 st fun u4 st =>
            J.i .i64 st fun i4 st =>
            D.nil st <|
            M.chk (inB u4 ((bs [48, 49, 50, 51, 52, 53, 54, 55, 56, 57, 97, 98, 99, 100, 101, 102, 103, 104, 105, 106, 107, 108, 109, 110, 111, 112, 113, 114, 115, 116, 117, 118, 119, 120, 121, 122]).length)) <|
            M.chk (inB (wr64 (i4 - 1)) 65) <|
            M.store a (((wr64 (i4 - 1)).toNat) * 1 + 0) [.int .u8 (byteAt (bs [48, 49, 50, 51, 52, 53, 54, 55, 56, 57, 97, 98, 99, 100, 101, 102, 103, 104, 105, 106, 107, 108, 109, 110, 111, 112, 113, 114, 115, 116, 117, 118, 119, 120, 121, 122]) u4)] <|
            jk5 [.int .i64 (wr64 (i4 - 1))]) fun jk8 =>
            M.loop (fun rec2 st =>
              J.i .u64 st fun u5 st =>
            J.i .i64 st fun i5 st =>
            D.nil st <|
            bif decide (u5 ≥ IntKind.wrap .u64 (base)) then
              M.chk (!((IntKind.wrap .u64 (base)) == 0)) <|
            M.chk (inB (IntKind.wrap .u64 (u5 - (IntKind.wrap .u64 ((IntKind.wrap .u64 (u5.tdiv (IntKind.wrap .u64 (base)))) * (IntKind.wrap .u64 (base)))))) ((bs [48, 49, 50, 51, 52, 53, 54, 55, 56, 57, 97, 98, 99, 100, 101, 102, 103, 104, 105, 106, 107, 108, 109, 110, 111, 112, 113, 114, 115, 116, 117, 118, 119, 120, 121, 122]).length)) <|
            M.chk (inB (wr64 (i5 - 1)) 65) <|
            M.store a (((wr64 (i5 - 1)).toNat) * 1 + 0) [.int .u8 (byteAt (bs [48, 49, 50, 51, 52, 53, 54, 55, 56, 57, 97, 98, 99, 100, 101, 102, 103, 104, 105, 106, 107, 108, 109, 110, 111, 112, 113, 114, 115, 116, 117, 118, 119, 120, 121, 122]) (IntKind.wrap .u64 (u5 - (IntKind.wrap .u64 ((IntKind.wrap .u64 (u5.tdiv (IntKind.wrap .u64 (base)))) * (IntKind.wrap .u64 (base)))))))] <|
            rec2 [.int .u64 (IntKind.wrap .u64 (u5.tdiv (IntKind.wrap .u64 (base)))), .int .i64 (wr64 (i5 - 1))]
            else
              jk8 [.int .u64 u5, .int .i64 i5]) n [.int .u64 u1, .int .i64 65]) fun jk4 =>
        bif neg then
          jk4 [.int .u64 (IntKind.wrap .u64 (0 - u))]
        else
          jk4 [.int .u64 u]) fun jk3 =>
      bif b2 then
        M.pan
      else
        jk3 []) fun jk2 =>
    bif b1 then
      jk2 [.bool true]
    else
      jk2 [.bool (decide (base > 36))]) fun jk1 =>
  bif decide (base < 2) then
    jk1 [.bool true]
  else
    jk1 [.bool (base == 10)]
/-- cmp.isNaN[rune] (72); calls  -/
def b_cmp_isNaN_rune : Oracle → Nat → List DV → M (List DV) := fun c n args =>
  J.i .i32 args fun x args =>
  D.nil args <|
  M.ret [.bool (!(x == x))]
/-- math/bits.Len64 (77); calls  -/
def b_bits_Len64 : Oracle → Nat → List DV → M (List DV) := fun c n args =>
  J.i .u64 args fun x args =>
  D.nil args <|
  M.join (fun st =>
    J.i .u64 st fun x1 st =>
    J.i .i64 st fun n1 st =>
    D.nil st <|
    M.join (fun st =>
      J.i .u64 st fun x2 st =>
      J.i .i64 st fun n2 st =>
      D.nil st <|
      M.join (fun st =>
        J.i .u64 st fun x3 st =>
        J.i .i64 st fun n3 st =>
        D.nil st <|
        M.chk (inB (IntKind.wrap .u8 (x3)) str_2.length) <|
        M.ret [.int .i64 (wr64 (n3 + (wr64 (byteAt str_2 (IntKind.wrap .u8 (x3))))))]) fun jk3 =>
      bif decide (x2 ≥ 256) then
        jk3 [.int .u64 (x2.fdiv (2 ^ 8)), .int .i64 (wr64 (n2 + 8))]
      else
        jk3 [.int .u64 x2, .int .i64 n2]) fun jk2 =>
    bif decide (x1 ≥ 65536) then
      jk2 [.int .u64 (x1.fdiv (2 ^ 16)), .int .i64 (wr64 (n1 + 16))]
    else
      jk2 [.int .u64 x1, .int .i64 n1]) fun jk1 =>
  bif decide (x ≥ 4294967296) then
    jk1 [.int .u64 (x.fdiv (2 ^ 32)), .int .i64 32]
  else
    jk1 [.int .u64 x, .int .i64 0]
/-- internal/strconv.log10Pow2 (78); calls  -/
def b_strconv_log10Pow2 : Oracle → Nat → List DV → M (List DV) := fun c n args =>
  J.i .i64 args fun x args =>
  D.nil args <|
  M.ret [.int .i64 ((wr64 (x * 78913)).fdiv (2 ^ 18))]
/-- internal/strconv.isPowerOfTwo (79); calls  -/
def b_strconv_isPowerOfTwo : Oracle → Nat → List DV → M (List DV) := fun c n args =>
  J.i .i64 args fun x args =>
  D.nil args <|
  M.ret [.bool ((bits .and .i64 x (wr64 (x - 1))) == 0)]
/-- math/bits.TrailingZeros (80); calls 86 bits_TrailingZeros64 -/
def b_bits_TrailingZeros : Oracle → Nat → List DV → M (List DV) := fun c n args =>
  J.i .u64 args fun x args =>
  D.nil args <|
  M.call (c 86 [.int .u64 x]) fun ds =>
  J.i .i64 ds fun x1 ds =>
  D.nil ds <|
  M.ret [.int .i64 x1]
/-- internal/strconv.bool2[int] (85); calls  -/
def b_internal_strconv_bool2_int : Oracle → Nat → List DV → M (List DV) := fun c n args =>
  J.b args fun b1 args =>
  D.nil args <|
  bif b1 then
    M.ret [.int .i64 1]
  else
    M.ret [.int .i64 0]
end
structure H_name_spans (Bd : Bodies) : Prop where
  eq : Bd 54 = b_name_spans
structure H_name_Of (Bd : Bodies) : Prop where
  eq : Bd 28 = b_name_Of
  name_spans : H_name_spans Bd
structure H_name_Right (Bd : Bodies) : Prop where
  eq : Bd 26 = b_name_Right
  name_Of : H_name_Of Bd
structure H_strconv_small (Bd : Bodies) : Prop where
  eq : Bd 68 = b_strconv_small
structure H_strconv_log10Pow2 (Bd : Bodies) : Prop where
  eq : Bd 78 = b_strconv_log10Pow2
structure H_bits_Len64 (Bd : Bodies) : Prop where
  eq : Bd 77 = b_bits_Len64
structure H_internal_strconv_bool2_int (Bd : Bodies) : Prop where
  eq : Bd 85 = b_internal_strconv_bool2_int
structure H_strconv_numDigits (Bd : Bodies) : Prop where
  eq : Bd 69 = b_strconv_numDigits
  strconv_log10Pow2 : H_strconv_log10Pow2 Bd
  bits_Len64 : H_bits_Len64 Bd
  internal_strconv_bool2_int : H_internal_strconv_bool2_int Bd
structure H_strconv_formatBase10 (Bd : Bodies) : Prop where
  eq : Bd 70 = b_strconv_formatBase10
structure H_strconv_isPowerOfTwo (Bd : Bodies) : Prop where
  eq : Bd 79 = b_strconv_isPowerOfTwo
structure H_bits_TrailingZeros64 (Bd : Bodies) : Prop where
  eq16 : ∀ c n, Bd 86 c n [.int .u64 16] = M.load1 2 15 fun d => D.int .u8 d fun x1 => M.ret [.int .i64 (wr64 x1)]
structure H_bits_TrailingZeros (Bd : Bodies) : Prop where
  eq : Bd 80 = b_bits_TrailingZeros
  bits_TrailingZeros64 : H_bits_TrailingZeros64 Bd
structure H_strconv_formatBits (Bd : Bodies) : Prop where
  eq : Bd 71 = b_strconv_formatBits
  strconv_isPowerOfTwo : H_strconv_isPowerOfTwo Bd
  bits_TrailingZeros : H_bits_TrailingZeros Bd
structure H_strconv_FormatInt_ (Bd : Bodies) : Prop where
  eq : Bd 63 = b_strconv_FormatInt_
  strconv_small : H_strconv_small Bd
  strconv_numDigits : H_strconv_numDigits Bd
  strconv_formatBase10 : H_strconv_formatBase10 Bd
  strconv_formatBits : H_strconv_formatBits Bd
structure H_ref04_Of (Bd : Bodies) : Prop where
  eq : Bd 29 = b_ref04_Of
structure H_ref04_Right (Bd : Bodies) : Prop where
  eq : Bd 27 = b_ref04_Right
  ref04_Of : H_ref04_Of Bd
  ref04_Runes : H_ref04_Runes Bd
structure H_name_Runes (Bd : Bodies) : Prop where
  eq : Bd 34 = b_name_Runes
structure H_cmp_isNaN_rune (Bd : Bodies) : Prop where
  eq : Bd 72 = b_cmp_isNaN_rune
structure H_cmp_Compare_rune (Bd : Bodies) : Prop where
  eq : Bd 64 = b_cmp_Compare_rune
  cmp_isNaN_rune : H_cmp_isNaN_rune Bd
structure H_slices_Compare_rune_rune (Bd : Bodies) : Prop where
  eq : Bd 57 = b_slices_Compare_rune_rune
  cmp_Compare_rune : H_cmp_Compare_rune Bd
structure H_name_Compare (Bd : Bodies) : Prop where
  eq : Bd 39 = b_name_Compare
  name_Runes : H_name_Runes Bd
  slices_Compare_rune_rune : H_slices_Compare_rune_rune Bd
structure H_ref04_Compare (Bd : Bodies) : Prop where
  eq : Bd 40 = b_ref04_Compare
  ref04_Runes : H_ref04_Runes Bd
end Go.Gv

/- Functions of the program, as the machine runs them: written by gvseat.py. -/
namespace Go.Gv
set_option linter.unusedVariables false
set_option maxRecDepth 10000
set_option maxHeartbeats 4000000
noncomputable section
end
structure H_strings_Join (Bd : Bodies) : Prop where
  eq : Bd 14 = lib_Join
end Go.Gv

/- Functions of the program, as the machine runs them: written by gvseat.py. -/
namespace Go.Gv
set_option linter.unusedVariables false
set_option maxRecDepth 10000
set_option maxHeartbeats 4000000
noncomputable section
/-- rickyard/digit.Show (49); calls 60 strconv_Itoa -/
def b_digit_Show : Oracle → Nat → List DV → M (List DV) := fun c n args =>
  J.i .i64 args fun n1 args =>
  D.nil args <|
  M.call (c 60 [.int .i64 n1]) fun ds =>
  J.s ds fun x ds =>
  D.nil ds <|
  M.ret [.str x]
/-- rickyard/digit.Read (50); calls 62 digit_reader_takes, 61 digit_reader_number -/
def b_digit_Read : Oracle → Nat → List DV → M (List DV) := fun c n args =>
  J.s args fun s args =>
  D.nil args <|
  M.new [.int .i64 0, .int .i64 0, .bool false] fun x =>
  M.join (fun st =>
    D.nil st <|
    M.call (c 61 [.ptr (some (x, 0))]) fun ds =>
    J.i .i64 ds fun x1 ds =>
    J.b ds fun x2 ds =>
    D.nil ds <|
    M.ret [.int .i64 x1, .bool x2]) fun jk1 =>
  M.loop (fun rec1 st =>
    J.n st fun p st =>
    D.nil st <|
    bif Nat.blt p s.length then
    M.call (c 62 [.ptr (some (x, 0)), .int .i32 (runeAt s p)]) fun ds =>
    J.b ds fun x3 ds =>
    D.nil ds <|
    bif !x3 then
      M.ret [.int .i64 0, .bool false]
    else
      rec1 [.nat (p + runeW s p)]
    else
    jk1 []) n [.nat 0]
/-- rickyard/rickyardref03.Show (51); calls  -/
def b_ref03_Show : Oracle → Nat → List DV → M (List DV) := fun c n args =>
  J.i .i64 args fun n1 args =>
  D.nil args <|
  bif n1 == 0 then
    M.ret [.str (bs [48])]
  else
    M.join (fun st =>
      J.s st fun s st =>
      D.nil st <|
      bif decide (n1 < 0) then
        M.chk (Nat.ble ((bs [45]).length + s.length) 4611686018427387904) <|
        M.ret [.str ((bs [45]) ++ s)]
      else
        M.ret [.str s]) fun jk1 =>
    M.loop (fun rec1 st =>
      J.s st fun s1 st =>
      J.i .i64 st fun m st =>
      D.nil st <|
      bif !(m == 0) then
        M.join (fun st =>
          J.i .i64 st fun d st =>
          D.nil st <|
          M.new [.int .u8 (IntKind.wrap .u8 (wr64 (48 + d)))] fun i =>
          M.load i 0 1 fun cs =>
          D.oct cs fun l =>
          M.chk (Nat.ble (l.length + s1.length) 4611686018427387904) <|
          rec1 [.str (l ++ s1), .int .i64 (wr64 (m.tdiv 10))]) fun jk2 =>
        bif decide (m.tmod 10 < 0) then
          jk2 [.int .i64 (wr64 (0 - (m.tmod 10)))]
        else
          jk2 [.int .i64 (m.tmod 10)]
      else
        jk1 [.str s1]) n [.str (bs []), .int .i64 n1]
/-- rickyard/rickyardref03.Read (53); calls 51 ref03_Show -/
def b_ref03_Read : Oracle → Nat → List DV → M (List DV) := fun c n args =>
  J.s args fun s args =>
  D.nil args <|
  bif decide ((s.length : Int) > 20) then
    M.ret [.int .i64 0, .bool false]
  else
    M.join (fun st =>
      J.i .i64 st fun n1 st =>
      D.nil st <|
      M.call (c 51 [.int .i64 n1]) fun ds =>
      J.s ds fun x ds =>
      D.nil ds <|
      bif !(x == s) then
        M.ret [.int .i64 0, .bool false]
      else
        M.ret [.int .i64 n1, .bool true]) fun jk1 =>
    M.loop (fun rec1 st =>
      J.i .i64 st fun n2 st =>
      J.i .i64 st fun i st =>
      D.nil st <|
      bif decide (i < (s.length : Int)) then
        M.join (fun st => J.b st fun b1 st => D.nil st <|
          M.join (fun st =>
            J.i .i64 st fun n3 st =>
            D.nil st <|
            rec1 [.int .i64 n3, .int .i64 (wr64 (i + 1))]) fun jk3 =>
          bif b1 then
            M.chk (inB i s.length) <|
            M.chk (inB 0 s.length) <|
            M.join (fun st =>
              J.i .i64 st fun d st =>
            D.nil st <|
            jk3 [.int .i64 (wr64 ((wr64 (n2 * 10)) + d))]) fun jk4 =>
            bif (byteAt s 0) == 45 then
              jk4 [.int .i64 (wr64 (0 - (wr64 ((wr64 (byteAt s i)) - 48))))]
            else
              jk4 [.int .i64 (wr64 ((wr64 (byteAt s i)) - 48))]
          else
            jk3 [.int .i64 n2]) fun jk2 =>
        bif decide (i > 0) then
          jk2 [.bool true]
        else
          M.chk (inB 0 s.length) <|
          jk2 [.bool (!((byteAt s 0) == 45))]
      else
        jk1 [.int .i64 n2]) n [.int .i64 0, .int .i64 0]
/-- rickyard/digit.ReadHandle (59); calls 50 digit_Read, 66 strings_Cut -/
def b_digit_ReadHandle : Oracle → Nat → List DV → M (List DV) := fun c n args =>
  J.s args fun s args =>
  D.nil args <|
  M.call (c 66 [.str s, .str (bs [46])]) fun ds =>
  J.s ds fun x ds =>
  J.s ds fun x1 ds =>
  J.b ds fun x2 ds =>
  D.nil ds <|
  M.call (c 50 [.str x]) fun ds =>
  J.i .i64 ds fun x3 ds =>
  J.b ds fun x4 ds =>
  D.nil ds <|
  M.call (c 50 [.str x1]) fun ds =>
  J.i .i64 ds fun x5 ds =>
  J.b ds fun x6 ds =>
  D.nil ds <|
  M.join (fun st => J.b st fun b1 st => D.nil st <|
    M.join (fun st => J.b st fun b2 st => D.nil st <|
      M.join (fun st => J.b st fun b3 st => D.nil st <|
        bif b3 then
          M.ret [.agg [.int .i64 0, .int .i64 0], .bool false]
        else
          M.ret [.agg [.int .i64 x3, .int .i64 x5], .bool true]) fun jk3 =>
      bif b2 then
        jk3 [.bool true]
      else
        jk3 [.bool (decide ((if x5 < x3 then x5 else x3) < 0))]) fun jk2 =>
    bif b1 then
      jk2 [.bool true]
    else
      jk2 [.bool (!x6)]) fun jk1 =>
  bif !x2 then
    jk1 [.bool true]
  else
    jk1 [.bool (!x4)]
/-- strconv.Itoa (60); calls 67 strconv_Itoa_ -/
def b_strconv_Itoa : Oracle → Nat → List DV → M (List DV) := fun c n args =>
  J.i .i64 args fun i args =>
  D.nil args <|
  M.call (c 67 [.int .i64 i]) fun ds =>
  J.s ds fun x ds =>
  D.nil ds <|
  M.ret [.str x]
/-- (*rickyard/digit.reader).number (61); calls  -/
def b_digit_reader_number : Oracle → Nat → List DV → M (List DV) := fun c n args =>
  J.p args fun x args =>
  D.nil args <|
  M.nn x fun i o =>
  M.load1 i (o + 1) fun d =>
  D.int .i64 d fun x1 =>
  M.join (fun st =>
    J.b st fun x2 st =>
    D.nil st <|
    bif x2 then
      M.ret [.int .i64 0, .bool false]
    else
      M.nn x fun i1 o1 =>
      M.load1 i1 (o1 + 2) fun d1 =>
      D.bool d1 fun x3 =>
      bif x3 then
        M.nn x fun i2 o2 =>
        M.load1 i2 o2 fun d2 =>
        D.int .i64 d2 fun x4 =>
        M.ret [.int .i64 x4, .bool true]
      else
        M.nn x fun i3 o3 =>
        M.load1 i3 o3 fun d3 =>
        D.int .i64 d3 fun x5 =>
        M.ret [.int .i64 (wr64 (0 - x5)), .bool true]) fun jk1 =>
  bif x1 == 0 then
    jk1 [.bool (x1 == 0)]
  else
    M.nn x fun i4 o4 =>
    M.load1 i4 (o4 + 2) fun d4 =>
    D.bool d4 fun x6 =>
    M.join (fun st => J.b st fun b1 st => D.nil st <|
      M.join (fun st =>
        J.b st fun x7 st =>
        D.nil st <|
        jk1 [.bool x7]) fun jk3 =>
      bif b1 then
        jk3 [.bool b1]
      else
        M.nn x fun i5 o5 =>
        M.load1 i5 (o5 + 2) fun d5 =>
        D.bool d5 fun x8 =>
        M.join (fun st => J.b st fun b2 st => D.nil st <|
          jk3 [.bool b2]) fun jk4 =>
        bif !x8 then
          M.nn x fun i6 o6 =>
          M.load1 i6 o6 fun d6 =>
          D.int .i64 d6 fun x9 =>
          jk4 [.bool (x9 == (-9223372036854775808))]
        else
          jk4 [.bool false]) fun jk2 =>
    bif x6 then
      M.nn x fun i7 o7 =>
      M.load1 i7 o7 fun d7 =>
      D.int .i64 d7 fun x10 =>
      jk2 [.bool (x10 == 0)]
    else
      jk2 [.bool false]
/-- (*rickyard/digit.reader).takes (62); calls  -/
def b_digit_reader_takes : Oracle → Nat → List DV → M (List DV) := fun c n args =>
  J.p args fun x args =>
  J.i .i32 args fun r1 args =>
  D.nil args <|
  M.join (fun st => J.b st fun b1 st => D.nil st <|
    M.join (fun st => J.b st fun b2 st => D.nil st <|
      bif b2 then
        M.nn x fun i o =>
        M.store i (o + 2) [.bool true] <|
        M.ret [.bool true]
      else
        M.join (fun st => J.b st fun b3 st => D.nil st <|
          M.join (fun st => J.b st fun b4 st => D.nil st <|
            bif b4 then
              M.ret [.bool false]
            else
              M.nn x fun i1 o1 =>
            M.load1 i1 o1 fun d =>
            D.int .i64 d fun x1 =>
            bif decide (x1 < wr64 ((wr64 ((-9223372036854775808) + (wr64 (IntKind.wrap .i32 (r1 - 48))))).tdiv 10)) then
              M.ret [.bool false]
            else
              M.nn x fun i2 o2 =>
            M.load1 i2 o2 fun d1 =>
            D.int .i64 d1 fun x2 =>
            M.nn x fun i3 o3 =>
            M.store i3 o3 [.int .i64 (wr64 ((wr64 (10 * x2)) - (wr64 (IntKind.wrap .i32 (r1 - 48)))))] <|
            M.nn x fun i4 o4 =>
            M.load1 i4 (o4 + 1) fun d2 =>
            D.int .i64 d2 fun x3 =>
            M.nn x fun i5 o5 =>
            M.store i5 (o5 + 1) [.int .i64 (wr64 (x3 + 1))] <|
            M.ret [.bool true]) fun jk4 =>
          bif b3 then
            jk4 [.bool true]
          else
            M.nn x fun i6 o6 =>
            M.load1 i6 (o6 + 1) fun d3 =>
            D.int .i64 d3 fun x4 =>
            M.join (fun st => J.b st fun b5 st => D.nil st <|
              jk4 [.bool b5]) fun jk5 =>
            bif decide (x4 > 0) then
              M.nn x fun i7 o7 =>
            M.load1 i7 o7 fun d4 =>
            D.int .i64 d4 fun x5 =>
            jk5 [.bool (x5 == 0)]
            else
              jk5 [.bool false]) fun jk3 =>
        bif decide (r1 < 48) then
          jk3 [.bool true]
        else
          jk3 [.bool (decide (r1 > 57))]) fun jk2 =>
    bif b1 then
      M.nn x fun i8 o8 =>
      M.load1 i8 (o8 + 2) fun d5 =>
      D.bool d5 fun x6 =>
      jk2 [.bool (!x6)]
    else
      jk2 [.bool false]) fun jk1 =>
  bif r1 == 45 then
    M.nn x fun i9 o9 =>
    M.load1 i9 (o9 + 1) fun d6 =>
    D.int .i64 d6 fun x7 =>
    jk1 [.bool (x7 == 0)]
  else
    jk1 [.bool false]
/-- strings.Cut (66); calls 76 stringslite_Cut -/
def b_strings_Cut : Oracle → Nat → List DV → M (List DV) := fun c n args =>
  J.s args fun s args =>
  J.s args fun sep args =>
  D.nil args <|
  M.call (c 76 [.str s, .str sep]) fun ds =>
  J.s ds fun x ds =>
  J.s ds fun x1 ds =>
  J.b ds fun x2 ds =>
  D.nil ds <|
  M.ret [.str x, .str x1, .bool x2]
/-- internal/strconv.Itoa (67); calls 63 strconv_FormatInt_ -/
def b_strconv_Itoa_ : Oracle → Nat → List DV → M (List DV) := fun c n args =>
  J.i .i64 args fun i args =>
  D.nil args <|
  M.call (c 63 [.int .i64 i, .int .i64 10]) fun ds =>
  J.s ds fun x ds =>
  D.nil ds <|
  M.ret [.str x]
/-- internal/stringslite.Cut (76); calls 84 stringslite_Index -/
def b_stringslite_Cut : Oracle → Nat → List DV → M (List DV) := fun c n args =>
  J.s args fun s args =>
  J.s args fun sep args =>
  D.nil args <|
  M.call (c 84 [.str s, .str sep]) fun ds =>
  J.i .i64 ds fun x ds =>
  D.nil ds <|
  bif decide (x ≥ 0) then
    M.chk (decide (0 ≤ x) && decide (x ≤ (s.length : Int))) <|
    M.chk (decide (0 ≤ wr64 (x + (sep.length : Int))) && decide (wr64 (x + (sep.length : Int)) ≤ (s.length : Int))) <|
    M.ret [.str (s.take x.toNat), .str (s.drop ((wr64 (x + (sep.length : Int))).toNat)), .bool true]
  else
    M.ret [.str s, .str (bs []), .bool false]
/-- internal/stringslite.Index (84); calls 88 stringslite_IndexByte -/
def b_stringslite_Index : Oracle → Nat → List DV → M (List DV) := fun c n args =>
  J.s args fun s args =>
  J.s args fun substr args =>
  D.nil args <|
  M.join (fun st => J.b st fun b1 st => D.nil st <|
    bif b1 then
      M.ret [.int .i64 0]
    else
      bif (substr.length : Int) == 1 then
        M.chk (inB 0 substr.length) <|
        M.call (c 88 [.str s, .int .u8 (byteAt substr 0)]) fun ds =>
        J.i .i64 ds fun x ds =>
        D.nil ds <|
        M.ret [.int .i64 x]
      else
        bif decide ((substr.length : Int) ≥ (s.length : Int)) then
          M.ret [.int .i64 (-1)]
        else
          fail) fun jk1 =>
  bif (substr.length : Int) == 0 then
    jk1 [.bool true]
  else
    jk1 [.bool (substr == s)]
/-- internal/stringslite.IndexByte (88); calls 89 bytealg_IndexByteString -/
def b_stringslite_IndexByte : Oracle → Nat → List DV → M (List DV) := fun c n args =>
  J.s args fun s args =>
  J.i .u8 args fun c1 args =>
  D.nil args <|
  M.call (c 89 [.str s, .int .u8 c1]) fun ds =>
  J.i .i64 ds fun x ds =>
  D.nil ds <|
  M.ret [.int .i64 x]
end
structure H_strconv_Itoa_ (Bd : Bodies) : Prop where
  eq : Bd 67 = b_strconv_Itoa_
  strconv_FormatInt_ : H_strconv_FormatInt_ Bd
structure H_strconv_Itoa (Bd : Bodies) : Prop where
  eq : Bd 60 = b_strconv_Itoa
  strconv_Itoa_ : H_strconv_Itoa_ Bd
structure H_digit_Show (Bd : Bodies) : Prop where
  eq : Bd 49 = b_digit_Show
  strconv_Itoa : H_strconv_Itoa Bd
structure H_digit_reader_takes (Bd : Bodies) : Prop where
  eq : Bd 62 = b_digit_reader_takes
structure H_digit_reader_number (Bd : Bodies) : Prop where
  eq : Bd 61 = b_digit_reader_number
structure H_digit_Read (Bd : Bodies) : Prop where
  eq : Bd 50 = b_digit_Read
  digit_reader_takes : H_digit_reader_takes Bd
  digit_reader_number : H_digit_reader_number Bd
structure H_bytealg_IndexByteString (Bd : Bodies) : Prop where
  eq : Bd 89 = nat_IndexByteString
structure H_stringslite_IndexByte (Bd : Bodies) : Prop where
  eq : Bd 88 = b_stringslite_IndexByte
  bytealg_IndexByteString : H_bytealg_IndexByteString Bd
structure H_stringslite_Index (Bd : Bodies) : Prop where
  eq : Bd 84 = b_stringslite_Index
  stringslite_IndexByte : H_stringslite_IndexByte Bd
structure H_stringslite_Cut (Bd : Bodies) : Prop where
  eq : Bd 76 = b_stringslite_Cut
  stringslite_Index : H_stringslite_Index Bd
structure H_strings_Cut (Bd : Bodies) : Prop where
  eq : Bd 66 = b_strings_Cut
  stringslite_Cut : H_stringslite_Cut Bd
structure H_digit_ReadHandle (Bd : Bodies) : Prop where
  eq : Bd 59 = b_digit_ReadHandle
  digit_Read : H_digit_Read Bd
  strings_Cut : H_strings_Cut Bd
structure H_ref03_Show (Bd : Bodies) : Prop where
  eq : Bd 51 = b_ref03_Show
structure H_ref03_Read (Bd : Bodies) : Prop where
  eq : Bd 53 = b_ref03_Read
  ref03_Show : H_ref03_Show Bd
end Go.Gv

/- Functions of the program, as the machine runs them: written by gvseat.py. -/
namespace Go.Gv
set_option linter.unusedVariables false
set_option maxRecDepth 10000
set_option maxHeartbeats 4000000
noncomputable section
/-- rickyard/rickyardref03.ReadHandle (95); calls 99 ref03_Handle, 53 ref03_Read -/
def b_ref03_ReadHandle : Oracle → Nat → List DV → M (List DV) := fun c n args =>
  J.s args fun s args =>
  D.nil args <|
  M.join (fun st =>
    J.a st fun cs st =>
    J.i .i64 cs fun x r =>
    J.i .i64 r fun x1 r =>
    D.nil r <|
    D.nil st <|
    M.ret [.agg [.int .i64 0, .int .i64 0], .bool false]) fun jk1 =>
  M.loop (fun rec1 st =>
    J.a st fun cs1 st =>
    J.i .i64 cs1 fun x2 r =>
    J.i .i64 r fun x3 r =>
    D.nil r <|
    J.i .i64 st fun i st =>
    D.nil st <|
    bif decide (i < (s.length : Int)) then
      M.chk (inB i s.length) <|
      bif (byteAt s i) == 46 then
        M.chk (decide (0 ≤ i) && decide (i ≤ (s.length : Int))) <|
        M.call (c 53 [.str (s.take i.toNat)]) fun ds =>
        J.i .i64 ds fun x4 ds =>
        J.b ds fun x5 ds =>
        D.nil ds <|
        M.chk (decide (0 ≤ wr64 (i + 1)) && decide (wr64 (i + 1) ≤ (s.length : Int))) <|
        M.call (c 53 [.str (s.drop ((wr64 (i + 1)).toNat))]) fun ds =>
        J.i .i64 ds fun x6 ds =>
        J.b ds fun x7 ds =>
        D.nil ds <|
        M.join (fun st => J.b st fun b1 st => D.nil st <|
          M.join (fun st => J.b st fun b2 st => D.nil st <|
            bif b2 then
              M.ret [.agg [.int .i64 x4, .int .i64 x6], .bool true]
            else
              M.ret [.agg [.int .i64 0, .int .i64 0], .bool false]) fun jk3 =>
          bif b1 then
            M.call (c 99 [.agg [.int .i64 x4, .int .i64 x6]]) fun ds =>
            J.s ds fun x8 ds =>
            D.nil ds <|
            jk3 [.bool (x8 == s)]
          else
            jk3 [.bool false]) fun jk2 =>
        bif x5 then
          jk2 [.bool x7]
        else
          jk2 [.bool false]
      else
        rec1 [.agg [.int .i64 x2, .int .i64 x3], .int .i64 (wr64 (i + 1))]
    else
      jk1 [.agg [.int .i64 x2, .int .i64 x3]]) n [.agg [.int .i64 0, .int .i64 0], .int .i64 0]
/-- rickyard/digit.ShowHandle (98); calls 49 digit_Show -/
def b_digit_ShowHandle : Oracle → Nat → List DV → M (List DV) := fun c n args =>
  J.a args fun cs args =>
  J.i .i64 cs fun h r =>
  J.i .i64 r fun h1 r =>
  D.nil r <|
  D.nil args <|
  bif decide ((if h1 < h then h1 else h) < 0) then
    M.ret [.str (bs [])]
  else
    M.callN (c 49 [.int .i64 h]) fun ds =>
    J.s ds fun x ds =>
    D.nil ds <|
    M.chk (Nat.ble (x.length + (bs [46]).length) 4611686018427387904) <|
    M.callN (c 49 [.int .i64 h1]) fun ds =>
    J.s ds fun x1 ds =>
    D.nil ds <|
    M.chk (Nat.ble ((x ++ (bs [46])).length + x1.length) 4611686018427387904) <|
    M.ret [.str ((x ++ (bs [46])) ++ x1)]
/-- rickyard/rickyardref03.Handle (99); calls 51 ref03_Show -/
def b_ref03_Handle : Oracle → Nat → List DV → M (List DV) := fun c n args =>
  J.a args fun cs args =>
  J.i .i64 cs fun h r =>
  J.i .i64 r fun h1 r =>
  D.nil r <|
  D.nil args <|
  M.join (fun st => J.b st fun b1 st => D.nil st <|
    bif b1 then
      M.ret [.str (bs [])]
    else
      M.callN (c 51 [.int .i64 h]) fun ds =>
      J.s ds fun x ds =>
      D.nil ds <|
      M.chk (Nat.ble (x.length + (bs [46]).length) 4611686018427387904) <|
      M.callN (c 51 [.int .i64 h1]) fun ds =>
      J.s ds fun x1 ds =>
      D.nil ds <|
      M.chk (Nat.ble ((x ++ (bs [46])).length + x1.length) 4611686018427387904) <|
      M.ret [.str ((x ++ (bs [46])) ++ x1)]) fun jk1 =>
  bif decide (h < 0) then
    jk1 [.bool true]
  else
    jk1 [.bool (decide (h1 < 0))]
end
structure H_ref03_Handle (Bd : Bodies) : Prop where
  eq : Bd 99 = b_ref03_Handle
  ref03_Show : H_ref03_Show Bd
structure H_ref03_ReadHandle (Bd : Bodies) : Prop where
  eq : Bd 95 = b_ref03_ReadHandle
  ref03_Handle : H_ref03_Handle Bd
  ref03_Read : H_ref03_Read Bd
structure H_digit_ShowHandle (Bd : Bodies) : Prop where
  eq : Bd 98 = b_digit_ShowHandle
  digit_Show : H_digit_Show Bd
end Go.Gv

/- Functions of the program, as the machine runs them: written by gvseat.py. -/
namespace Go.Gv
set_option linter.unusedVariables false
set_option maxRecDepth 10000
set_option maxHeartbeats 4000000
noncomputable section
/-- strings.Split (58); calls 65 strings_genSplit -/
def b_strings_Split : Oracle → Nat → List DV → M (List DV) := fun c n args =>
  J.s args fun s args =>
  J.s args fun sep args =>
  D.nil args <|
  M.base fun b0 =>
  M.call (c 65 [.str s, .str sep, .int .i64 0, .int .i64 (-1)]) fun ds =>
  J.l 1 ds fun x xn ds =>
  D.nil ds <|
  M.retF b0 [.slice 1 x xn]
/-- strings.genSplit (65); calls 73 strings_explode, 75 strings_Count, 74 strings_Index -/
def b_strings_genSplit : Oracle → Nat → List DV → M (List DV) := fun c n args =>
  J.s args fun s args =>
  J.s args fun sep args =>
  J.i .i64 args fun sepSave args =>
  J.i .i64 args fun n1 args =>
  D.nil args <|
  M.base fun b0 =>
  bif n1 == 0 then
    M.retF b0 [.slice 0 none 0]
  else
    bif sep == (bs []) then
      M.call (c 73 [.str s, .int .i64 n1]) fun ds =>
      J.l 1 ds fun x xn ds =>
      D.nil ds <|
      M.retF b0 [.slice 1 x xn]
    else
      M.join (fun st =>
        J.i .i64 st fun n2 st =>
        D.nil st <|
        M.chk (decide (0 ≤ (if (wr64 ((s.length : Int) + 1)) < n2 then (wr64 ((s.length : Int) + 1)) else n2)) && decide ((if (wr64 ((s.length : Int) + 1)) < n2 then (wr64 ((s.length : Int) + 1)) else n2) ≤ (if (wr64 ((s.length : Int) + 1)) < n2 then (wr64 ((s.length : Int) + 1)) else n2)) && decide ((if (wr64 ((s.length : Int) + 1)) < n2 then (wr64 ((s.length : Int) + 1)) else n2) ≤ 4398046511104)) <|
        M.new (rep ((if (wr64 ((s.length : Int) + 1)) < n2 then (wr64 ((s.length : Int) + 1)) else n2).toNat) [.str (bs [])]) fun i =>
        M.join (fun st =>
          J.s st fun s1 st =>
          J.i .i64 st fun i1 st =>
          D.nil st <|
          M.chk (inB i1 ((if (wr64 ((s.length : Int) + 1)) < n2 then (wr64 ((s.length : Int) + 1)) else n2).toNat)) <|
          M.store i (i1.toNat * 1) [.str s1] <|
          M.chk (decide (0 ≤ wr64 (i1 + 1)) && decide (wr64 (i1 + 1) ≤ (((if (wr64 ((s.length : Int) + 1)) < n2 then (wr64 ((s.length : Int) + 1)) else n2).toNat : Nat) : Int))) <|
          M.retF b0 [.slice 1 (some (i, 0)) ((wr64 (i1 + 1)).toNat)]) fun jk2 =>
        M.loop (fun rec1 st =>
          J.s st fun s2 st =>
          J.i .i64 st fun i2 st =>
          D.nil st <|
          bif decide (i2 < wr64 ((if (wr64 ((s.length : Int) + 1)) < n2 then (wr64 ((s.length : Int) + 1)) else n2) - 1)) then
            M.call (c 74 [.str s2, .str sep]) fun ds =>
            J.i .i64 ds fun x1 ds =>
            D.nil ds <|
            bif decide (x1 < 0) then
              jk2 [.str s2, .int .i64 i2]
            else
              M.chk (decide (0 ≤ wr64 (x1 + sepSave)) && decide (wr64 (x1 + sepSave) ≤ (s2.length : Int))) <|
            M.chk (inB i2 ((if (wr64 ((s.length : Int) + 1)) < n2 then (wr64 ((s.length : Int) + 1)) else n2).toNat)) <|
            M.store i (i2.toNat * 1) [.str (s2.take ((wr64 (x1 + sepSave)).toNat))] <|
            M.chk (decide (0 ≤ wr64 (x1 + (sep.length : Int))) && decide (wr64 (x1 + (sep.length : Int)) ≤ (s2.length : Int))) <|
            rec1 [.str (s2.drop ((wr64 (x1 + (sep.length : Int))).toNat)), .int .i64 (wr64 (i2 + 1))]
          else
            jk2 [.str s2, .int .i64 i2]) n [.str s, .int .i64 0]) fun jk1 =>
      bif decide (n1 < 0) then
        M.call (c 75 [.str s, .str sep]) fun ds =>
        J.i .i64 ds fun x2 ds =>
        D.nil ds <|
        jk1 [.int .i64 (wr64 (x2 + 1))]
      else
        jk1 [.int .i64 n1]
/-- strings.explode (73); calls 81 utf8_RuneCountInString, 82 utf8_DecodeRuneInString -/
def b_strings_explode : Oracle → Nat → List DV → M (List DV) := fun c n args =>
  J.s args fun s args =>
  J.i .i64 args fun n1 args =>
  D.nil args <|
  M.base fun b0 =>
  M.call (c 81 [.str s]) fun ds =>
  J.i .i64 ds fun x ds =>
  D.nil ds <|
  M.join (fun st => J.b st fun b1 st => D.nil st <|
    M.join (fun st =>
      J.i .i64 st fun n2 st =>
      D.nil st <|
      M.chk (decide (0 ≤ n2) && decide (n2 ≤ n2) && decide (n2 ≤ 4398046511104)) <|
      M.new (rep n2.toNat [.str (bs [])]) fun i =>
      M.join (fun st =>
        J.s st fun s1 st =>
        D.nil st <|
        M.join (fun st =>
          D.nil st <|
          M.retF b0 [.slice 1 (some (i, 0)) n2.toNat]) fun jk4 =>
        bif decide (n2 > 0) then
          M.chk (inB (wr64 (n2 - 1)) n2.toNat) <|
          M.store i (((wr64 (n2 - 1)).toNat) * 1) [.str s1] <|
          jk4 []
        else
          jk4 []) fun jk3 =>
      M.loop (fun rec1 st =>
        J.s st fun s2 st =>
        J.i .i64 st fun i1 st =>
        D.nil st <|
        bif decide (i1 < wr64 (n2 - 1)) then
          M.call (c 82 [.str s2]) fun ds =>
          J.i .i32 ds fun x1 ds =>
          J.i .i64 ds fun x2 ds =>
          D.nil ds <|
          M.chk (decide (0 ≤ x2) && decide (x2 ≤ (s2.length : Int))) <|
          M.chk (inB i1 n2.toNat) <|
          M.store i (i1.toNat * 1) [.str (s2.take x2.toNat)] <|
          M.chk (decide (0 ≤ x2) && decide (x2 ≤ (s2.length : Int))) <|
          rec1 [.str (s2.drop x2.toNat), .int .i64 (wr64 (i1 + 1))]
        else
          jk3 [.str s2]) n [.str s, .int .i64 0]) fun jk2 =>
    bif b1 then
      jk2 [.int .i64 x]
    else
      jk2 [.int .i64 n1]) fun jk1 =>
  bif decide (n1 < 0) then
    jk1 [.bool true]
  else
    jk1 [.bool (decide (n1 > x))]
/-- strings.Index (74); calls 84 stringslite_Index -/
def b_strings_Index : Oracle → Nat → List DV → M (List DV) := fun c n args =>
  J.s args fun s args =>
  J.s args fun substr args =>
  D.nil args <|
  M.call (c 84 [.str s, .str substr]) fun ds =>
  J.i .i64 ds fun x ds =>
  D.nil ds <|
  M.ret [.int .i64 x]
/-- strings.Count (75); calls 74 strings_Index, 81 utf8_RuneCountInString, 83 bytealg_CountString -/
def b_strings_Count : Oracle → Nat → List DV → M (List DV) := fun c n args =>
  J.s args fun s args =>
  J.s args fun substr args =>
  D.nil args <|
  bif (substr.length : Int) == 0 then
    M.call (c 81 [.str s]) fun ds =>
    J.i .i64 ds fun x ds =>
    D.nil ds <|
    M.ret [.int .i64 (wr64 (x + 1))]
  else
    bif (substr.length : Int) == 1 then
      M.chk (inB 0 substr.length) <|
      M.call (c 83 [.str s, .int .u8 (byteAt substr 0)]) fun ds =>
      J.i .i64 ds fun x1 ds =>
      D.nil ds <|
      M.ret [.int .i64 x1]
    else
      M.loop (fun rec1 st =>
        J.s st fun s1 st =>
        J.i .i64 st fun n1 st =>
        D.nil st <|
        M.call (c 74 [.str s1, .str substr]) fun ds =>
        J.i .i64 ds fun x2 ds =>
        D.nil ds <|
        bif x2 == (-1) then
          M.ret [.int .i64 n1]
        else
          M.chk (decide (0 ≤ wr64 (x2 + (substr.length : Int))) && decide (wr64 (x2 + (substr.length : Int)) ≤ (s1.length : Int))) <|
          rec1 [.str (s1.drop ((wr64 (x2 + (substr.length : Int))).toNat)), .int .i64 (wr64 (n1 + 1))]) n [.str s, .int .i64 0]
/-- unicode/utf8.RuneCountInString (81); calls  -/
def b_utf8_RuneCountInString : Oracle → Nat → List DV → M (List DV) := fun c n args =>
  J.s args fun s args =>
  D.nil args <|
  M.join (fun st =>
    J.i .i64 st fun n1 st =>
    D.nil st <|
    M.ret [.int .i64 n1]) fun jk1 =>
  M.loop (fun rec1 st =>
    J.i .i64 st fun n2 st =>
    J.n st fun p st =>
    D.nil st <|
    bif Nat.blt p s.length then
    rec1 [.int .i64 (wr64 (n2 + 1)), .nat (p + runeW s p)]
    else
    jk1 [.int .i64 n2]) n [.int .i64 0, .nat 0]
/-- unicode/utf8.DecodeRuneInString (82); calls 87 utf8_decodeRuneInStringSlow -/
def b_utf8_DecodeRuneInString : Oracle → Nat → List DV → M (List DV) := fun c n args =>
  J.s args fun s args =>
  D.nil args <|
  M.join (fun st => J.b st fun b1 st => D.nil st <|
    bif b1 then
      M.chk (inB 0 s.length) <|
      M.ret [.int .i32 (IntKind.wrap .i32 (byteAt s 0)), .int .i64 1]
    else
      M.call (c 87 [.str s]) fun ds =>
      J.i .i32 ds fun x ds =>
      J.i .i64 ds fun x1 ds =>
      D.nil ds <|
      M.ret [.int .i32 x, .int .i64 x1]) fun jk1 =>
  bif !(s == (bs [])) then
    M.chk (inB 0 s.length) <|
    jk1 [.bool (decide (byteAt s 0 < 128))]
  else
    jk1 [.bool false]
/-- unicode/utf8.decodeRuneInStringSlow (87); calls  -/
def b_utf8_decodeRuneInStringSlow : Oracle → Nat → List DV → M (List DV) := fun c n args =>
  J.s args fun s args =>
  D.nil args <|
  bif decide ((s.length : Int) < 1) then
    M.ret [.int .i32 65533, .int .i64 0]
  else
    M.chk (inB 0 s.length) <|
    M.chk (inB (byteAt s 0) 256) <|
    M.load1 4 (((byteAt s 0).toNat) * 1 + 0) fun d =>
    D.int .u8 d fun x =>
    bif decide (x ≥ 240) then
      M.chk (inB 0 s.length) <|
      M.ret [.int .i32 (bits .or .i32 (bits .andNot .i32 (IntKind.wrap .i32 (byteAt s 0)) ((IntKind.wrap .i32 ((IntKind.wrap .i32 (x)) * 2 ^ 31)).fdiv (2 ^ 31))) (bits .and .i32 65533 ((IntKind.wrap .i32 ((IntKind.wrap .i32 (x)) * 2 ^ 31)).fdiv (2 ^ 31)))), .int .i64 1]
    else
      M.chk (inB (x.fdiv (2 ^ 4)) 16) <|
      M.load 5 (((x.fdiv (2 ^ 4)).toNat) * 2 + 0) 2 fun cs =>
      J.i .u8 cs fun x1 r =>
      J.i .u8 r fun x2 r =>
      D.nil r <|
      bif decide ((s.length : Int) < wr64 (bits .and .u8 x 7)) then
        M.ret [.int .i32 65533, .int .i64 1]
      else
        M.chk (inB 1 s.length) <|
        M.join (fun st => J.b st fun b1 st => D.nil st <|
          bif b1 then
            M.ret [.int .i32 65533, .int .i64 1]
          else
            bif decide (wr64 (bits .and .u8 x 7) ≤ 2) then
              M.ret [.int .i32 (bits .or .i32 (IntKind.wrap .i32 ((IntKind.wrap .i32 (bits .and .u8 (byteAt s 0) 31)) * 2 ^ 6)) (IntKind.wrap .i32 (bits .and .u8 (byteAt s 1) 63))), .int .i64 2]
            else
              M.chk (inB 2 s.length) <|
            M.join (fun st => J.b st fun b2 st => D.nil st <|
              bif b2 then
              M.ret [.int .i32 65533, .int .i64 1]
            else
              bif decide (wr64 (bits .and .u8 x 7) ≤ 3) then
              M.ret [.int .i32 (bits .or .i32 (bits .or .i32 (IntKind.wrap .i32 ((IntKind.wrap .i32 (bits .and .u8 (byteAt s 0) 15)) * 2 ^ 12)) (IntKind.wrap .i32 ((IntKind.wrap .i32 (bits .and .u8 (byteAt s 1) 63)) * 2 ^ 6))) (IntKind.wrap .i32 (bits .and .u8 (byteAt s 2) 63))), .int .i64 3]
            else
              M.chk (inB 3 s.length) <|
            M.join (fun st => J.b st fun b3 st => D.nil st <|
              bif b3 then
              M.ret [.int .i32 65533, .int .i64 1]
            else
              M.ret [.int .i32 (bits .or .i32 (bits .or .i32 (bits .or .i32 (IntKind.wrap .i32 ((IntKind.wrap .i32 (bits .and .u8 (byteAt s 0) 7)) * 2 ^ 18)) (IntKind.wrap .i32 ((IntKind.wrap .i32 (bits .and .u8 (byteAt s 1) 63)) * 2 ^ 12))) (IntKind.wrap .i32 ((IntKind.wrap .i32 (bits .and .u8 (byteAt s 2) 63)) * 2 ^ 6))) (IntKind.wrap .i32 (bits .and .u8 (byteAt s 3) 63))), .int .i64 4]) fun jk3 =>
            bif decide (byteAt s 3 < 128) then
              jk3 [.bool true]
            else
              jk3 [.bool (decide ((191 : Int) < byteAt s 3))]) fun jk2 =>
            bif decide (byteAt s 2 < 128) then
              jk2 [.bool true]
            else
              jk2 [.bool (decide ((191 : Int) < byteAt s 2))]) fun jk1 =>
        bif decide (byteAt s 1 < x1) then
          jk1 [.bool true]
        else
          jk1 [.bool (decide (x2 < byteAt s 1))]
end
structure H_utf8_RuneCountInString (Bd : Bodies) : Prop where
  eq : Bd 81 = b_utf8_RuneCountInString
structure H_utf8_decodeRuneInStringSlow (Bd : Bodies) : Prop where
  eq : Bd 87 = b_utf8_decodeRuneInStringSlow
structure H_utf8_DecodeRuneInString (Bd : Bodies) : Prop where
  eq : Bd 82 = b_utf8_DecodeRuneInString
  utf8_decodeRuneInStringSlow : H_utf8_decodeRuneInStringSlow Bd
structure H_strings_explode (Bd : Bodies) : Prop where
  eq : Bd 73 = b_strings_explode
  utf8_RuneCountInString : H_utf8_RuneCountInString Bd
  utf8_DecodeRuneInString : H_utf8_DecodeRuneInString Bd
structure H_strings_Index (Bd : Bodies) : Prop where
  eq : Bd 74 = b_strings_Index
  stringslite_Index : H_stringslite_Index Bd
structure H_bytealg_CountString (Bd : Bodies) : Prop where
  eq : Bd 83 = nat_CountString
structure H_strings_Count (Bd : Bodies) : Prop where
  eq : Bd 75 = b_strings_Count
  strings_Index : H_strings_Index Bd
  utf8_RuneCountInString : H_utf8_RuneCountInString Bd
  bytealg_CountString : H_bytealg_CountString Bd
structure H_strings_genSplit (Bd : Bodies) : Prop where
  eq : Bd 65 = b_strings_genSplit
  strings_explode : H_strings_explode Bd
  strings_Count : H_strings_Count Bd
  strings_Index : H_strings_Index Bd
structure H_strings_Split (Bd : Bodies) : Prop where
  eq : Bd 58 = b_strings_Split
  strings_genSplit : H_strings_genSplit Bd
end Go.Gv

/- Functions of the program, as the machine runs them: written by gvseat.py. -/
namespace Go.Gv
set_option linter.unusedVariables false
set_option maxRecDepth 10000
set_option maxHeartbeats 4000000
noncomputable section
/-- rickyard/rickyardref01.Ints (113); calls  -/
def b_ref01_Ints : Oracle → Nat → List DV → M (List DV) := fun c n args =>
  J.l 1 args fun a an args =>
  J.l 1 args fun b1 b1n args =>
  D.nil args <|
  bif !((an : Int) == (b1n : Int)) then
    M.ret [.bool false]
  else
    M.join (fun st =>
      D.nil st <|
      M.ret [.bool true]) fun jk1 =>
    M.loop (fun rec1 st =>
      J.i .i64 st fun i st =>
      D.nil st <|
      bif decide (i < (an : Int)) then
        M.nn a fun i1 o =>
        M.chk (inB i an) <|
        M.load1 i1 (i.toNat * 1 + o) fun d =>
        D.int .i64 d fun x =>
        M.nn b1 fun i2 o1 =>
        M.chk (inB i b1n) <|
        M.load1 i2 (i.toNat * 1 + o1) fun d1 =>
        D.int .i64 d1 fun x1 =>
        bif !(x == x1) then
          M.ret [.bool false]
        else
          rec1 [.int .i64 (wr64 (i + 1))]
      else
        jk1 []) n [.int .i64 0]
end
structure H_ref01_Ints (Bd : Bodies) : Prop where
  eq : Bd 113 = b_ref01_Ints
end Go.Gv

/- Functions of the program, as the machine runs them: written by gvseat.py. -/
namespace Go.Gv
set_option linter.unusedVariables false
set_option maxRecDepth 10000
set_option maxHeartbeats 4000000
noncomputable section
end
end Go.Gv

/- Functions of the program, as the machine runs them: written by gvseat.py. -/
namespace Go.Gv
set_option linter.unusedVariables false
set_option maxRecDepth 10000
set_option maxHeartbeats 4000000
noncomputable section
end
end Go.Gv

/- Functions of the program, as the machine runs them: written by gvseat.py. -/
namespace Go.Gv
set_option linter.unusedVariables false
set_option maxRecDepth 10000
set_option maxHeartbeats 4000000
noncomputable section
/-- rickyard/rickyardlaw33.awake (131); calls 132 ledger_Print, 135 ledger_Read -/
def b_law33_awake : Oracle → Nat → List DV → M (List DV) := fun c n args =>
  D.nil args <|
  M.call (c 132 [.agg [.int .i64 16, .int .i64 2, .int .i64 3, .slice 0 none 0, .slice 0 none 0, .slice 0 none 0]]) fun ds =>
  J.s ds fun x ds =>
  J.b ds fun x1 ds =>
  D.nil ds <|
  M.call (c 135 [.str x]) fun ds =>
  J.a ds fun cs ds =>
  J.i .i64 cs fun x2 r =>
  J.i .i64 r fun x3 r =>
  J.i .i64 r fun x4 r =>
  J.l 2 r fun x5 x5n r =>
  J.l 1 r fun x6 x6n r =>
  J.l 1 r fun x7 x7n r =>
  D.nil r <|
  J.b ds fun x8 ds =>
  D.nil ds <|
  M.join (fun st => J.b st fun b1 st => D.nil st <|
    M.join (fun st => J.b st fun b2 st => D.nil st <|
      M.join (fun st => J.b st fun b3 st => D.nil st <|
        M.ret [.bool b3]) fun jk3 =>
      bif b2 then
        jk3 [.bool (x2 == 16)]
      else
        jk3 [.bool false]) fun jk2 =>
    bif b1 then
      jk2 [.bool (x == (bs [121, 97, 114, 100, 32, 49, 54, 32, 50, 32, 51, 10, 103, 101, 110, 115, 10, 102, 114, 101, 101, 10]))]
    else
      jk2 [.bool false]) fun jk1 =>
  bif x1 then
    jk1 [.bool x8]
  else
    jk1 [.bool false]
/-- rickyard/ledger.Print (132); calls 134 ledger_May, 140 ledger_text -/
def b_ledger_Print : Oracle → Nat → List DV → M (List DV) := fun c n args =>
  J.a args fun cs args =>
  J.i .i64 cs fun x r =>
  J.i .i64 r fun x1 r =>
  J.i .i64 r fun x2 r =>
  J.l 2 r fun x3 x3n r =>
  J.l 1 r fun x4 x4n r =>
  J.l 1 r fun x5 x5n r =>
  D.nil r <|
  D.nil args <|
  M.call (c 134 [.agg [.int .i64 x, .int .i64 x1, .int .i64 x2, .slice 2 x3 x3n, .slice 1 x4 x4n, .slice 1 x5 x5n]]) fun ds =>
  J.b ds fun x6 ds =>
  D.nil ds <|
  bif !x6 then
    M.ret [.str (bs []), .bool false]
  else
    M.call (c 140 [.agg [.int .i64 x, .int .i64 x1, .int .i64 x2, .slice 2 x3 x3n, .slice 1 x4 x4n, .slice 1 x5 x5n]]) fun ds =>
    J.s ds fun x7 ds =>
    D.nil ds <|
    M.ret [.str x7, .bool true]
/-- rickyard/rickyardref26.May (133); calls 141 ref12_Right, 144 ref26_heaps, 142 ref26_Entries, 143 ref10_Has -/
def b_ref26_May : Oracle → Nat → List DV → M (List DV) := fun c n args =>
  J.a args fun cs args =>
  J.i .i64 cs fun x r =>
  J.i .i64 r fun x1 r =>
  J.i .i64 r fun x2 r =>
  J.l 2 r fun x3 x3n r =>
  J.l 1 r fun x4 x4n r =>
  J.l 1 r fun x5 x5n r =>
  D.nil r <|
  D.nil args <|
  M.call (c 141 [.agg [.int .i64 x, .int .i64 x1, .int .i64 x2]]) fun ds =>
  J.b ds fun x6 ds =>
  D.nil ds <|
  M.join (fun st => J.b st fun b1 st => D.nil st <|
    M.join (fun st => J.b st fun b2 st => D.nil st <|
      bif b2 then
        M.ret [.bool false]
      else
        M.call (c 142 [.agg [.int .i64 x, .int .i64 x1, .int .i64 x2, .slice 2 x3 x3n, .slice 1 x4 x4n, .slice 1 x5 x5n]]) fun ds =>
        J.l 4 ds fun x7 x7n ds =>
        D.nil ds <|
        M.join (fun st => J.b st fun b3 st => D.nil st <|
          bif b3 then
            M.ret [.bool false]
          else
            M.chk (decide (0 ≤ (x4n : Int)) && decide ((x4n : Int) ≤ (x4n : Int)) && decide ((x4n : Int) ≤ 70368744177664)) <|
            M.new (rep ((x4n : Int).toNat) [.bool false]) fun i =>
            M.join (fun st =>
              D.nil st <|
            M.join (fun st =>
              D.nil st <|
            M.join (fun st =>
              D.nil st <|
            M.ret [.bool true]) fun jk6 =>
            M.loop (fun rec1 st =>
              J.i .i64 st fun i1 st =>
            D.nil st <|
            bif decide (i1 < (x4n : Int)) then
              M.nn x4 fun i2 o =>
            M.chk (inB i1 x4n) <|
            M.load1 i2 (i1.toNat * 1 + o) fun d =>
            D.int .i64 d fun x8 =>
            M.join (fun st => J.b st fun b4 st => D.nil st <|
              M.join (fun st => J.b st fun b5 st => D.nil st <|
              bif b5 then
              M.ret [.bool false]
            else
              rec1 [.int .i64 (wr64 (i1 + 1))]) fun jk8 =>
            bif b4 then
              jk8 [.bool true]
            else
              M.chk (inB i1 ((x4n : Int).toNat)) <|
            M.load1 i (i1.toNat * 1) fun d1 =>
            D.bool d1 fun x9 =>
            M.join (fun st => J.b st fun b6 st => D.nil st <|
              M.join (fun st => J.b st fun b7 st => D.nil st <|
              jk8 [.bool b7]) fun jk10 =>
            bif b6 then
              M.call (c 143 [.slice 1 x5 x5n, .int .i64 i1]) fun ds =>
            J.b ds fun x10 ds =>
            D.nil ds <|
            jk10 [.bool (!x10)]
            else
              jk10 [.bool false]) fun jk9 =>
            bif !x9 then
              M.nn x4 fun i3 o1 =>
            M.chk (inB i1 x4n) <|
            M.load1 i3 (i1.toNat * 1 + o1) fun d2 =>
            D.int .i64 d2 fun x11 =>
            jk9 [.bool (decide (x11 < x2))]
            else
              jk9 [.bool false]) fun jk7 =>
            bif decide (x8 < 1) then
              jk7 [.bool true]
            else
              M.nn x4 fun i4 o2 =>
            M.chk (inB i1 x4n) <|
            M.load1 i4 (i1.toNat * 1 + o2) fun d3 =>
            D.int .i64 d3 fun x12 =>
            jk7 [.bool (decide (x12 > x2))]
            else
              jk6 []) n [.int .i64 0]) fun jk5 =>
            M.loop (fun rec2 st =>
              J.i .i64 st fun i5 st =>
            D.nil st <|
            bif decide (i5 < (x5n : Int)) then
              M.nn x5 fun i6 o3 =>
            M.chk (inB i5 x5n) <|
            M.load1 i6 (i5.toNat * 1 + o3) fun d4 =>
            D.int .i64 d4 fun x13 =>
            M.join (fun st => J.b st fun b8 st => D.nil st <|
              M.join (fun st => J.b st fun b9 st => D.nil st <|
              M.join (fun st => J.b st fun b10 st => D.nil st <|
              M.join (fun st => J.b st fun b11 st => D.nil st <|
              bif b11 then
              M.ret [.bool false]
            else
              rec2 [.int .i64 (wr64 (i5 + 1))]) fun jk14 =>
            bif b10 then
              jk14 [.bool true]
            else
              M.chk (decide (0 ≤ i5) && decide (i5 ≤ (x5n : Int))) <|
            M.call (c 143 [.slice 1 x5 i5.toNat, .int .i64 x13]) fun ds =>
            J.b ds fun x14 ds =>
            D.nil ds <|
            jk14 [.bool x14]) fun jk13 =>
            bif b9 then
              jk13 [.bool true]
            else
              M.nn x4 fun i7 o4 =>
            M.chk (inB x13 x4n) <|
            M.load1 i7 (x13.toNat * 1 + o4) fun d5 =>
            D.int .i64 d5 fun x15 =>
            jk13 [.bool (decide (x15 ≥ x2))]) fun jk12 =>
            bif b8 then
              jk12 [.bool true]
            else
              M.chk (inB x13 ((x4n : Int).toNat)) <|
            M.load1 i (x13.toNat * 1) fun d6 =>
            D.bool d6 fun x16 =>
            jk12 [.bool x16]) fun jk11 =>
            bif decide (x13 < 0) then
              jk11 [.bool true]
            else
              jk11 [.bool (decide (x13 ≥ (x4n : Int)))]
            else
              jk5 []) n [.int .i64 0]) fun jk4 =>
            M.loop (fun rec3 st =>
              J.i .i64 st fun i8 st =>
            D.nil st <|
            bif decide (i8 < (x7n : Int)) then
              M.nn x7 fun i9 o5 =>
            M.chk (inB i8 x7n) <|
            M.load i9 (i8.toNat * 4 + o5) 2 fun cs1 =>
            J.i .i64 cs1 fun x17 r =>
            J.i .i64 r fun x18 r =>
            D.nil r <|
            M.join (fun st => J.b st fun b12 st => D.nil st <|
              M.join (fun st => J.b st fun b13 st => D.nil st <|
              M.join (fun st => J.b st fun b14 st => D.nil st <|
              bif b14 then
              M.ret [.bool false]
            else
              M.chk (inB x17 ((x4n : Int).toNat)) <|
            M.store i (x17.toNat * 1) [.bool true] <|
            rec3 [.int .i64 (wr64 (i8 + 1))]) fun jk17 =>
            bif b13 then
              jk17 [.bool true]
            else
              M.nn x4 fun i10 o6 =>
            M.chk (inB x17 x4n) <|
            M.load1 i10 (x17.toNat * 1 + o6) fun d7 =>
            D.int .i64 d7 fun x19 =>
            jk17 [.bool (!(x18 == x19))]) fun jk16 =>
            bif b12 then
              jk16 [.bool true]
            else
              M.chk (inB x17 ((x4n : Int).toNat)) <|
            M.load1 i (x17.toNat * 1) fun d8 =>
            D.bool d8 fun x20 =>
            jk16 [.bool x20]) fun jk15 =>
            bif decide (x17 < 0) then
              jk15 [.bool true]
            else
              jk15 [.bool (decide (x17 ≥ (x4n : Int)))]
            else
              jk4 []) n [.int .i64 0]) fun jk3 =>
        bif decide ((x7n : Int) > (x4n : Int)) then
          jk3 [.bool true]
        else
          jk3 [.bool (decide ((x5n : Int) > (x4n : Int)))]) fun jk2 =>
    bif b1 then
      jk2 [.bool true]
    else
      M.call (c 144 [.slice 2 x3 x3n]) fun ds =>
      J.b ds fun x21 ds =>
      D.nil ds <|
      jk2 [.bool (!x21)]) fun jk1 =>
  bif !x6 then
    jk1 [.bool true]
  else
    jk1 [.bool (decide ((x4n : Int) > x1))]
/-- rickyard/ledger.May (134); calls 145 geom_Right, 147 slices_ContainsFunc_int_int, 146 ledger_May_1, 39 name_Compare, 149 slices_ContainsFunc_api_Heap_api_Heap, 148 ledger_book_wrong, 150 ledger_book_free -/
def b_ledger_May : Oracle → Nat → List DV → M (List DV) := fun c n args =>
  J.a args fun cs args =>
  J.i .i64 cs fun x r =>
  J.i .i64 r fun x1 r =>
  J.i .i64 r fun x2 r =>
  J.l 2 r fun x3 x3n r =>
  J.l 1 r fun x4 x4n r =>
  J.l 1 r fun x5 x5n r =>
  D.nil r <|
  D.nil args <|
  M.new [.int .i64 x, .int .i64 x1, .int .i64 x2, .slice 2 x3 x3n, .slice 1 x4 x4n, .slice 1 x5 x5n] fun x6 =>
  M.load x6 0 3 fun cs1 =>
  J.i .i64 cs1 fun x7 r =>
  J.i .i64 r fun x8 r =>
  J.i .i64 r fun x9 r =>
  D.nil r <|
  M.call (c 145 [.agg [.int .i64 x7, .int .i64 x8, .int .i64 x9]]) fun ds =>
  J.b ds fun x10 ds =>
  D.nil ds <|
  M.join (fun st => J.b st fun b1 st => D.nil st <|
    M.join (fun st => J.b st fun b2 st => D.nil st <|
      bif b2 then
        M.ret [.bool false]
      else
        M.load1 x6 4 fun d =>
        D.slice 1 d fun x11 x11n =>
        M.call (c 147 [.slice 1 x11 x11n, .func 146 [] [.ptr (some (x6, 0))]]) fun ds =>
        J.b ds fun x12 ds =>
        D.nil ds <|
        bif x12 then
          M.ret [.bool false]
        else
          M.join (fun st =>
            D.nil st <|
            M.load x6 0 6 fun cs2 =>
            J.i .i64 cs2 fun x13 r =>
            J.i .i64 r fun x14 r =>
            J.i .i64 r fun x15 r =>
            J.l 2 r fun x16 x16n r =>
            J.l 1 r fun x17 x17n r =>
            J.l 1 r fun x18 x18n r =>
            D.nil r <|
            M.load1 x6 4 fun d1 =>
            D.slice 1 d1 fun x19 x19n =>
            M.chk (decide (0 ≤ (x19n : Int)) && decide ((x19n : Int) ≤ (x19n : Int)) && decide ((x19n : Int) ≤ 70368744177664)) <|
            M.new (rep ((x19n : Int).toNat) [.bool false]) fun i =>
            M.new [.int .i64 x13, .int .i64 x14, .int .i64 x15, .slice 2 x16 x16n, .slice 1 x17 x17n, .slice 1 x18 x18n, .slice 1 (some (i, 0)) ((x19n : Int).toNat)] fun i1 =>
            M.load1 x6 3 fun d2 =>
            D.slice 2 d2 fun x20 x20n =>
            M.call (c 149 [.slice 2 x20 x20n, .func 148 [.ptr (some (i1, 0))] []]) fun ds =>
            J.b ds fun x21 ds =>
            D.nil ds <|
            M.join (fun st => J.b st fun b3 st => D.nil st <|
              M.ret [.bool b3]) fun jk4 =>
            bif !x21 then
              M.call (c 150 [.ptr (some (i1, 0))]) fun ds =>
            J.b ds fun x22 ds =>
            D.nil ds <|
            jk4 [.bool x22]
            else
              jk4 [.bool false]) fun jk3 =>
          M.loop (fun rec1 st =>
            J.i .i64 st fun i2 st =>
            D.nil st <|
            M.load1 x6 3 fun d3 =>
            D.slice 2 d3 fun x23 x23n =>
            bif decide (i2 < (x23n : Int)) then
              M.load1 x6 3 fun d4 =>
            D.slice 2 d4 fun x24 x24n =>
            M.nn x24 fun i3 o =>
            M.chk (inB (wr64 (i2 - 1)) x24n) <|
            M.load1 i3 (((wr64 (i2 - 1)).toNat) * 2 + o) fun d5 =>
            D.str d5 fun x25 =>
            M.load1 x6 3 fun d6 =>
            D.slice 2 d6 fun x26 x26n =>
            M.nn x26 fun i4 o1 =>
            M.chk (inB i2 x26n) <|
            M.load1 i4 (i2.toNat * 2 + o1) fun d7 =>
            D.str d7 fun x27 =>
            M.call (c 39 [.str x25, .str x27]) fun ds =>
            J.i .i64 ds fun x28 ds =>
            D.nil ds <|
            bif decide (x28 ≥ 0) then
              M.ret [.bool false]
            else
              rec1 [.int .i64 (wr64 (i2 + 1))]
            else
              jk3 []) n [.int .i64 1]) fun jk2 =>
    bif b1 then
      jk2 [.bool true]
    else
      M.load1 x6 3 fun d8 =>
      D.slice 2 d8 fun x29 x29n =>
      jk2 [.bool (decide ((x29n : Int) > 16))]) fun jk1 =>
  bif !x10 then
    jk1 [.bool true]
  else
    M.load1 x6 4 fun d9 =>
    D.slice 1 d9 fun x30 x30n =>
    M.load1 x6 1 fun d10 =>
    D.int .i64 d10 fun x31 =>
    jk1 [.bool (decide ((x30n : Int) > x31))]
/-- rickyard/ledger.Read (135); calls 132 ledger_Print, 58 strings_Split, 151 ledger_reader_take -/
def b_ledger_Read : Oracle → Nat → List DV → M (List DV) := fun c n args =>
  J.s args fun s args =>
  D.nil args <|
  M.base fun b0 =>
  M.new [.int .i64 0, .int .i64 0, .int .i64 0, .slice 0 none 0, .slice 0 none 0, .slice 0 none 0] fun r1 =>
  M.call (c 58 [.str s, .str (bs [10])]) fun ds =>
  J.l 1 ds fun x xn ds =>
  D.nil ds <|
  M.join (fun st =>
    D.nil st <|
    M.load r1 0 6 fun cs =>
    J.i .i64 cs fun x1 r =>
    J.i .i64 r fun x2 r =>
    J.i .i64 r fun x3 r =>
    J.l 2 r fun x4 x4n r =>
    J.l 1 r fun x5 x5n r =>
    J.l 1 r fun x6 x6n r =>
    D.nil r <|
    M.call (c 132 [.agg [.int .i64 x1, .int .i64 x2, .int .i64 x3, .slice 2 x4 x4n, .slice 1 x5 x5n, .slice 1 x6 x6n]]) fun ds =>
    J.s ds fun x7 ds =>
    J.b ds fun x8 ds =>
    D.nil ds <|
    M.join (fun st => J.b st fun b1 st => D.nil st <|
      bif b1 then
        M.retF b0 [.agg [.int .i64 0, .int .i64 0, .int .i64 0, .slice 0 none 0, .slice 0 none 0, .slice 0 none 0], .bool false]
      else
        M.load r1 0 6 fun cs1 =>
        J.i .i64 cs1 fun x9 r =>
        J.i .i64 r fun x10 r =>
        J.i .i64 r fun x11 r =>
        J.l 2 r fun x12 x12n r =>
        J.l 1 r fun x13 x13n r =>
        J.l 1 r fun x14 x14n r =>
        D.nil r <|
        M.retF b0 [.agg [.int .i64 x9, .int .i64 x10, .int .i64 x11, .slice 2 x12 x12n, .slice 1 x13 x13n, .slice 1 x14 x14n], .bool true]) fun jk2 =>
    bif !x8 then
      jk2 [.bool true]
    else
      jk2 [.bool (!(x7 == s))]) fun jk1 =>
  M.loop (fun rec1 st =>
    J.i .i64 st fun x15 st =>
    D.nil st <|
    bif decide (x15 < (xn : Int)) then
      M.nn x fun i o =>
      M.chk (inB x15 xn) <|
      M.load1 i (x15.toNat * 1 + o) fun d =>
      D.str d fun x16 =>
      M.call (c 58 [.str x16, .str (bs [32])]) fun ds =>
      J.l 1 ds fun x17 x17n ds =>
      D.nil ds <|
      M.call (c 151 [.ptr (some (r1, 0)), .slice 1 x17 x17n]) fun ds =>
      D.nil ds <|
      rec1 [.int .i64 (wr64 (x15 + 1))]
    else
      jk1 []) n [.int .i64 0]
/-- rickyard/rickyardref26.Same (136); calls 113 ref01_Ints, 153 ref08_Entries -/
def b_ref26_Same : Oracle → Nat → List DV → M (List DV) := fun c n args =>
  J.a args fun cs args =>
  J.i .i64 cs fun a r =>
  J.i .i64 r fun a1 r =>
  J.i .i64 r fun a2 r =>
  J.l 2 r fun a3 a3n r =>
  J.l 1 r fun a4 a4n r =>
  J.l 1 r fun a5 a5n r =>
  D.nil r <|
  J.a args fun cs1 args =>
  J.i .i64 cs1 fun b1 r =>
  J.i .i64 r fun b2 r =>
  J.i .i64 r fun b3 r =>
  J.l 2 r fun b4 b4n r =>
  J.l 1 r fun b5 b5n r =>
  J.l 1 r fun b6 b6n r =>
  D.nil r <|
  D.nil args <|
  M.join (fun st => J.b st fun b7 st => D.nil st <|
    M.join (fun st => J.b st fun b8 st => D.nil st <|
      M.join (fun st => J.b st fun b9 st => D.nil st <|
        bif b9 then
          M.ret [.bool false]
        else
          M.join (fun st =>
            D.nil st <|
            M.ret [.bool true]) fun jk4 =>
          M.loop (fun rec1 st =>
            J.i .i64 st fun i st =>
            D.nil st <|
            bif decide (i < (a3n : Int)) then
              M.nn a3 fun i1 o =>
            M.chk (inB i a3n) <|
            M.load1 i1 (i.toNat * 2 + o) fun d =>
            D.str d fun x =>
            M.nn b4 fun i2 o1 =>
            M.chk (inB i b4n) <|
            M.load1 i2 (i.toNat * 2 + o1) fun d1 =>
            D.str d1 fun x1 =>
            M.join (fun st => J.b st fun b10 st => D.nil st <|
              bif b10 then
              M.ret [.bool false]
            else
              rec1 [.int .i64 (wr64 (i + 1))]) fun jk5 =>
            bif !(x == x1) then
              jk5 [.bool true]
            else
              M.nn a3 fun i3 o2 =>
            M.chk (inB i a3n) <|
            M.load1 i3 (i.toNat * 2 + o2 + 1) fun d2 =>
            D.slice 4 d2 fun x2 x2n =>
            M.nn b4 fun i4 o3 =>
            M.chk (inB i b4n) <|
            M.load1 i4 (i.toNat * 2 + o3 + 1) fun d3 =>
            D.slice 4 d3 fun x3 x3n =>
            M.call (c 153 [.slice 4 x2 x2n, .slice 4 x3 x3n]) fun ds =>
            J.b ds fun x4 ds =>
            D.nil ds <|
            jk5 [.bool (!x4)]
            else
              jk4 []) n [.int .i64 0]) fun jk3 =>
      bif b8 then
        jk3 [.bool true]
      else
        M.call (c 113 [.slice 1 a5 a5n, .slice 1 b6 b6n]) fun ds =>
        J.b ds fun x5 ds =>
        D.nil ds <|
        jk3 [.bool (!x5)]) fun jk2 =>
    bif b7 then
      jk2 [.bool true]
    else
      M.call (c 113 [.slice 1 a4 a4n, .slice 1 b5 b5n]) fun ds =>
      J.b ds fun x6 ds =>
      D.nil ds <|
      jk2 [.bool (!x6)]) fun jk1 =>
  bif !((a == b1) && ((a1 == b2) && ((a2 == b3) && true))) then
    jk1 [.bool true]
  else
    jk1 [.bool (!((a3n : Int) == (b4n : Int)))]
/-- rickyard/rickyardref33.Print (137); calls 152 ref33_words, 99 ref03_Handle -/
def b_ref33_Print : Oracle → Nat → List DV → M (List DV) := fun c n args =>
  J.a args fun cs args =>
  J.i .i64 cs fun x r =>
  J.i .i64 r fun x1 r =>
  J.i .i64 r fun x2 r =>
  J.l 2 r fun x3 x3n r =>
  J.l 1 r fun x4 x4n r =>
  J.l 1 r fun x5 x5n r =>
  D.nil r <|
  D.nil args <|
  M.new [.int .i64 x, .int .i64 x1, .int .i64 x2] fun i =>
  M.callN (c 152 [.str (bs [121, 97, 114, 100]), .slice 1 (some (i, 0)) 3]) fun ds =>
  J.s ds fun x6 ds =>
  D.nil ds <|
  M.callN (c 152 [.str (bs [103, 101, 110, 115]), .slice 1 x4 x4n]) fun ds =>
  J.s ds fun x7 ds =>
  D.nil ds <|
  M.chk (Nat.ble (x6.length + x7.length) 4611686018427387904) <|
  M.callN (c 152 [.str (bs [102, 114, 101, 101]), .slice 1 x5 x5n]) fun ds =>
  J.s ds fun x8 ds =>
  D.nil ds <|
  M.chk (Nat.ble ((x6 ++ x7).length + x8.length) 4611686018427387904) <|
  M.join (fun st =>
    J.s st fun s st =>
    D.nil st <|
    M.ret [.str s]) fun jk1 =>
  M.loop (fun rec1 st =>
    J.s st fun s1 st =>
    J.i .i64 st fun i1 st =>
    D.nil st <|
    bif decide (i1 < (x3n : Int)) then
      M.join (fun st =>
        J.s st fun s2 st =>
        D.nil st <|
        rec1 [.str s2, .int .i64 (wr64 (i1 + 1))]) fun jk2 =>
      M.chk (Nat.ble (s1.length + (bs [113, 117, 101, 117, 101, 32]).length) 4611686018427387904) <|
      M.nn x3 fun i2 o =>
      M.chk (inB i1 x3n) <|
      M.load1 i2 (i1.toNat * 2 + o) fun d =>
      D.str d fun x9 =>
      M.chk (Nat.ble ((s1 ++ (bs [113, 117, 101, 117, 101, 32])).length + x9.length) 4611686018427387904) <|
      M.chk (Nat.ble (((s1 ++ (bs [113, 117, 101, 117, 101, 32])) ++ x9).length + (bs [10]).length) 4611686018427387904) <|
      M.nn x3 fun i3 o1 =>
      M.chk (inB i1 x3n) <|
      M.load1 i3 (i1.toNat * 2 + o1 + 1) fun d1 =>
      D.slice 4 d1 fun x10 x10n =>
      M.join (fun st =>
        J.s st fun s3 st =>
        D.nil st <|
        jk2 [.str s3]) fun jk3 =>
      M.loop (fun rec2 st =>
        J.s st fun s4 st =>
        J.i .i64 st fun k st =>
        D.nil st <|
        bif decide (k < (x10n : Int)) then
          M.nn x10 fun i4 o2 =>
          M.chk (inB k x10n) <|
          M.load i4 (k.toNat * 4 + o2) 2 fun cs1 =>
          J.i .i64 cs1 fun x11 r =>
          J.i .i64 r fun x12 r =>
          D.nil r <|
          M.callX (c 99 [.agg [.int .i64 x11, .int .i64 x12]]) fun ds =>
          J.s ds fun x13 ds =>
          D.nil ds <|
          M.chk (Nat.ble ((bs [101, 110, 116, 114, 121, 32]).length + x13.length) 4611686018427387904) <|
          M.nn x10 fun i5 o3 =>
          M.chk (inB k x10n) <|
          M.load1 i5 (k.toNat * 4 + o3 + 2) fun d2 =>
          D.int .i64 d2 fun x14 =>
          M.nn x10 fun i6 o4 =>
          M.chk (inB k x10n) <|
          M.load1 i6 (k.toNat * 4 + o4 + 3) fun d3 =>
          D.int .i64 d3 fun x15 =>
          M.new [.int .i64 x14, .int .i64 x15] fun i7 =>
          M.callN (c 152 [.str ((bs [101, 110, 116, 114, 121, 32]) ++ x13), .slice 1 (some (i7, 0)) 2]) fun ds =>
          J.s ds fun x16 ds =>
          D.nil ds <|
          M.chk (Nat.ble (s4.length + x16.length) 4611686018427387904) <|
          rec2 [.str (s4 ++ x16), .int .i64 (wr64 (k + 1))]
        else
          jk3 [.str s4]) n [.str (((s1 ++ (bs [113, 117, 101, 117, 101, 32])) ++ x9) ++ (bs [10])), .int .i64 0]
    else
      jk1 [.str s1]) n [.str ((x6 ++ x7) ++ x8), .int .i64 0]
/-- rickyard/ledger.text (140); calls 154 ledger_line, 98 digit_ShowHandle, 14 strings_Join -/
def b_ledger_text : Oracle → Nat → List DV → M (List DV) := fun c n args =>
  J.a args fun cs args =>
  J.i .i64 cs fun x r =>
  J.i .i64 r fun x1 r =>
  J.i .i64 r fun x2 r =>
  J.l 2 r fun x3 x3n r =>
  J.l 1 r fun x4 x4n r =>
  J.l 1 r fun x5 x5n r =>
  D.nil r <|
  D.nil args <|
  M.new [.int .i64 x, .int .i64 x1, .int .i64 x2] fun i =>
  M.callN (c 154 [.str (bs [121, 97, 114, 100]), .slice 1 (some (i, 0)) 3]) fun ds =>
  J.s ds fun x6 ds =>
  D.nil ds <|
  M.callN (c 154 [.str (bs [103, 101, 110, 115]), .slice 1 x4 x4n]) fun ds =>
  J.s ds fun x7 ds =>
  D.nil ds <|
  M.call (c 154 [.str (bs [102, 114, 101, 101]), .slice 1 x5 x5n]) fun ds =>
  J.s ds fun x8 ds =>
  D.nil ds <|
  M.new [.str x6, .str x7, .str x8] fun i1 =>
  M.join (fun st =>
    J.l 1 st fun out outn st =>
    D.nil st <|
    M.call (c 14 [.slice 1 out outn, .str (bs [])]) fun ds =>
    J.s ds fun x9 ds =>
    D.nil ds <|
    M.ret [.str x9]) fun jk1 =>
  M.loop (fun rec1 st =>
    J.l 1 st fun out1 out1n st =>
    J.i .i64 st fun x10 st =>
    D.nil st <|
    bif decide (x10 < (x3n : Int)) then
      M.join (fun st =>
        J.l 1 st fun out2 out2n st =>
        D.nil st <|
        rec1 [.slice 1 out2 out2n, .int .i64 (wr64 (x10 + 1))]) fun jk2 =>
      M.nn x3 fun i2 o =>
      M.chk (inB x10 x3n) <|
      M.load i2 (x10.toNat * 2 + o) 2 fun cs1 =>
      J.s cs1 fun x11 r =>
      J.l 4 r fun x12 x12n r =>
      D.nil r <|
      M.chk (Nat.ble ((bs [113, 117, 101, 117, 101, 32]).length + x11.length) 4611686018427387904) <|
      M.chk (Nat.ble (((bs [113, 117, 101, 117, 101, 32]) ++ x11).length + (bs [10]).length) 4611686018427387904) <|
      M.new [.str (((bs [113, 117, 101, 117, 101, 32]) ++ x11) ++ (bs [10]))] fun i3 =>
      M.load i3 0 1 fun cs2 =>
      M.app 1 out1 out1n cs2 1 4398046511104 fun p =>
      M.join (fun st =>
        J.l 1 st fun out3 out3n st =>
        D.nil st <|
        jk2 [.slice 1 out3 out3n]) fun jk3 =>
      M.loop (fun rec2 st =>
        J.l 1 st fun out4 out4n st =>
        J.i .i64 st fun x13 st =>
        D.nil st <|
        bif decide (x13 < (x12n : Int)) then
          M.nn x12 fun i4 o1 =>
          M.chk (inB x13 x12n) <|
          M.load i4 (x13.toNat * 4 + o1) 4 fun cs3 =>
          J.i .i64 cs3 fun x14 r =>
          J.i .i64 r fun x15 r =>
          J.i .i64 r fun x16 r =>
          J.i .i64 r fun x17 r =>
          D.nil r <|
          M.callX (c 98 [.agg [.int .i64 x14, .int .i64 x15]]) fun ds =>
          J.s ds fun x18 ds =>
          D.nil ds <|
          M.chk (Nat.ble ((bs [101, 110, 116, 114, 121, 32]).length + x18.length) 4611686018427387904) <|
          M.new [.int .i64 x16, .int .i64 x17] fun i5 =>
          M.callN (c 154 [.str ((bs [101, 110, 116, 114, 121, 32]) ++ x18), .slice 1 (some (i5, 0)) 2]) fun ds =>
          J.s ds fun x19 ds =>
          D.nil ds <|
          M.new [.str x19] fun i6 =>
          M.load i6 0 1 fun cs4 =>
          M.app 1 out4 out4n cs4 1 4398046511104 fun p1 =>
          rec2 [.slice 1 p1 (out4n + 1), .int .i64 (wr64 (x13 + 1))]
        else
          jk3 [.slice 1 out4 out4n]) n [.slice 1 p (out1n + 1), .int .i64 0]
    else
      jk1 [.slice 1 out1 out1n]) n [.slice 1 (some (i1, 0)) 3, .int .i64 0]
/-- rickyard/rickyardref12.Right (141); calls  -/
def b_ref12_Right : Oracle → Nat → List DV → M (List DV) := fun c n args =>
  J.a args fun cs args =>
  J.i .i64 cs fun g r =>
  J.i .i64 r fun g1 r =>
  J.i .i64 r fun g2 r =>
  D.nil r <|
  D.nil args <|
  M.join (fun st => J.b st fun b1 st => D.nil st <|
    M.join (fun st => J.b st fun b2 st => D.nil st <|
      M.join (fun st => J.b st fun b3 st => D.nil st <|
        M.join (fun st => J.b st fun b4 st => D.nil st <|
          M.join (fun st => J.b st fun b5 st => D.nil st <|
            M.ret [.bool b5]) fun jk5 =>
          bif b4 then
            jk5 [.bool (decide (g2 ≤ 4294967295))]
          else
            jk5 [.bool false]) fun jk4 =>
        bif b3 then
          jk4 [.bool (decide (g2 ≥ 1))]
        else
          jk4 [.bool false]) fun jk3 =>
      bif b2 then
        jk3 [.bool (decide (g1 ≤ 1792))]
      else
        jk3 [.bool false]) fun jk2 =>
    bif b1 then
      jk2 [.bool (decide (g1 ≥ 1))]
    else
      jk2 [.bool false]) fun jk1 =>
  bif decide (g ≥ 16) then
    jk1 [.bool (decide (g ≤ 3072))]
  else
    jk1 [.bool false]
/-- rickyard/rickyardref26.Entries (142); calls  -/
def b_ref26_Entries : Oracle → Nat → List DV → M (List DV) := fun c n args =>
  J.a args fun cs args =>
  J.i .i64 cs fun x r =>
  J.i .i64 r fun x1 r =>
  J.i .i64 r fun x2 r =>
  J.l 2 r fun x3 x3n r =>
  J.l 1 r fun x4 x4n r =>
  J.l 1 r fun x5 x5n r =>
  D.nil r <|
  D.nil args <|
  M.base fun b0 =>
  M.join (fun st =>
    J.l 4 st fun out outn st =>
    D.nil st <|
    M.retF b0 [.slice 4 out outn]) fun jk1 =>
  M.loop (fun rec1 st =>
    J.l 4 st fun out1 out1n st =>
    J.i .i64 st fun i st =>
    D.nil st <|
    bif decide (i < (x3n : Int)) then
      M.nn x3 fun i1 o =>
      M.chk (inB i x3n) <|
      M.load1 i1 (i.toNat * 2 + o + 1) fun d =>
      D.slice 4 d fun x6 x6n =>
      M.rd x6 (x6n * 4) fun cs1 =>
      M.app 4 out1 out1n cs1 x6n 2199023255552 fun p =>
      rec1 [.slice 4 p (out1n + x6n), .int .i64 (wr64 (i + 1))]
    else
      jk1 [.slice 4 out1 out1n]) n [.slice 0 none 0, .int .i64 0]
/-- rickyard/rickyardref10.Has (143); calls  -/
def b_ref10_Has : Oracle → Nat → List DV → M (List DV) := fun c n args =>
  J.l 1 args fun l ln args =>
  J.i .i64 args fun n1 args =>
  D.nil args <|
  M.join (fun st =>
    D.nil st <|
    M.ret [.bool false]) fun jk1 =>
  M.loop (fun rec1 st =>
    J.i .i64 st fun i st =>
    D.nil st <|
    bif decide (i < (ln : Int)) then
      M.nn l fun i1 o =>
      M.chk (inB i ln) <|
      M.load1 i1 (i.toNat * 1 + o) fun d =>
      D.int .i64 d fun x =>
      bif x == n1 then
        M.ret [.bool true]
      else
        rec1 [.int .i64 (wr64 (i + 1))]
    else
      jk1 []) n [.int .i64 0]
/-- rickyard/rickyardref26.heaps (144); calls 27 ref04_Right, 40 ref04_Compare, 155 ref08_Ahead -/
def b_ref26_heaps : Oracle → Nat → List DV → M (List DV) := fun c n args =>
  J.l 2 args fun l ln args =>
  D.nil args <|
  bif decide ((ln : Int) > 16) then
    M.ret [.bool false]
  else
    M.join (fun st =>
      D.nil st <|
      M.ret [.bool true]) fun jk1 =>
    M.loop (fun rec1 st =>
      J.i .i64 st fun i st =>
      D.nil st <|
      bif decide (i < (ln : Int)) then
        M.join (fun st =>
          D.nil st <|
          rec1 [.int .i64 (wr64 (i + 1))]) fun jk2 =>
        M.nn l fun i1 o =>
        M.chk (inB i ln) <|
        M.load1 i1 (i.toNat * 2 + o) fun d =>
        D.str d fun x =>
        M.call (c 27 [.str x]) fun ds =>
        J.b ds fun x1 ds =>
        D.nil ds <|
        M.join (fun st => J.b st fun b1 st => D.nil st <|
          bif b1 then
            M.ret [.bool false]
          else
            M.join (fun st =>
              D.nil st <|
            jk2 []) fun jk4 =>
            M.loop (fun rec2 st =>
              J.i .i64 st fun k st =>
            D.nil st <|
            M.nn l fun i2 o1 =>
            M.chk (inB i ln) <|
            M.load1 i2 (i.toNat * 2 + o1 + 1) fun d1 =>
            D.slice 4 d1 fun x2 x2n =>
            bif decide (k < (x2n : Int)) then
              M.nn l fun i3 o2 =>
            M.chk (inB i ln) <|
            M.load1 i3 (i.toNat * 2 + o2 + 1) fun d2 =>
            D.slice 4 d2 fun x3 x3n =>
            M.nn x3 fun i4 o3 =>
            M.chk (inB (wr64 (k - 1)) x3n) <|
            M.load i4 (((wr64 (k - 1)).toNat) * 4 + o3) 4 fun cs =>
            J.i .i64 cs fun x4 r =>
            J.i .i64 r fun x5 r =>
            J.i .i64 r fun x6 r =>
            J.i .i64 r fun x7 r =>
            D.nil r <|
            M.nn l fun i5 o4 =>
            M.chk (inB i ln) <|
            M.load1 i5 (i.toNat * 2 + o4 + 1) fun d3 =>
            D.slice 4 d3 fun x8 x8n =>
            M.nn x8 fun i6 o5 =>
            M.chk (inB k x8n) <|
            M.load i6 (k.toNat * 4 + o5) 4 fun cs1 =>
            J.i .i64 cs1 fun x9 r =>
            J.i .i64 r fun x10 r =>
            J.i .i64 r fun x11 r =>
            J.i .i64 r fun x12 r =>
            D.nil r <|
            M.call (c 155 [.agg [.int .i64 x4, .int .i64 x5, .int .i64 x6, .int .i64 x7], .agg [.int .i64 x9, .int .i64 x10, .int .i64 x11, .int .i64 x12]]) fun ds =>
            J.b ds fun x13 ds =>
            D.nil ds <|
            bif !x13 then
              M.ret [.bool false]
            else
              rec2 [.int .i64 (wr64 (k + 1))]
            else
              jk4 []) n [.int .i64 1]) fun jk3 =>
        bif !x1 then
          jk3 [.bool true]
        else
          M.join (fun st => J.b st fun b2 st => D.nil st <|
            jk3 [.bool b2]) fun jk5 =>
          bif decide (i > 0) then
            M.nn l fun i7 o6 =>
            M.chk (inB (wr64 (i - 1)) ln) <|
            M.load1 i7 (((wr64 (i - 1)).toNat) * 2 + o6) fun d4 =>
            D.str d4 fun x14 =>
            M.nn l fun i8 o7 =>
            M.chk (inB i ln) <|
            M.load1 i8 (i.toNat * 2 + o7) fun d5 =>
            D.str d5 fun x15 =>
            M.call (c 40 [.str x14, .str x15]) fun ds =>
            J.i .i64 ds fun x16 ds =>
            D.nil ds <|
            jk5 [.bool (decide (x16 ≥ 0))]
          else
            jk5 [.bool false]
      else
        jk1 []) n [.int .i64 0]
/-- rickyard/geom.Right (145); calls  -/
def b_geom_Right : Oracle → Nat → List DV → M (List DV) := fun c n args =>
  J.a args fun cs args =>
  J.i .i64 cs fun g r =>
  J.i .i64 r fun g1 r =>
  J.i .i64 r fun g2 r =>
  D.nil r <|
  D.nil args <|
  M.join (fun st => J.b st fun b1 st => D.nil st <|
    M.join (fun st => J.b st fun b2 st => D.nil st <|
      M.join (fun st => J.b st fun b3 st => D.nil st <|
        M.join (fun st => J.b st fun b4 st => D.nil st <|
          M.join (fun st => J.b st fun b5 st => D.nil st <|
            M.ret [.bool b5]) fun jk5 =>
          bif b4 then
            jk5 [.bool (decide (g2 ≤ 4294967295))]
          else
            jk5 [.bool false]) fun jk4 =>
        bif b3 then
          jk4 [.bool (decide (g2 ≥ 1))]
        else
          jk4 [.bool false]) fun jk3 =>
      bif b2 then
        jk3 [.bool (decide (g1 ≤ 1792))]
      else
        jk3 [.bool false]) fun jk2 =>
    bif b1 then
      jk2 [.bool (decide (g1 ≥ 1))]
    else
      jk2 [.bool false]) fun jk1 =>
  bif decide (g ≥ 16) then
    jk1 [.bool (decide (g ≤ 3072))]
  else
    jk1 [.bool false]
/-- rickyard/ledger.May$1 (146); calls  -/
def b_ledger_May_1 : Oracle → Nat → List DV → M (List DV) := fun c n args =>
  J.i .i64 args fun g args =>
  J.p args fun x args =>
  D.nil args <|
  M.join (fun st => J.b st fun b1 st => D.nil st <|
    M.ret [.bool b1]) fun jk1 =>
  bif decide (g < 1) then
    jk1 [.bool true]
  else
    M.nn x fun i o =>
    M.load1 i (o + 2) fun d =>
    D.int .i64 d fun x1 =>
    jk1 [.bool (decide (g > x1))]
/-- slices.ContainsFunc[[]int,int] (147); calls 156 slices_IndexFunc_int_int -/
def b_slices_ContainsFunc_int_int : Oracle → Nat → List DV → M (List DV) := fun c n args =>
  J.l 1 args fun s sn args =>
  J.f args fun f ff fc args =>
  D.nil args <|
  M.call (c 156 [.slice 1 s sn, .func f ff fc]) fun ds =>
  J.i .i64 ds fun x ds =>
  D.nil ds <|
  M.ret [.bool (decide (x ≥ 0))]
/-- (*rickyard/ledger.book).wrong (148); calls 158 ledger_book_take, 159 node_Compare, 26 name_Right -/
def b_ledger_book_wrong : Oracle → Nat → List DV → M (List DV) := fun c n args =>
  J.p args fun b1 args =>
  J.a args fun cs args =>
  J.s cs fun h r =>
  J.l 4 r fun h1 h1n r =>
  D.nil r <|
  D.nil args <|
  M.join (fun st =>
    D.nil st <|
    M.call (c 26 [.str h]) fun ds =>
    J.b ds fun x ds =>
    D.nil ds <|
    M.ret [.bool (!x)]) fun jk1 =>
  M.loop (fun rec1 st =>
    J.i .i64 st fun x1 st =>
    D.nil st <|
    bif decide (x1 < (h1n : Int)) then
      M.nn h1 fun i o =>
      M.chk (inB x1 h1n) <|
      M.load i (x1.toNat * 4 + o) 4 fun cs1 =>
      J.i .i64 cs1 fun x2 r =>
      J.i .i64 r fun x3 r =>
      J.i .i64 r fun x4 r =>
      J.i .i64 r fun x5 r =>
      D.nil r <|
      M.call (c 158 [.ptr b1, .int .i64 x2]) fun ds =>
      J.b ds fun x6 ds =>
      D.nil ds <|
      M.join (fun st => J.b st fun b2 st => D.nil st <|
        M.join (fun st => J.b st fun b3 st => D.nil st <|
          bif b3 then
            M.ret [.bool true]
          else
            rec1 [.int .i64 (wr64 (x1 + 1))]) fun jk3 =>
        bif b2 then
          jk3 [.bool true]
        else
          M.join (fun st => J.b st fun b4 st => D.nil st <|
            jk3 [.bool b4]) fun jk4 =>
          bif decide (x1 > 0) then
            M.nn h1 fun i1 o1 =>
            M.chk (inB (wr64 (x1 - 1)) h1n) <|
            M.load i1 (((wr64 (x1 - 1)).toNat) * 4 + o1) 4 fun cs2 =>
            J.i .i64 cs2 fun x7 r =>
            J.i .i64 r fun x8 r =>
            J.i .i64 r fun x9 r =>
            J.i .i64 r fun x10 r =>
            D.nil r <|
            M.call (c 159 [.agg [.int .i64 x7, .int .i64 x8, .int .i64 x9, .int .i64 x10], .agg [.int .i64 x2, .int .i64 x3, .int .i64 x4, .int .i64 x5]]) fun ds =>
            J.i .i64 ds fun x11 ds =>
            D.nil ds <|
            jk4 [.bool (decide (x11 ≥ 0))]
          else
            jk4 [.bool false]) fun jk2 =>
      bif !x6 then
        jk2 [.bool true]
      else
        M.nn b1 fun i2 o2 =>
        M.load1 i2 (o2 + 4) fun d =>
        D.slice 1 d fun x12 x12n =>
        M.nn x12 fun i3 o3 =>
        M.chk (inB x2 x12n) <|
        M.load1 i3 (x2.toNat * 1 + o3) fun d1 =>
        D.int .i64 d1 fun x13 =>
        jk2 [.bool (!(x13 == x3))]
    else
      jk1 []) n [.int .i64 0]
/-- slices.ContainsFunc[[]rickyard/api.Heap,rickyard/api.Heap] (149); calls 157 slices_IndexFunc_api_Heap_api_Heap -/
def b_slices_ContainsFunc_api_Heap_api_Heap : Oracle → Nat → List DV → M (List DV) := fun c n args =>
  J.l 2 args fun s sn args =>
  J.f args fun f ff fc args =>
  D.nil args <|
  M.call (c 157 [.slice 2 s sn, .func f ff fc]) fun ds =>
  J.i .i64 ds fun x ds =>
  D.nil ds <|
  M.ret [.bool (decide (x ≥ 0))]
/-- (*rickyard/ledger.book).free (150); calls 158 ledger_book_take -/
def b_ledger_book_free : Oracle → Nat → List DV → M (List DV) := fun c n args =>
  J.p args fun b1 args =>
  D.nil args <|
  M.nn b1 fun i o =>
  M.load1 i (o + 5) fun d =>
  D.slice 1 d fun x xn =>
  M.join (fun st =>
    D.nil st <|
    M.nn b1 fun i1 o1 =>
    M.load1 i1 (o1 + 6) fun d1 =>
    D.slice 1 d1 fun x1 x1n =>
    M.join (fun st =>
      D.nil st <|
      M.ret [.bool true]) fun jk2 =>
    M.loop (fun rec1 st =>
      J.i .i64 st fun x2 st =>
      D.nil st <|
      bif decide (x2 < (x1n : Int)) then
        M.nn x1 fun i2 o2 =>
        M.chk (inB x2 x1n) <|
        M.load1 i2 (x2.toNat * 1 + o2) fun d2 =>
        D.bool d2 fun x3 =>
        M.join (fun st => J.b st fun b2 st => D.nil st <|
          bif b2 then
            M.ret [.bool false]
          else
            rec1 [.int .i64 (wr64 (x2 + 1))]) fun jk3 =>
        bif !x3 then
          M.nn b1 fun i3 o3 =>
          M.load1 i3 (o3 + 4) fun d3 =>
          D.slice 1 d3 fun x4 x4n =>
          M.nn x4 fun i4 o4 =>
          M.chk (inB x2 x4n) <|
          M.load1 i4 (x2.toNat * 1 + o4) fun d4 =>
          D.int .i64 d4 fun x5 =>
          M.nn b1 fun i5 o5 =>
          M.load1 i5 (o5 + 2) fun d5 =>
          D.int .i64 d5 fun x6 =>
          jk3 [.bool (decide (x5 < x6))]
        else
          jk3 [.bool false]
      else
        jk2 []) n [.int .i64 0]) fun jk1 =>
  M.loop (fun rec2 st =>
    J.i .i64 st fun x7 st =>
    D.nil st <|
    bif decide (x7 < (xn : Int)) then
      M.nn x fun i6 o6 =>
      M.chk (inB x7 xn) <|
      M.load1 i6 (x7.toNat * 1 + o6) fun d6 =>
      D.int .i64 d6 fun x8 =>
      M.call (c 158 [.ptr b1, .int .i64 x8]) fun ds =>
      J.b ds fun x9 ds =>
      D.nil ds <|
      M.join (fun st => J.b st fun b3 st => D.nil st <|
        bif b3 then
          M.ret [.bool false]
        else
          rec2 [.int .i64 (wr64 (x7 + 1))]) fun jk4 =>
      bif !x9 then
        jk4 [.bool true]
      else
        M.nn b1 fun i7 o7 =>
        M.load1 i7 (o7 + 4) fun d7 =>
        D.slice 1 d7 fun x10 x10n =>
        M.nn x10 fun i8 o8 =>
        M.chk (inB x8 x10n) <|
        M.load1 i8 (x8.toNat * 1 + o8) fun d8 =>
        D.int .i64 d8 fun x11 =>
        M.nn b1 fun i9 o9 =>
        M.load1 i9 (o9 + 2) fun d9 =>
        D.int .i64 d9 fun x12 =>
        jk4 [.bool (decide (x11 ≥ x12))]
    else
      jk1 []) n [.int .i64 0]
/-- (*rickyard/ledger.reader).take (151); calls 14 strings_Join, 160 ledger_numbers, 59 digit_ReadHandle -/
def b_ledger_reader_take : Oracle → Nat → List DV → M (List DV) := fun c n args =>
  J.p args fun r1 args =>
  J.l 1 args fun words wordsn args =>
  D.nil args <|
  M.chk (decide ((1 : Int) ≤ (wordsn : Int))) <|
  M.call (c 160 [.slice 1 (cutA true words 1) (wordsn - 1)]) fun ds =>
  J.l 1 ds fun x xn ds =>
  D.nil ds <|
  M.nn words fun i o =>
  M.chk (inB 0 wordsn) <|
  M.load1 i (0 + o) fun d =>
  D.str d fun x1 =>
  M.join (fun st =>
    D.nil st <|
    M.ret []) fun jk1 =>
  bif x1 == (bs [121, 97, 114, 100]) then
    M.join (fun st =>
      D.nil st <|
      jk1 []) fun jk2 =>
    bif (xn : Int) == 3 then
      M.nn x fun i1 o1 =>
      M.chk (inB 0 xn) <|
      M.load1 i1 (0 + o1) fun d1 =>
      D.int .i64 d1 fun x2 =>
      M.nn x fun i2 o2 =>
      M.chk (inB 1 xn) <|
      M.load1 i2 (1 + o2) fun d2 =>
      D.int .i64 d2 fun x3 =>
      M.nn x fun i3 o3 =>
      M.chk (inB 2 xn) <|
      M.load1 i3 (2 + o3) fun d3 =>
      D.int .i64 d3 fun x4 =>
      M.nn r1 fun i4 o4 =>
      M.store i4 o4 [.int .i64 x2, .int .i64 x3, .int .i64 x4] <|
      jk2 []
    else
      jk2 []
  else
    M.join (fun st =>
      D.nil st <|
      jk1 []) fun jk3 =>
    bif x1 == (bs [103, 101, 110, 115]) then
      M.nn r1 fun i5 o5 =>
      M.store i5 (o5 + 4) [.slice 1 x xn] <|
      jk3 []
    else
      M.join (fun st =>
        D.nil st <|
        jk3 []) fun jk4 =>
      bif x1 == (bs [102, 114, 101, 101]) then
        M.nn r1 fun i6 o6 =>
        M.store i6 (o6 + 5) [.slice 1 x xn] <|
        jk4 []
      else
        M.join (fun st =>
          D.nil st <|
          jk4 []) fun jk5 =>
        bif x1 == (bs [113, 117, 101, 117, 101]) then
          M.nn r1 fun i7 o7 =>
          M.load1 i7 (o7 + 3) fun d4 =>
          D.slice 2 d4 fun x5 x5n =>
          M.chk (decide ((1 : Int) ≤ (wordsn : Int))) <|
          M.callX (c 14 [.slice 1 (cutA true words 1) (wordsn - 1), .str (bs [32])]) fun ds =>
          J.s ds fun x6 ds =>
          D.nil ds <|
          M.new [.str x6, .slice 0 none 0] fun i8 =>
          M.load i8 0 2 fun cs =>
          M.app 2 x5 x5n cs 1 1759218604441 fun p =>
          M.nn r1 fun i9 o8 =>
          M.store i9 (o8 + 3) [.slice 2 p (x5n + 1)] <|
          jk5 []
        else
          M.join (fun st =>
            D.nil st <|
            jk5 []) fun jk6 =>
          bif x1 == (bs [101, 110, 116, 114, 121]) then
            M.nn r1 fun i10 o9 =>
            M.load1 i10 (o9 + 3) fun d5 =>
            D.slice 2 d5 fun x7 x7n =>
            M.join (fun st => J.b st fun b1 st => D.nil st <|
              M.join (fun st => J.b st fun b2 st => D.nil st <|
              M.join (fun st =>
              D.nil st <|
            jk6 []) fun jk9 =>
            bif b2 then
              M.nn words fun i11 o10 =>
            M.chk (inB 1 wordsn) <|
            M.load1 i11 (1 + o10) fun d6 =>
            D.str d6 fun x8 =>
            M.call (c 59 [.str x8]) fun ds =>
            J.a ds fun cs1 ds =>
            J.i .i64 cs1 fun x9 r =>
            J.i .i64 r fun x10 r =>
            D.nil r <|
            J.b ds fun x11 ds =>
            D.nil ds <|
            M.nn x fun i12 o11 =>
            M.chk (inB 0 xn) <|
            M.load1 i12 (0 + o11) fun d7 =>
            D.int .i64 d7 fun x12 =>
            M.nn x fun i13 o12 =>
            M.chk (inB 1 xn) <|
            M.load1 i13 (1 + o12) fun d8 =>
            D.int .i64 d8 fun x13 =>
            M.nn r1 fun i14 o13 =>
            M.load1 i14 (o13 + 3) fun d9 =>
            D.slice 2 d9 fun x14 x14n =>
            M.nn r1 fun i15 o14 =>
            M.load1 i15 (o14 + 3) fun d10 =>
            D.slice 2 d10 fun x15 x15n =>
            M.nn x15 fun i16 o15 =>
            M.chk (inB (wr64 ((x7n : Int) - 1)) x15n) <|
            M.load1 i16 (((wr64 ((x7n : Int) - 1)).toNat) * 2 + o15 + 1) fun d11 =>
            D.slice 4 d11 fun x16 x16n =>
            M.new [.int .i64 x9, .int .i64 x10, .int .i64 x12, .int .i64 x13] fun i17 =>
            M.chk (apart x16 i14) <|
            M.load i17 0 4 fun cs2 =>
            M.app 4 x16 x16n cs2 1 2199023255552 fun p1 =>
            M.nn x14 fun i18 o16 =>
            M.chk (inB (wr64 ((x7n : Int) - 1)) x14n) <|
            M.store i18 (((wr64 ((x7n : Int) - 1)).toNat) * 2 + o16 + 1) [.slice 4 p1 (x16n + 1)] <|
            jk9 []
            else
              jk9 []) fun jk8 =>
            bif b1 then
              jk8 [.bool ((xn : Int) == 2)]
            else
              jk8 [.bool false]) fun jk7 =>
            bif decide (wr64 ((x7n : Int) - 1) ≥ 0) then
              jk7 [.bool ((wordsn : Int) == 4)]
            else
              jk7 [.bool false]
          else
            jk6 []
/-- rickyard/rickyardref33.words (152); calls 51 ref03_Show -/
def b_ref33_words : Oracle → Nat → List DV → M (List DV) := fun c n args =>
  J.s args fun w args =>
  J.l 1 args fun l ln args =>
  D.nil args <|
  M.join (fun st =>
    J.s st fun w1 st =>
    D.nil st <|
    M.chk (Nat.ble (w1.length + (bs [10]).length) 4611686018427387904) <|
    M.ret [.str (w1 ++ (bs [10]))]) fun jk1 =>
  M.loop (fun rec1 st =>
    J.s st fun w2 st =>
    J.i .i64 st fun i st =>
    D.nil st <|
    bif decide (i < (ln : Int)) then
      M.chk (Nat.ble (w2.length + (bs [32]).length) 4611686018427387904) <|
      M.nn l fun i1 o =>
      M.chk (inB i ln) <|
      M.load1 i1 (i.toNat * 1 + o) fun d =>
      D.int .i64 d fun x =>
      M.call (c 51 [.int .i64 x]) fun ds =>
      J.s ds fun x1 ds =>
      D.nil ds <|
      M.chk (Nat.ble ((w2 ++ (bs [32])).length + x1.length) 4611686018427387904) <|
      rec1 [.str ((w2 ++ (bs [32])) ++ x1), .int .i64 (wr64 (i + 1))]
    else
      jk1 [.str w2]) n [.str w, .int .i64 0]
/-- rickyard/rickyardref08.Entries (153); calls  -/
def b_ref08_Entries : Oracle → Nat → List DV → M (List DV) := fun c n args =>
  J.l 4 args fun a an args =>
  J.l 4 args fun b1 b1n args =>
  D.nil args <|
  bif !((an : Int) == (b1n : Int)) then
    M.ret [.bool false]
  else
    M.join (fun st =>
      D.nil st <|
      M.ret [.bool true]) fun jk1 =>
    M.loop (fun rec1 st =>
      J.i .i64 st fun i st =>
      D.nil st <|
      bif decide (i < (an : Int)) then
        M.nn a fun i1 o =>
        M.chk (inB i an) <|
        M.load i1 (i.toNat * 4 + o) 4 fun cs =>
        J.i .i64 cs fun x r =>
        J.i .i64 r fun x1 r =>
        J.i .i64 r fun x2 r =>
        J.i .i64 r fun x3 r =>
        D.nil r <|
        M.nn b1 fun i2 o1 =>
        M.chk (inB i b1n) <|
        M.load i2 (i.toNat * 4 + o1) 4 fun cs1 =>
        J.i .i64 cs1 fun x4 r =>
        J.i .i64 r fun x5 r =>
        J.i .i64 r fun x6 r =>
        J.i .i64 r fun x7 r =>
        D.nil r <|
        bif !((x == x4) && ((x1 == x5) && ((x2 == x6) && ((x3 == x7) && true)))) then
          M.ret [.bool false]
        else
          rec1 [.int .i64 (wr64 (i + 1))]
      else
        jk1 []) n [.int .i64 0]
/-- rickyard/ledger.line (154); calls 49 digit_Show -/
def b_ledger_line : Oracle → Nat → List DV → M (List DV) := fun c n args =>
  J.s args fun word args =>
  J.l 1 args fun l ln args =>
  D.nil args <|
  M.join (fun st =>
    J.s st fun word1 st =>
    D.nil st <|
    M.chk (Nat.ble (word1.length + (bs [10]).length) 4611686018427387904) <|
    M.ret [.str (word1 ++ (bs [10]))]) fun jk1 =>
  M.loop (fun rec1 st =>
    J.s st fun word2 st =>
    J.i .i64 st fun x st =>
    D.nil st <|
    bif decide (x < (ln : Int)) then
      M.nn l fun i o =>
      M.chk (inB x ln) <|
      M.load1 i (x.toNat * 1 + o) fun d =>
      D.int .i64 d fun x1 =>
      M.call (c 49 [.int .i64 x1]) fun ds =>
      J.s ds fun x2 ds =>
      D.nil ds <|
      M.chk (Nat.ble ((bs [32]).length + x2.length) 4611686018427387904) <|
      M.chk (Nat.ble (word2.length + ((bs [32]) ++ x2).length) 4611686018427387904) <|
      rec1 [.str (word2 ++ ((bs [32]) ++ x2)), .int .i64 (wr64 (x + 1))]
    else
      jk1 [.str word2]) n [.str word, .int .i64 0]
/-- rickyard/rickyardref08.Ahead (155); calls  -/
def b_ref08_Ahead : Oracle → Nat → List DV → M (List DV) := fun c n args =>
  J.a args fun cs args =>
  J.i .i64 cs fun a r =>
  J.i .i64 r fun a1 r =>
  J.i .i64 r fun a2 r =>
  J.i .i64 r fun a3 r =>
  D.nil r <|
  J.a args fun cs1 args =>
  J.i .i64 cs1 fun b1 r =>
  J.i .i64 r fun b2 r =>
  J.i .i64 r fun b3 r =>
  J.i .i64 r fun b4 r =>
  D.nil r <|
  D.nil args <|
  bif !(a2 == b3) then
    M.ret [.bool (decide (a2 < b3))]
  else
    bif !(a == b1) then
      M.ret [.bool (decide (a < b1))]
    else
      M.ret [.bool (decide (a1 < b2))]
/-- slices.IndexFunc[[]int,int] (156); calls  -/
def b_slices_IndexFunc_int_int : Oracle → Nat → List DV → M (List DV) := fun c n args =>
  J.l 1 args fun s sn args =>
  J.f args fun f ff fc args =>
  D.nil args <|
  M.join (fun st =>
    D.nil st <|
    M.ret [.int .i64 (-1)]) fun jk1 =>
  M.loop (fun rec1 st =>
    J.i .i64 st fun x st =>
    D.nil st <|
    bif decide (x < (sn : Int)) then
      M.nn s fun i o =>
      M.chk (inB x sn) <|
      M.load1 i (x.toNat * 1 + o) fun d =>
      D.int .i64 d fun x1 =>
      M.call (c f (ff ++ [.int .i64 x1] ++ fc)) fun ds =>
      J.b ds fun x2 ds =>
      D.nil ds <|
      bif x2 then
        M.ret [.int .i64 x]
      else
        rec1 [.int .i64 (wr64 (x + 1))]
    else
      jk1 []) n [.int .i64 0]
/-- slices.IndexFunc[[]rickyard/api.Heap,rickyard/api.Heap] (157); calls  -/
def b_slices_IndexFunc_api_Heap_api_Heap : Oracle → Nat → List DV → M (List DV) := fun c n args =>
  J.l 2 args fun s sn args =>
  J.f args fun f ff fc args =>
  D.nil args <|
  M.join (fun st =>
    D.nil st <|
    M.ret [.int .i64 (-1)]) fun jk1 =>
  M.loop (fun rec1 st =>
    J.i .i64 st fun x st =>
    D.nil st <|
    bif decide (x < (sn : Int)) then
      M.nn s fun i o =>
      M.chk (inB x sn) <|
      M.load i (x.toNat * 2 + o) 2 fun cs =>
      J.s cs fun x1 r =>
      J.l 4 r fun x2 x2n r =>
      D.nil r <|
      M.call (c f (ff ++ [.agg [.str x1, .slice 4 x2 x2n]] ++ fc)) fun ds =>
      J.b ds fun x3 ds =>
      D.nil ds <|
      bif x3 then
        M.ret [.int .i64 x]
      else
        rec1 [.int .i64 (wr64 (x + 1))]
    else
      jk1 []) n [.int .i64 0]
/-- (*rickyard/ledger.book).take (158); calls  -/
def b_ledger_book_take : Oracle → Nat → List DV → M (List DV) := fun c n args =>
  J.p args fun b1 args =>
  J.i .i64 args fun slot args =>
  D.nil args <|
  M.join (fun st => J.b st fun b2 st => D.nil st <|
    M.join (fun st => J.b st fun b3 st => D.nil st <|
      bif b3 then
        M.ret [.bool false]
      else
        M.nn b1 fun i o =>
        M.load1 i (o + 6) fun d =>
        D.slice 1 d fun x xn =>
        M.nn x fun i1 o1 =>
        M.chk (inB slot xn) <|
        M.store i1 (slot.toNat * 1 + o1) [.bool true] <|
        M.ret [.bool true]) fun jk2 =>
    bif b2 then
      jk2 [.bool true]
    else
      M.nn b1 fun i2 o2 =>
      M.load1 i2 (o2 + 6) fun d1 =>
      D.slice 1 d1 fun x1 x1n =>
      M.nn x1 fun i3 o3 =>
      M.chk (inB slot x1n) <|
      M.load1 i3 (slot.toNat * 1 + o3) fun d2 =>
      D.bool d2 fun x2 =>
      jk2 [.bool x2]) fun jk1 =>
  bif decide (slot < 0) then
    jk1 [.bool true]
  else
    M.nn b1 fun i4 o4 =>
    M.load1 i4 (o4 + 6) fun d3 =>
    D.slice 1 d3 fun x3 x3n =>
    jk1 [.bool (decide (slot ≥ (x3n : Int)))]
/-- rickyard/node.Compare (159); calls 162 cmp_Or_int, 161 cmp_Compare_int -/
def b_node_Compare : Oracle → Nat → List DV → M (List DV) := fun c n args =>
  J.a args fun cs args =>
  J.i .i64 cs fun a r =>
  J.i .i64 r fun a1 r =>
  J.i .i64 r fun a2 r =>
  J.i .i64 r fun a3 r =>
  D.nil r <|
  J.a args fun cs1 args =>
  J.i .i64 cs1 fun b1 r =>
  J.i .i64 r fun b2 r =>
  J.i .i64 r fun b3 r =>
  J.i .i64 r fun b4 r =>
  D.nil r <|
  D.nil args <|
  M.callN (c 161 [.int .i64 a2, .int .i64 b3]) fun ds =>
  J.i .i64 ds fun x ds =>
  D.nil ds <|
  M.callN (c 161 [.int .i64 a, .int .i64 b1]) fun ds =>
  J.i .i64 ds fun x1 ds =>
  D.nil ds <|
  M.call (c 161 [.int .i64 a1, .int .i64 b2]) fun ds =>
  J.i .i64 ds fun x2 ds =>
  D.nil ds <|
  M.new [.int .i64 x, .int .i64 x1, .int .i64 x2] fun i =>
  M.call (c 162 [.slice 1 (some (i, 0)) 3]) fun ds =>
  J.i .i64 ds fun x3 ds =>
  D.nil ds <|
  M.ret [.int .i64 x3]
/-- rickyard/ledger.numbers (160); calls 50 digit_Read -/
def b_ledger_numbers : Oracle → Nat → List DV → M (List DV) := fun c n args =>
  J.l 1 args fun words wordsn args =>
  D.nil args <|
  M.base fun b0 =>
  M.join (fun st =>
    J.l 1 st fun out outn st =>
    D.nil st <|
    M.retF b0 [.slice 1 out outn]) fun jk1 =>
  M.loop (fun rec1 st =>
    J.l 1 st fun out1 out1n st =>
    J.i .i64 st fun x st =>
    D.nil st <|
    bif decide (x < (wordsn : Int)) then
      M.nn words fun i o =>
      M.chk (inB x wordsn) <|
      M.load1 i (x.toNat * 1 + o) fun d =>
      D.str d fun x1 =>
      M.call (c 50 [.str x1]) fun ds =>
      J.i .i64 ds fun x2 ds =>
      J.b ds fun x3 ds =>
      D.nil ds <|
      M.join (fun st =>
        J.l 1 st fun out2 out2n st =>
        D.nil st <|
        rec1 [.slice 1 out2 out2n, .int .i64 (wr64 (x + 1))]) fun jk2 =>
      bif x3 then
        M.new [.int .i64 x2] fun i1 =>
        M.load i1 0 1 fun cs =>
        M.app 1 out1 out1n cs 1 8796093022208 fun p =>
        jk2 [.slice 1 p (out1n + 1)]
      else
        jk2 [.slice 1 out1 out1n]
    else
      jk1 [.slice 1 out1 out1n]) n [.slice 0 none 0, .int .i64 0]
/-- cmp.Compare[int] (161); calls 163 cmp_isNaN_int -/
def b_cmp_Compare_int : Oracle → Nat → List DV → M (List DV) := fun c n args =>
  J.i .i64 args fun x args =>
  J.i .i64 args fun y args =>
  D.nil args <|
  M.call (c 163 [.int .i64 x]) fun ds =>
  J.b ds fun x1 ds =>
  D.nil ds <|
  M.call (c 163 [.int .i64 y]) fun ds =>
  J.b ds fun x2 ds =>
  D.nil ds <|
  bif x1 then
    bif x2 then
      M.ret [.int .i64 0]
    else
      M.ret [.int .i64 (-1)]
  else
    bif x2 then
      M.ret [.int .i64 1]
    else
      bif decide (x < y) then
        M.ret [.int .i64 (-1)]
      else
        bif decide (x > y) then
          M.ret [.int .i64 1]
        else
          M.ret [.int .i64 0]
/-- cmp.Or[int] (162); calls  -/
def b_cmp_Or_int : Oracle → Nat → List DV → M (List DV) := fun c n args =>
  J.l 1 args fun vals valsn args =>
  D.nil args <|
  M.join (fun st =>
    D.nil st <|
    M.ret [.int .i64 0]) fun jk1 =>
  M.loop (fun rec1 st =>
    J.i .i64 st fun x st =>
    D.nil st <|
    bif decide (x < (valsn : Int)) then
      M.nn vals fun i o =>
      M.chk (inB x valsn) <|
      M.load1 i (x.toNat * 1 + o) fun d =>
      D.int .i64 d fun x1 =>
      bif !(x1 == 0) then
        M.ret [.int .i64 x1]
      else
        rec1 [.int .i64 (wr64 (x + 1))]
    else
      jk1 []) n [.int .i64 0]
/-- cmp.isNaN[int] (163); calls  -/
def b_cmp_isNaN_int : Oracle → Nat → List DV → M (List DV) := fun c n args =>
  J.i .i64 args fun x args =>
  D.nil args <|
  M.ret [.bool (!(x == x))]
end
structure H_geom_Right (Bd : Bodies) : Prop where
  eq : Bd 145 = b_geom_Right
structure H_slices_IndexFunc_int_int (Bd : Bodies) : Prop where
  eq : Bd 156 = b_slices_IndexFunc_int_int
structure H_slices_ContainsFunc_int_int (Bd : Bodies) : Prop where
  eq : Bd 147 = b_slices_ContainsFunc_int_int
  slices_IndexFunc_int_int : H_slices_IndexFunc_int_int Bd
structure H_ledger_May_1 (Bd : Bodies) : Prop where
  eq : Bd 146 = b_ledger_May_1
structure H_slices_IndexFunc_api_Heap_api_Heap (Bd : Bodies) : Prop where
  eq : Bd 157 = b_slices_IndexFunc_api_Heap_api_Heap
structure H_slices_ContainsFunc_api_Heap_api_Heap (Bd : Bodies) : Prop where
  eq : Bd 149 = b_slices_ContainsFunc_api_Heap_api_Heap
  slices_IndexFunc_api_Heap_api_Heap : H_slices_IndexFunc_api_Heap_api_Heap Bd
structure H_ledger_book_take (Bd : Bodies) : Prop where
  eq : Bd 158 = b_ledger_book_take
structure H_cmp_Or_int (Bd : Bodies) : Prop where
  eq : Bd 162 = b_cmp_Or_int
structure H_cmp_isNaN_int (Bd : Bodies) : Prop where
  eq : Bd 163 = b_cmp_isNaN_int
structure H_cmp_Compare_int (Bd : Bodies) : Prop where
  eq : Bd 161 = b_cmp_Compare_int
  cmp_isNaN_int : H_cmp_isNaN_int Bd
structure H_node_Compare (Bd : Bodies) : Prop where
  eq : Bd 159 = b_node_Compare
  cmp_Or_int : H_cmp_Or_int Bd
  cmp_Compare_int : H_cmp_Compare_int Bd
structure H_ledger_book_wrong (Bd : Bodies) : Prop where
  eq : Bd 148 = b_ledger_book_wrong
  ledger_book_take : H_ledger_book_take Bd
  node_Compare : H_node_Compare Bd
  name_Right : H_name_Right Bd
structure H_ledger_book_free (Bd : Bodies) : Prop where
  eq : Bd 150 = b_ledger_book_free
  ledger_book_take : H_ledger_book_take Bd
structure H_ledger_May (Bd : Bodies) : Prop where
  eq : Bd 134 = b_ledger_May
  geom_Right : H_geom_Right Bd
  slices_ContainsFunc_int_int : H_slices_ContainsFunc_int_int Bd
  ledger_May_1 : H_ledger_May_1 Bd
  name_Compare : H_name_Compare Bd
  slices_ContainsFunc_api_Heap_api_Heap : H_slices_ContainsFunc_api_Heap_api_Heap Bd
  ledger_book_wrong : H_ledger_book_wrong Bd
  ledger_book_free : H_ledger_book_free Bd
structure H_ledger_line (Bd : Bodies) : Prop where
  eq : Bd 154 = b_ledger_line
  digit_Show : H_digit_Show Bd
structure H_ledger_text (Bd : Bodies) : Prop where
  eq : Bd 140 = b_ledger_text
  ledger_line : H_ledger_line Bd
  digit_ShowHandle : H_digit_ShowHandle Bd
  strings_Join : H_strings_Join Bd
structure H_ledger_Print (Bd : Bodies) : Prop where
  eq : Bd 132 = b_ledger_Print
  ledger_May : H_ledger_May Bd
  ledger_text : H_ledger_text Bd
structure H_ledger_numbers (Bd : Bodies) : Prop where
  eq : Bd 160 = b_ledger_numbers
  digit_Read : H_digit_Read Bd
structure H_ledger_reader_take (Bd : Bodies) : Prop where
  eq : Bd 151 = b_ledger_reader_take
  strings_Join : H_strings_Join Bd
  ledger_numbers : H_ledger_numbers Bd
  digit_ReadHandle : H_digit_ReadHandle Bd
structure H_ledger_Read (Bd : Bodies) : Prop where
  eq : Bd 135 = b_ledger_Read
  ledger_Print : H_ledger_Print Bd
  strings_Split : H_strings_Split Bd
  ledger_reader_take : H_ledger_reader_take Bd
structure H_law33_awake (Bd : Bodies) : Prop where
  eq : Bd 131 = b_law33_awake
  ledger_Print : H_ledger_Print Bd
  ledger_Read : H_ledger_Read Bd
structure H_ref12_Right (Bd : Bodies) : Prop where
  eq : Bd 141 = b_ref12_Right
structure H_ref08_Ahead (Bd : Bodies) : Prop where
  eq : Bd 155 = b_ref08_Ahead
structure H_ref26_heaps (Bd : Bodies) : Prop where
  eq : Bd 144 = b_ref26_heaps
  ref04_Right : H_ref04_Right Bd
  ref04_Compare : H_ref04_Compare Bd
  ref08_Ahead : H_ref08_Ahead Bd
structure H_ref26_Entries (Bd : Bodies) : Prop where
  eq : Bd 142 = b_ref26_Entries
structure H_ref10_Has (Bd : Bodies) : Prop where
  eq : Bd 143 = b_ref10_Has
structure H_ref26_May (Bd : Bodies) : Prop where
  eq : Bd 133 = b_ref26_May
  ref12_Right : H_ref12_Right Bd
  ref26_heaps : H_ref26_heaps Bd
  ref26_Entries : H_ref26_Entries Bd
  ref10_Has : H_ref10_Has Bd
structure H_ref33_words (Bd : Bodies) : Prop where
  eq : Bd 152 = b_ref33_words
  ref03_Show : H_ref03_Show Bd
structure H_ref33_Print (Bd : Bodies) : Prop where
  eq : Bd 137 = b_ref33_Print
  ref33_words : H_ref33_words Bd
  ref03_Handle : H_ref03_Handle Bd
structure H_ref08_Entries (Bd : Bodies) : Prop where
  eq : Bd 153 = b_ref08_Entries
structure H_ref26_Same (Bd : Bodies) : Prop where
  eq : Bd 136 = b_ref26_Same
  ref01_Ints : H_ref01_Ints Bd
  ref08_Entries : H_ref08_Entries Bd
end Go.Gv

/- Functions of the program, as the machine runs them: written by gvseat.py. -/
namespace Go.Gv
set_option linter.unusedVariables false
set_option maxRecDepth 10000
set_option maxHeartbeats 4000000
noncomputable section
/-- rickyard/rickyardlaw33.LedgerReads (164); calls 131 law33_awake, 135 ledger_Read, 165 ref33_Read, 136 ref26_Same, 132 ledger_Print -/
def b_law33_LedgerReads : Oracle → Nat → List DV → M (List DV) := fun c n args =>
  J.s args fun s args =>
  D.nil args <|
  M.call (c 131 []) fun ds =>
  J.b ds fun x ds =>
  D.nil ds <|
  M.join (fun st => J.b st fun b1 st => D.nil st <|
    bif b1 then
      M.call (c 131 []) fun ds =>
      J.b ds fun x1 ds =>
      D.nil ds <|
      M.ret [.bool x1]
    else
      M.call (c 135 [.str s]) fun ds =>
      J.a ds fun cs ds =>
      J.i .i64 cs fun x2 r =>
      J.i .i64 r fun x3 r =>
      J.i .i64 r fun x4 r =>
      J.l 2 r fun x5 x5n r =>
      J.l 1 r fun x6 x6n r =>
      J.l 1 r fun x7 x7n r =>
      D.nil r <|
      J.b ds fun x8 ds =>
      D.nil ds <|
      M.call (c 165 [.str s]) fun ds =>
      J.a ds fun cs1 ds =>
      J.i .i64 cs1 fun x9 r =>
      J.i .i64 r fun x10 r =>
      J.i .i64 r fun x11 r =>
      J.l 2 r fun x12 x12n r =>
      J.l 1 r fun x13 x13n r =>
      J.l 1 r fun x14 x14n r =>
      D.nil r <|
      J.b ds fun x15 ds =>
      D.nil ds <|
      M.join (fun st => J.b st fun b2 st => D.nil st <|
        bif b2 then
          M.ret [.bool false]
        else
          M.call (c 132 [.agg [.int .i64 x2, .int .i64 x3, .int .i64 x4, .slice 2 x5 x5n, .slice 1 x6 x6n, .slice 1 x7 x7n]]) fun ds =>
          J.s ds fun x16 ds =>
          J.b ds fun x17 ds =>
          D.nil ds <|
          M.join (fun st => J.b st fun b3 st => D.nil st <|
            M.ret [.bool b3]) fun jk3 =>
          bif !x8 then
            jk3 [.bool true]
          else
            M.join (fun st => J.b st fun b4 st => D.nil st <|
              jk3 [.bool b4]) fun jk4 =>
            bif x17 then
              jk4 [.bool (x16 == s)]
            else
              jk4 [.bool false]) fun jk2 =>
      bif !(x8 == x15) then
        jk2 [.bool true]
      else
        M.call (c 136 [.agg [.int .i64 x2, .int .i64 x3, .int .i64 x4, .slice 2 x5 x5n, .slice 1 x6 x6n, .slice 1 x7 x7n], .agg [.int .i64 x9, .int .i64 x10, .int .i64 x11, .slice 2 x12 x12n, .slice 1 x13 x13n, .slice 1 x14 x14n]]) fun ds =>
        J.b ds fun x18 ds =>
        D.nil ds <|
        jk2 [.bool (!x18)]) fun jk1 =>
  bif !x then
    jk1 [.bool true]
  else
    jk1 [.bool (decide ((s.length : Int) > 3000))]
/-- rickyard/rickyardref33.Read (165); calls 166 ref33_cut, 167 ref33_ints, 95 ref03_ReadHandle, 133 ref26_May, 137 ref33_Print -/
def b_ref33_Read : Oracle → Nat → List DV → M (List DV) := fun c n args =>
  J.s args fun s args =>
  D.nil args <|
  M.base fun b0 =>
  M.call (c 166 [.str s, .int .u8 10]) fun ds =>
  J.l 1 ds fun x xn ds =>
  D.nil ds <|
  M.join (fun st =>
    J.a st fun cs st =>
    J.i .i64 cs fun x1 r =>
    J.i .i64 r fun x2 r =>
    J.i .i64 r fun x3 r =>
    J.l 2 r fun x4 x4n r =>
    J.l 1 r fun x5 x5n r =>
    J.l 1 r fun x6 x6n r =>
    D.nil r <|
    D.nil st <|
    M.call (c 133 [.agg [.int .i64 x1, .int .i64 x2, .int .i64 x3, .slice 2 x4 x4n, .slice 1 x5 x5n, .slice 1 x6 x6n]]) fun ds =>
    J.b ds fun x7 ds =>
    D.nil ds <|
    M.join (fun st => J.b st fun b1 st => D.nil st <|
      bif b1 then
        M.retF b0 [.agg [.int .i64 0, .int .i64 0, .int .i64 0, .slice 0 none 0, .slice 0 none 0, .slice 0 none 0], .bool false]
      else
        M.retF b0 [.agg [.int .i64 x1, .int .i64 x2, .int .i64 x3, .slice 2 x4 x4n, .slice 1 x5 x5n, .slice 1 x6 x6n], .bool true]) fun jk2 =>
    bif !x7 then
      jk2 [.bool true]
    else
      M.call (c 137 [.agg [.int .i64 x1, .int .i64 x2, .int .i64 x3, .slice 2 x4 x4n, .slice 1 x5 x5n, .slice 1 x6 x6n]]) fun ds =>
      J.s ds fun x8 ds =>
      D.nil ds <|
      jk2 [.bool (!(x8 == s))]) fun jk1 =>
  M.loop (fun rec1 st =>
    J.a st fun cs1 st =>
    J.i .i64 cs1 fun x9 r =>
    J.i .i64 r fun x10 r =>
    J.i .i64 r fun x11 r =>
    J.l 2 r fun x12 x12n r =>
    J.l 1 r fun x13 x13n r =>
    J.l 1 r fun x14 x14n r =>
    D.nil r <|
    J.i .i64 st fun i st =>
    D.nil st <|
    bif decide (i < (xn : Int)) then
      M.nn x fun i1 o =>
      M.chk (inB i xn) <|
      M.load1 i1 (i.toNat * 1 + o) fun d =>
      D.str d fun x15 =>
      M.call (c 166 [.str x15, .int .u8 32]) fun ds =>
      J.l 1 ds fun x16 x16n ds =>
      D.nil ds <|
      M.call (c 167 [.slice 1 x16 x16n]) fun ds =>
      J.l 1 ds fun x17 x17n ds =>
      D.nil ds <|
      M.nn x16 fun i2 o1 =>
      M.chk (inB 0 x16n) <|
      M.load1 i2 (0 + o1) fun d1 =>
      D.str d1 fun x18 =>
      M.join (fun st => J.b st fun b2 st => D.nil st <|
        M.join (fun st =>
          J.a st fun cs2 st =>
          J.i .i64 cs2 fun x19 r =>
          J.i .i64 r fun x20 r =>
          J.i .i64 r fun x21 r =>
          J.l 2 r fun x22 x22n r =>
          J.l 1 r fun x23 x23n r =>
          J.l 1 r fun x24 x24n r =>
          D.nil r <|
          D.nil st <|
          rec1 [.agg [.int .i64 x19, .int .i64 x20, .int .i64 x21, .slice 2 x22 x22n, .slice 1 x23 x23n, .slice 1 x24 x24n], .int .i64 (wr64 (i + 1))]) fun jk4 =>
        bif b2 then
          M.nn x17 fun i3 o2 =>
          M.chk (inB 0 x17n) <|
          M.load1 i3 (0 + o2) fun d2 =>
          D.int .i64 d2 fun x25 =>
          M.nn x17 fun i4 o3 =>
          M.chk (inB 1 x17n) <|
          M.load1 i4 (1 + o3) fun d3 =>
          D.int .i64 d3 fun x26 =>
          M.nn x17 fun i5 o4 =>
          M.chk (inB 2 x17n) <|
          M.load1 i5 (2 + o4) fun d4 =>
          D.int .i64 d4 fun x27 =>
          jk4 [.agg [.int .i64 x25, .int .i64 x26, .int .i64 x27, .slice 2 x12 x12n, .slice 1 x13 x13n, .slice 1 x14 x14n]]
        else
          M.nn x16 fun i6 o5 =>
          M.chk (inB 0 x16n) <|
          M.load1 i6 (0 + o5) fun d5 =>
          D.str d5 fun x28 =>
          M.join (fun st =>
            J.a st fun cs3 st =>
            J.i .i64 cs3 fun x29 r =>
            J.i .i64 r fun x30 r =>
            J.i .i64 r fun x31 r =>
            J.l 2 r fun x32 x32n r =>
            J.l 1 r fun x33 x33n r =>
            J.l 1 r fun x34 x34n r =>
            D.nil r <|
            D.nil st <|
            jk4 [.agg [.int .i64 x29, .int .i64 x30, .int .i64 x31, .slice 2 x32 x32n, .slice 1 x33 x33n, .slice 1 x34 x34n]]) fun jk5 =>
          bif x28 == (bs [103, 101, 110, 115]) then
            jk5 [.agg [.int .i64 x9, .int .i64 x10, .int .i64 x11, .slice 2 x12 x12n, .slice 1 x17 x17n, .slice 1 x14 x14n]]
          else
            M.nn x16 fun i7 o6 =>
            M.chk (inB 0 x16n) <|
            M.load1 i7 (0 + o6) fun d6 =>
            D.str d6 fun x35 =>
            M.join (fun st =>
              J.a st fun cs4 st =>
            J.i .i64 cs4 fun x36 r =>
            J.i .i64 r fun x37 r =>
            J.i .i64 r fun x38 r =>
            J.l 2 r fun x39 x39n r =>
            J.l 1 r fun x40 x40n r =>
            J.l 1 r fun x41 x41n r =>
            D.nil r <|
            D.nil st <|
            jk5 [.agg [.int .i64 x36, .int .i64 x37, .int .i64 x38, .slice 2 x39 x39n, .slice 1 x40 x40n, .slice 1 x41 x41n]]) fun jk6 =>
            bif x35 == (bs [102, 114, 101, 101]) then
              jk6 [.agg [.int .i64 x9, .int .i64 x10, .int .i64 x11, .slice 2 x12 x12n, .slice 1 x13 x13n, .slice 1 x17 x17n]]
            else
              M.nn x16 fun i8 o7 =>
            M.chk (inB 0 x16n) <|
            M.load1 i8 (0 + o7) fun d7 =>
            D.str d7 fun x42 =>
            M.join (fun st => J.b st fun b3 st => D.nil st <|
              M.join (fun st =>
              J.a st fun cs5 st =>
            J.i .i64 cs5 fun x43 r =>
            J.i .i64 r fun x44 r =>
            J.i .i64 r fun x45 r =>
            J.l 2 r fun x46 x46n r =>
            J.l 1 r fun x47 x47n r =>
            J.l 1 r fun x48 x48n r =>
            D.nil r <|
            D.nil st <|
            jk6 [.agg [.int .i64 x43, .int .i64 x44, .int .i64 x45, .slice 2 x46 x46n, .slice 1 x47 x47n, .slice 1 x48 x48n]]) fun jk8 =>
            bif b3 then
              M.nn x16 fun i9 o8 =>
            M.chk (inB 1 x16n) <|
            M.load1 i9 (1 + o8) fun d8 =>
            D.str d8 fun x49 =>
            M.new [.str x49, .slice 0 none 0] fun i10 =>
            M.load i10 0 2 fun cs6 =>
            M.app 2 x12 x12n cs6 1 1759218604441 fun p =>
            jk8 [.agg [.int .i64 x9, .int .i64 x10, .int .i64 x11, .slice 2 p (x12n + 1), .slice 1 x13 x13n, .slice 1 x14 x14n]]
            else
              M.nn x16 fun i11 o9 =>
            M.chk (inB 0 x16n) <|
            M.load1 i11 (0 + o9) fun d9 =>
            D.str d9 fun x50 =>
            M.join (fun st => J.b st fun b4 st => D.nil st <|
              M.join (fun st => J.b st fun b5 st => D.nil st <|
              M.join (fun st => J.b st fun b6 st => D.nil st <|
              M.join (fun st =>
              D.nil st <|
            jk8 [.agg [.int .i64 x9, .int .i64 x10, .int .i64 x11, .slice 2 x12 x12n, .slice 1 x13 x13n, .slice 1 x14 x14n]]) fun jk12 =>
            bif b6 then
              M.nn x16 fun i12 o10 =>
            M.chk (inB 1 x16n) <|
            M.load1 i12 (1 + o10) fun d10 =>
            D.str d10 fun x51 =>
            M.call (c 95 [.str x51]) fun ds =>
            J.a ds fun cs7 ds =>
            J.i .i64 cs7 fun x52 r =>
            J.i .i64 r fun x53 r =>
            D.nil r <|
            J.b ds fun x54 ds =>
            D.nil ds <|
            M.nn x12 fun i13 o11 =>
            M.chk (inB (wr64 ((x12n : Int) - 1)) x12n) <|
            M.load1 i13 (((wr64 ((x12n : Int) - 1)).toNat) * 2 + o11 + 1) fun d11 =>
            D.slice 4 d11 fun x55 x55n =>
            M.nn x17 fun i14 o12 =>
            M.chk (inB 0 x17n) <|
            M.load1 i14 (0 + o12) fun d12 =>
            D.int .i64 d12 fun x56 =>
            M.nn x17 fun i15 o13 =>
            M.chk (inB 1 x17n) <|
            M.load1 i15 (1 + o13) fun d13 =>
            D.int .i64 d13 fun x57 =>
            M.new [.int .i64 x52, .int .i64 x53, .int .i64 x56, .int .i64 x57] fun i16 =>
            M.load i16 0 4 fun cs8 =>
            M.app 4 x55 x55n cs8 1 2199023255552 fun p1 =>
            M.nn x12 fun i17 o14 =>
            M.chk (inB (wr64 ((x12n : Int) - 1)) x12n) <|
            M.store i17 (((wr64 ((x12n : Int) - 1)).toNat) * 2 + o14 + 1) [.slice 4 p1 (x55n + 1)] <|
            jk12 []
            else
              jk12 []) fun jk11 =>
            bif b5 then
              jk11 [.bool (decide ((x12n : Int) > 0))]
            else
              jk11 [.bool false]) fun jk10 =>
            bif b4 then
              jk10 [.bool ((x17n : Int) == 2)]
            else
              jk10 [.bool false]) fun jk9 =>
            bif x50 == (bs [101, 110, 116, 114, 121]) then
              jk9 [.bool ((x16n : Int) == 4)]
            else
              jk9 [.bool false]) fun jk7 =>
            bif x42 == (bs [113, 117, 101, 117, 101]) then
              jk7 [.bool ((x16n : Int) == 2)]
            else
              jk7 [.bool false]) fun jk3 =>
      bif x18 == (bs [121, 97, 114, 100]) then
        jk3 [.bool ((x17n : Int) == 3)]
      else
        jk3 [.bool false]
    else
      jk1 [.agg [.int .i64 x9, .int .i64 x10, .int .i64 x11, .slice 2 x12 x12n, .slice 1 x13 x13n, .slice 1 x14 x14n]]) n [.agg [.int .i64 0, .int .i64 0, .int .i64 0, .slice 0 none 0, .slice 0 none 0, .slice 0 none 0], .int .i64 0]
/-- rickyard/rickyardref33.cut (166); calls  -/
def b_ref33_cut : Oracle → Nat → List DV → M (List DV) := fun c n args =>
  J.s args fun s args =>
  J.i .u8 args fun sign args =>
  D.nil args <|
  M.base fun b0 =>
  M.join (fun st =>
    J.l 1 st fun out outn st =>
    D.nil st <|
    M.retF b0 [.slice 1 out outn]) fun jk1 =>
  M.loop (fun rec1 st =>
    J.l 1 st fun out1 out1n st =>
    J.i .i64 st fun from1 st =>
    J.i .i64 st fun i st =>
    D.nil st <|
    bif decide (i ≤ (s.length : Int)) then
      M.join (fun st => J.b st fun b1 st => D.nil st <|
        M.join (fun st =>
          J.l 1 st fun out2 out2n st =>
          J.i .i64 st fun from2 st =>
          D.nil st <|
          rec1 [.slice 1 out2 out2n, .int .i64 from2, .int .i64 (wr64 (i + 1))]) fun jk3 =>
        bif b1 then
          M.chk (decide (0 ≤ i) && decide (i ≤ (s.length : Int))) <|
          M.chk (decide (0 ≤ from1) && decide (from1 ≤ (i.toNat : Int))) <|
          M.new [.str ((s.take i.toNat).drop from1.toNat)] fun i1 =>
          M.load i1 0 1 fun cs =>
          M.app 1 out1 out1n cs 1 4398046511104 fun p =>
          jk3 [.slice 1 p (out1n + 1), .int .i64 (wr64 (i + 1))]
        else
          jk3 [.slice 1 out1 out1n, .int .i64 from1]) fun jk2 =>
      bif i == (s.length : Int) then
        jk2 [.bool true]
      else
        M.chk (inB i s.length) <|
        jk2 [.bool ((byteAt s i) == sign)]
    else
      jk1 [.slice 1 out1 out1n]) n [.slice 0 none 0, .int .i64 0, .int .i64 0]
/-- rickyard/rickyardref33.ints (167); calls 53 ref03_Read -/
def b_ref33_ints : Oracle → Nat → List DV → M (List DV) := fun c n args =>
  J.l 1 args fun l ln args =>
  D.nil args <|
  M.base fun b0 =>
  M.join (fun st =>
    J.l 1 st fun out outn st =>
    D.nil st <|
    M.retF b0 [.slice 1 out outn]) fun jk1 =>
  M.loop (fun rec1 st =>
    J.l 1 st fun out1 out1n st =>
    J.i .i64 st fun i st =>
    D.nil st <|
    bif decide (i < (ln : Int)) then
      M.nn l fun i1 o =>
      M.chk (inB i ln) <|
      M.load1 i1 (i.toNat * 1 + o) fun d =>
      D.str d fun x =>
      M.call (c 53 [.str x]) fun ds =>
      J.i .i64 ds fun x1 ds =>
      J.b ds fun x2 ds =>
      D.nil ds <|
      M.join (fun st =>
        J.l 1 st fun out2 out2n st =>
        D.nil st <|
        rec1 [.slice 1 out2 out2n, .int .i64 (wr64 (i + 1))]) fun jk2 =>
      bif x2 then
        M.new [.int .i64 x1] fun i2 =>
        M.load i2 0 1 fun cs =>
        M.app 1 out1 out1n cs 1 8796093022208 fun p =>
        jk2 [.slice 1 p (out1n + 1)]
      else
        jk2 [.slice 1 out1 out1n]
    else
      jk1 [.slice 1 out1 out1n]) n [.slice 0 none 0, .int .i64 0]
end
structure H_ref33_cut (Bd : Bodies) : Prop where
  eq : Bd 166 = b_ref33_cut
structure H_ref33_ints (Bd : Bodies) : Prop where
  eq : Bd 167 = b_ref33_ints
  ref03_Read : H_ref03_Read Bd
structure H_ref33_Read (Bd : Bodies) : Prop where
  eq : Bd 165 = b_ref33_Read
  ref33_cut : H_ref33_cut Bd
  ref33_ints : H_ref33_ints Bd
  ref03_ReadHandle : H_ref03_ReadHandle Bd
  ref26_May : H_ref26_May Bd
  ref33_Print : H_ref33_Print Bd
structure H_law33_LedgerReads (Bd : Bodies) : Prop where
  eq : Bd 164 = b_law33_LedgerReads
  law33_awake : H_law33_awake Bd
  ledger_Read : H_ledger_Read Bd
  ref33_Read : H_ref33_Read Bd
  ref26_Same : H_ref26_Same Bd
  ledger_Print : H_ledger_Print Bd
end Go.Gv
