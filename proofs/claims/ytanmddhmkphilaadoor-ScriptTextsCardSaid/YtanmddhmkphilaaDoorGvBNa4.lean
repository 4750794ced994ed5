/- Functions of the program, as the machine runs them: written by gvseat.py. -/
import Derived.Test.YtanmddhmkphilaaDoorGvDef
import Derived.Test.YtanmddhmkphilaaDoorGvBLaa
namespace Go.Gv
set_option linter.unusedVariables false
set_option maxRecDepth 10000
set_option maxHeartbeats 4000000
noncomputable section
def str_0 : List UInt8 := bs [48, 48, 48, 49, 48, 50, 48, 51, 48, 52, 48, 53, 48, 54, 48, 55, 48, 56, 48, 57, 49, 48, 49, 49, 49, 50, 49, 51, 49, 52, 49, 53, 49, 54, 49, 55, 49, 56, 49, 57, 50, 48, 50, 49, 50, 50, 50, 51, 50, 52, 50, 53, 50, 54, 50, 55, 50, 56, 50, 57, 51, 48, 51, 49, 51, 50, 51, 51, 51, 52, 51, 53, 51, 54, 51, 55, 51, 56, 51, 57, 52, 48, 52, 49, 52, 50, 52, 51, 52, 52, 52, 53, 52, 54, 52, 55, 52, 56, 52, 57, 53, 48, 53, 49, 53, 50, 53, 51, 53, 52, 53, 53, 53, 54, 53, 55, 53, 56, 53, 57, 54, 48, 54, 49, 54, 50, 54, 51, 54, 52, 54, 53, 54, 54, 54, 55, 54, 56, 54, 57, 55, 48, 55, 49, 55, 50, 55, 51, 55, 52, 55, 53, 55, 54, 55, 55, 55, 56, 55, 57, 56, 48, 56, 49, 56, 50, 56, 51, 56, 52, 56, 53, 56, 54, 56, 55, 56, 56, 56, 57, 57, 48, 57, 49, 57, 50, 57, 51, 57, 52, 57, 53, 57, 54, 57, 55, 57, 56, 57, 57]
def str_2 : List UInt8 := bs [0, 1, 2, 2, 3, 3, 3, 3, 4, 4, 4, 4, 4, 4, 4, 4, 5, 5, 5, 5, 5, 5, 5, 5, 5, 5, 5, 5, 5, 5, 5, 5, 6, 6, 6, 6, 6, 6, 6, 6, 6, 6, 6, 6, 6, 6, 6, 6, 6, 6, 6, 6, 6, 6, 6, 6, 6, 6, 6, 6, 6, 6, 6, 6, 7, 7, 7, 7, 7, 7, 7, 7, 7, 7, 7, 7, 7, 7, 7, 7, 7, 7, 7, 7, 7, 7, 7, 7, 7, 7, 7, 7, 7, 7, 7, 7, 7, 7, 7, 7, 7, 7, 7, 7, 7, 7, 7, 7, 7, 7, 7, 7, 7, 7, 7, 7, 7, 7, 7, 7, 7, 7, 7, 7, 7, 7, 7, 7, 8, 8, 8, 8, 8, 8, 8, 8, 8, 8, 8, 8, 8, 8, 8, 8, 8, 8, 8, 8, 8, 8, 8, 8, 8, 8, 8, 8, 8, 8, 8, 8, 8, 8, 8, 8, 8, 8, 8, 8, 8, 8, 8, 8, 8, 8, 8, 8, 8, 8, 8, 8, 8, 8, 8, 8, 8, 8, 8, 8, 8, 8, 8, 8, 8, 8, 8, 8, 8, 8, 8, 8, 8, 8, 8, 8, 8, 8, 8, 8, 8, 8, 8, 8, 8, 8, 8, 8, 8, 8, 8, 8, 8, 8, 8, 8, 8, 8, 8, 8, 8, 8, 8, 8, 8, 8, 8, 8, 8, 8, 8, 8, 8, 8, 8, 8, 8, 8, 8, 8, 8, 8, 8, 8, 8, 8, 8, 8]
/-- rickyard/rickyardlaw04.NameRights (24); calls 25 law04_awake, 26 name_Right, 27 ref04_Right, 28 name_Of, 29 ref04_Of -/
def b_law04_NameRights : Oracle → Nat → List DV → M (List DV) := fun c n args =>
  J.s args fun s args =>
  J.i .i32 args fun r1 args =>
  D.nil args <|
  M.call (c 25 []) fun ds =>
  J.b ds fun x ds =>
  D.nil ds <|
  M.join (fun st => J.b st fun b1 st => D.nil st <|
    bif b1 then
      M.call (c 25 []) fun ds =>
      J.b ds fun x1 ds =>
      D.nil ds <|
      M.ret [.bool x1]
    else
      M.call (c 26 [.str s]) fun ds =>
      J.b ds fun x2 ds =>
      D.nil ds <|
      M.call (c 27 [.str s]) fun ds =>
      J.b ds fun x3 ds =>
      D.nil ds <|
      M.join (fun st => J.b st fun b2 st => D.nil st <|
        M.ret [.bool b2]) fun jk2 =>
      bif x2 == x3 then
        M.call (c 28 [.int .i32 r1]) fun ds =>
        J.b ds fun x4 ds =>
        D.nil ds <|
        M.call (c 29 [.int .i64 (wr64 (r1))]) fun ds =>
        J.b ds fun x5 ds =>
        D.nil ds <|
        jk2 [.bool (x4 == x5)]
      else
        jk2 [.bool false]) fun jk1 =>
  bif !x then
    jk1 [.bool true]
  else
    jk1 [.bool (decide ((s.length : Int) > 300))]
/-- rickyard/rickyardlaw04.awake (25); calls 26 name_Right, 31 name_Show -/
def b_law04_awake : Oracle → Nat → List DV → M (List DV) := fun c n args =>
  D.nil args <|
  M.call (c 26 [.str (bs [97, 98])]) fun ds =>
  J.b ds fun x ds =>
  D.nil ds <|
  M.join (fun st => J.b st fun b1 st => D.nil st <|
    M.join (fun st => J.b st fun b2 st => D.nil st <|
      M.join (fun st => J.b st fun b3 st => D.nil st <|
        M.join (fun st => J.b st fun b4 st => D.nil st <|
          M.join (fun st => J.b st fun b5 st => D.nil st <|
            M.ret [.bool b5]) fun jk5 =>
          bif b4 then
            M.call (c 31 [.str (bs [97, 32, 98])]) fun ds =>
            J.s ds fun x1 ds =>
            D.nil ds <|
            jk5 [.bool (x1 == (bs [97, 60, 50, 48, 62, 98]))]
          else
            jk5 [.bool false]) fun jk4 =>
        bif b3 then
          M.call (c 26 [.str (bs [49, 50, 51, 52, 53, 54, 55, 56, 57])]) fun ds =>
          J.b ds fun x2 ds =>
          D.nil ds <|
          jk4 [.bool (!x2)]
        else
          jk4 [.bool false]) fun jk3 =>
      bif b2 then
        M.call (c 26 [.str (bs [])]) fun ds =>
        J.b ds fun x3 ds =>
        D.nil ds <|
        jk3 [.bool (!x3)]
      else
        jk3 [.bool false]) fun jk2 =>
    bif b1 then
      M.call (c 26 [.str (bs [97, 32, 98])]) fun ds =>
      J.b ds fun x4 ds =>
      D.nil ds <|
      jk2 [.bool (!x4)]
    else
      jk2 [.bool false]) fun jk1 =>
  bif x then
    M.call (c 26 [.str (bs [230, 151, 165, 230, 156, 172])]) fun ds =>
    J.b ds fun x5 ds =>
    D.nil ds <|
    jk1 [.bool x5]
  else
    jk1 [.bool false]
/-- rickyard/name.Right (26); calls 28 name_Of -/
def b_name_Right : Oracle → Nat → List DV → M (List DV) := fun c n args =>
  J.s args fun s args =>
  D.nil args <|
  M.join (fun st =>
    J.i .i64 st fun n1 st =>
    D.nil st <|
    M.ret [.bool (decide (n1 > 0))]) fun jk1 =>
  M.loop (fun rec1 st =>
    J.i .i64 st fun n2 st =>
    J.n st fun p st =>
    D.nil st <|
    bif Nat.blt p s.length then
    M.join (fun st => J.b st fun b1 st => D.nil st <|
      bif b1 then
        M.ret [.bool false]
      else
        rec1 [.int .i64 (wr64 (n2 + 1)), .nat (p + runeW s p)]) fun jk2 =>
    bif decide (wr64 (n2 + 1) > 8) then
      jk2 [.bool true]
    else
      M.call (c 28 [.int .i32 (runeAt s p)]) fun ds =>
      J.b ds fun x ds =>
      D.nil ds <|
      jk2 [.bool (!x)]
    else
    jk1 [.int .i64 n2]) n [.int .i64 0, .nat 0]
/-- rickyard/rickyardref04.Right (27); calls 29 ref04_Of, 12 ref04_Runes -/
def b_ref04_Right : Oracle → Nat → List DV → M (List DV) := fun c n args =>
  J.s args fun s args =>
  D.nil args <|
  M.call (c 12 [.str s]) fun ds =>
  J.l 1 ds fun x xn ds =>
  D.nil ds <|
  M.join (fun st => J.b st fun b1 st => D.nil st <|
    M.join (fun st =>
      J.b st fun ok st =>
      D.nil st <|
      M.ret [.bool ok]) fun jk2 =>
    M.loop (fun rec1 st =>
      J.b st fun ok1 st =>
      J.i .i64 st fun i st =>
      D.nil st <|
      bif decide (i < (xn : Int)) then
        M.join (fun st => J.b st fun b2 st => D.nil st <|
          rec1 [.bool b2, .int .i64 (wr64 (i + 1))]) fun jk3 =>
        bif ok1 then
          M.nn x fun i1 o =>
          M.chk (inB i xn) <|
          M.load1 i1 (i.toNat * 1 + o) fun d =>
          D.int .i64 d fun x1 =>
          M.call (c 29 [.int .i64 x1]) fun ds =>
          J.b ds fun x2 ds =>
          D.nil ds <|
          jk3 [.bool x2]
        else
          jk3 [.bool false]
      else
        jk2 [.bool ok1]) n [.bool b1, .int .i64 0]) fun jk1 =>
  bif decide ((xn : Int) > 0) then
    jk1 [.bool (decide ((xn : Int) ≤ 8))]
  else
    jk1 [.bool false]
/-- rickyard/name.Of (28); calls 54 name_spans -/
def b_name_Of : Oracle → Nat → List DV → M (List DV) := fun c n args =>
  J.i .i32 args fun r1 args =>
  D.nil args <|
  M.call (c 54 []) fun ds =>
  J.a ds fun cs ds =>
  D.len cs 12 <|
  D.nil ds <|
  M.join (fun st =>
    D.nil st <|
    M.ret [.bool false]) fun jk1 =>
  M.loop (fun rec1 st =>
    J.i .i64 st fun x st =>
    D.nil st <|
    bif decide (x < 6) then
      M.chk (inB x 6) <|
      D.len ((cs.drop (x.toNat * 2)).take 2) 2 <|
      D.nth ((cs.drop (x.toNat * 2)).take 2) 0 fun d =>
      D.int .i32 d fun x1 =>
      M.join (fun st => J.b st fun b1 st => D.nil st <|
        bif b1 then
          M.ret [.bool true]
        else
          rec1 [.int .i64 (wr64 (x + 1))]) fun jk2 =>
      bif decide (r1 ≥ x1) then
        D.nth ((cs.drop (x.toNat * 2)).take 2) 1 fun d1 =>
        D.int .i32 d1 fun x2 =>
        jk2 [.bool (decide (r1 ≤ x2))]
      else
        jk2 [.bool false]
    else
      jk1 []) n [.int .i64 0]
/-- rickyard/rickyardref04.Of (29); calls  -/
def b_ref04_Of : Oracle → Nat → List DV → M (List DV) := fun c n args =>
  J.i .i64 args fun r1 args =>
  D.nil args <|
  M.join (fun st => J.b st fun b1 st => D.nil st <|
    M.join (fun st => J.b st fun b2 st => D.nil st <|
      M.join (fun st => J.b st fun b3 st => D.nil st <|
        M.join (fun st => J.b st fun b4 st => D.nil st <|
          M.join (fun st => J.b st fun b5 st => D.nil st <|
            M.join (fun st => J.b st fun b6 st => D.nil st <|
              M.ret [.bool b6]) fun jk6 =>
            bif b5 then
              jk6 [.bool true]
            else
              M.join (fun st => J.b st fun b7 st => D.nil st <|
              jk6 [.bool b7]) fun jk7 =>
            bif decide (r1 ≥ 161) then
              jk7 [.bool (decide (r1 ≤ 65519))]
            else
              jk7 [.bool false]) fun jk5 =>
          bif b4 then
            jk5 [.bool true]
          else
            jk5 [.bool (r1 == 95)]) fun jk4 =>
        bif b3 then
          jk4 [.bool true]
        else
          jk4 [.bool (r1 == 45)]) fun jk3 =>
      bif b2 then
        jk3 [.bool true]
      else
        M.join (fun st => J.b st fun b8 st => D.nil st <|
          jk3 [.bool b8]) fun jk8 =>
        bif decide (r1 ≥ 48) then
          jk8 [.bool (decide (r1 ≤ 57))]
        else
          jk8 [.bool false]) fun jk2 =>
    bif b1 then
      jk2 [.bool true]
    else
      M.join (fun st => J.b st fun b9 st => D.nil st <|
        jk2 [.bool b9]) fun jk9 =>
      bif decide (r1 ≥ 65) then
        jk9 [.bool (decide (r1 ≤ 90))]
      else
        jk9 [.bool false]) fun jk1 =>
  bif decide (r1 ≥ 97) then
    jk1 [.bool (decide (r1 ≤ 122))]
  else
    jk1 [.bool false]
/-- rickyard/rickyardlaw04.NameShows (30); calls 25 law04_awake, 26 name_Right, 31 name_Show, 32 ref04_Show -/
def b_law04_NameShows : Oracle → Nat → List DV → M (List DV) := fun c n args =>
  J.s args fun s args =>
  D.nil args <|
  M.call (c 25 []) fun ds =>
  J.b ds fun x ds =>
  D.nil ds <|
  M.join (fun st => J.b st fun b1 st => D.nil st <|
    bif b1 then
      M.call (c 25 []) fun ds =>
      J.b ds fun x1 ds =>
      D.nil ds <|
      M.ret [.bool x1]
    else
      M.call (c 31 [.str s]) fun ds =>
      J.s ds fun x2 ds =>
      D.nil ds <|
      M.call (c 32 [.str s]) fun ds =>
      J.s ds fun x3 ds =>
      D.nil ds <|
      M.join (fun st => J.b st fun b2 st => D.nil st <|
        M.ret [.bool b2]) fun jk2 =>
      bif x2 == x3 then
        M.call (c 26 [.str s]) fun ds =>
        J.b ds fun x4 ds =>
        D.nil ds <|
        M.join (fun st => J.b st fun b3 st => D.nil st <|
          jk2 [.bool b3]) fun jk3 =>
        bif !x4 then
          jk3 [.bool true]
        else
          jk3 [.bool (x2 == s)]
      else
        jk2 [.bool false]) fun jk1 =>
  bif !x then
    jk1 [.bool true]
  else
    jk1 [.bool (decide ((s.length : Int) > 300))]
/-- rickyard/name.Show (31); calls 28 name_Of, 55 strconv_FormatInt -/
def b_name_Show : Oracle → Nat → List DV → M (List DV) := fun c n args =>
  J.s args fun s args =>
  D.nil args <|
  M.join (fun st =>
    J.s st fun out st =>
    D.nil st <|
    M.ret [.str out]) fun jk1 =>
  M.loop (fun rec1 st =>
    J.s st fun out1 st =>
    J.n st fun p st =>
    D.nil st <|
    bif Nat.blt p s.length then
    M.call (c 28 [.int .i32 (runeAt s p)]) fun ds =>
    J.b ds fun x ds =>
    D.nil ds <|
    M.join (fun st =>
      J.s st fun out2 st =>
      D.nil st <|
      rec1 [.str out2, .nat (p + runeW s p)]) fun jk2 =>
    bif x then
      M.chk (Nat.ble (out1.length + (enc (runeAt s p)).length) 4611686018427387904) <|
      jk2 [.str (out1 ++ (enc (runeAt s p)))]
    else
      M.call (c 55 [.int .i64 (wr64 (runeAt s p)), .int .i64 16]) fun ds =>
      J.s ds fun x1 ds =>
      D.nil ds <|
      M.chk (Nat.ble ((bs [60]).length + x1.length) 4611686018427387904) <|
      M.chk (Nat.ble (((bs [60]) ++ x1).length + (bs [62]).length) 4611686018427387904) <|
      M.chk (Nat.ble (out1.length + (((bs [60]) ++ x1) ++ (bs [62])).length) 4611686018427387904) <|
      jk2 [.str (out1 ++ (((bs [60]) ++ x1) ++ (bs [62])))]
    else
    jk1 [.str out1]) n [.str (bs []), .nat 0]
/-- rickyard/rickyardref04.Show (32); calls 29 ref04_Of, 15 ref04_First, 56 ref04_hex -/
def b_ref04_Show : Oracle → Nat → List DV → M (List DV) := fun c n args =>
  J.s args fun s args =>
  D.nil args <|
  M.join (fun st =>
    J.s st fun out st =>
    D.nil st <|
    M.ret [.str out]) fun jk1 =>
  M.loop (fun rec1 st =>
    J.s st fun s1 st =>
    J.s st fun out1 st =>
    D.nil st <|
    bif decide ((s1.length : Int) > 0) then
      M.call (c 15 [.str s1]) fun ds =>
      J.i .i64 ds fun x ds =>
      J.i .i64 ds fun x1 ds =>
      D.nil ds <|
      M.call (c 29 [.int .i64 x]) fun ds =>
      J.b ds fun x2 ds =>
      D.nil ds <|
      M.join (fun st =>
        J.s st fun out2 st =>
        D.nil st <|
        M.chk (decide (0 ≤ x1) && decide (x1 ≤ (s1.length : Int))) <|
        rec1 [.str (s1.drop x1.toNat), .str out2]) fun jk2 =>
      bif x2 then
        M.chk (decide (0 ≤ x1) && decide (x1 ≤ (s1.length : Int))) <|
        M.chk (Nat.ble (out1.length + (s1.take x1.toNat).length) 4611686018427387904) <|
        jk2 [.str (out1 ++ (s1.take x1.toNat))]
      else
        M.chk (Nat.ble (out1.length + (bs [60]).length) 4611686018427387904) <|
        M.call (c 56 [.int .i64 x]) fun ds =>
        J.s ds fun x3 ds =>
        D.nil ds <|
        M.chk (Nat.ble ((out1 ++ (bs [60])).length + x3.length) 4611686018427387904) <|
        M.chk (Nat.ble (((out1 ++ (bs [60])) ++ x3).length + (bs [62]).length) 4611686018427387904) <|
        jk2 [.str (((out1 ++ (bs [60])) ++ x3) ++ (bs [62]))]
    else
      jk1 [.str out1]) n [.str s, .str (bs [])]
/-- rickyard/rickyardlaw04.NameRunes (33); calls 25 law04_awake, 34 name_Runes, 12 ref04_Runes -/
def b_law04_NameRunes : Oracle → Nat → List DV → M (List DV) := fun c n args =>
  J.s args fun s args =>
  D.nil args <|
  M.call (c 25 []) fun ds =>
  J.b ds fun x ds =>
  D.nil ds <|
  M.join (fun st => J.b st fun b1 st => D.nil st <|
    bif b1 then
      M.call (c 25 []) fun ds =>
      J.b ds fun x1 ds =>
      D.nil ds <|
      M.ret [.bool x1]
    else
      M.call (c 34 [.str s]) fun ds =>
      J.l 1 ds fun x2 x2n ds =>
      D.nil ds <|
      M.call (c 12 [.str s]) fun ds =>
      J.l 1 ds fun x3 x3n ds =>
      D.nil ds <|
      bif !((x2n : Int) == (x3n : Int)) then
        M.ret [.bool false]
      else
        M.join (fun st =>
          D.nil st <|
          M.ret [.bool true]) fun jk2 =>
        M.loop (fun rec1 st =>
          J.i .i64 st fun i st =>
          D.nil st <|
          bif decide (i < (x2n : Int)) then
            M.nn x2 fun i1 o =>
            M.chk (inB i x2n) <|
            M.load1 i1 (i.toNat * 1 + o) fun d =>
            D.int .i32 d fun x4 =>
            M.nn x3 fun i2 o1 =>
            M.chk (inB i x3n) <|
            M.load1 i2 (i.toNat * 1 + o1) fun d1 =>
            D.int .i64 d1 fun x5 =>
            bif !((wr64 (x4)) == x5) then
              M.ret [.bool false]
            else
              rec1 [.int .i64 (wr64 (i + 1))]
          else
            jk2 []) n [.int .i64 0]) fun jk1 =>
  bif !x then
    jk1 [.bool true]
  else
    jk1 [.bool (decide ((s.length : Int) > 300))]
/-- rickyard/name.Runes (34); calls  -/
def b_name_Runes : Oracle → Nat → List DV → M (List DV) := fun c n args =>
  J.s args fun s args =>
  D.nil args <|
  M.base fun b0 =>
  M.join (fun st =>
    J.l 1 st fun out outn st =>
    D.nil st <|
    M.retF b0 [.slice 1 out outn]) fun jk1 =>
  M.loop (fun rec1 st =>
    J.l 1 st fun out1 out1n st =>
    J.n st fun p st =>
    D.nil st <|
    bif Nat.blt p s.length then
    M.new [.int .i32 (runeAt s p)] fun i =>
    M.load i 0 1 fun cs =>
    M.app 1 out1 out1n cs 1 17592186044416 fun p1 =>
    rec1 [.slice 1 p1 (out1n + 1), .nat (p + runeW s p)]
    else
    jk1 [.slice 1 out1 out1n]) n [.slice 0 none 0, .nat 0]
/-- rickyard/rickyardlaw04.NameCuts (35); calls 25 law04_awake, 36 name_Cut, 37 ref04_Cut -/
def b_law04_NameCuts : Oracle → Nat → List DV → M (List DV) := fun c n args =>
  J.s args fun s args =>
  J.i .i64 args fun n1 args =>
  D.nil args <|
  M.call (c 25 []) fun ds =>
  J.b ds fun x ds =>
  D.nil ds <|
  M.join (fun st => J.b st fun b1 st => D.nil st <|
    bif b1 then
      M.call (c 25 []) fun ds =>
      J.b ds fun x1 ds =>
      D.nil ds <|
      M.ret [.bool x1]
    else
      M.call (c 36 [.str s, .int .i64 n1]) fun ds =>
      J.s ds fun x2 ds =>
      D.nil ds <|
      M.call (c 37 [.str s, .int .i64 n1]) fun ds =>
      J.s ds fun x3 ds =>
      D.nil ds <|
      M.join (fun st => J.b st fun b2 st => D.nil st <|
        M.ret [.bool b2]) fun jk2 =>
      bif x2 == x3 then
        M.chk (decide (0 ≤ (x2.length : Int)) && decide ((x2.length : Int) ≤ (s.length : Int))) <|
        jk2 [.bool (x2 == (s.take ((x2.length : Int).toNat)))]
      else
        jk2 [.bool false]) fun jk1 =>
  bif !x then
    jk1 [.bool true]
  else
    jk1 [.bool (decide ((s.length : Int) > 300))]
/-- rickyard/name.Cut (36); calls  -/
def b_name_Cut : Oracle → Nat → List DV → M (List DV) := fun c n args =>
  J.s args fun s args =>
  J.i .i64 args fun n1 args =>
  D.nil args <|
  M.join (fun st =>
    J.i .i64 st fun n2 st =>
    D.nil st <|
    bif decide (n2 < 0) then
      M.ret [.str (bs [])]
    else
      M.ret [.str s]) fun jk1 =>
  M.loop (fun rec1 st =>
    J.i .i64 st fun n3 st =>
    J.n st fun p st =>
    D.nil st <|
    bif Nat.blt p s.length then
    bif decide (n3 < 1) then
      M.chk (decide (0 ≤ (p : Int)) && decide ((p : Int) ≤ (s.length : Int))) <|
      M.ret [.str (s.take ((p : Int).toNat))]
    else
      rec1 [.int .i64 (wr64 (n3 - 1)), .nat (p + runeW s p)]
    else
    jk1 [.int .i64 n3]) n [.int .i64 n1, .nat 0]
/-- rickyard/rickyardref04.Cut (37); calls 15 ref04_First -/
def b_ref04_Cut : Oracle → Nat → List DV → M (List DV) := fun c n args =>
  J.s args fun s args =>
  J.i .i64 args fun n1 args =>
  D.nil args <|
  M.join (fun st =>
    J.s st fun out st =>
    D.nil st <|
    M.ret [.str out]) fun jk1 =>
  M.loop (fun rec1 st =>
    J.s st fun s1 st =>
    J.i .i64 st fun n2 st =>
    J.s st fun out1 st =>
    D.nil st <|
    M.join (fun st => J.b st fun b1 st => D.nil st <|
      bif b1 then
        M.call (c 15 [.str s1]) fun ds =>
        J.i .i64 ds fun x ds =>
        J.i .i64 ds fun x1 ds =>
        D.nil ds <|
        M.chk (decide (0 ≤ x1) && decide (x1 ≤ (s1.length : Int))) <|
        M.chk (Nat.ble (out1.length + (s1.take x1.toNat).length) 4611686018427387904) <|
        M.chk (decide (0 ≤ x1) && decide (x1 ≤ (s1.length : Int))) <|
        rec1 [.str (s1.drop x1.toNat), .int .i64 (wr64 (n2 - 1)), .str (out1 ++ (s1.take x1.toNat))]
      else
        jk1 [.str out1]) fun jk2 =>
    bif decide ((s1.length : Int) > 0) then
      jk2 [.bool (decide (n2 > 0))]
    else
      jk2 [.bool false]) n [.str s, .int .i64 n1, .str (bs [])]
/-- rickyard/rickyardlaw04.NameOrders (38); calls 25 law04_awake, 27 ref04_Right, 39 name_Compare, 40 ref04_Compare -/
def b_law04_NameOrders : Oracle → Nat → List DV → M (List DV) := fun c n args =>
  J.s args fun a args =>
  J.s args fun b1 args =>
  D.nil args <|
  M.call (c 25 []) fun ds =>
  J.b ds fun x ds =>
  D.nil ds <|
  M.join (fun st => J.b st fun b2 st => D.nil st <|
    M.join (fun st => J.b st fun b3 st => D.nil st <|
      bif b3 then
        M.call (c 25 []) fun ds =>
        J.b ds fun x1 ds =>
        D.nil ds <|
        M.ret [.bool x1]
      else
        M.call (c 39 [.str a, .str b1]) fun ds =>
        J.i .i64 ds fun x2 ds =>
        D.nil ds <|
        M.call (c 40 [.str a, .str b1]) fun ds =>
        J.i .i64 ds fun x3 ds =>
        D.nil ds <|
        M.join (fun st => J.b st fun b4 st => D.nil st <|
          bif b4 then
            M.ret [.bool false]
          else
            M.call (c 27 [.str a]) fun ds =>
            J.b ds fun x4 ds =>
            D.nil ds <|
            M.join (fun st => J.b st fun b5 st => D.nil st <|
              bif b5 then
              M.ret [.bool true]
            else
              M.join (fun st => J.b st fun b6 st => D.nil st <|
              M.join (fun st => J.b st fun b7 st => D.nil st <|
              M.ret [.bool b7]) fun jk6 =>
            bif b6 then
              jk6 [.bool ((x2 == 0) == (a == b1))]
            else
              jk6 [.bool false]) fun jk5 =>
            bif decide ((a.length : Int) ≤ 24) then
              jk5 [.bool ((decide (x2 < 0)) == (strLt a b1))]
            else
              jk5 [.bool false]) fun jk4 =>
            bif !x4 then
              jk4 [.bool true]
            else
              M.call (c 27 [.str b1]) fun ds =>
            J.b ds fun x5 ds =>
            D.nil ds <|
            jk4 [.bool (!x5)]) fun jk3 =>
        bif !(x2 == x3) then
          jk3 [.bool true]
        else
          M.call (c 39 [.str b1, .str a]) fun ds =>
          J.i .i64 ds fun x6 ds =>
          D.nil ds <|
          jk3 [.bool (!(x6 == (wr64 (0 - x2))))]) fun jk2 =>
    bif b2 then
      jk2 [.bool true]
    else
      jk2 [.bool (decide ((b1.length : Int) > 300))]) fun jk1 =>
  bif !x then
    jk1 [.bool true]
  else
    jk1 [.bool (decide ((a.length : Int) > 300))]
/-- rickyard/name.Compare (39); calls 34 name_Runes, 57 slices_Compare_rune_rune -/
def b_name_Compare : Oracle → Nat → List DV → M (List DV) := fun c n args =>
  J.s args fun a args =>
  J.s args fun b1 args =>
  D.nil args <|
  M.call (c 34 [.str a]) fun ds =>
  J.l 1 ds fun x xn ds =>
  D.nil ds <|
  M.call (c 34 [.str b1]) fun ds =>
  J.l 1 ds fun x1 x1n ds =>
  D.nil ds <|
  M.call (c 57 [.slice 1 x xn, .slice 1 x1 x1n]) fun ds =>
  J.i .i64 ds fun x2 ds =>
  D.nil ds <|
  M.ret [.int .i64 x2]
/-- rickyard/rickyardref04.Compare (40); calls 12 ref04_Runes -/
def b_ref04_Compare : Oracle → Nat → List DV → M (List DV) := fun c n args =>
  J.s args fun a args =>
  J.s args fun b1 args =>
  D.nil args <|
  M.call (c 12 [.str a]) fun ds =>
  J.l 1 ds fun x xn ds =>
  D.nil ds <|
  M.call (c 12 [.str b1]) fun ds =>
  J.l 1 ds fun x1 x1n ds =>
  D.nil ds <|
  M.join (fun st =>
    D.nil st <|
    bif decide ((xn : Int) < (x1n : Int)) then
      M.ret [.int .i64 (-1)]
    else
      bif decide ((xn : Int) > (x1n : Int)) then
        M.ret [.int .i64 1]
      else
        M.ret [.int .i64 0]) fun jk1 =>
  M.loop (fun rec1 st =>
    J.i .i64 st fun i st =>
    D.nil st <|
    M.join (fun st => J.b st fun b2 st => D.nil st <|
      bif b2 then
        M.nn x fun i1 o =>
        M.chk (inB i xn) <|
        M.load1 i1 (i.toNat * 1 + o) fun d =>
        D.int .i64 d fun x2 =>
        M.nn x1 fun i2 o1 =>
        M.chk (inB i x1n) <|
        M.load1 i2 (i.toNat * 1 + o1) fun d1 =>
        D.int .i64 d1 fun x3 =>
        bif decide (x2 < x3) then
          M.ret [.int .i64 (-1)]
        else
          M.nn x fun i3 o2 =>
          M.chk (inB i xn) <|
          M.load1 i3 (i.toNat * 1 + o2) fun d2 =>
          D.int .i64 d2 fun x4 =>
          M.nn x1 fun i4 o3 =>
          M.chk (inB i x1n) <|
          M.load1 i4 (i.toNat * 1 + o3) fun d3 =>
          D.int .i64 d3 fun x5 =>
          bif decide (x4 > x5) then
            M.ret [.int .i64 1]
          else
            rec1 [.int .i64 (wr64 (i + 1))]
      else
        jk1 []) fun jk2 =>
    bif decide (i < (xn : Int)) then
      jk2 [.bool (decide (i < (x1n : Int)))]
    else
      jk2 [.bool false]) n [.int .i64 0]
/-- rickyard/rickyardlaw04.NameBetween (41); calls 25 law04_awake, 39 name_Compare -/
def b_law04_NameBetween : Oracle → Nat → List DV → M (List DV) := fun c n args =>
  J.s args fun a args =>
  J.s args fun b1 args =>
  J.s args fun c1 args =>
  D.nil args <|
  M.call (c 25 []) fun ds =>
  J.b ds fun x ds =>
  D.nil ds <|
  M.join (fun st => J.b st fun b2 st => D.nil st <|
    M.join (fun st => J.b st fun b3 st => D.nil st <|
      M.join (fun st => J.b st fun b4 st => D.nil st <|
        bif b4 then
          M.call (c 25 []) fun ds =>
          J.b ds fun x1 ds =>
          D.nil ds <|
          M.ret [.bool x1]
        else
          M.call (c 39 [.str a, .str b1]) fun ds =>
          J.i .i64 ds fun x2 ds =>
          D.nil ds <|
          M.call (c 39 [.str b1, .str c1]) fun ds =>
          J.i .i64 ds fun x3 ds =>
          D.nil ds <|
          M.call (c 39 [.str a, .str c1]) fun ds =>
          J.i .i64 ds fun x4 ds =>
          D.nil ds <|
          M.join (fun st => J.b st fun b5 st => D.nil st <|
            bif b5 then
              M.join (fun st => J.b st fun b6 st => D.nil st <|
              M.ret [.bool b6]) fun jk5 =>
            bif decide (x4 ≤ 0) then
              M.join (fun st => J.b st fun b7 st => D.nil st <|
              jk5 [.bool ((x4 == 0) == b7)]) fun jk6 =>
            bif x2 == 0 then
              jk6 [.bool (x3 == 0)]
            else
              jk6 [.bool false]
            else
              jk5 [.bool false]
            else
              M.join (fun st => J.b st fun b8 st => D.nil st <|
              M.join (fun st => J.b st fun b9 st => D.nil st <|
              M.ret [.bool b9]) fun jk8 =>
            bif b8 then
              jk8 [.bool true]
            else
              jk8 [.bool (decide (x4 > 0))]) fun jk7 =>
            bif decide (x2 ≤ 0) then
              jk7 [.bool true]
            else
              jk7 [.bool (decide (x3 ≤ 0))]) fun jk4 =>
          bif decide (x2 ≤ 0) then
            jk4 [.bool (decide (x3 ≤ 0))]
          else
            jk4 [.bool false]) fun jk3 =>
      bif b3 then
        jk3 [.bool true]
      else
        jk3 [.bool (decide ((c1.length : Int) > 100))]) fun jk2 =>
    bif b2 then
      jk2 [.bool true]
    else
      jk2 [.bool (decide ((b1.length : Int) > 100))]) fun jk1 =>
  bif !x then
    jk1 [.bool true]
  else
    jk1 [.bool (decide ((a.length : Int) > 100))]
/-- rickyard/name.spans (54); calls  -/
def b_name_spans : Oracle → Nat → List DV → M (List DV) := fun c n args =>
  D.nil args <|
  M.ret [.agg [.int .i32 97, .int .i32 122, .int .i32 65, .int .i32 90, .int .i32 48, .int .i32 57, .int .i32 45, .int .i32 45, .int .i32 95, .int .i32 95, .int .i32 161, .int .i32 65519]]
/-- strconv.FormatInt (55); calls 63 strconv_FormatInt_ -/
def b_strconv_FormatInt : Oracle → Nat → List DV → M (List DV) := fun c n args =>
  J.i .i64 args fun i args =>
  J.i .i64 args fun base args =>
  D.nil args <|
  M.call (c 63 [.int .i64 i, .int .i64 base]) fun ds =>
  J.s ds fun x ds =>
  D.nil ds <|
  M.ret [.str x]
/-- rickyard/rickyardref04.hex (56); calls 56 ref04_hex -/
def b_ref04_hex : Oracle → Nat → List DV → M (List DV) := fun c n args =>
  J.i .i64 args fun n1 args =>
  D.nil args <|
  M.chk (decide (0 ≤ wr64 ((n1.tmod 16) + 1)) && decide (wr64 ((n1.tmod 16) + 1) ≤ (((bs [48, 49, 50, 51, 52, 53, 54, 55, 56, 57, 97, 98, 99, 100, 101, 102]).length : Nat) : Int))) <|
  M.chk (decide (0 ≤ n1.tmod 16) && decide (n1.tmod 16 ≤ (((wr64 ((n1.tmod 16) + 1)).toNat : Nat) : Int))) <|
  bif decide (n1 < 16) then
    M.ret [.str (((bs [48, 49, 50, 51, 52, 53, 54, 55, 56, 57, 97, 98, 99, 100, 101, 102]).take ((wr64 ((n1.tmod 16) + 1)).toNat)).drop ((n1.tmod 16).toNat))]
  else
    M.call (c 56 [.int .i64 (wr64 (n1.tdiv 16))]) fun ds =>
    J.s ds fun x ds =>
    D.nil ds <|
    M.chk (Nat.ble (x.length + (((bs [48, 49, 50, 51, 52, 53, 54, 55, 56, 57, 97, 98, 99, 100, 101, 102]).take ((wr64 ((n1.tmod 16) + 1)).toNat)).drop ((n1.tmod 16).toNat)).length) 4611686018427387904) <|
    M.ret [.str (x ++ (((bs [48, 49, 50, 51, 52, 53, 54, 55, 56, 57, 97, 98, 99, 100, 101, 102]).take ((wr64 ((n1.tmod 16) + 1)).toNat)).drop ((n1.tmod 16).toNat)))]
/-- slices.Compare[[]rune,rune] (57); calls 64 cmp_Compare_rune -/
def b_slices_Compare_rune_rune : Oracle → Nat → List DV → M (List DV) := fun c n args =>
  J.l 1 args fun s1 s1n args =>
  J.l 1 args fun s2 s2n args =>
  D.nil args <|
  M.join (fun st =>
    D.nil st <|
    bif decide ((s1n : Int) < (s2n : Int)) then
      M.ret [.int .i64 (-1)]
    else
      M.ret [.int .i64 0]) fun jk1 =>
  M.loop (fun rec1 st =>
    J.i .i64 st fun x st =>
    D.nil st <|
    bif decide (x < (s1n : Int)) then
      M.nn s1 fun i o =>
      M.chk (inB x s1n) <|
      M.load1 i (x.toNat * 1 + o) fun d =>
      D.int .i32 d fun x1 =>
      bif decide (x ≥ (s2n : Int)) then
        M.ret [.int .i64 1]
      else
        M.nn s2 fun i1 o1 =>
        M.chk (inB x s2n) <|
        M.load1 i1 (x.toNat * 1 + o1) fun d1 =>
        D.int .i32 d1 fun x2 =>
        M.call (c 64 [.int .i32 x1, .int .i32 x2]) fun ds =>
        J.i .i64 ds fun x3 ds =>
        D.nil ds <|
        bif !(x3 == 0) then
          M.ret [.int .i64 x3]
        else
          rec1 [.int .i64 (wr64 (x + 1))]
    else
      jk1 []) n [.int .i64 0]
/-- internal/strconv.FormatInt (63); calls 68 strconv_small, 69 strconv_numDigits, 70 strconv_formatBase10, 71 strconv_formatBits -/
def b_strconv_FormatInt_ : Oracle → Nat → List DV → M (List DV) := fun c n args =>
  J.i .i64 args fun i args =>
  J.i .i64 args fun base args =>
  D.nil args <|
  bif base == 10 then
    M.join (fun st => J.b st fun b1 st => D.nil st <|
      bif b1 then
        M.call (c 68 [.int .i64 i]) fun ds =>
        J.s ds fun x ds =>
        D.nil ds <|
        M.ret [.str x]
      else
        M.new (List.replicate 24 (.int .u8 0)) fun a =>
        M.join (fun st =>
          J.i .u64 st fun u st =>
          D.nil st <|
          M.call (c 69 [.int .u64 u]) fun ds =>
          J.i .i64 ds fun x1 ds =>
          D.nil ds <|
          M.load a 0 24 fun _ =>
          M.chk (decide (0 ≤ wr64 (1 + x1)) && decide (wr64 (1 + x1) ≤ 24)) <|
          M.chk (decide ((1 : Int) ≤ (((wr64 (1 + x1)).toNat : Nat) : Int))) <|
          M.call (c 70 [.slice 1 (some (a, 1)) (((wr64 (1 + x1)).toNat) - 1), .int .u64 u]) fun ds =>
          D.nil ds <|
          bif decide (i < 0) then
            M.store a 0 [.int .u8 45] <|
            M.load a 0 24 fun _ =>
            M.chk (decide (0 ≤ wr64 (1 + x1)) && decide (wr64 (1 + x1) ≤ 24)) <|
            M.load a 0 ((wr64 (1 + x1)).toNat) fun cs =>
            D.oct cs fun l =>
            M.ret [.str l]
          else
            M.load a 0 24 fun _ =>
            M.chk (decide (0 ≤ wr64 (1 + x1)) && decide (wr64 (1 + x1) ≤ 24)) <|
            M.chk (decide ((1 : Int) ≤ (((wr64 (1 + x1)).toNat : Nat) : Int))) <|
            M.load a 1 (((wr64 (1 + x1)).toNat) - 1) fun cs1 =>
            D.oct cs1 fun l1 =>
            M.ret [.str l1]) fun jk2 =>
        bif decide (i < 0) then
          jk2 [.int .u64 (IntKind.wrap .u64 (0 - (IntKind.wrap .u64 (i))))]
        else
          jk2 [.int .u64 (IntKind.wrap .u64 (i))]) fun jk1 =>
    bif decide ((0 : Int) ≤ i) then
      jk1 [.bool (decide (i < 100))]
    else
      jk1 [.bool false]
  else
    M.call (c 71 [.slice 0 none 0, .int .u64 (IntKind.wrap .u64 (i)), .int .i64 base, .bool (decide (i < 0)), .bool false]) fun ds =>
    J.l 1 ds fun x2 x2n ds =>
    J.s ds fun x3 ds =>
    D.nil ds <|
    M.ret [.str x3]
/-- cmp.Compare[rune] (64); calls 72 cmp_isNaN_rune -/
def b_cmp_Compare_rune : Oracle → Nat → List DV → M (List DV) := fun c n args =>
  J.i .i32 args fun x args =>
  J.i .i32 args fun y args =>
  D.nil args <|
  M.call (c 72 [.int .i32 x]) fun ds =>
  J.b ds fun x1 ds =>
  D.nil ds <|
  M.call (c 72 [.int .i32 y]) fun ds =>
  J.b ds fun x2 ds =>
  D.nil ds <|
  bif x1 then
    bif x2 then
      M.ret [.int .i64 0]
    else
      M.ret [.int .i64 (-1)]
  else
    bif x2 then
      M.ret [.int .i64 1]
    else
      bif decide (x < y) then
        M.ret [.int .i64 (-1)]
      else
        bif decide (x > y) then
          M.ret [.int .i64 1]
        else
          M.ret [.int .i64 0]
/-- internal/strconv.small (68); calls  -/
def b_strconv_small : Oracle → Nat → List DV → M (List DV) := fun c n args =>
  J.i .i64 args fun i args =>
  D.nil args <|
  bif decide (i < 10) then
    M.chk (decide (0 ≤ wr64 (i + 1)) && decide (wr64 (i + 1) ≤ (((bs [48, 49, 50, 51, 52, 53, 54, 55, 56, 57, 97, 98, 99, 100, 101, 102, 103, 104, 105, 106, 107, 108, 109, 110, 111, 112, 113, 114, 115, 116, 117, 118, 119, 120, 121, 122]).length : Nat) : Int))) <|
    M.chk (decide (0 ≤ i) && decide (i ≤ (((wr64 (i + 1)).toNat : Nat) : Int))) <|
    M.ret [.str (((bs [48, 49, 50, 51, 52, 53, 54, 55, 56, 57, 97, 98, 99, 100, 101, 102, 103, 104, 105, 106, 107, 108, 109, 110, 111, 112, 113, 114, 115, 116, 117, 118, 119, 120, 121, 122]).take ((wr64 (i + 1)).toNat)).drop i.toNat)]
  else
    M.chk (decide (0 ≤ wr64 ((wr64 (i * 2)) + 2)) && decide (wr64 ((wr64 (i * 2)) + 2) ≤ (str_0.length : Int))) <|
    M.chk (decide (0 ≤ wr64 (i * 2)) && decide (wr64 (i * 2) ≤ (((wr64 ((wr64 (i * 2)) + 2)).toNat : Nat) : Int))) <|
    M.ret [.str ((str_0.take ((wr64 ((wr64 (i * 2)) + 2)).toNat)).drop ((wr64 (i * 2)).toNat))]
/-- internal/strconv.numDigits (69); calls 78 strconv_log10Pow2, 77 bits_Len64, 85 internal_strconv_bool2_int -/
def b_strconv_numDigits : Oracle → Nat → List DV → M (List DV) := fun c n args =>
  J.i .u64 args fun d args =>
  D.nil args <|
  M.call (c 77 [.int .u64 d]) fun ds =>
  J.i .i64 ds fun x ds =>
  D.nil ds <|
  M.call (c 78 [.int .i64 x]) fun ds =>
  J.i .i64 ds fun x1 ds =>
  D.nil ds <|
  M.chk (inB x1 20) <|
  M.load1 1 (x1.toNat * 1 + 0) fun d1 =>
  D.int .u64 d1 fun x2 =>
  M.call (c 85 [.bool (decide (d ≥ x2))]) fun ds =>
  J.i .i64 ds fun x3 ds =>
  D.nil ds <|
  M.ret [.int .i64 (wr64 (x1 + x3))]
/-- internal/strconv.formatBase10 (70); calls  -/
def b_strconv_formatBase10 : Oracle → Nat → List DV → M (List DV) := fun c n args =>
  J.l 1 args fun a an args =>
  J.i .u64 args fun u args =>
  D.nil args <|
  M.join (fun st =>
    J.i .u64 st fun u1 st =>
    J.i .i64 st fun nd st =>
    D.nil st <|
    M.join (fun st =>
      J.i .i64 st fun nd1 st =>
      J.i .u32 st fun x st =>
      D.nil st <|
      M.join (fun st =>
        J.i .i64 st fun nd2 st =>
        J.i .u32 st fun x1 st =>
        D.nil st <|
        M.join (fun st =>
          D.nil st <|
          M.ret []) fun jk4 =>
        bif decide (nd2 > 0) then
          M.nn a fun i o =>
          M.chk (inB 0 an) <|
          M.store i (0 + o) [.int .u8 (IntKind.wrap .u8 (IntKind.wrap .u32 (48 + x1)))] <|
          jk4 []
        else
          jk4 []) fun jk3 =>
      bif decide (nd1 ≥ 2) then
        M.chk (inB (IntKind.wrap .u32 ((IntKind.wrap .u32 ((x.tmod 100) * 2)) + 1)) str_0.length) <|
        M.chk (inB (IntKind.wrap .u32 ((x.tmod 100) * 2)) str_0.length) <|
        M.nn a fun i1 o1 =>
        M.chk (inB (wr64 (nd1 - 1)) an) <|
        M.store i1 (((wr64 (nd1 - 1)).toNat) * 1 + o1) [.int .u8 (byteAt str_0 (IntKind.wrap .u32 ((IntKind.wrap .u32 ((x.tmod 100) * 2)) + 1)))] <|
        M.nn a fun i2 o2 =>
        M.chk (inB (wr64 (nd1 - 2)) an) <|
        M.store i2 (((wr64 (nd1 - 2)).toNat) * 1 + o2) [.int .u8 (byteAt str_0 (IntKind.wrap .u32 ((x.tmod 100) * 2)))] <|
        jk3 [.int .i64 (wr64 (nd1 - 2)), .int .u32 (IntKind.wrap .u32 (x.tdiv 100))]
      else
        jk3 [.int .i64 nd1, .int .u32 x]) fun jk2 =>
    bif decide (nd ≥ 4) then
      M.chk (inB (IntKind.wrap .u32 ((IntKind.wrap .u32 ((((IntKind.wrap .u32 (u1)).tmod 10000).tmod 100) * 2)) + 1)) str_0.length) <|
      M.chk (inB (IntKind.wrap .u32 ((((IntKind.wrap .u32 (u1)).tmod 10000).tmod 100) * 2)) str_0.length) <|
      M.nn a fun i3 o3 =>
      M.chk (inB (wr64 (nd - 1)) an) <|
      M.store i3 (((wr64 (nd - 1)).toNat) * 1 + o3) [.int .u8 (byteAt str_0 (IntKind.wrap .u32 ((IntKind.wrap .u32 ((((IntKind.wrap .u32 (u1)).tmod 10000).tmod 100) * 2)) + 1)))] <|
      M.nn a fun i4 o4 =>
      M.chk (inB (wr64 (nd - 2)) an) <|
      M.store i4 (((wr64 (nd - 2)).toNat) * 1 + o4) [.int .u8 (byteAt str_0 (IntKind.wrap .u32 ((((IntKind.wrap .u32 (u1)).tmod 10000).tmod 100) * 2)))] <|
      M.chk (inB (IntKind.wrap .u32 ((IntKind.wrap .u32 ((IntKind.wrap .u32 (((IntKind.wrap .u32 (u1)).tmod 10000).tdiv 100)) * 2)) + 1)) str_0.length) <|
      M.chk (inB (IntKind.wrap .u32 ((IntKind.wrap .u32 (((IntKind.wrap .u32 (u1)).tmod 10000).tdiv 100)) * 2)) str_0.length) <|
      M.nn a fun i5 o5 =>
      M.chk (inB (wr64 (nd - 3)) an) <|
      M.store i5 (((wr64 (nd - 3)).toNat) * 1 + o5) [.int .u8 (byteAt str_0 (IntKind.wrap .u32 ((IntKind.wrap .u32 ((IntKind.wrap .u32 (((IntKind.wrap .u32 (u1)).tmod 10000).tdiv 100)) * 2)) + 1)))] <|
      M.nn a fun i6 o6 =>
      M.chk (inB (wr64 (nd - 4)) an) <|
      M.store i6 (((wr64 (nd - 4)).toNat) * 1 + o6) [.int .u8 (byteAt str_0 (IntKind.wrap .u32 ((IntKind.wrap .u32 (((IntKind.wrap .u32 (u1)).tmod 10000).tdiv 100)) * 2)))] <|
      jk2 [.int .i64 (wr64 (nd - 4)), .int .u32 (IntKind.wrap .u32 ((IntKind.wrap .u32 (u1)).tdiv 10000))]
    else
      jk2 [.int .i64 nd, .int .u32 (IntKind.wrap .u32 (u1))]) fun jk1 =>
  M.loop (fun rec1 st =>
    J.i .u64 st fun u2 st =>
    J.i .i64 st fun nd3 st =>
    D.nil st <|
    bif decide (nd3 ≥ 8) then
      M.chk (inB (IntKind.wrap .u32 ((IntKind.wrap .u32 ((((IntKind.wrap .u32 (u2.tmod 100000000)).tmod 10000).tmod 100) * 2)) + 1)) str_0.length) <|
      M.chk (inB (IntKind.wrap .u32 ((((IntKind.wrap .u32 (u2.tmod 100000000)).tmod 10000).tmod 100) * 2)) str_0.length) <|
      M.nn a fun i7 o7 =>
      M.chk (inB (wr64 (nd3 - 1)) an) <|
      M.store i7 (((wr64 (nd3 - 1)).toNat) * 1 + o7) [.int .u8 (byteAt str_0 (IntKind.wrap .u32 ((IntKind.wrap .u32 ((((IntKind.wrap .u32 (u2.tmod 100000000)).tmod 10000).tmod 100) * 2)) + 1)))] <|
      M.nn a fun i8 o8 =>
      M.chk (inB (wr64 (nd3 - 2)) an) <|
      M.store i8 (((wr64 (nd3 - 2)).toNat) * 1 + o8) [.int .u8 (byteAt str_0 (IntKind.wrap .u32 ((((IntKind.wrap .u32 (u2.tmod 100000000)).tmod 10000).tmod 100) * 2)))] <|
      M.chk (inB (IntKind.wrap .u32 ((IntKind.wrap .u32 ((IntKind.wrap .u32 (((IntKind.wrap .u32 (u2.tmod 100000000)).tmod 10000).tdiv 100)) * 2)) + 1)) str_0.length) <|
      M.chk (inB (IntKind.wrap .u32 ((IntKind.wrap .u32 (((IntKind.wrap .u32 (u2.tmod 100000000)).tmod 10000).tdiv 100)) * 2)) str_0.length) <|
      M.nn a fun i9 o9 =>
      M.chk (inB (wr64 (nd3 - 3)) an) <|
      M.store i9 (((wr64 (nd3 - 3)).toNat) * 1 + o9) [.int .u8 (byteAt str_0 (IntKind.wrap .u32 ((IntKind.wrap .u32 ((IntKind.wrap .u32 (((IntKind.wrap .u32 (u2.tmod 100000000)).tmod 10000).tdiv 100)) * 2)) + 1)))] <|
      M.nn a fun i10 o10 =>
      M.chk (inB (wr64 (nd3 - 4)) an) <|
      M.store i10 (((wr64 (nd3 - 4)).toNat) * 1 + o10) [.int .u8 (byteAt str_0 (IntKind.wrap .u32 ((IntKind.wrap .u32 (((IntKind.wrap .u32 (u2.tmod 100000000)).tmod 10000).tdiv 100)) * 2)))] <|
      M.chk (inB (IntKind.wrap .u32 ((IntKind.wrap .u32 (((IntKind.wrap .u32 ((IntKind.wrap .u32 (u2.tmod 100000000)).tdiv 10000)).tmod 100) * 2)) + 1)) str_0.length) <|
      M.chk (inB (IntKind.wrap .u32 (((IntKind.wrap .u32 ((IntKind.wrap .u32 (u2.tmod 100000000)).tdiv 10000)).tmod 100) * 2)) str_0.length) <|
      M.nn a fun i11 o11 =>
      M.chk (inB (wr64 (nd3 - 5)) an) <|
      M.store i11 (((wr64 (nd3 - 5)).toNat) * 1 + o11) [.int .u8 (byteAt str_0 (IntKind.wrap .u32 ((IntKind.wrap .u32 (((IntKind.wrap .u32 ((IntKind.wrap .u32 (u2.tmod 100000000)).tdiv 10000)).tmod 100) * 2)) + 1)))] <|
      M.nn a fun i12 o12 =>
      M.chk (inB (wr64 (nd3 - 6)) an) <|
      M.store i12 (((wr64 (nd3 - 6)).toNat) * 1 + o12) [.int .u8 (byteAt str_0 (IntKind.wrap .u32 (((IntKind.wrap .u32 ((IntKind.wrap .u32 (u2.tmod 100000000)).tdiv 10000)).tmod 100) * 2)))] <|
      M.chk (inB (IntKind.wrap .u32 ((IntKind.wrap .u32 ((IntKind.wrap .u32 ((IntKind.wrap .u32 ((IntKind.wrap .u32 (u2.tmod 100000000)).tdiv 10000)).tdiv 100)) * 2)) + 1)) str_0.length) <|
      M.chk (inB (IntKind.wrap .u32 ((IntKind.wrap .u32 ((IntKind.wrap .u32 ((IntKind.wrap .u32 (u2.tmod 100000000)).tdiv 10000)).tdiv 100)) * 2)) str_0.length) <|
      M.nn a fun i13 o13 =>
      M.chk (inB (wr64 (nd3 - 7)) an) <|
      M.store i13 (((wr64 (nd3 - 7)).toNat) * 1 + o13) [.int .u8 (byteAt str_0 (IntKind.wrap .u32 ((IntKind.wrap .u32 ((IntKind.wrap .u32 ((IntKind.wrap .u32 ((IntKind.wrap .u32 (u2.tmod 100000000)).tdiv 10000)).tdiv 100)) * 2)) + 1)))] <|
      M.nn a fun i14 o14 =>
      M.chk (inB (wr64 (nd3 - 8)) an) <|
      M.store i14 (((wr64 (nd3 - 8)).toNat) * 1 + o14) [.int .u8 (byteAt str_0 (IntKind.wrap .u32 ((IntKind.wrap .u32 ((IntKind.wrap .u32 ((IntKind.wrap .u32 (u2.tmod 100000000)).tdiv 10000)).tdiv 100)) * 2)))] <|
      rec1 [.int .u64 (IntKind.wrap .u64 (u2.tdiv 100000000)), .int .i64 (wr64 (nd3 - 8))]
    else
      jk1 [.int .u64 u2, .int .i64 nd3]) n [.int .u64 u, .int .i64 (an : Int)]
/-- internal/strconv.formatBits (71); calls 79 strconv_isPowerOfTwo, 80 bits_TrailingZeros -/
def b_strconv_formatBits : Oracle → Nat → List DV → M (List DV) := fun c n args =>
  J.l 1 args fun dst dstn args =>
  J.i .u64 args fun u args =>
  J.i .i64 args fun base args =>
  J.b args fun neg args =>
  J.b args fun append args =>
  D.nil args <|
  M.base fun b0 =>
  M.join (fun st => J.b st fun b1 st => D.nil st <|
    M.join (fun st => J.b st fun b2 st => D.nil st <|
      M.join (fun st =>
        D.nil st <|
        M.new (List.replicate 65 (.int .u8 0)) fun a =>
        M.join (fun st =>
          J.i .u64 st fun u1 st =>
          D.nil st <|
          M.call (c 79 [.int .i64 base]) fun ds =>
          J.b ds fun x ds =>
          D.nil ds <|
          M.join (fun st =>
            J.i .i64 st fun i st =>
            D.nil st <|
            M.join (fun st =>
              J.i .i64 st fun i1 st =>
            D.nil st <|
            bif append then
              M.load a 0 65 fun _ =>
            M.chk (decide (0 ≤ i1) && decide (i1 ≤ 65)) <|
            M.load a (i1.toNat * 1) ((65 - i1.toNat) * 1) fun cs =>
            M.app 1 dst dstn cs (65 - i1.toNat) 70368744177664 fun p =>
            M.retF b0 [.slice 1 p (dstn + (65 - i1.toNat)), .str (bs [])]
            else
              M.load a 0 65 fun _ =>
            M.chk (decide (0 ≤ i1) && decide (i1 ≤ 65)) <|
            M.load a (i1.toNat * 1) (65 - i1.toNat) fun cs1 =>
            D.oct cs1 fun l =>
            M.retF b0 [.slice 0 none 0, .str l]) fun jk6 =>
            bif neg then
              M.chk (inB (wr64 (i - 1)) 65) <|
            M.store a (((wr64 (i - 1)).toNat) * 1 + 0) [.int .u8 45] <|
            jk6 [.int .i64 (wr64 (i - 1))]
            else
              jk6 [.int .i64 i]) fun jk5 =>
          bif x then
            M.call (c 80 [.int .u64 (IntKind.wrap .u64 (base))]) fun ds =>
            J.i .i64 ds fun x1 ds =>
            D.nil ds <|
            M.join (fun st =>
              J.i .u64 st fun u2 st =>
            J.i .i64 st fun i2 st =>
            D.nil st <|
            M.chk (inB u2 ((bs [48, 49, 50, 51, 52, 53, 54, 55, 56, 57, 97, 98, 99, 100, 101, 102, 103, 104, 105, 106, 107, 108, 109, 110, 111, 112, 113, 114, 115, 116, 117, 118, 119, 120, 121, 122]).length)) <|
            M.chk (inB (wr64 (i2 - 1)) 65) <|
            M.store a (((wr64 (i2 - 1)).toNat) * 1 + 0) [.int .u8 (byteAt (bs [48, 49, 50, 51, 52, 53, 54, 55, 56, 57, 97, 98, 99, 100, 101, 102, 103, 104, 105, 106, 107, 108, 109, 110, 111, 112, 113, 114, 115, 116, 117, 118, 119, 120, 121, 122]) u2)] <|
            jk5 [.int .i64 (wr64 (i2 - 1))]) fun jk7 =>
            M.loop (fun rec1 st =>
              J.i .u64 st fun u3 st =>
            J.i .i64 st fun i3 st =>
            D.nil st <|
            bif decide (u3 ≥ IntKind.wrap .u64 (base)) then
              M.chk (inB (bits .and .u64 u3 (IntKind.wrap .u64 ((IntKind.wrap .u64 (base)) - 1))) ((bs [48, 49, 50, 51, 52, 53, 54, 55, 56, 57, 97, 98, 99, 100, 101, 102, 103, 104, 105, 106, 107, 108, 109, 110, 111, 112, 113, 114, 115, 116, 117, 118, 119, 120, 121, 122]).length)) <|
            M.chk (inB (wr64 (i3 - 1)) 65) <|
            M.store a (((wr64 (i3 - 1)).toNat) * 1 + 0) [.int .u8 (byteAt (bs [48, 49, 50, 51, 52, 53, 54, 55, 56, 57, 97, 98, 99, 100, 101, 102, 103, 104, 105, 106, 107, 108, 109, 110, 111, 112, 113, 114, 115, 116, 117, 118, 119, 120, 121, 122]) (bits .and .u64 u3 (IntKind.wrap .u64 ((IntKind.wrap .u64 (base)) - 1))))] <|
            M.chk (decide (0 ≤ IntKind.wrap .u64 (x1))) <|
            rec1 [.int .u64 (u3.fdiv (2 ^ (min (IntKind.wrap .u64 (x1)).toNat 64))), .int .i64 (wr64 (i3 - 1))]
            else
              jk7 [.int .u64 u3, .int .i64 i3]) n [.int .u64 u1, .int .i64 65]
          else
            M.join (fun st =>
              J.i .u64 st fun u4 st =>
            J.i .i64 st fun i4 st =>
            D.nil st <|
            M.chk (inB u4 ((bs [48, 49, 50, 51, 52, 53, 54, 55, 56, 57, 97, 98, 99, 100, 101, 102, 103, 104, 105, 106, 107, 108, 109, 110, 111, 112, 113, 114, 115, 116, 117, 118, 119, 120, 121, 122]).length)) <|
            M.chk (inB (wr64 (i4 - 1)) 65) <|
            M.store a (((wr64 (i4 - 1)).toNat) * 1 + 0) [.int .u8 (byteAt (bs [48, 49, 50, 51, 52, 53, 54, 55, 56, 57, 97, 98, 99, 100, 101, 102, 103, 104, 105, 106, 107, 108, 109, 110, 111, 112, 113, 114, 115, 116, 117, 118, 119, 120, 121, 122]) u4)] <|
            jk5 [.int .i64 (wr64 (i4 - 1))]) fun jk8 =>
            M.loop (fun rec2 st =>
              J.i .u64 st fun u5 st =>
            J.i .i64 st fun i5 st =>
            D.nil st <|
            bif decide (u5 ≥ IntKind.wrap .u64 (base)) then
              M.chk (!((IntKind.wrap .u64 (base)) == 0)) <|
            M.chk (inB (IntKind.wrap .u64 (u5 - (IntKind.wrap .u64 ((IntKind.wrap .u64 (u5.tdiv (IntKind.wrap .u64 (base)))) * (IntKind.wrap .u64 (base)))))) ((bs [48, 49, 50, 51, 52, 53, 54, 55, 56, 57, 97, 98, 99, 100, 101, 102, 103, 104, 105, 106, 107, 108, 109, 110, 111, 112, 113, 114, 115, 116, 117, 118, 119, 120, 121, 122]).length)) <|
            M.chk (inB (wr64 (i5 - 1)) 65) <|
            M.store a (((wr64 (i5 - 1)).toNat) * 1 + 0) [.int .u8 (byteAt (bs [48, 49, 50, 51, 52, 53, 54, 55, 56, 57, 97, 98, 99, 100, 101, 102, 103, 104, 105, 106, 107, 108, 109, 110, 111, 112, 113, 114, 115, 116, 117, 118, 119, 120, 121, 122]) (IntKind.wrap .u64 (u5 - (IntKind.wrap .u64 ((IntKind.wrap .u64 (u5.tdiv (IntKind.wrap .u64 (base)))) * (IntKind.wrap .u64 (base)))))))] <|
            rec2 [.int .u64 (IntKind.wrap .u64 (u5.tdiv (IntKind.wrap .u64 (base)))), .int .i64 (wr64 (i5 - 1))]
            else
              jk8 [.int .u64 u5, .int .i64 i5]) n [.int .u64 u1, .int .i64 65]) fun jk4 =>
        bif neg then
          jk4 [.int .u64 (IntKind.wrap .u64 (0 - u))]
        else
          jk4 [.int .u64 u]) fun jk3 =>
      bif b2 then
        M.pan
      else
        jk3 []) fun jk2 =>
    bif b1 then
      jk2 [.bool true]
    else
      jk2 [.bool (decide (base > 36))]) fun jk1 =>
  bif decide (base < 2) then
    jk1 [.bool true]
  else
    jk1 [.bool (base == 10)]
/-- cmp.isNaN[rune] (72); calls  -/
def b_cmp_isNaN_rune : Oracle → Nat → List DV → M (List DV) := fun c n args =>
  J.i .i32 args fun x args =>
  D.nil args <|
  M.ret [.bool (!(x == x))]
/-- math/bits.Len64 (77); calls  -/
def b_bits_Len64 : Oracle → Nat → List DV → M (List DV) := fun c n args =>
  J.i .u64 args fun x args =>
  D.nil args <|
  M.join (fun st =>
    J.i .u64 st fun x1 st =>
    J.i .i64 st fun n1 st =>
    D.nil st <|
    M.join (fun st =>
      J.i .u64 st fun x2 st =>
      J.i .i64 st fun n2 st =>
      D.nil st <|
      M.join (fun st =>
        J.i .u64 st fun x3 st =>
        J.i .i64 st fun n3 st =>
        D.nil st <|
        M.chk (inB (IntKind.wrap .u8 (x3)) str_2.length) <|
        M.ret [.int .i64 (wr64 (n3 + (wr64 (byteAt str_2 (IntKind.wrap .u8 (x3))))))]) fun jk3 =>
      bif decide (x2 ≥ 256) then
        jk3 [.int .u64 (x2.fdiv (2 ^ 8)), .int .i64 (wr64 (n2 + 8))]
      else
        jk3 [.int .u64 x2, .int .i64 n2]) fun jk2 =>
    bif decide (x1 ≥ 65536) then
      jk2 [.int .u64 (x1.fdiv (2 ^ 16)), .int .i64 (wr64 (n1 + 16))]
    else
      jk2 [.int .u64 x1, .int .i64 n1]) fun jk1 =>
  bif decide (x ≥ 4294967296) then
    jk1 [.int .u64 (x.fdiv (2 ^ 32)), .int .i64 32]
  else
    jk1 [.int .u64 x, .int .i64 0]
/-- internal/strconv.log10Pow2 (78); calls  -/
def b_strconv_log10Pow2 : Oracle → Nat → List DV → M (List DV) := fun c n args =>
  J.i .i64 args fun x args =>
  D.nil args <|
  M.ret [.int .i64 ((wr64 (x * 78913)).fdiv (2 ^ 18))]
/-- internal/strconv.isPowerOfTwo (79); calls  -/
def b_strconv_isPowerOfTwo : Oracle → Nat → List DV → M (List DV) := fun c n args =>
  J.i .i64 args fun x args =>
  D.nil args <|
  M.ret [.bool ((bits .and .i64 x (wr64 (x - 1))) == 0)]
/-- math/bits.TrailingZeros (80); calls 86 bits_TrailingZeros64 -/
def b_bits_TrailingZeros : Oracle → Nat → List DV → M (List DV) := fun c n args =>
  J.i .u64 args fun x args =>
  D.nil args <|
  M.call (c 86 [.int .u64 x]) fun ds =>
  J.i .i64 ds fun x1 ds =>
  D.nil ds <|
  M.ret [.int .i64 x1]
/-- internal/strconv.bool2[int] (85); calls  -/
def b_internal_strconv_bool2_int : Oracle → Nat → List DV → M (List DV) := fun c n args =>
  J.b args fun b1 args =>
  D.nil args <|
  bif b1 then
    M.ret [.int .i64 1]
  else
    M.ret [.int .i64 0]
end
structure H_name_spans (Bd : Bodies) : Prop where
  eq : Bd 54 = b_name_spans
structure H_name_Of (Bd : Bodies) : Prop where
  eq : Bd 28 = b_name_Of
  name_spans : H_name_spans Bd
structure H_name_Right (Bd : Bodies) : Prop where
  eq : Bd 26 = b_name_Right
  name_Of : H_name_Of Bd
structure H_strconv_small (Bd : Bodies) : Prop where
  eq : Bd 68 = b_strconv_small
structure H_strconv_log10Pow2 (Bd : Bodies) : Prop where
  eq : Bd 78 = b_strconv_log10Pow2
structure H_bits_Len64 (Bd : Bodies) : Prop where
  eq : Bd 77 = b_bits_Len64
structure H_internal_strconv_bool2_int (Bd : Bodies) : Prop where
  eq : Bd 85 = b_internal_strconv_bool2_int
structure H_strconv_numDigits (Bd : Bodies) : Prop where
  eq : Bd 69 = b_strconv_numDigits
  strconv_log10Pow2 : H_strconv_log10Pow2 Bd
  bits_Len64 : H_bits_Len64 Bd
  internal_strconv_bool2_int : H_internal_strconv_bool2_int Bd
structure H_strconv_formatBase10 (Bd : Bodies) : Prop where
  eq : Bd 70 = b_strconv_formatBase10
structure H_strconv_isPowerOfTwo (Bd : Bodies) : Prop where
  eq : Bd 79 = b_strconv_isPowerOfTwo
structure H_bits_TrailingZeros64 (Bd : Bodies) : Prop where
  eq16 : ∀ c n, Bd 86 c n [.int .u64 16] = M.load1 2 15 fun d => D.int .u8 d fun x1 => M.ret [.int .i64 (wr64 x1)]
structure H_bits_TrailingZeros (Bd : Bodies) : Prop where
  eq : Bd 80 = b_bits_TrailingZeros
  bits_TrailingZeros64 : H_bits_TrailingZeros64 Bd
structure H_strconv_formatBits (Bd : Bodies) : Prop where
  eq : Bd 71 = b_strconv_formatBits
  strconv_isPowerOfTwo : H_strconv_isPowerOfTwo Bd
  bits_TrailingZeros : H_bits_TrailingZeros Bd
structure H_strconv_FormatInt_ (Bd : Bodies) : Prop where
  eq : Bd 63 = b_strconv_FormatInt_
  strconv_small : H_strconv_small Bd
  strconv_numDigits : H_strconv_numDigits Bd
  strconv_formatBase10 : H_strconv_formatBase10 Bd
  strconv_formatBits : H_strconv_formatBits Bd
structure H_strconv_FormatInt (Bd : Bodies) : Prop where
  eq : Bd 55 = b_strconv_FormatInt
  strconv_FormatInt_ : H_strconv_FormatInt_ Bd
structure H_name_Show (Bd : Bodies) : Prop where
  eq : Bd 31 = b_name_Show
  name_Of : H_name_Of Bd
  strconv_FormatInt : H_strconv_FormatInt Bd
structure H_law04_awake (Bd : Bodies) : Prop where
  eq : Bd 25 = b_law04_awake
  name_Right : H_name_Right Bd
  name_Show : H_name_Show Bd
structure H_ref04_Of (Bd : Bodies) : Prop where
  eq : Bd 29 = b_ref04_Of
structure H_ref04_Right (Bd : Bodies) : Prop where
  eq : Bd 27 = b_ref04_Right
  ref04_Of : H_ref04_Of Bd
  ref04_Runes : H_ref04_Runes Bd
structure H_law04_NameRights (Bd : Bodies) : Prop where
  eq : Bd 24 = b_law04_NameRights
  law04_awake : H_law04_awake Bd
  name_Right : H_name_Right Bd
  ref04_Right : H_ref04_Right Bd
  name_Of : H_name_Of Bd
  ref04_Of : H_ref04_Of Bd
structure H_ref04_hex (Bd : Bodies) : Prop where
  eq : Bd 56 = b_ref04_hex
structure H_ref04_Show (Bd : Bodies) : Prop where
  eq : Bd 32 = b_ref04_Show
  ref04_Of : H_ref04_Of Bd
  ref04_First : H_ref04_First Bd
  ref04_hex : H_ref04_hex Bd
structure H_law04_NameShows (Bd : Bodies) : Prop where
  eq : Bd 30 = b_law04_NameShows
  law04_awake : H_law04_awake Bd
  name_Right : H_name_Right Bd
  name_Show : H_name_Show Bd
  ref04_Show : H_ref04_Show Bd
structure H_name_Runes (Bd : Bodies) : Prop where
  eq : Bd 34 = b_name_Runes
structure H_law04_NameRunes (Bd : Bodies) : Prop where
  eq : Bd 33 = b_law04_NameRunes
  law04_awake : H_law04_awake Bd
  name_Runes : H_name_Runes Bd
  ref04_Runes : H_ref04_Runes Bd
structure H_name_Cut (Bd : Bodies) : Prop where
  eq : Bd 36 = b_name_Cut
structure H_ref04_Cut (Bd : Bodies) : Prop where
  eq : Bd 37 = b_ref04_Cut
  ref04_First : H_ref04_First Bd
structure H_law04_NameCuts (Bd : Bodies) : Prop where
  eq : Bd 35 = b_law04_NameCuts
  law04_awake : H_law04_awake Bd
  name_Cut : H_name_Cut Bd
  ref04_Cut : H_ref04_Cut Bd
structure H_cmp_isNaN_rune (Bd : Bodies) : Prop where
  eq : Bd 72 = b_cmp_isNaN_rune
structure H_cmp_Compare_rune (Bd : Bodies) : Prop where
  eq : Bd 64 = b_cmp_Compare_rune
  cmp_isNaN_rune : H_cmp_isNaN_rune Bd
structure H_slices_Compare_rune_rune (Bd : Bodies) : Prop where
  eq : Bd 57 = b_slices_Compare_rune_rune
  cmp_Compare_rune : H_cmp_Compare_rune Bd
structure H_name_Compare (Bd : Bodies) : Prop where
  eq : Bd 39 = b_name_Compare
  name_Runes : H_name_Runes Bd
  slices_Compare_rune_rune : H_slices_Compare_rune_rune Bd
structure H_ref04_Compare (Bd : Bodies) : Prop where
  eq : Bd 40 = b_ref04_Compare
  ref04_Runes : H_ref04_Runes Bd
structure H_law04_NameOrders (Bd : Bodies) : Prop where
  eq : Bd 38 = b_law04_NameOrders
  law04_awake : H_law04_awake Bd
  ref04_Right : H_ref04_Right Bd
  name_Compare : H_name_Compare Bd
  ref04_Compare : H_ref04_Compare Bd
structure H_law04_NameBetween (Bd : Bodies) : Prop where
  eq : Bd 41 = b_law04_NameBetween
  law04_awake : H_law04_awake Bd
  name_Compare : H_name_Compare Bd
end Go.Gv
