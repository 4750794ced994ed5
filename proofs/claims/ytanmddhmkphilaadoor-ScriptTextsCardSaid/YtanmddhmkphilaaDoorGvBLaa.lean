/- Functions of the program, as the machine runs them: written by gvseat.py. -/
import Derived.Test.YtanmddhmkphilaaDoorGvDef
namespace Go.Gv
set_option linter.unusedVariables false
set_option maxRecDepth 10000
set_option maxHeartbeats 4000000
noncomputable section
/-- rickyard/rickyardlaw31.LexWords (0); calls 1 law31_awake, 2 lex_Words, 3 ref31_Words, 4 ref31_Same -/
def b_law31_LexWords : Oracle → Nat → List DV → M (List DV) := fun c n args =>
  J.s args fun line args =>
  D.nil args <|
  M.call (c 1 []) fun ds =>
  J.b ds fun x ds =>
  D.nil ds <|
  M.join (fun st => J.b st fun b1 st => D.nil st <|
    bif b1 then
      M.call (c 1 []) fun ds =>
      J.b ds fun x1 ds =>
      D.nil ds <|
      M.ret [.bool x1]
    else
      M.call (c 2 [.str line]) fun ds =>
      J.l 1 ds fun x2 x2n ds =>
      J.i .i64 ds fun x3 ds =>
      D.nil ds <|
      M.call (c 3 [.str line]) fun ds =>
      J.l 1 ds fun x4 x4n ds =>
      J.i .i64 ds fun x5 ds =>
      D.nil ds <|
      M.join (fun st => J.b st fun b2 st => D.nil st <|
        M.ret [.bool b2]) fun jk2 =>
      bif x3 == x5 then
        M.call (c 4 [.slice 1 x2 x2n, .slice 1 x4 x4n]) fun ds =>
        J.b ds fun x6 ds =>
        D.nil ds <|
        jk2 [.bool x6]
      else
        jk2 [.bool false]) fun jk1 =>
  bif !x then
    jk1 [.bool true]
  else
    jk1 [.bool (decide ((line.length : Int) > 500))]
/-- rickyard/rickyardlaw31.awake (1); calls 2 lex_Words, 9 lex_Plain -/
def b_law31_awake : Oracle → Nat → List DV → M (List DV) := fun c n args =>
  D.nil args <|
  M.call (c 2 [.str (bs [112, 117, 116, 32, 97, 32, 53, 32, 35, 32, 102, 105, 118, 101])]) fun ds =>
  J.l 1 ds fun x xn ds =>
  J.i .i64 ds fun x1 ds =>
  D.nil ds <|
  M.join (fun st => J.b st fun b1 st => D.nil st <|
    M.join (fun st => J.b st fun b2 st => D.nil st <|
      M.join (fun st => J.b st fun b3 st => D.nil st <|
        M.join (fun st => J.b st fun b4 st => D.nil st <|
          M.join (fun st => J.b st fun b5 st => D.nil st <|
            M.ret [.bool b5]) fun jk5 =>
          bif b4 then
            M.call (c 9 [.str (bs [97, 35])]) fun ds =>
            J.b ds fun x2 ds =>
            D.nil ds <|
            jk5 [.bool (!x2)]
          else
            jk5 [.bool false]) fun jk4 =>
        bif b3 then
          M.call (c 9 [.str (bs [97])]) fun ds =>
          J.b ds fun x3 ds =>
          D.nil ds <|
          jk4 [.bool x3]
        else
          jk4 [.bool false]) fun jk3 =>
      bif b2 then
        M.nn x fun i o =>
        M.chk (inB 2 xn) <|
        M.load1 i (2 + o) fun d =>
        D.str d fun x4 =>
        jk3 [.bool (x4 == (bs [53]))]
      else
        jk3 [.bool false]) fun jk2 =>
    bif b1 then
      M.nn x fun i1 o1 =>
      M.chk (inB 0 xn) <|
      M.load1 i1 (0 + o1) fun d1 =>
      D.str d1 fun x5 =>
      jk2 [.bool (x5 == (bs [112, 117, 116]))]
    else
      jk2 [.bool false]) fun jk1 =>
  bif x1 == 0 then
    jk1 [.bool ((xn : Int) == 3)]
  else
    jk1 [.bool false]
/-- rickyard/lex.Words (2); calls 11 lex_wrong, 10 lex_blank -/
def b_lex_Words : Oracle → Nat → List DV → M (List DV) := fun c n args =>
  J.s args fun line args =>
  D.nil args <|
  M.base fun b0 =>
  M.join (fun st =>
    J.i .i64 st fun end1 st =>
    D.nil st <|
    M.chk (decide (0 ≤ end1) && decide (end1 ≤ (line.length : Int))) <|
    M.join (fun st =>
      J.l 1 st fun out outn st =>
      J.i .i64 st fun from1 st =>
      D.nil st <|
      M.join (fun st =>
        J.l 1 st fun out1 out1n st =>
        D.nil st <|
        bif decide ((out1n : Int) > 40) then
          M.retF b0 [.slice 0 none 0, .int .i64 40]
        else
          M.retF b0 [.slice 1 out1 out1n, .int .i64 0]) fun jk3 =>
      bif decide (from1 ≥ 0) then
        M.chk (decide (0 ≤ end1) && decide (end1 ≤ (line.length : Int))) <|
        M.chk (decide (0 ≤ from1) && decide (from1 ≤ (end1.toNat : Int))) <|
        M.new [.str ((line.take end1.toNat).drop from1.toNat)] fun i =>
        M.load i 0 1 fun cs =>
        M.app 1 out outn cs 1 4398046511104 fun p =>
        jk3 [.slice 1 p (outn + 1)]
      else
        jk3 [.slice 1 out outn]) fun jk2 =>
    M.loop (fun rec1 st =>
      J.l 1 st fun out2 out2n st =>
      J.i .i64 st fun from2 st =>
      J.n st fun p1 st =>
      D.nil st <|
      bif Nat.blt p1 (line.take end1.toNat).length then
      M.call (c 10 [.int .i32 (runeAt (line.take end1.toNat) p1)]) fun ds =>
      J.b ds fun x ds =>
      D.nil ds <|
      M.join (fun st => J.b st fun b1 st => D.nil st <|
        M.join (fun st =>
          J.l 1 st fun out3 out3n st =>
          J.i .i64 st fun from3 st =>
          D.nil st <|
          rec1 [.slice 1 out3 out3n, .int .i64 from3, .nat (p1 + runeW (line.take end1.toNat) p1)]) fun jk5 =>
        bif b1 then
          jk5 [.slice 1 out2 out2n, .int .i64 (p1 : Int)]
        else
          M.call (c 10 [.int .i32 (runeAt (line.take end1.toNat) p1)]) fun ds =>
          J.b ds fun x1 ds =>
          D.nil ds <|
          M.join (fun st => J.b st fun b2 st => D.nil st <|
            M.join (fun st =>
              J.l 1 st fun out4 out4n st =>
            J.i .i64 st fun from4 st =>
            D.nil st <|
            jk5 [.slice 1 out4 out4n, .int .i64 from4]) fun jk7 =>
            bif b2 then
              M.chk (decide (0 ≤ (p1 : Int)) && decide ((p1 : Int) ≤ (line.length : Int))) <|
            M.chk (decide (0 ≤ from2) && decide (from2 ≤ (((p1 : Int).toNat : Nat) : Int))) <|
            M.new [.str ((line.take ((p1 : Int).toNat)).drop from2.toNat)] fun i1 =>
            M.load i1 0 1 fun cs1 =>
            M.app 1 out2 out2n cs1 1 4398046511104 fun p2 =>
            jk7 [.slice 1 p2 (out2n + 1), .int .i64 (-1)]
            else
              jk7 [.slice 1 out2 out2n, .int .i64 from2]) fun jk6 =>
          bif x1 then
            jk6 [.bool (decide (from2 ≥ 0))]
          else
            jk6 [.bool false]) fun jk4 =>
      bif !x then
        jk4 [.bool (decide (from2 < 0))]
      else
        jk4 [.bool false]
      else
      jk2 [.slice 1 out2 out2n, .int .i64 from2]) n [.slice 0 none 0, .int .i64 (-1), .nat 0]) fun jk1 =>
  M.loop (fun rec2 st =>
    J.i .i64 st fun end2 st =>
    J.n st fun p3 st =>
    D.nil st <|
    bif Nat.blt p3 line.length then
    M.call (c 11 [.int .i32 (runeAt line p3)]) fun ds =>
    J.b ds fun x2 ds =>
    D.nil ds <|
    bif x2 then
      M.retF b0 [.slice 0 none 0, .int .i64 41]
    else
      M.join (fun st =>
        J.i .i64 st fun end3 st =>
        D.nil st <|
        rec2 [.int .i64 end3, .nat (p3 + runeW line p3)]) fun jk8 =>
      bif (runeAt line p3) == 35 then
        jk8 [.int .i64 (if (p3 : Int) < end2 then (p3 : Int) else end2)]
      else
        jk8 [.int .i64 end2]
    else
    jk1 [.int .i64 end2]) n [.int .i64 (line.length : Int), .nat 0]
/-- rickyard/rickyardref31.Words (3); calls 12 ref04_Runes, 13 ref31_Wrong -/
def b_ref31_Words : Oracle → Nat → List DV → M (List DV) := fun c n args =>
  J.s args fun line args =>
  D.nil args <|
  M.base fun b0 =>
  M.call (c 12 [.str line]) fun ds =>
  J.l 1 ds fun x xn ds =>
  D.nil ds <|
  M.join (fun st =>
    D.nil st <|
    M.join (fun st =>
      J.l 1 st fun out outn st =>
      D.nil st <|
      bif decide ((outn : Int) > 40) then
        M.retF b0 [.slice 0 none 0, .int .i64 40]
      else
        M.retF b0 [.slice 1 out outn, .int .i64 0]) fun jk2 =>
    M.loop (fun rec1 st =>
      J.l 1 st fun out1 out1n st =>
      J.s st fun word st =>
      J.i .i64 st fun i st =>
      D.nil st <|
      bif decide (i ≤ (line.length : Int)) then
        M.join (fun st => J.b st fun b1 st => D.nil st <|
          M.join (fun st => J.b st fun b2 st => D.nil st <|
            M.join (fun st => J.b st fun b3 st => D.nil st <|
              M.join (fun st =>
              J.l 1 st fun out2 out2n st =>
            J.s st fun word1 st =>
            D.nil st <|
            rec1 [.slice 1 out2 out2n, .str word1, .int .i64 (wr64 (i + 1))]) fun jk6 =>
            bif b3 then
              M.join (fun st =>
              J.l 1 st fun out3 out3n st =>
            D.nil st <|
            M.join (fun st => J.b st fun b4 st => D.nil st <|
              bif b4 then
              jk2 [.slice 1 out3 out3n]
            else
              jk6 [.slice 1 out3 out3n, .str (bs [])]) fun jk8 =>
            bif decide (i < (line.length : Int)) then
              M.chk (inB i line.length) <|
            jk8 [.bool ((byteAt line i) == 35)]
            else
              jk8 [.bool false]) fun jk7 =>
            bif !(word == (bs [])) then
              M.new [.str word] fun i1 =>
            M.load i1 0 1 fun cs =>
            M.app 1 out1 out1n cs 1 4398046511104 fun p =>
            jk7 [.slice 1 p (out1n + 1)]
            else
              jk7 [.slice 1 out1 out1n]
            else
              M.chk (decide (0 ≤ wr64 (i + 1)) && decide (wr64 (i + 1) ≤ (line.length : Int))) <|
            M.chk (decide (0 ≤ i) && decide (i ≤ (((wr64 (i + 1)).toNat : Nat) : Int))) <|
            M.chk (Nat.ble (word.length + ((line.take ((wr64 (i + 1)).toNat)).drop i.toNat).length) 4611686018427387904) <|
            jk6 [.slice 1 out1 out1n, .str (word ++ ((line.take ((wr64 (i + 1)).toNat)).drop i.toNat))]) fun jk5 =>
            bif b2 then
              jk5 [.bool true]
            else
              M.chk (inB i line.length) <|
            jk5 [.bool ((byteAt line i) == 9)]) fun jk4 =>
          bif b1 then
            jk4 [.bool true]
          else
            M.chk (inB i line.length) <|
            jk4 [.bool ((byteAt line i) == 32)]) fun jk3 =>
        bif i == (line.length : Int) then
          jk3 [.bool true]
        else
          M.chk (inB i line.length) <|
          jk3 [.bool ((byteAt line i) == 35)]
      else
        jk2 [.slice 1 out1 out1n]) n [.slice 0 none 0, .str (bs []), .int .i64 0]) fun jk1 =>
  M.loop (fun rec2 st =>
    J.i .i64 st fun i2 st =>
    D.nil st <|
    bif decide (i2 < (xn : Int)) then
      M.nn x fun i3 o =>
      M.chk (inB i2 xn) <|
      M.load1 i3 (i2.toNat * 1 + o) fun d =>
      D.int .i64 d fun x1 =>
      M.call (c 13 [.int .i64 x1]) fun ds =>
      J.b ds fun x2 ds =>
      D.nil ds <|
      bif x2 then
        M.retF b0 [.slice 0 none 0, .int .i64 41]
      else
        rec2 [.int .i64 (wr64 (i2 + 1))]
    else
      jk1 []) n [.int .i64 0]
/-- rickyard/rickyardref31.Same (4); calls  -/
def b_ref31_Same : Oracle → Nat → List DV → M (List DV) := fun c n args =>
  J.l 1 args fun a an args =>
  J.l 1 args fun b1 b1n args =>
  D.nil args <|
  bif !((an : Int) == (b1n : Int)) then
    M.ret [.bool false]
  else
    M.join (fun st =>
      D.nil st <|
      M.ret [.bool true]) fun jk1 =>
    M.loop (fun rec1 st =>
      J.i .i64 st fun i st =>
      D.nil st <|
      bif decide (i < (an : Int)) then
        M.nn a fun i1 o =>
        M.chk (inB i an) <|
        M.load1 i1 (i.toNat * 1 + o) fun d =>
        D.str d fun x =>
        M.nn b1 fun i2 o1 =>
        M.chk (inB i b1n) <|
        M.load1 i2 (i.toNat * 1 + o1) fun d1 =>
        D.str d1 fun x1 =>
        bif !(x == x1) then
          M.ret [.bool false]
        else
          rec1 [.int .i64 (wr64 (i + 1))]
      else
        jk1 []) n [.int .i64 0]
/-- rickyard/rickyardlaw31.LexBlanks (5); calls 1 law31_awake, 2 lex_Words, 3 ref31_Words, 4 ref31_Same, 6 ref31_Plain -/
def b_law31_LexBlanks : Oracle → Nat → List DV → M (List DV) := fun c n args =>
  J.l 1 args fun words wordsn args =>
  J.s args fun more args =>
  J.s args fun remark args =>
  D.nil args <|
  M.call (c 1 []) fun ds =>
  J.b ds fun x ds =>
  D.nil ds <|
  M.join (fun st => J.b st fun b1 st => D.nil st <|
    M.join (fun st => J.b st fun b2 st => D.nil st <|
      M.join (fun st => J.b st fun b3 st => D.nil st <|
        bif b3 then
          M.call (c 1 []) fun ds =>
          J.b ds fun x1 ds =>
          D.nil ds <|
          M.ret [.bool x1]
        else
          M.join (fun st =>
            J.s st fun line st =>
            D.nil st <|
            M.call (c 2 [.str line]) fun ds =>
            J.l 1 ds fun x2 x2n ds =>
            J.i .i64 ds fun x3 ds =>
            D.nil ds <|
            M.chk (Nat.ble (line.length + (bs [35]).length) 4611686018427387904) <|
            M.chk (Nat.ble ((line ++ (bs [35])).length + remark.length) 4611686018427387904) <|
            M.call (c 2 [.str ((line ++ (bs [35])) ++ remark)]) fun ds =>
            J.l 1 ds fun x4 x4n ds =>
            J.i .i64 ds fun x5 ds =>
            D.nil ds <|
            M.join (fun st => J.b st fun b4 st => D.nil st <|
              bif b4 then
              M.ret [.bool false]
            else
              M.chk (Nat.ble (line.length + (bs [32]).length) 4611686018427387904) <|
            M.chk (Nat.ble ((line ++ (bs [32])).length + remark.length) 4611686018427387904) <|
            M.call (c 3 [.str ((line ++ (bs [32])) ++ remark)]) fun ds =>
            J.l 1 ds fun x6 x6n ds =>
            J.i .i64 ds fun x7 ds =>
            D.nil ds <|
            M.join (fun st => J.b st fun b5 st => D.nil st <|
              M.join (fun st => J.b st fun b6 st => D.nil st <|
              M.ret [.bool b6]) fun jk7 =>
            bif b5 then
              jk7 [.bool true]
            else
              M.join (fun st => J.b st fun b7 st => D.nil st <|
              jk7 [.bool b7]) fun jk8 =>
            bif x5 == 41 then
              jk8 [.bool (x7 == 41)]
            else
              jk8 [.bool false]) fun jk6 =>
            bif x5 == 0 then
              M.call (c 4 [.slice 1 x4 x4n, .slice 1 words wordsn]) fun ds =>
            J.b ds fun x8 ds =>
            D.nil ds <|
            jk6 [.bool x8]
            else
              jk6 [.bool false]) fun jk5 =>
            bif !(x3 == 0) then
              jk5 [.bool true]
            else
              M.call (c 4 [.slice 1 x2 x2n, .slice 1 words wordsn]) fun ds =>
            J.b ds fun x9 ds =>
            D.nil ds <|
            jk5 [.bool (!x9)]) fun jk4 =>
          M.loop (fun rec1 st =>
            J.s st fun line1 st =>
            J.i .i64 st fun i st =>
            D.nil st <|
            bif decide (i < (wordsn : Int)) then
              M.join (fun st =>
              J.s st fun line2 st =>
            D.nil st <|
            rec1 [.str line2, .int .i64 (wr64 (i + 1))]) fun jk9 =>
            M.nn words fun i1 o =>
            M.chk (inB i wordsn) <|
            M.load1 i1 (i.toNat * 1 + o) fun d =>
            D.str d fun x10 =>
            M.join (fun st => J.b st fun b8 st => D.nil st <|
              bif b8 then
              M.ret [.bool true]
            else
              M.chk (Nat.ble (line1.length + (bs [32]).length) 4611686018427387904) <|
            M.join (fun st =>
              J.s st fun line3 st =>
            D.nil st <|
            M.nn words fun i2 o1 =>
            M.chk (inB i wordsn) <|
            M.load1 i2 (i.toNat * 1 + o1) fun d1 =>
            D.str d1 fun x11 =>
            M.chk (Nat.ble (line3.length + x11.length) 4611686018427387904) <|
            jk9 [.str (line3 ++ x11)]) fun jk11 =>
            M.loop (fun rec2 st =>
              J.s st fun line4 st =>
            J.i .i64 st fun k st =>
            D.nil st <|
            bif decide (k < (more.length : Int)) then
              M.chk (inB k more.length) <|
            M.join (fun st =>
              J.s st fun line5 st =>
            D.nil st <|
            rec2 [.str line5, .int .i64 (wr64 (k + 1))]) fun jk12 =>
            bif ((byteAt more k).tmod 2) == 0 then
              M.chk (Nat.ble (line4.length + (bs [9]).length) 4611686018427387904) <|
            jk12 [.str (line4 ++ (bs [9]))]
            else
              M.chk (Nat.ble (line4.length + (bs [32]).length) 4611686018427387904) <|
            jk12 [.str (line4 ++ (bs [32]))]
            else
              jk11 [.str line4]) n [.str (line1 ++ (bs [32])), .int .i64 0]) fun jk10 =>
            bif decide ((x10.length : Int) > 100) then
              jk10 [.bool true]
            else
              M.nn words fun i3 o2 =>
            M.chk (inB i wordsn) <|
            M.load1 i3 (i.toNat * 1 + o2) fun d2 =>
            D.str d2 fun x12 =>
            M.call (c 6 [.str x12]) fun ds =>
            J.b ds fun x13 ds =>
            D.nil ds <|
            jk10 [.bool (!x13)]
            else
              jk4 [.str line1]) n [.str (bs []), .int .i64 0]) fun jk3 =>
      bif b2 then
        jk3 [.bool true]
      else
        jk3 [.bool (decide ((remark.length : Int) > 100))]) fun jk2 =>
    bif b1 then
      jk2 [.bool true]
    else
      jk2 [.bool (decide ((more.length : Int) > 30))]) fun jk1 =>
  bif !x then
    jk1 [.bool true]
  else
    jk1 [.bool (decide ((wordsn : Int) > 30))]
/-- rickyard/rickyardref31.Plain (6); calls 3 ref31_Words -/
def b_ref31_Plain : Oracle → Nat → List DV → M (List DV) := fun c n args =>
  J.s args fun w args =>
  D.nil args <|
  M.call (c 3 [.str w]) fun ds =>
  J.l 1 ds fun x xn ds =>
  J.i .i64 ds fun x1 ds =>
  D.nil ds <|
  M.join (fun st => J.b st fun b1 st => D.nil st <|
    M.join (fun st => J.b st fun b2 st => D.nil st <|
      M.ret [.bool b2]) fun jk2 =>
    bif b1 then
      M.nn x fun i o =>
      M.chk (inB 0 xn) <|
      M.load1 i (0 + o) fun d =>
      D.str d fun x2 =>
      jk2 [.bool (x2 == w)]
    else
      jk2 [.bool false]) fun jk1 =>
  bif x1 == 0 then
    jk1 [.bool ((xn : Int) == 1)]
  else
    jk1 [.bool false]
/-- rickyard/lex.Plain (9); calls 11 lex_wrong, 10 lex_blank -/
def b_lex_Plain : Oracle → Nat → List DV → M (List DV) := fun c n args =>
  J.s args fun word args =>
  D.nil args <|
  M.join (fun st =>
    D.nil st <|
    M.ret [.bool (!(word == (bs [])))]) fun jk1 =>
  M.loop (fun rec1 st =>
    J.n st fun p st =>
    D.nil st <|
    bif Nat.blt p word.length then
    M.call (c 11 [.int .i32 (runeAt word p)]) fun ds =>
    J.b ds fun x ds =>
    D.nil ds <|
    M.join (fun st => J.b st fun b1 st => D.nil st <|
      M.join (fun st => J.b st fun b2 st => D.nil st <|
        bif b2 then
          M.ret [.bool false]
        else
          rec1 [.nat (p + runeW word p)]) fun jk3 =>
      bif b1 then
        jk3 [.bool true]
      else
        jk3 [.bool ((runeAt word p) == 35)]) fun jk2 =>
    bif x then
      jk2 [.bool true]
    else
      M.call (c 10 [.int .i32 (runeAt word p)]) fun ds =>
      J.b ds fun x1 ds =>
      D.nil ds <|
      jk2 [.bool x1]
    else
    jk1 []) n [.nat 0]
/-- rickyard/lex.blank (10); calls  -/
def b_lex_blank : Oracle → Nat → List DV → M (List DV) := fun c n args =>
  J.i .i32 args fun r1 args =>
  D.nil args <|
  M.join (fun st => J.b st fun b1 st => D.nil st <|
    M.ret [.bool b1]) fun jk1 =>
  bif r1 == 32 then
    jk1 [.bool true]
  else
    jk1 [.bool (r1 == 9)]
/-- rickyard/lex.wrong (11); calls  -/
def b_lex_wrong : Oracle → Nat → List DV → M (List DV) := fun c n args =>
  J.i .i32 args fun r1 args =>
  D.nil args <|
  M.join (fun st => J.b st fun b1 st => D.nil st <|
    M.join (fun st => J.b st fun b2 st => D.nil st <|
      M.join (fun st => J.b st fun b3 st => D.nil st <|
        M.ret [.bool b3]) fun jk3 =>
      bif b2 then
        jk3 [.bool true]
      else
        jk3 [.bool (r1 == 65533)]) fun jk2 =>
    bif b1 then
      jk2 [.bool true]
    else
      jk2 [.bool (r1 == 127)]) fun jk1 =>
  bif decide (r1 < 32) then
    jk1 [.bool (!(r1 == 9))]
  else
    jk1 [.bool false]
/-- rickyard/rickyardref04.Runes (12); calls 15 ref04_First -/
def b_ref04_Runes : Oracle → Nat → List DV → M (List DV) := fun c n args =>
  J.s args fun s args =>
  D.nil args <|
  M.base fun b0 =>
  M.join (fun st =>
    J.l 1 st fun out outn st =>
    D.nil st <|
    M.retF b0 [.slice 1 out outn]) fun jk1 =>
  M.loop (fun rec1 st =>
    J.s st fun s1 st =>
    J.l 1 st fun out1 out1n st =>
    D.nil st <|
    bif decide ((s1.length : Int) > 0) then
      M.call (c 15 [.str s1]) fun ds =>
      J.i .i64 ds fun x ds =>
      J.i .i64 ds fun x1 ds =>
      D.nil ds <|
      M.new [.int .i64 x] fun i =>
      M.load i 0 1 fun cs =>
      M.app 1 out1 out1n cs 1 8796093022208 fun p =>
      M.chk (decide (0 ≤ x1) && decide (x1 ≤ (s1.length : Int))) <|
      rec1 [.str (s1.drop x1.toNat), .slice 1 p (out1n + 1)]
    else
      jk1 [.slice 1 out1 out1n]) n [.str s, .slice 0 none 0]
/-- rickyard/rickyardref31.Wrong (13); calls  -/
def b_ref31_Wrong : Oracle → Nat → List DV → M (List DV) := fun c n args =>
  J.i .i64 args fun r1 args =>
  D.nil args <|
  M.join (fun st => J.b st fun b1 st => D.nil st <|
    M.join (fun st => J.b st fun b2 st => D.nil st <|
      M.join (fun st => J.b st fun b3 st => D.nil st <|
        M.ret [.bool b3]) fun jk3 =>
      bif b2 then
        jk3 [.bool true]
      else
        jk3 [.bool (r1 == 65533)]) fun jk2 =>
    bif b1 then
      jk2 [.bool true]
    else
      jk2 [.bool (r1 == 127)]) fun jk1 =>
  bif decide (r1 < 32) then
    jk1 [.bool (!(r1 == 9))]
  else
    jk1 [.bool false]
/-- rickyard/rickyardref04.First (15); calls 19 ref04_follows -/
def b_ref04_First : Oracle → Nat → List DV → M (List DV) := fun c n args =>
  J.s args fun s args =>
  D.nil args <|
  M.chk (inB 0 s.length) <|
  bif decide (byteAt s 0 < 128) then
    M.ret [.int .i64 (wr64 (byteAt s 0)), .int .i64 1]
  else
    M.join (fun st => J.b st fun b1 st => D.nil st <|
      M.join (fun st => J.b st fun b2 st => D.nil st <|
        bif b2 then
          M.chk (inB 1 s.length) <|
          M.ret [.int .i64 (wr64 ((wr64 ((wr64 (IntKind.wrap .u8 ((byteAt s 0) - 192))) * 64)) + (wr64 (IntKind.wrap .u8 ((byteAt s 1) - 128))))), .int .i64 2]
        else
          M.join (fun st => J.b st fun b3 st => D.nil st <|
            M.join (fun st =>
              D.nil st <|
            M.ret [.int .i64 65533, .int .i64 1]) fun jk4 =>
            bif b3 then
              M.join (fun st =>
              J.i .u8 st fun lo st =>
            D.nil st <|
            M.join (fun st =>
              J.i .u8 st fun hi st =>
            D.nil st <|
            M.call (c 19 [.str s, .int .i64 1, .int .u8 lo, .int .u8 hi]) fun ds =>
            J.b ds fun x ds =>
            D.nil ds <|
            M.join (fun st => J.b st fun b4 st => D.nil st <|
              bif b4 then
              M.chk (inB 1 s.length) <|
            M.chk (inB 2 s.length) <|
            M.ret [.int .i64 (wr64 ((wr64 ((wr64 ((wr64 (IntKind.wrap .u8 ((byteAt s 0) - 224))) * 4096)) + (wr64 ((wr64 (IntKind.wrap .u8 ((byteAt s 1) - 128))) * 64)))) + (wr64 (IntKind.wrap .u8 ((byteAt s 2) - 128))))), .int .i64 3]
            else
              jk4 []) fun jk7 =>
            bif x then
              M.call (c 19 [.str s, .int .i64 2, .int .u8 128, .int .u8 191]) fun ds =>
            J.b ds fun x1 ds =>
            D.nil ds <|
            jk7 [.bool x1]
            else
              jk7 [.bool false]) fun jk6 =>
            bif (byteAt s 0) == 237 then
              jk6 [.int .u8 159]
            else
              jk6 [.int .u8 191]) fun jk5 =>
            bif (byteAt s 0) == 224 then
              jk5 [.int .u8 160]
            else
              jk5 [.int .u8 128]
            else
              M.join (fun st => J.b st fun b5 st => D.nil st <|
              M.join (fun st =>
              D.nil st <|
            jk4 []) fun jk9 =>
            bif b5 then
              M.join (fun st =>
              J.i .u8 st fun lo1 st =>
            D.nil st <|
            M.join (fun st =>
              J.i .u8 st fun hi1 st =>
            D.nil st <|
            M.call (c 19 [.str s, .int .i64 1, .int .u8 lo1, .int .u8 hi1]) fun ds =>
            J.b ds fun x2 ds =>
            D.nil ds <|
            M.join (fun st => J.b st fun b6 st => D.nil st <|
              M.join (fun st => J.b st fun b7 st => D.nil st <|
              bif b7 then
              M.chk (inB 1 s.length) <|
            M.chk (inB 2 s.length) <|
            M.chk (inB 3 s.length) <|
            M.ret [.int .i64 (wr64 ((wr64 ((wr64 ((wr64 ((wr64 (IntKind.wrap .u8 ((byteAt s 0) - 240))) * 262144)) + (wr64 ((wr64 (IntKind.wrap .u8 ((byteAt s 1) - 128))) * 4096)))) + (wr64 ((wr64 (IntKind.wrap .u8 ((byteAt s 2) - 128))) * 64)))) + (wr64 (IntKind.wrap .u8 ((byteAt s 3) - 128))))), .int .i64 4]
            else
              jk9 []) fun jk13 =>
            bif b6 then
              M.call (c 19 [.str s, .int .i64 3, .int .u8 128, .int .u8 191]) fun ds =>
            J.b ds fun x3 ds =>
            D.nil ds <|
            jk13 [.bool x3]
            else
              jk13 [.bool false]) fun jk12 =>
            bif x2 then
              M.call (c 19 [.str s, .int .i64 2, .int .u8 128, .int .u8 191]) fun ds =>
            J.b ds fun x4 ds =>
            D.nil ds <|
            jk12 [.bool x4]
            else
              jk12 [.bool false]) fun jk11 =>
            bif (byteAt s 0) == 244 then
              jk11 [.int .u8 143]
            else
              jk11 [.int .u8 191]) fun jk10 =>
            bif (byteAt s 0) == 240 then
              jk10 [.int .u8 144]
            else
              jk10 [.int .u8 128]
            else
              jk9 []) fun jk8 =>
            bif decide (byteAt s 0 ≥ 240) then
              jk8 [.bool (decide (byteAt s 0 ≤ 244))]
            else
              jk8 [.bool false]) fun jk3 =>
          bif decide (byteAt s 0 ≥ 224) then
            jk3 [.bool (decide (byteAt s 0 ≤ 239))]
          else
            jk3 [.bool false]) fun jk2 =>
      bif b1 then
        M.call (c 19 [.str s, .int .i64 1, .int .u8 128, .int .u8 191]) fun ds =>
        J.b ds fun x5 ds =>
        D.nil ds <|
        jk2 [.bool x5]
      else
        jk2 [.bool false]) fun jk1 =>
    bif decide (byteAt s 0 ≥ 194) then
      jk1 [.bool (decide (byteAt s 0 ≤ 223))]
    else
      jk1 [.bool false]
/-- rickyard/rickyardref04.follows (19); calls  -/
def b_ref04_follows : Oracle → Nat → List DV → M (List DV) := fun c n args =>
  J.s args fun s args =>
  J.i .i64 args fun at1 args =>
  J.i .u8 args fun lo args =>
  J.i .u8 args fun hi args =>
  D.nil args <|
  M.join (fun st => J.b st fun b1 st => D.nil st <|
    M.join (fun st => J.b st fun b2 st => D.nil st <|
      M.ret [.bool b2]) fun jk2 =>
    bif b1 then
      M.chk (inB at1 s.length) <|
      jk2 [.bool (decide (byteAt s at1 ≤ hi))]
    else
      jk2 [.bool false]) fun jk1 =>
  bif decide (at1 < (s.length : Int)) then
    M.chk (inB at1 s.length) <|
    jk1 [.bool (decide (byteAt s at1 ≥ lo))]
  else
    jk1 [.bool false]
end
structure H_lex_wrong (Bd : Bodies) : Prop where
  eq : Bd 11 = b_lex_wrong
structure H_lex_blank (Bd : Bodies) : Prop where
  eq : Bd 10 = b_lex_blank
structure H_lex_Words (Bd : Bodies) : Prop where
  eq : Bd 2 = b_lex_Words
  lex_wrong : H_lex_wrong Bd
  lex_blank : H_lex_blank Bd
structure H_lex_Plain (Bd : Bodies) : Prop where
  eq : Bd 9 = b_lex_Plain
  lex_wrong : H_lex_wrong Bd
  lex_blank : H_lex_blank Bd
structure H_law31_awake (Bd : Bodies) : Prop where
  eq : Bd 1 = b_law31_awake
  lex_Words : H_lex_Words Bd
  lex_Plain : H_lex_Plain Bd
structure H_ref04_follows (Bd : Bodies) : Prop where
  eq : Bd 19 = b_ref04_follows
structure H_ref04_First (Bd : Bodies) : Prop where
  eq : Bd 15 = b_ref04_First
  ref04_follows : H_ref04_follows Bd
structure H_ref04_Runes (Bd : Bodies) : Prop where
  eq : Bd 12 = b_ref04_Runes
  ref04_First : H_ref04_First Bd
structure H_ref31_Wrong (Bd : Bodies) : Prop where
  eq : Bd 13 = b_ref31_Wrong
structure H_ref31_Words (Bd : Bodies) : Prop where
  eq : Bd 3 = b_ref31_Words
  ref04_Runes : H_ref04_Runes Bd
  ref31_Wrong : H_ref31_Wrong Bd
structure H_ref31_Same (Bd : Bodies) : Prop where
  eq : Bd 4 = b_ref31_Same
structure H_law31_LexWords (Bd : Bodies) : Prop where
  eq : Bd 0 = b_law31_LexWords
  law31_awake : H_law31_awake Bd
  lex_Words : H_lex_Words Bd
  ref31_Words : H_ref31_Words Bd
  ref31_Same : H_ref31_Same Bd
structure H_ref31_Plain (Bd : Bodies) : Prop where
  eq : Bd 6 = b_ref31_Plain
  ref31_Words : H_ref31_Words Bd
structure H_law31_LexBlanks (Bd : Bodies) : Prop where
  eq : Bd 5 = b_law31_LexBlanks
  law31_awake : H_law31_awake Bd
  lex_Words : H_lex_Words Bd
  ref31_Words : H_ref31_Words Bd
  ref31_Same : H_ref31_Same Bd
  ref31_Plain : H_ref31_Plain Bd
end Go.Gv
