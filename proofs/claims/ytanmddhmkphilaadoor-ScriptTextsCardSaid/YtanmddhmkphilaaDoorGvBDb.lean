/- Functions of the program, as the machine runs them: written by gvseat.py. -/
import Derived.Test.YtanmddhmkphilaaDoorGvDef
import Derived.Test.YtanmddhmkphilaaDoorGvBDi
namespace Go.Gv
set_option linter.unusedVariables false
set_option maxRecDepth 10000
set_option maxHeartbeats 4000000
noncomputable section
/-- rickyard/rickyardlaw03.DigitTickets (94); calls 48 law03_awake, 59 digit_ReadHandle, 95 ref03_ReadHandle -/
def b_law03_DigitTickets : Oracle → Nat → List DV → M (List DV) := fun c n args =>
  J.s args fun s args =>
  D.nil args <|
  M.call (c 48 []) fun ds =>
  J.b ds fun x ds =>
  D.nil ds <|
  M.join (fun st => J.b st fun b1 st => D.nil st <|
    bif b1 then
      M.call (c 48 []) fun ds =>
      J.b ds fun x1 ds =>
      D.nil ds <|
      M.ret [.bool x1]
    else
      M.call (c 59 [.str s]) fun ds =>
      J.a ds fun cs ds =>
      J.i .i64 cs fun x2 r =>
      J.i .i64 r fun x3 r =>
      D.nil r <|
      J.b ds fun x4 ds =>
      D.nil ds <|
      M.call (c 95 [.str s]) fun ds =>
      J.a ds fun cs1 ds =>
      J.i .i64 cs1 fun x5 r =>
      J.i .i64 r fun x6 r =>
      D.nil r <|
      J.b ds fun x7 ds =>
      D.nil ds <|
      M.join (fun st => J.b st fun b2 st => D.nil st <|
        M.ret [.bool b2]) fun jk2 =>
      bif x4 == x7 then
        jk2 [.bool ((x2 == x5) && ((x3 == x6) && true))]
      else
        jk2 [.bool false]) fun jk1 =>
  bif !x then
    jk1 [.bool true]
  else
    jk1 [.bool (decide ((s.length : Int) > 200))]
/-- rickyard/rickyardref03.ReadHandle (95); calls 99 ref03_Handle, 53 ref03_Read -/
def b_ref03_ReadHandle : Oracle → Nat → List DV → M (List DV) := fun c n args =>
  J.s args fun s args =>
  D.nil args <|
  M.join (fun st =>
    J.a st fun cs st =>
    J.i .i64 cs fun x r =>
    J.i .i64 r fun x1 r =>
    D.nil r <|
    D.nil st <|
    M.ret [.agg [.int .i64 0, .int .i64 0], .bool false]) fun jk1 =>
  M.loop (fun rec1 st =>
    J.a st fun cs1 st =>
    J.i .i64 cs1 fun x2 r =>
    J.i .i64 r fun x3 r =>
    D.nil r <|
    J.i .i64 st fun i st =>
    D.nil st <|
    bif decide (i < (s.length : Int)) then
      M.chk (inB i s.length) <|
      bif (byteAt s i) == 46 then
        M.chk (decide (0 ≤ i) && decide (i ≤ (s.length : Int))) <|
        M.call (c 53 [.str (s.take i.toNat)]) fun ds =>
        J.i .i64 ds fun x4 ds =>
        J.b ds fun x5 ds =>
        D.nil ds <|
        M.chk (decide (0 ≤ wr64 (i + 1)) && decide (wr64 (i + 1) ≤ (s.length : Int))) <|
        M.call (c 53 [.str (s.drop ((wr64 (i + 1)).toNat))]) fun ds =>
        J.i .i64 ds fun x6 ds =>
        J.b ds fun x7 ds =>
        D.nil ds <|
        M.join (fun st => J.b st fun b1 st => D.nil st <|
          M.join (fun st => J.b st fun b2 st => D.nil st <|
            bif b2 then
              M.ret [.agg [.int .i64 x4, .int .i64 x6], .bool true]
            else
              M.ret [.agg [.int .i64 0, .int .i64 0], .bool false]) fun jk3 =>
          bif b1 then
            M.call (c 99 [.agg [.int .i64 x4, .int .i64 x6]]) fun ds =>
            J.s ds fun x8 ds =>
            D.nil ds <|
            jk3 [.bool (x8 == s)]
          else
            jk3 [.bool false]) fun jk2 =>
        bif x5 then
          jk2 [.bool x7]
        else
          jk2 [.bool false]
      else
        rec1 [.agg [.int .i64 x2, .int .i64 x3], .int .i64 (wr64 (i + 1))]
    else
      jk1 [.agg [.int .i64 x2, .int .i64 x3]]) n [.agg [.int .i64 0, .int .i64 0], .int .i64 0]
/-- rickyard/rickyardlaw03.DigitApart (96); calls 48 law03_awake, 49 digit_Show, 50 digit_Read -/
def b_law03_DigitApart : Oracle → Nat → List DV → M (List DV) := fun c n args =>
  J.i .i64 args fun n1 args =>
  J.i .i64 args fun m args =>
  J.i .u8 args fun c1 args =>
  D.nil args <|
  M.call (c 48 []) fun ds =>
  J.b ds fun x ds =>
  D.nil ds <|
  bif !x then
    M.ret [.bool false]
  else
    M.call (c 49 [.int .i64 n1]) fun ds =>
    J.s ds fun x1 ds =>
    D.nil ds <|
    M.call (c 49 [.int .i64 m]) fun ds =>
    J.s ds fun x2 ds =>
    D.nil ds <|
    bif !((x1 == x2) == (n1 == m)) then
      M.ret [.bool false]
    else
      M.new [.int .u8 c1] fun i =>
      M.load i 0 1 fun cs =>
      D.oct cs fun l =>
      M.chk (Nat.ble (x1.length + l.length) 4611686018427387904) <|
      M.call (c 50 [.str (x1 ++ l)]) fun ds =>
      J.i .i64 ds fun x3 ds =>
      J.b ds fun x4 ds =>
      D.nil ds <|
      M.join (fun st => J.b st fun b1 st => D.nil st <|
        bif b1 then
          M.ret [.bool false]
        else
          M.chk (Nat.ble ((bs [48]).length + x1.length) 4611686018427387904) <|
          M.call (c 50 [.str ((bs [48]) ++ x1)]) fun ds =>
          J.i .i64 ds fun x5 ds =>
          J.b ds fun x6 ds =>
          D.nil ds <|
          M.chk (Nat.ble ((bs [43]).length + x1.length) 4611686018427387904) <|
          M.call (c 50 [.str ((bs [43]) ++ x1)]) fun ds =>
          J.i .i64 ds fun x7 ds =>
          J.b ds fun x8 ds =>
          D.nil ds <|
          M.join (fun st => J.b st fun b2 st => D.nil st <|
            M.ret [.bool b2]) fun jk2 =>
          bif !x6 then
            jk2 [.bool (!x8)]
          else
            jk2 [.bool false]) fun jk1 =>
      bif x4 then
        M.join (fun st => J.b st fun b3 st => D.nil st <|
          jk1 [.bool b3]) fun jk3 =>
        bif x3 == n1 then
          jk3 [.bool true]
        else
          M.call (c 49 [.int .i64 x3]) fun ds =>
          J.s ds fun x9 ds =>
          D.nil ds <|
          jk3 [.bool (!(x9 == (x1 ++ l)))]
      else
        jk1 [.bool false]
/-- rickyard/rickyardlaw03.DigitHandles (97); calls 48 law03_awake, 59 digit_ReadHandle, 98 digit_ShowHandle, 99 ref03_Handle -/
def b_law03_DigitHandles : Oracle → Nat → List DV → M (List DV) := fun c n args =>
  J.a args fun cs args =>
  J.i .i64 cs fun h r =>
  J.i .i64 r fun h1 r =>
  D.nil r <|
  D.nil args <|
  M.call (c 48 []) fun ds =>
  J.b ds fun x ds =>
  D.nil ds <|
  bif !x then
    M.ret [.bool false]
  else
    M.call (c 98 [.agg [.int .i64 h, .int .i64 h1]]) fun ds =>
    J.s ds fun x1 ds =>
    D.nil ds <|
    M.call (c 59 [.str x1]) fun ds =>
    J.a ds fun cs1 ds =>
    J.i .i64 cs1 fun x2 r =>
    J.i .i64 r fun x3 r =>
    D.nil r <|
    J.b ds fun x4 ds =>
    D.nil ds <|
    M.join (fun st => J.b st fun b1 st => D.nil st <|
      bif b1 then
        M.join (fun st => J.b st fun b2 st => D.nil st <|
          M.join (fun st => J.b st fun b3 st => D.nil st <|
            M.ret [.bool b3]) fun jk3 =>
          bif b2 then
            jk3 [.bool ((x2 == 0) && ((x3 == 0) && true))]
          else
            jk3 [.bool false]) fun jk2 =>
        bif x1 == (bs []) then
          jk2 [.bool (!x4)]
        else
          jk2 [.bool false]
      else
        M.call (c 99 [.agg [.int .i64 h, .int .i64 h1]]) fun ds =>
        J.s ds fun x5 ds =>
        D.nil ds <|
        M.join (fun st => J.b st fun b4 st => D.nil st <|
          M.join (fun st => J.b st fun b5 st => D.nil st <|
            M.ret [.bool b5]) fun jk5 =>
          bif b4 then
            jk5 [.bool ((x2 == h) && ((x3 == h1) && true))]
          else
            jk5 [.bool false]) fun jk4 =>
        bif x1 == x5 then
          jk4 [.bool x4]
        else
          jk4 [.bool false]) fun jk1 =>
    bif decide (h < 0) then
      jk1 [.bool true]
    else
      jk1 [.bool (decide (h1 < 0))]
/-- rickyard/digit.ShowHandle (98); calls 49 digit_Show -/
def b_digit_ShowHandle : Oracle → Nat → List DV → M (List DV) := fun c n args =>
  J.a args fun cs args =>
  J.i .i64 cs fun h r =>
  J.i .i64 r fun h1 r =>
  D.nil r <|
  D.nil args <|
  bif decide ((if h1 < h then h1 else h) < 0) then
    M.ret [.str (bs [])]
  else
    M.callN (c 49 [.int .i64 h]) fun ds =>
    J.s ds fun x ds =>
    D.nil ds <|
    M.chk (Nat.ble (x.length + (bs [46]).length) 4611686018427387904) <|
    M.callN (c 49 [.int .i64 h1]) fun ds =>
    J.s ds fun x1 ds =>
    D.nil ds <|
    M.chk (Nat.ble ((x ++ (bs [46])).length + x1.length) 4611686018427387904) <|
    M.ret [.str ((x ++ (bs [46])) ++ x1)]
/-- rickyard/rickyardref03.Handle (99); calls 51 ref03_Show -/
def b_ref03_Handle : Oracle → Nat → List DV → M (List DV) := fun c n args =>
  J.a args fun cs args =>
  J.i .i64 cs fun h r =>
  J.i .i64 r fun h1 r =>
  D.nil r <|
  D.nil args <|
  M.join (fun st => J.b st fun b1 st => D.nil st <|
    bif b1 then
      M.ret [.str (bs [])]
    else
      M.callN (c 51 [.int .i64 h]) fun ds =>
      J.s ds fun x ds =>
      D.nil ds <|
      M.chk (Nat.ble (x.length + (bs [46]).length) 4611686018427387904) <|
      M.callN (c 51 [.int .i64 h1]) fun ds =>
      J.s ds fun x1 ds =>
      D.nil ds <|
      M.chk (Nat.ble ((x ++ (bs [46])).length + x1.length) 4611686018427387904) <|
      M.ret [.str ((x ++ (bs [46])) ++ x1)]) fun jk1 =>
  bif decide (h < 0) then
    jk1 [.bool true]
  else
    jk1 [.bool (decide (h1 < 0))]
end
structure H_ref03_Handle (Bd : Bodies) : Prop where
  eq : Bd 99 = b_ref03_Handle
  ref03_Show : H_ref03_Show Bd
structure H_ref03_ReadHandle (Bd : Bodies) : Prop where
  eq : Bd 95 = b_ref03_ReadHandle
  ref03_Handle : H_ref03_Handle Bd
  ref03_Read : H_ref03_Read Bd
structure H_law03_DigitTickets (Bd : Bodies) : Prop where
  eq : Bd 94 = b_law03_DigitTickets
  law03_awake : H_law03_awake Bd
  digit_ReadHandle : H_digit_ReadHandle Bd
  ref03_ReadHandle : H_ref03_ReadHandle Bd
structure H_law03_DigitApart (Bd : Bodies) : Prop where
  eq : Bd 96 = b_law03_DigitApart
  law03_awake : H_law03_awake Bd
  digit_Show : H_digit_Show Bd
  digit_Read : H_digit_Read Bd
structure H_digit_ShowHandle (Bd : Bodies) : Prop where
  eq : Bd 98 = b_digit_ShowHandle
  digit_Show : H_digit_Show Bd
structure H_law03_DigitHandles (Bd : Bodies) : Prop where
  eq : Bd 97 = b_law03_DigitHandles
  law03_awake : H_law03_awake Bd
  digit_ReadHandle : H_digit_ReadHandle Bd
  digit_ShowHandle : H_digit_ShowHandle Bd
  ref03_Handle : H_ref03_Handle Bd
end Go.Gv
