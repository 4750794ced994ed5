/- Numbers as texts: base 10. -/
import Derived.Test.YtanmddhmkphilaaGreatDoorGvZPa
import Derived.Test.YtanmddhmkphilaaGreatDoorGvZBod
import Derived.Lib.IndexLaws
namespace Go.Gv.F
theorem sm1 (v : Nat) (h : v < 100) : byteAt str_0 ((v * 2 + 1 : Nat) : Int) = ((48 + v % 10 : Nat) : Int) := by
  rw [byteAt_eq]
  have all : ∀ v, v < 100 → oc str_0 (v * 2 + 1) = 48 + v % 10 := by decide +kernel
  rw [all v h]
theorem sm0 (v : Nat) (h : v < 100) : byteAt str_0 ((v * 2 : Nat) : Int) = ((48 + v / 10 : Nat) : Int) := by
  rw [byteAt_eq]
  have all : ∀ v, v < 100 → oc str_0 (v * 2) = 48 + v / 10 := by decide +kernel
  rw [all v h]
/-- The lowest decimal digits. -/
def padS : Nat → Nat → List UInt8
  | 0, _ => []
  | k + 1, u => UInt8.ofNat (48 + u / 10 ^ k % 10) :: padS k u
theorem padS_len : ∀ k u, (padS k u).length = k
  | 0, _ => rfl
  | k + 1, u => by simp [padS, padS_len k u]
def decS (n : Nat) : List UInt8 := if n < 10 then [UInt8.ofNat (48 + n)] else decS (n / 10) ++ [UInt8.ofNat (48 + n % 10)]
termination_by n
decreasing_by omega
theorem padS_last : ∀ k u, padS (k + 1) u = padS k (u / 10) ++ [UInt8.ofNat (48 + u % 10)]
  | 0, u => by simp [padS]
  | k + 1, u => by
    have ih := padS_last k u
    show UInt8.ofNat (48 + u / 10 ^ (k + 1) % 10) :: padS (k + 1) u = UInt8.ofNat (48 + u / 10 / 10 ^ k % 10) :: padS k (u / 10) ++ _
    rw [ih, Nat.div_div_eq_div_mul, Nat.mul_comm 10 (10 ^ k), ← Nat.pow_succ]
    rfl
theorem padS_dec : ∀ k u, u < 10 ^ (k + 1) → 10 ^ k ≤ u ∨ k = 0 → padS (k + 1) u = decS u
  | 0, u, h, _ => by
    rw [decS, if_pos (by simpa using h)]
    simp [padS]
    congr 2
    simp at h
    omega
  | k + 1, u, h, h2 => by
    have hge : 10 ^ (k + 1) ≤ u := by rcases h2 with h | h; exact h; omega
    have hp : 10 ^ k > 0 := Nat.pow_pos (by omega)
    have h10 : 10 ≤ u := by rw [Nat.pow_succ] at hge; omega
    rw [padS_last, decS, if_neg (by omega), padS_dec k (u / 10) ((Nat.div_lt_iff_lt_mul (by omega)).2 (by rw [← Nat.pow_succ]; exact h)) (.inl ((Nat.le_div_iff_mul_le (by omega)).2 (by rw [← Nat.pow_succ]; exact hge)))]
/-- The cells of which the last k hold digits. -/
structure Inv10 (cs : List DV) (o an U k : Nat) : Prop where
  len : o + an ≤ cs.length
  le : k ≤ an
  cells : (cs.drop (o + (an - k))).take k = byteCells (padS k U)
theorem ok_put {Q : Out (List DV) × St → Prop} {st : St} {cs : List DV} {o an U k m d : Nat} (I : Inv10 cs o an U k) (hm : m + 1 + k = an) (hd : d = U / 10 ^ k % 10) {K : M (List DV)}
    (hK : ∀ cs', cs'.length = cs.length → Inv10 cs' o an U (k + 1) → Ok Q (K (st ++ [some ⟨false, cs'⟩]))) :
    Ok Q ((M.chk (inB (m : Int) an) (M.store st.length ((m : Int).toNat * 1 + o) [.int .u8 ((48 + d : Nat) : Int)] K)) (st ++ [some ⟨false, cs⟩])) := by
  have hl := I.len
  rw [chk_of (inB_of (by omega)), Int.toNat_natCast, Nat.mul_one, store_new _ (by omega)]
  refine hK _ (by simp) ⟨by simp; omega, by omega, ?_⟩
  have hc := I.cells
  rw [show o + (an - k) = m + o + 1 by omega] at hc
  rw [show o + (an - (k + 1)) = m + o by omega, List.drop_eq_getElem_cons (by simp; omega)]
  simp only [List.getElem_set_self, List.take_succ_cons]
  rw [List.drop_set_of_lt (by omega), hc]
  show _ = DV.int .u8 ((UInt8.ofNat (48 + U / 10 ^ k % 10)).toNat : Int) :: byteCells (padS k U)
  rw [hd]
  congr 3
  have : U / 10 ^ k % 10 < 10 := Nat.mod_lt _ (by omega)
  simp
  omega
theorem w32n (x : Nat) (h : x < 4294967296) : IntKind.wrap .u32 (x : Int) = (x : Int) := IntWalk.u32_in _ (by omega)
theorem w64n (x : Nat) (h : x < 18446744073709551616) : IntKind.wrap .u64 (x : Int) = (x : Int) := IntWalk.u64_in _ (by omega)
theorem tm100 (x : Nat) : (x : Int).tmod 100 = ((x % 100 : Nat) : Int) := rfl
theorem tm10k (x : Nat) : (x : Int).tmod 10000 = ((x % 10000 : Nat) : Int) := rfl
theorem tm100m (x : Nat) : (x : Int).tmod 100000000 = ((x % 100000000 : Nat) : Int) := rfl
theorem td100 (x : Nat) : (x : Int).tdiv 100 = ((x / 100 : Nat) : Int) := rfl
theorem td10k (x : Nat) : (x : Int).tdiv 10000 = ((x / 10000 : Nat) : Int) := rfl
theorem td100m (x : Nat) : (x : Int).tdiv 100000000 = ((x / 100000000 : Nat) : Int) := rfl
theorem mul2 (x : Nat) : (x : Int) * 2 = ((x * 2 : Nat) : Int) := by omega
theorem add1 (x : Nat) : (x : Int) + 1 = ((x + 1 : Nat) : Int) := by omega
theorem sub_n (m j : Nat) (h : j ≤ m) (hm : m < 1000) : wr64 ((m : Int) - (j : Int)) = ((m - j : Nat) : Int) := by rw [wr64_of (by omega) (by omega)]; omega
theorem w8f (x : Nat) (h : x < 10) : IntKind.wrap .u8 (IntKind.wrap .u32 (48 + (x : Int))) = ((48 + x : Nat) : Int) := by
  rw [show 48 + (x : Int) = ((48 + x : Nat) : Int) by omega, w32n _ (by omega)]
  exact IntWalk.u8_in _ (by omega)
theorem inS (v : Nat) (h : v < 200) : inB (v : Int) str_0.length = true := inB_of (by show v < 200; exact h)
theorem ev_formatBase10 {Bd : Bodies} (h : H_strconv_formatBase10 Bd) (n U an o : Nat) (hU : U < 18446744073709551616) (hn : 40 ≤ n) (han : 1 ≤ an ∧ an ≤ 30) (hUa : U < 10 ^ an) (cs : List DV) (hl : o + an ≤ cs.length) (st : St) :
    Ok (fun r => ∃ cs', r = (.val [], st ++ [some ⟨false, cs'⟩]) ∧ cs'.length = cs.length ∧ (cs'.drop o).take an = byteCells (padS an U))
      (run Bd n 70 [.slice 1 (some (st.length, o)) an, .int .u64 U] (st ++ [some ⟨false, cs⟩])) := by
  obtain ⟨n, rfl⟩ : ∃ m, n = m + 1 := ⟨n - 1, by omega⟩
  rw [run_succ, h.eq]
  unfold b_strconv_formatBase10
  simp only [J_l, J_i, D_nil, nn_some']
  rw [join_eq]
  refine loop_rule _ (fun q x s2 => ∃ (k m : Nat) (cs' : List DV), x = [.int .u64 ((U / 10 ^ k : Nat) : Int), .int .i64 m] ∧ m = q ∧ m + k = an ∧ cs'.length = cs.length ∧ Inv10 cs' o an U k ∧ s2 = st ++ [some ⟨false, cs'⟩])
    ?_ an n _ _ ⟨0, an, cs, by simp, rfl, rfl, rfl, ⟨hl, Nat.zero_le _, rfl⟩, rfl⟩ (by omega)
  rintro q _ s2 ⟨k, m, c0, rfl, rfl, hmk, hc0, I0, rfl⟩ rec hrec
  have hu64 : U / 10 ^ k < 18446744073709551616 := Nat.lt_of_le_of_lt (Nat.div_le_self _ _) hU
  have hum : U / 10 ^ k < 10 ^ m := by
    rw [Nat.div_lt_iff_lt_mul (Nat.pow_pos (by omega)), ← Nat.pow_add, hmk]; exact hUa
  have hj : ∀ j, U / 10 ^ (k + j) = U / 10 ^ k / 10 ^ j := fun j => by rw [Nat.pow_add, Nat.div_div_eq_div_mul]
  generalize hu : U / 10 ^ k = u at *
  simp only [J_i, D_nil]
  have g1 : U / 10 ^ (k + 1) = u / 10 := by (rw [hj 1] <;> rfl)
  have g2 : U / 10 ^ (k + 2) = u / 100 := by (rw [hj 2] <;> rfl)
  have g3 : U / 10 ^ (k + 3) = u / 1000 := by (rw [hj 3] <;> rfl)
  have g4 : U / 10 ^ (k + 4) = u / 10000 := by (rw [hj 4] <;> rfl)
  have g5 : U / 10 ^ (k + 5) = u / 100000 := by (rw [hj 5] <;> rfl)
  have g6 : U / 10 ^ (k + 6) = u / 1000000 := by (rw [hj 6] <;> rfl)
  have g7 : U / 10 ^ (k + 7) = u / 10000000 := by (rw [hj 7] <;> rfl)
  have g8 : U / 10 ^ (k + 8) = u / 100000000 := by (rw [hj 8] <;> rfl)
  by_cases h8 : 8 ≤ m
  · rw [decide_eq_true (show (m : Int) ≥ 8 by omega), cond_true]
    have e1 : wr64 ((m : Int) - 1) = ((m - 1 : Nat) : Int) := sub_n m 1 (by omega) (by omega)
    have e2 : wr64 ((m : Int) - 2) = ((m - 2 : Nat) : Int) := sub_n m 2 (by omega) (by omega)
    have e3 : wr64 ((m : Int) - 3) = ((m - 3 : Nat) : Int) := sub_n m 3 (by omega) (by omega)
    have e4 : wr64 ((m : Int) - 4) = ((m - 4 : Nat) : Int) := sub_n m 4 (by omega) (by omega)
    have e5 : wr64 ((m : Int) - 5) = ((m - 5 : Nat) : Int) := sub_n m 5 (by omega) (by omega)
    have e6 : wr64 ((m : Int) - 6) = ((m - 6 : Nat) : Int) := sub_n m 6 (by omega) (by omega)
    have e7 : wr64 ((m : Int) - 7) = ((m - 7 : Nat) : Int) := sub_n m 7 (by omega) (by omega)
    have e8 : wr64 ((m : Int) - 8) = ((m - 8 : Nat) : Int) := sub_n m 8 (by omega) (by omega)
    simp (disch := omega) only [tm100, tm10k, tm100m, td100, td10k, td100m, mul2, add1, w32n, w64n, e1, e2, e3, e4, e5, e6, e7, e8, sm1, sm0, inS, chk_true]
    refine ok_put I0 (by omega) (by rw [hu]; omega) fun c1 l1 I1 => ?_
    refine ok_put I1 (by omega) (by rw [g1]; omega) fun c2 l2 I2 => ?_
    refine ok_put I2 (by omega) (by rw [show k + 1 + 1 = k + 2 from rfl, g2]; omega) fun c3 l3 I3 => ?_
    refine ok_put I3 (by omega) (by rw [show k + 1 + 1 + 1 = k + 3 from rfl, g3]; omega) fun c4 l4 I4 => ?_
    refine ok_put I4 (by omega) (by rw [show k + 1 + 1 + 1 + 1 = k + 4 from rfl, g4]; omega) fun c5 l5 I5 => ?_
    refine ok_put I5 (by omega) (by rw [show k + 1 + 1 + 1 + 1 + 1 = k + 5 from rfl, g5]; omega) fun c6 l6 I6 => ?_
    refine ok_put I6 (by omega) (by rw [show k + 1 + 1 + 1 + 1 + 1 + 1 = k + 6 from rfl, g6]; omega) fun c7 l7 I7 => ?_
    refine ok_put I7 (by omega) (by rw [show k + 1 + 1 + 1 + 1 + 1 + 1 + 1 = k + 7 from rfl, g7]; omega) fun c8 l8 I8 => ?_
    exact hrec (m - 8) _ _ (by omega) ⟨k + 8, m - 8, c8, by rw [g8], rfl, by omega, by omega, I8, rfl⟩
  · rw [decide_eq_false (show ¬ (m : Int) ≥ 8 by omega), cond_false]
    have hlt : ∀ j, m = j → u < 10 ^ j := fun j e => by rw [← e]; exact hum
    rcases (show m = 0 ∨ m = 1 ∨ m = 2 ∨ m = 3 ∨ m = 4 ∨ m = 5 ∨ m = 6 ∨ m = 7 by omega) with rfl | rfl | rfl | rfl | rfl | rfl | rfl | rfl
    · have hu7 : u < 1 := hlt 0 rfl
      have q0 : decide (((0 : Nat) : Int) ≥ 4) = false := by decide
      have q1 : decide (((0 : Nat) : Int) ≥ 2) = false := by decide
      have q2 : decide (((0 : Nat) : Int) > 0) = false := by decide
      simp (disch := omega) only [J_i, D_nil, join_eq, cond_false, tm100, tm10k, td100, td10k, mul2, add1, w32n, sm1, sm0, inS, chk_true, q0, q1, q2]
      exact .mk ⟨c0, rfl, by omega, by have := I0.cells; rwa [show k = an by omega, Nat.sub_self, Nat.add_zero] at this⟩
    · have hu7 : u < 10 := hlt 1 rfl
      have q0 : decide (((1 : Nat) : Int) ≥ 4) = false := by decide
      have q1 : decide (((1 : Nat) : Int) ≥ 2) = false := by decide
      have q2 : decide (((1 : Nat) : Int) > 0) = true := by decide
      simp (disch := omega) only [J_i, D_nil, join_eq, cond_true, cond_false, tm100, tm10k, td100, td10k, mul2, add1, w32n, w8f, sm1, sm0, inS, chk_true, q0, q1, q2]
      refine ok_put (m := 0) I0 (by omega) (by rw [hu]; omega) fun c1 l1 I1 => ?_
      exact .mk ⟨c1, rfl, by omega, by have := I1.cells; rwa [show k + 1 = an by omega, Nat.sub_self, Nat.add_zero] at this⟩
    · have hu7 : u < 100 := hlt 2 rfl
      have q0 : decide (((2 : Nat) : Int) ≥ 4) = false := by decide
      have q1 : decide (((2 : Nat) : Int) ≥ 2) = true := by decide
      have q2 : wr64 (((2 : Nat) : Int) - 1) = ((1 : Nat) : Int) := by decide
      have q3 : wr64 (((2 : Nat) : Int) - 2) = ((0 : Nat) : Int) := by decide
      have q4 : decide (((0 : Nat) : Int) > 0) = false := by decide
      simp (disch := omega) only [J_i, D_nil, join_eq, cond_true, cond_false, tm100, tm10k, td100, td10k, mul2, add1, w32n, sm1, sm0, inS, chk_true, q0, q1, q2, q3, q4]
      refine ok_put (m := 1) I0 (by omega) (by rw [hu]; omega) fun c1 l1 I1 => ?_
      refine ok_put (m := 0) I1 (by omega) (by rw [g1]; omega) fun c2 l2 I2 => ?_
      exact .mk ⟨c2, rfl, by omega, by have := I2.cells; rwa [show k + 1 + 1 = an by omega, Nat.sub_self, Nat.add_zero] at this⟩
    · have hu7 : u < 1000 := hlt 3 rfl
      have q0 : decide (((3 : Nat) : Int) ≥ 4) = false := by decide
      have q1 : decide (((3 : Nat) : Int) ≥ 2) = true := by decide
      have q2 : wr64 (((3 : Nat) : Int) - 1) = ((2 : Nat) : Int) := by decide
      have q3 : wr64 (((3 : Nat) : Int) - 2) = ((1 : Nat) : Int) := by decide
      have q4 : decide (((1 : Nat) : Int) > 0) = true := by decide
      simp (disch := omega) only [J_i, D_nil, join_eq, cond_true, cond_false, tm100, tm10k, td100, td10k, mul2, add1, w32n, w8f, sm1, sm0, inS, chk_true, q0, q1, q2, q3, q4]
      refine ok_put (m := 2) I0 (by omega) (by rw [hu]; omega) fun c1 l1 I1 => ?_
      refine ok_put (m := 1) I1 (by omega) (by rw [g1]; omega) fun c2 l2 I2 => ?_
      refine ok_put (m := 0) I2 (by omega) (by rw [show k + 1 + 1 = k + 2 from rfl, g2]; omega) fun c3 l3 I3 => ?_
      exact .mk ⟨c3, rfl, by omega, by have := I3.cells; rwa [show k + 1 + 1 + 1 = an by omega, Nat.sub_self, Nat.add_zero] at this⟩
    · have hu7 : u < 10000 := hlt 4 rfl
      have q0 : decide (((4 : Nat) : Int) ≥ 4) = true := by decide
      have q1 : wr64 (((4 : Nat) : Int) - 1) = ((3 : Nat) : Int) := by decide
      have q2 : wr64 (((4 : Nat) : Int) - 2) = ((2 : Nat) : Int) := by decide
      have q3 : wr64 (((4 : Nat) : Int) - 3) = ((1 : Nat) : Int) := by decide
      have q4 : wr64 (((4 : Nat) : Int) - 4) = ((0 : Nat) : Int) := by decide
      have q5 : decide (((0 : Nat) : Int) ≥ 2) = false := by decide
      have q6 : decide (((0 : Nat) : Int) > 0) = false := by decide
      simp (disch := omega) only [J_i, D_nil, join_eq, cond_true, cond_false, tm100, tm10k, td100, td10k, mul2, add1, w32n, sm1, sm0, inS, chk_true, q0, q1, q2, q3, q4, q5, q6]
      refine ok_put (m := 3) I0 (by omega) (by rw [hu]; omega) fun c1 l1 I1 => ?_
      refine ok_put (m := 2) I1 (by omega) (by rw [g1]; omega) fun c2 l2 I2 => ?_
      refine ok_put (m := 1) I2 (by omega) (by rw [show k + 1 + 1 = k + 2 from rfl, g2]; omega) fun c3 l3 I3 => ?_
      refine ok_put (m := 0) I3 (by omega) (by rw [show k + 1 + 1 + 1 = k + 3 from rfl, g3]; omega) fun c4 l4 I4 => ?_
      exact .mk ⟨c4, rfl, by omega, by have := I4.cells; rwa [show k + 1 + 1 + 1 + 1 = an by omega, Nat.sub_self, Nat.add_zero] at this⟩
    · have hu7 : u < 100000 := hlt 5 rfl
      have q0 : decide (((5 : Nat) : Int) ≥ 4) = true := by decide
      have q1 : wr64 (((5 : Nat) : Int) - 1) = ((4 : Nat) : Int) := by decide
      have q2 : wr64 (((5 : Nat) : Int) - 2) = ((3 : Nat) : Int) := by decide
      have q3 : wr64 (((5 : Nat) : Int) - 3) = ((2 : Nat) : Int) := by decide
      have q4 : wr64 (((5 : Nat) : Int) - 4) = ((1 : Nat) : Int) := by decide
      have q5 : decide (((1 : Nat) : Int) ≥ 2) = false := by decide
      have q6 : decide (((1 : Nat) : Int) > 0) = true := by decide
      simp (disch := omega) only [J_i, D_nil, join_eq, cond_true, cond_false, tm100, tm10k, td100, td10k, mul2, add1, w32n, w8f, sm1, sm0, inS, chk_true, q0, q1, q2, q3, q4, q5, q6]
      refine ok_put (m := 4) I0 (by omega) (by rw [hu]; omega) fun c1 l1 I1 => ?_
      refine ok_put (m := 3) I1 (by omega) (by rw [g1]; omega) fun c2 l2 I2 => ?_
      refine ok_put (m := 2) I2 (by omega) (by rw [show k + 1 + 1 = k + 2 from rfl, g2]; omega) fun c3 l3 I3 => ?_
      refine ok_put (m := 1) I3 (by omega) (by rw [show k + 1 + 1 + 1 = k + 3 from rfl, g3]; omega) fun c4 l4 I4 => ?_
      refine ok_put (m := 0) I4 (by omega) (by rw [show k + 1 + 1 + 1 + 1 = k + 4 from rfl, g4]; omega) fun c5 l5 I5 => ?_
      exact .mk ⟨c5, rfl, by omega, by have := I5.cells; rwa [show k + 1 + 1 + 1 + 1 + 1 = an by omega, Nat.sub_self, Nat.add_zero] at this⟩
    · have hu7 : u < 1000000 := hlt 6 rfl
      have q0 : decide (((6 : Nat) : Int) ≥ 4) = true := by decide
      have q1 : wr64 (((6 : Nat) : Int) - 1) = ((5 : Nat) : Int) := by decide
      have q2 : wr64 (((6 : Nat) : Int) - 2) = ((4 : Nat) : Int) := by decide
      have q3 : wr64 (((6 : Nat) : Int) - 3) = ((3 : Nat) : Int) := by decide
      have q4 : wr64 (((6 : Nat) : Int) - 4) = ((2 : Nat) : Int) := by decide
      have q5 : decide (((2 : Nat) : Int) ≥ 2) = true := by decide
      have q6 : wr64 (((2 : Nat) : Int) - 1) = ((1 : Nat) : Int) := by decide
      have q7 : wr64 (((2 : Nat) : Int) - 2) = ((0 : Nat) : Int) := by decide
      have q8 : decide (((0 : Nat) : Int) > 0) = false := by decide
      simp (disch := omega) only [J_i, D_nil, join_eq, cond_true, cond_false, tm100, tm10k, td100, td10k, mul2, add1, w32n, sm1, sm0, inS, chk_true, q0, q1, q2, q3, q4, q5, q6, q7, q8]
      refine ok_put (m := 5) I0 (by omega) (by rw [hu]; omega) fun c1 l1 I1 => ?_
      refine ok_put (m := 4) I1 (by omega) (by rw [g1]; omega) fun c2 l2 I2 => ?_
      refine ok_put (m := 3) I2 (by omega) (by rw [show k + 1 + 1 = k + 2 from rfl, g2]; omega) fun c3 l3 I3 => ?_
      refine ok_put (m := 2) I3 (by omega) (by rw [show k + 1 + 1 + 1 = k + 3 from rfl, g3]; omega) fun c4 l4 I4 => ?_
      refine ok_put (m := 1) I4 (by omega) (by rw [show k + 1 + 1 + 1 + 1 = k + 4 from rfl, g4]; omega) fun c5 l5 I5 => ?_
      refine ok_put (m := 0) I5 (by omega) (by rw [show k + 1 + 1 + 1 + 1 + 1 = k + 5 from rfl, g5]; omega) fun c6 l6 I6 => ?_
      exact .mk ⟨c6, rfl, by omega, by have := I6.cells; rwa [show k + 1 + 1 + 1 + 1 + 1 + 1 = an by omega, Nat.sub_self, Nat.add_zero] at this⟩
    · have hu7 : u < 10000000 := hlt 7 rfl
      have q0 : decide (((7 : Nat) : Int) ≥ 4) = true := by decide
      have q1 : wr64 (((7 : Nat) : Int) - 1) = ((6 : Nat) : Int) := by decide
      have q2 : wr64 (((7 : Nat) : Int) - 2) = ((5 : Nat) : Int) := by decide
      have q3 : wr64 (((7 : Nat) : Int) - 3) = ((4 : Nat) : Int) := by decide
      have q4 : wr64 (((7 : Nat) : Int) - 4) = ((3 : Nat) : Int) := by decide
      have q5 : decide (((3 : Nat) : Int) ≥ 2) = true := by decide
      have q6 : wr64 (((3 : Nat) : Int) - 1) = ((2 : Nat) : Int) := by decide
      have q7 : wr64 (((3 : Nat) : Int) - 2) = ((1 : Nat) : Int) := by decide
      have q8 : decide (((1 : Nat) : Int) > 0) = true := by decide
      simp (disch := omega) only [J_i, D_nil, join_eq, cond_true, tm100, tm10k, td100, td10k, mul2, add1, w32n, w8f, sm1, sm0, inS, chk_true, q0, q1, q2, q3, q4, q5, q6, q7, q8]
      refine ok_put (m := 6) I0 (by omega) (by rw [hu]; omega) fun c1 l1 I1 => ?_
      refine ok_put (m := 5) I1 (by omega) (by rw [g1]; omega) fun c2 l2 I2 => ?_
      refine ok_put (m := 4) I2 (by omega) (by rw [show k + 1 + 1 = k + 2 from rfl, g2]; omega) fun c3 l3 I3 => ?_
      refine ok_put (m := 3) I3 (by omega) (by rw [show k + 1 + 1 + 1 = k + 3 from rfl, g3]; omega) fun c4 l4 I4 => ?_
      refine ok_put (m := 2) I4 (by omega) (by rw [show k + 1 + 1 + 1 + 1 = k + 4 from rfl, g4]; omega) fun c5 l5 I5 => ?_
      refine ok_put (m := 1) I5 (by omega) (by rw [show k + 1 + 1 + 1 + 1 + 1 = k + 5 from rfl, g5]; omega) fun c6 l6 I6 => ?_
      refine ok_put (m := 0) I6 (by omega) (by rw [show k + 1 + 1 + 1 + 1 + 1 + 1 = k + 6 from rfl, g6]; omega) fun c7 l7 I7 => ?_
      exact .mk ⟨c7, rfl, by omega, by have := I7.cells; rwa [show k + 1 + 1 + 1 + 1 + 1 + 1 + 1 = an by omega, Nat.sub_self, Nat.add_zero] at this⟩
theorem len8 (x : Nat) (h : x < 256) (h0 : 0 < x) : ∃ t : Nat, byteAt str_2 (x : Int) = (t : Int) ∧ 1 ≤ t ∧ t ≤ 8 ∧ 2 ^ (t - 1) ≤ x ∧ x < 2 ^ t := by
  have all : ∀ x, x < 256 → 0 < x → 1 ≤ oc str_2 x ∧ oc str_2 x ≤ 8 ∧ 2 ^ (oc str_2 x - 1) ≤ x ∧ x < 2 ^ oc str_2 x := by decide +kernel
  exact ⟨oc str_2 x, byteAt_eq _ _, all x h h0⟩
theorem fd32 (x : Nat) : (x : Int).fdiv (2 ^ 32) = ((x / 2 ^ 32 : Nat) : Int) := by
  have e : (2 : Int) ^ 32 = ((2 ^ 32 : Nat) : Int) := by decide
  rw [e, ← Int.ofNat_fdiv]
theorem fd16 (x : Nat) : (x : Int).fdiv (2 ^ 16) = ((x / 2 ^ 16 : Nat) : Int) := by
  have e : (2 : Int) ^ 16 = ((2 ^ 16 : Nat) : Int) := by decide
  rw [e, ← Int.ofNat_fdiv]
theorem fd8 (x : Nat) : (x : Int).fdiv (2 ^ 8) = ((x / 2 ^ 8 : Nat) : Int) := by
  have e : (2 : Int) ^ 8 = ((2 ^ 8 : Nat) : Int) := by decide
  rw [e, ← Int.ofNat_fdiv]
theorem fd18 (x : Nat) : (x : Int).fdiv (2 ^ 18) = ((x / 2 ^ 18 : Nat) : Int) := by
  have e : (2 : Int) ^ 18 = ((2 ^ 18 : Nat) : Int) := by decide
  rw [e, ← Int.ofNat_fdiv]
theorem len_str2 : str_2.length = 256 := by decide +kernel
theorem dd2 (d a b : Nat) : d / 2 ^ a / 2 ^ b = d / 2 ^ (a + b) := by rw [Nat.div_div_eq_div_mul, ← Nat.pow_add]
/-- So many binary digits. -/
def BLen (d L : Nat) : Prop := 1 ≤ L ∧ 2 ^ (L - 1) ≤ d ∧ d < 2 ^ L
theorem BLen.shift {d s L : Nat} (h : BLen (d / 2 ^ s) L) : BLen d (L + s) := by
  obtain ⟨h1, h2, h3⟩ := h
  refine ⟨by omega, ?_, ?_⟩
  · rw [show L + s - 1 = L - 1 + s by omega, Nat.pow_add]
    exact (Nat.le_div_iff_mul_le (Nat.pow_pos (by omega))).1 h2
  · rw [Nat.pow_add]
    exact (Nat.div_lt_iff_lt_mul (Nat.pow_pos (by omega))).1 h3
theorem ev_Len64 {Bd : Bodies} (h : H_bits_Len64 Bd) (n d : Nat) (h0 : 0 < d) (hd : d < 18446744073709551616) (st : St) : ∃ L : Nat, BLen d L ∧ L ≤ 64 ∧ run Bd (n + 1) 77 [.int .u64 d] st = some (.val [.int .i64 (L : Int)], st) := by
  rw [run_succ, h.eq]
  unfold b_bits_Len64
  -- the last step
  have fin : ∀ (x s : Nat), x = d / 2 ^ s → 0 < x → x < 256 → s ≤ 56 → ∃ L : Nat, BLen d L ∧ L ≤ 64 ∧
      (M.chk (inB (IntKind.wrap .u8 (x : Int)) str_2.length) (M.ret [.int .i64 (wr64 ((s : Int) + (wr64 (byteAt str_2 (IntKind.wrap .u8 (x : Int))))))]) : M (List DV)) st = some (.val [.int .i64 (L : Int)], st) := by
    intro x s hx h1 h2 hs
    obtain ⟨t, ht, t1, t2, t3, t4⟩ := len8 x h2 h1
    refine ⟨t + s, BLen.shift ⟨t1, by rw [← hx]; exact t3, by rw [← hx]; exact t4⟩, by omega, ?_⟩
    rw [IntWalk.u8_in _ (by omega), chk_of (inB_of (by rw [len_str2]; exact h2)), ht, wr64_of (x := (t : Int)) (by omega) (by omega), wr64_of (by omega) (by omega), ret_eq]
    congr 5
    omega
  simp only [J_i, D_nil, join_eq]
  by_cases a : d ≥ 4294967296
  · rw [decide_eq_true (show (d : Int) ≥ 4294967296 by omega), cond_true, fd32]
    try simp only [J_i, D_nil]
    by_cases b : d / 2 ^ 32 ≥ 65536
    · rw [decide_eq_true (show ((d / 2 ^ 32 : Nat) : Int) ≥ 65536 by omega), cond_true, fd16]
      try simp only [J_i, D_nil]
      by_cases c : d / 2 ^ 32 / 2 ^ 16 ≥ 256
      · rw [decide_eq_true (show ((d / 2 ^ 32 / 2 ^ 16 : Nat) : Int) ≥ 256 by omega), cond_true, fd8]
        try simp only [J_i, D_nil]
        exact fin _ 56 (by simp only [dd2]) (by omega) (by omega) (by omega)
      · rw [decide_eq_false (show ¬ ((d / 2 ^ 32 / 2 ^ 16 : Nat) : Int) ≥ 256 by omega), cond_false]
        try simp only [J_i, D_nil]
        exact fin _ 48 (by simp only [dd2]) (by omega) (by omega) (by omega)
    · rw [decide_eq_false (show ¬ ((d / 2 ^ 32 : Nat) : Int) ≥ 65536 by omega), cond_false]
      try simp only [J_i, D_nil]
      by_cases c : d / 2 ^ 32 ≥ 256
      · rw [decide_eq_true (show ((d / 2 ^ 32 : Nat) : Int) ≥ 256 by omega), cond_true, fd8]
        try simp only [J_i, D_nil]
        exact fin _ 40 (by simp only [dd2]) (by omega) (by omega) (by omega)
      · rw [decide_eq_false (show ¬ ((d / 2 ^ 32 : Nat) : Int) ≥ 256 by omega), cond_false]
        try simp only [J_i, D_nil]
        exact fin _ 32 rfl (by omega) (by omega) (by omega)
  · rw [decide_eq_false (show ¬ (d : Int) ≥ 4294967296 by omega), cond_false]
    try simp only [J_i, D_nil]
    by_cases b : d ≥ 65536
    · rw [decide_eq_true (show (d : Int) ≥ 65536 by omega), cond_true, fd16]
      try simp only [J_i, D_nil]
      by_cases c : d / 2 ^ 16 ≥ 256
      · rw [decide_eq_true (show ((d / 2 ^ 16 : Nat) : Int) ≥ 256 by omega), cond_true, fd8]
        try simp only [J_i, D_nil]
        exact fin _ 24 (by simp only [dd2]) (by omega) (by omega) (by omega)
      · rw [decide_eq_false (show ¬ ((d / 2 ^ 16 : Nat) : Int) ≥ 256 by omega), cond_false]
        try simp only [J_i, D_nil]
        exact fin _ 16 rfl (by omega) (by omega) (by omega)
    · rw [decide_eq_false (show ¬ (d : Int) ≥ 65536 by omega), cond_false]
      try simp only [J_i, D_nil]
      by_cases c : d ≥ 256
      · rw [decide_eq_true (show (d : Int) ≥ 256 by omega), cond_true, fd8]
        try simp only [J_i, D_nil]
        exact fin _ 8 rfl (by omega) (by omega) (by omega)
      · rw [decide_eq_false (show ¬ (d : Int) ≥ 256 by omega), cond_false]
        try simp only [J_i, D_nil]
        exact fin _ 0 (by simp) (by omega) (by omega) (by omega)
/-- So many decimal digits. -/
def DLen (d r : Nat) : Prop := 1 ≤ r ∧ r ≤ 20 ∧ d < 10 ^ r ∧ (10 ^ (r - 1) ≤ d ∨ r = 1)
theorem ev_numDigits {Bd : Bodies} (h : H_strconv_numDigits Bd) (n d : Nat) (h0 : 0 < d) (hd : d < 18446744073709551616) (st : St) (ht : Tabs st) : ∃ r : Nat, DLen d r ∧ run Bd (n + 2) 69 [.int .u64 d] st = some (.val [.int .i64 (r : Int)], st) := by
  obtain ⟨L, hL, h64, hrun⟩ := ev_Len64 h.bits_Len64 n d h0 hd st
  rw [run_succ, h.eq]
  unfold b_strconv_numDigits
  simp only [J_i, D_nil]
  rw [call_eq hrun]
  simp only [J_i, D_nil]
  have hk : run Bd (n + 1) 78 [.int .i64 (L : Int)] st = some (.val [.int .i64 ((L * 78913 / 2 ^ 18 : Nat) : Int)], st) := by
    rw [run_succ, h.strconv_log10Pow2.eq]
    unfold b_strconv_log10Pow2
    simp only [J_i, D_nil, ret_eq]
    rw [show (L : Int) * 78913 = ((L * 78913 : Nat) : Int) by omega, wr64_of (by omega) (by omega), fd18]
  rw [call_eq hk]
  simp only [J_i, D_nil]
  have facts : ∀ L, L ≤ 64 → 1 ≤ L → L * 78913 / 2 ^ 18 < 20 ∧ 2 ^ L ≤ 10 ^ (L * 78913 / 2 ^ 18 + 1) ∧ (1 ≤ L * 78913 / 2 ^ 18 → 10 ^ (L * 78913 / 2 ^ 18 - 1) ≤ 2 ^ (L - 1)) := by
    have : ∀ L, L < 65 → 1 ≤ L → L * 78913 / 2 ^ 18 < 20 ∧ 2 ^ L ≤ 10 ^ (L * 78913 / 2 ^ 18 + 1) ∧ (1 ≤ L * 78913 / 2 ^ 18 → 10 ^ (L * 78913 / 2 ^ 18 - 1) ≤ 2 ^ (L - 1)) := by decide +kernel
    exact fun L h1 h2 => this L (by omega) h2
  obtain ⟨f1, f2, f3⟩ := facts L h64 hL.1
  generalize L * 78913 / 2 ^ 18 = k at *
  have htab : tab1[k]? = some (.int .u64 ((10 ^ k : Nat) : Int)) := by
    have all : ∀ k, k < 20 → tab1[k]? = some (.int .u64 ((10 ^ k : Nat) : Int)) := by
      intro k hk
      match k, hk with
      | 0, _ => exact rfl
      | 1, _ => exact rfl
      | 2, _ => exact rfl
      | 3, _ => exact rfl
      | 4, _ => exact rfl
      | 5, _ => exact rfl
      | 6, _ => exact rfl
      | 7, _ => exact rfl
      | 8, _ => exact rfl
      | 9, _ => exact rfl
      | 10, _ => exact rfl
      | 11, _ => exact rfl
      | 12, _ => exact rfl
      | 13, _ => exact rfl
      | 14, _ => exact rfl
      | 15, _ => exact rfl
      | 16, _ => exact rfl
      | 17, _ => exact rfl
      | 18, _ => exact rfl
      | 19, _ => exact rfl
      | k + 20, h => exact absurd h (by omega)
    exact all k f1
  rw [chk_of (inB_of f1), Int.toNat_natCast, Nat.mul_one, Nat.add_zero, load1_eq (i := 1) (f := true) (all := tab1) (ht 1 _ rfl) htab]
  simp only [D_int]
  have hb : ∀ b : Bool, run Bd (n + 1) 85 [.bool b] st = some (.val [.int .i64 ((if b then 1 else 0 : Nat) : Int)], st) := by
    intro b
    rw [run_succ, h.internal_strconv_bool2_int.eq]
    unfold b_internal_strconv_bool2_int
    simp only [J_b, D_nil]
    cases b <;> rfl
  rw [call_eq (hb _)]
  simp only [J_i, D_nil, ret_eq]
  by_cases hge : 10 ^ k ≤ d
  · refine ⟨k + 1, ⟨by omega, by omega, Nat.lt_of_lt_of_le hL.2.2 f2, .inl hge⟩, ?_⟩
    rw [decide_eq_true (show (d : Int) ≥ ((10 ^ k : Nat) : Int) by omega), if_pos rfl, wr64_of (by omega) (by omega)]
    rfl
  · have hk1 : 1 ≤ k := by
      rcases Nat.eq_zero_or_pos k with h | h
      · subst h; simp at hge; omega
      · exact h
    refine ⟨k, ⟨hk1, by omega, by omega, .inl (Nat.le_trans (f3 hk1) hL.2.1)⟩, ?_⟩
    rw [decide_eq_false (show ¬ (d : Int) ≥ ((10 ^ k : Nat) : Int) by omega), if_neg (by simp), wr64_of (by omega) (by omega)]
    simp
end Go.Gv.F

/- Itoa. -/
namespace Go.Gv.F
/-- A number's text. -/
def showI (z : Int) : List UInt8 := if z < 0 then 45 :: decS z.natAbs else decS z.natAbs
theorem dec_pad {d r : Nat} (h : DLen d r) : padS r d = decS d := by
  obtain ⟨h1, h2, h3, h4⟩ := h
  obtain ⟨k, rfl⟩ : ∃ k, r = k + 1 := ⟨r - 1, by omega⟩
  exact padS_dec k d h3 (by rcases h4 with h | h; exact .inl (by simpa using h); exact .inr (by omega))
theorem len_str0 : str_0.length = 200 := by decide +kernel
theorem ev_small {Bd : Bodies} (h : H_strconv_small Bd) (n i : Nat) (hi : i < 100) (st : St) : run Bd (n + 1) 68 [.int .i64 i] st = some (.val [.str (decS i)], st) := by
  rw [run_succ, h.eq]
  unfold b_strconv_small
  simp only [J_i, D_nil]
  have w1 : wr64 ((i : Int) + 1) = ((i + 1 : Nat) : Int) := by rw [wr64_of (by omega) (by omega)]; rfl
  have w2 : wr64 ((i : Int) * 2) = ((i * 2 : Nat) : Int) := by rw [wr64_of (by omega) (by omega)]; omega
  have w3 : wr64 (((i * 2 : Nat) : Int) + 2) = ((i * 2 + 2 : Nat) : Int) := by rw [wr64_of (by omega) (by omega)]; omega
  by_cases h10 : i < 10
  · rw [decide_eq_true (show (i : Int) < 10 by omega), cond_true, w1, Int.toNat_natCast, Int.toNat_natCast]
    rw [chk_of (by simp only [Bool.and_eq_true, decide_eq_true_eq]; exact ⟨by omega, by show ((i + 1 : Nat) : Int) ≤ 36; omega⟩), chk_of (by simp only [Bool.and_eq_true, decide_eq_true_eq]; omega), ret_eq]
    have all : ∀ i, i < 10 → ((bs [48, 49, 50, 51, 52, 53, 54, 55, 56, 57, 97, 98, 99, 100, 101, 102, 103, 104, 105, 106, 107, 108, 109, 110, 111, 112, 113, 114, 115, 116, 117, 118, 119, 120, 121, 122]).take (i + 1)).drop i = padS 1 i := by decide +kernel
    rw [all i h10, padS_dec 0 i (by simpa using h10) (.inr rfl)]
  · rw [decide_eq_false (show ¬ (i : Int) < 10 by omega), cond_false, w2, w3, len_str0, Int.toNat_natCast, Int.toNat_natCast]
    rw [chk_of (by simp only [Bool.and_eq_true, decide_eq_true_eq]; omega), chk_of (by simp only [Bool.and_eq_true, decide_eq_true_eq]; omega), ret_eq]
    have all : ∀ i, i < 100 → 10 ≤ i → (str_0.take (i * 2 + 2)).drop (i * 2) = padS 2 i := by decide +kernel
    rw [all i hi (by omega), padS_dec 1 i (by omega) (.inl (by omega))]
theorem ev_FormatInt10 {Bd : Bodies} (h : H_strconv_FormatInt_ Bd) (n : Nat) (z : Int) (hz : -9223372036854775808 ≤ z ∧ z ≤ 9223372036854775807) (hn : 60 ≤ n) (st : St) (ht : Tabs st) :
    Ok (fun o => ∃ s', o = (.val [.str (showI z)], s') ∧ Pre st s') (run Bd n 63 [.int .i64 z, .int .i64 10] st) := by
  obtain ⟨n, rfl⟩ : ∃ m, n = m + 3 := ⟨n - 3, by omega⟩
  rw [run_succ, h.eq]
  unfold b_strconv_FormatInt_
  simp only [J_i, D_nil]
  have e10 : ((10 : Int) == 10) = true := rfl
  rw [e10, cond_true, join_bool]
  simp only [J_b, D_nil]
  by_cases hs : 0 ≤ z ∧ z < 100
  · have e : (bif decide ((0 : Int) ≤ z) then decide (z < 100) else false) = true := by rw [Bool.cond_false_right, Bool.and_eq_true, decide_eq_true_eq, decide_eq_true_eq]; exact hs
    obtain ⟨i, rfl⟩ : ∃ i : Nat, z = i := ⟨z.toNat, by omega⟩
    rw [e, cond_true, call_eq (ev_small h.strconv_small (n + 1) i (by omega) st)]
    simp only [J_s, D_nil, ret_eq]
    refine .mk ⟨st, ?_, .refl st⟩
    unfold showI
    rw [if_neg (by omega), Int.natAbs_natCast]
  · have e : (bif decide ((0 : Int) ≤ z) then decide (z < 100) else false) = false := by rw [Bool.cond_false_right, Bool.and_eq_false_iff, decide_eq_false_iff_not, decide_eq_false_iff_not]; omega
    rw [e, cond_false, new_eq, join_eq]
    simp only [J_i, D_nil]
    have hpos : 0 < z.natAbs := by omega
    have hu : z.natAbs < 18446744073709551616 := by omega
    obtain ⟨r, hr, hrun⟩ := ev_numDigits h.strconv_numDigits n z.natAbs hpos hu (st ++ [some ⟨false, List.replicate 24 (.int .u8 0)⟩]) (ht.mono (.new _ _))
    have hr' := hr
    obtain ⟨r1, r2, r3, _⟩ := hr'
    have w1 : wr64 (1 + (r : Int)) = ((r + 1 : Nat) : Int) := by rw [wr64_of (by omega) (by omega)]; omega
    have key : Ok (fun o => ∃ s', o = (.val [.str (showI z)], s') ∧ Pre st s') ((M.call (β := List DV) (run Bd (n + 2) 69 [.int .u64 (z.natAbs : Int)]) fun ds =>
          J.i .i64 ds fun x1 ds =>
          D.nil ds <|
          M.load st.length 0 24 fun _ =>
          M.chk (decide (0 ≤ wr64 (1 + x1)) && decide (wr64 (1 + x1) ≤ 24)) <|
          M.chk (decide ((1 : Int) ≤ (((wr64 (1 + x1)).toNat : Nat) : Int))) <|
          M.call (run Bd (n + 2) 70 [.slice 1 (some (st.length, 1)) (((wr64 (1 + x1)).toNat) - 1), .int .u64 (z.natAbs : Int)]) fun ds =>
          D.nil ds <|
          bif decide (z < 0) then
            M.store st.length 0 [.int .u8 45] <|
            M.load st.length 0 24 fun _ =>
            M.chk (decide (0 ≤ wr64 (1 + x1)) && decide (wr64 (1 + x1) ≤ 24)) <|
            M.load st.length 0 ((wr64 (1 + x1)).toNat) fun cs =>
            D.oct cs fun l =>
            M.ret [.str l]
          else
            M.load st.length 0 24 fun _ =>
            M.chk (decide (0 ≤ wr64 (1 + x1)) && decide (wr64 (1 + x1) ≤ 24)) <|
            M.chk (decide ((1 : Int) ≤ (((wr64 (1 + x1)).toNat : Nat) : Int))) <|
            M.load st.length 1 (((wr64 (1 + x1)).toNat) - 1) fun cs1 =>
            D.oct cs1 fun l1 =>
            M.ret [.str l1]) (st ++ [some ⟨false, List.replicate 24 (.int .u8 0)⟩])) := by
      rw [call_eq hrun]
      simp only [J_i, D_nil, w1, Int.toNat_natCast, Nat.add_sub_cancel]
      have c1 : (decide ((0 : Int) ≤ ((r + 1 : Nat) : Int)) && decide (((r + 1 : Nat) : Int) ≤ 24)) = true := by simp only [Bool.and_eq_true, decide_eq_true_eq]; omega
      have c2 : decide ((1 : Int) ≤ ((r + 1 : Nat) : Int)) = true := decide_eq_true (by omega)
      simp only [c1, c2, chk_true]
      rw [load_new (by simp)]
      refine Ok.call (ev_formatBase10 h.strconv_formatBase10 (n + 2) z.natAbs r 1 hu (by omega) ⟨r1, by omega⟩ r3 (List.replicate 24 (.int .u8 0)) (by simp; omega) st) ?_
      rintro _ ⟨cs, rfl, hl, hc⟩
      refine ⟨_, _, rfl, ?_⟩
      have hl : cs.length = 24 := by simpa using hl
      simp only [D_nil]
      rw [dec_pad hr] at hc
      by_cases hneg : z < 0
      · rw [decide_eq_true hneg, cond_true, store_new _ (by omega), load_new (by simp; omega), load_new (by simp; omega)]
        have e2 : ((cs.set 0 (.int .u8 45)).drop 0).take (r + 1) = byteCells (45 :: decS z.natAbs) := by
          match cs, hl, hc with
          | c :: cs, hl, hc =>
            simp only [List.drop_succ_cons, List.drop_zero] at hc
            simp only [List.set_cons_zero, List.drop_zero, List.take_succ_cons, hc]
            rfl
        rw [e2, D_oct, ret_eq]
        rw [show showI z = 45 :: decS z.natAbs by unfold showI; rw [if_pos hneg]]
        exact .mk ⟨_, rfl, .new _ _⟩
      · rw [decide_eq_false hneg, cond_false, load_new (by omega), load_new (by omega), hc, D_oct, ret_eq]
        rw [show showI z = decS z.natAbs by unfold showI; rw [if_neg hneg]]
        exact .mk ⟨_, rfl, .new _ _⟩
    by_cases hneg : z < 0
    · rw [decide_eq_true hneg] at key ⊢
      rw [cond_true]
      have wu : IntKind.wrap .u64 (0 - IntKind.wrap .u64 z) = (z.natAbs : Int) := by
        have e : ∀ x : Int, IntKind.wrap .u64 x = x % 18446744073709551616 := by intro x; simp [IntKind.wrap, IntKind.bits, IntKind.signed]
        rw [e, e]
        omega
      rw [wu]
      exact key
    · rw [decide_eq_false hneg] at key ⊢
      rw [cond_false]
      have wu : IntKind.wrap .u64 z = (z.natAbs : Int) := by rw [IntWalk.u64_in _ (by omega)]; omega
      rw [wu]
      exact key
theorem ev_digit_Show {Bd : Bodies} (h : H_digit_Show Bd) (n : Nat) (z : Int) (hz : -9223372036854775808 ≤ z ∧ z ≤ 9223372036854775807) (hn : 70 ≤ n) (st : St) (ht : Tabs st) :
    Ok (fun o => ∃ s', o = (.val [.str (showI z)], s') ∧ Pre st s') (run Bd n 49 [.int .i64 z] st) := by
  obtain ⟨n, rfl⟩ : ∃ m, n = m + 3 := ⟨n - 3, by omega⟩
  rw [run_succ, h.eq]
  unfold b_digit_Show
  simp only [J_i, D_nil]
  have h2 : Ok (fun o => ∃ s', o = (.val [.str (showI z)], s') ∧ Pre st s') (run Bd (n + 2) 60 [.int .i64 z] st) := by
    rw [run_succ, h.strconv_Itoa.eq]
    unfold b_strconv_Itoa
    simp only [J_i, D_nil]
    have h3 : Ok (fun o => ∃ s', o = (.val [.str (showI z)], s') ∧ Pre st s') (run Bd (n + 1) 67 [.int .i64 z] st) := by
      rw [run_succ, h.strconv_Itoa.strconv_Itoa_.eq]
      unfold b_strconv_Itoa_
      simp only [J_i, D_nil]
      refine Ok.call (ev_FormatInt10 h.strconv_Itoa.strconv_Itoa_.strconv_FormatInt_ n z hz (by omega) st ht) ?_
      rintro _ ⟨s1, rfl, hp⟩
      refine ⟨_, s1, rfl, ?_⟩
      simp only [J_s, D_nil, ret_eq]
      exact .mk ⟨s1, rfl, hp⟩
    refine Ok.call h3 ?_
    rintro _ ⟨s1, rfl, hp⟩
    refine ⟨_, s1, rfl, ?_⟩
    simp only [J_s, D_nil, ret_eq]
    exact .mk ⟨s1, rfl, hp⟩
  refine Ok.call h2 ?_
  rintro _ ⟨s1, rfl, hp⟩
  refine ⟨_, s1, rfl, ?_⟩
  simp only [J_s, D_nil, ret_eq]
  exact .mk ⟨s1, rfl, hp⟩
end Go.Gv.F

/- Numbers, read. -/
namespace Go.Gv.F
theorem tmod_neg (a : Nat) : (-(a : Int)).tmod 10 = -((a % 10 : Nat) : Int) := by rw [Int.neg_tmod]; rfl
theorem tdiv_neg (a : Nat) : (-(a : Int)).tdiv 10 = -((a / 10 : Nat) : Int) := by rw [Int.neg_tdiv]; rfl
theorem tmod_pos (a : Nat) : ((a : Nat) : Int).tmod 10 = ((a % 10 : Nat) : Int) := rfl
theorem tdiv_pos (a : Nat) : ((a : Nat) : Int).tdiv 10 = ((a / 10 : Nat) : Int) := rfl
def sg (b : Bool) (a : Nat) : Int := if b then -(a : Int) else a
theorem sg_tmod (b : Bool) (a : Nat) : (sg b a).tmod 10 = sg b (a % 10) := by
  unfold sg; cases b
  · exact tmod_pos a
  · exact tmod_neg a
theorem sg_tdiv (b : Bool) (a : Nat) : (sg b a).tdiv 10 = sg b (a / 10) := by
  unfold sg; cases b
  · exact tdiv_pos a
  · exact tdiv_neg a
theorem sg_cases (b : Bool) (a : Nat) : sg b a = a ∨ sg b a = -(a : Int) := by
  unfold sg; cases b
  · exact .inl rfl
  · exact .inr rfl
theorem sg_abs (z : Int) : z = sg (decide (z < 0)) z.natAbs := by
  unfold sg
  by_cases h : z < 0
  · rw [decide_eq_true h, if_pos rfl]; omega
  · rw [decide_eq_false h, if_neg (by simp)]; omega
theorem pow20 : (18446744073709551616 : Nat) ≤ 10 ^ 20 := by decide
theorem ev_ref03_Show {Bd : Bodies} (h : H_ref03_Show Bd) (n : Nat) (z : Int) (hz : -9223372036854775808 ≤ z ∧ z ≤ 9223372036854775807) (hn : 40 ≤ n) (st : St) :
    Ok (fun o => ∃ s', o = (.val [.str (showI z)], s') ∧ Pre st s') (run Bd n 51 [.int .i64 z] st) := by
  obtain ⟨n, rfl⟩ : ∃ m, n = m + 3 := ⟨n - 3, by omega⟩
  rw [run_succ, h.eq]
  unfold b_ref03_Show
  simp only [J_i, D_nil]
  by_cases h0 : z = 0
  · subst h0
    have e : ((0 : Int) == 0) = true := rfl
    rw [e, cond_true, ret_eq]
    refine .mk ⟨st, ?_, .refl st⟩
    unfold showI
    rw [if_neg (by omega), show Int.natAbs 0 = 0 from rfl, decS, if_pos (by omega)]
    rfl
  · have e : (z == 0) = false := by rw [beq_eq_false_iff_ne]; exact h0
    rw [e, cond_false, join_eq]
    generalize hN : z.natAbs = N
    generalize hb : decide (z < 0) = b
    have hzb : z = sg b N := by rw [← hb, ← hN]; exact sg_abs z
    have hNlt : N < 18446744073709551616 := by omega
    refine loop_rule _ (fun q x s2 => ∃ k : Nat, x = [.str (padS k N), .int .i64 (sg b (N / 10 ^ k))] ∧ q + k = 20 ∧ (k = 0 ∨ 10 ^ (k - 1) ≤ N) ∧ Pre st s2)
      ?_ 20 (n + 2) _ _ ⟨0, by rw [Nat.pow_zero, Nat.div_one, ← hzb]; rfl, rfl, .inl rfl, .refl st⟩ (by omega)
    rintro q _ s2 ⟨k, rfl, hq, hk, hp⟩ rec hrec
    simp only [J_s, J_i, D_nil]
    by_cases hm : N / 10 ^ k = 0
    · have e2 : (!(sg b (N / 10 ^ k) == 0)) = false := by rw [hm]; cases b <;> rfl
      rw [e2, cond_false]
      have hlt : N < 10 ^ k := by
        rcases (Nat.div_eq_zero_iff).1 hm with h | h
        · exact absurd h (Nat.pos_iff_ne_zero.1 (Nat.pow_pos (by omega)))
        · exact h
      have hN0 : 0 < N := by omega
      have hk1 : 1 ≤ k := by
        rcases Nat.eq_zero_or_pos k with h | h
        · subst h; simp at hlt; omega
        · exact h
      have hpd : padS k N = decS N := by
        obtain ⟨j, rfl⟩ : ∃ j, k = j + 1 := ⟨k - 1, by omega⟩
        exact padS_dec j N hlt (.inl (by rcases hk with h | h; omega; simpa using h))
      have hlen : (padS k N).length = k := padS_len k N
      rw [show showI z = if z < 0 then 45 :: decS N else decS N by unfold showI; rw [hN], ← hpd]
      by_cases hneg : z < 0
      · rw [show b = true by rw [← hb]; exact decide_eq_true hneg, cond_true, chk_of (Nat.ble_eq_true_of_le (by rw [hlen]; show 1 + k ≤ _; omega)), ret_eq, if_pos hneg]
        exact .mk ⟨s2, rfl, hp⟩
      · rw [show b = false by rw [← hb]; exact decide_eq_false hneg, cond_false, ret_eq, if_neg hneg]
        exact .mk ⟨s2, rfl, hp⟩
    · have e2 : (!(sg b (N / 10 ^ k) == 0)) = true := by
        have : sg b (N / 10 ^ k) ≠ 0 := by rcases sg_cases b (N / 10 ^ k) with h | h <;> (rw [h]; omega)
        simp [this]
      rw [e2, cond_true, join_eq]
      have hge : 10 ^ k ≤ N := by
        rcases Nat.lt_or_ge N (10 ^ k) with h | h
        · exact absurd (Nat.div_eq_of_lt h) hm
        · exact h
      have hk20 : k < 20 := by
        rcases Nat.lt_or_ge k 20 with h | h
        · exact h
        · have := Nat.pow_le_pow_right (n := 10) (by omega) h
          have := pow20
          omega
      have hu : N / 10 ^ k ≤ N := Nat.div_le_self _ _
      have hnext : N / 10 ^ k / 10 = N / 10 ^ (k + 1) := by rw [Nat.div_div_eq_div_mul, ← Nat.pow_succ]
      generalize hu2 : N / 10 ^ k = u at *
      have hbnd : sg b (u / 10) ≤ 9223372036854775807 ∧ -9223372036854775808 ≤ sg b (u / 10) := by rcases sg_cases b (u / 10) with h | h <;> (rw [h]; omega)
      have hd : u % 10 < 10 := Nat.mod_lt _ (by omega)
      have goOn : ∀ d : Nat, d = u % 10 → Ok (fun o => ∃ s', o = (.val [.str (showI z)], s') ∧ Pre st s')
          ((M.new [.int .u8 (IntKind.wrap .u8 (wr64 (48 + (d : Int))))] fun i => M.load i 0 1 fun cs => D.oct cs fun l => M.chk (Nat.ble (l.length + (padS k N).length) 4611686018427387904) (rec [.str (l ++ padS k N), .int .i64 (wr64 ((sg b u).tdiv 10))])) s2) := by
        rintro d rfl
        have w : IntKind.wrap .u8 (wr64 (48 + ((u % 10 : Nat) : Int))) = ((UInt8.ofNat (48 + u % 10)).toNat : Int) := by
          rw [wr64_of (by omega) (by omega), IntWalk.u8_in _ (by omega)]
          simp
          omega
        rw [w, new_eq, load_new (by simp)]
        show Ok _ ((D.oct (byteCells [UInt8.ofNat (48 + u % 10)]) _) _)
        rw [D_oct, chk_of (Nat.ble_eq_true_of_le (by rw [padS_len]; show 1 + k ≤ _; omega)), sg_tdiv, wr64_of (by omega) (by omega), hnext]
        exact hrec (q - 1) _ _ (by omega) ⟨k + 1, by show _ = [DV.str (UInt8.ofNat (48 + N / 10 ^ k % 10) :: padS k N), _]; rw [hu2]; rfl, by omega, .inr (by simpa using hge), hp.trans (.new _ _)⟩
      rw [sg_tmod]
      by_cases hneg : sg b (u % 10) < 0
      · rw [decide_eq_true hneg, cond_true]
        simp only [J_i, D_nil]
        have e3 : wr64 (0 - sg b (u % 10)) = ((u % 10 : Nat) : Int) := by
          rcases sg_cases b (u % 10) with h | h
          · rw [h] at hneg; omega
          · rw [h, wr64_of (by omega) (by omega)]; omega
        rw [e3]
        exact goOn _ rfl
      · rw [decide_eq_false hneg, cond_false]
        simp only [J_i, D_nil]
        have e3 : sg b (u % 10) = ((u % 10 : Nat) : Int) := by
          rcases sg_cases b (u % 10) with h | h
          · exact h
          · rw [h] at hneg ⊢; omega
        rw [e3]
        exact goOn _ rfl
/-- One more rune. -/
def takesF (x : Int) (dg : Nat) (mi : Bool) (r : Nat) : Option (Int × Nat × Bool) :=
  if r = 45 ∧ dg = 0 ∧ mi = false then some (x, dg, true)
  else if r < 48 ∨ 57 < r ∨ (0 < dg ∧ x = 0) then none
  else if 10 * x - ((r : Int) - 48) < -9223372036854775808 then none
  else some (10 * x - ((r : Int) - 48), dg + 1, mi)
def rdCells (x : Int) (dg : Nat) (mi : Bool) : Option Blk := some ⟨false, [.int .i64 x, .int .i64 (dg : Int), .bool mi]⟩
section
variable {β : Type} (st : St) (x : Int) (dg : Nat) (mi : Bool)
theorem ld0 (K : DV → M β) : M.load1 st.length 0 K (st ++ [rdCells x dg mi]) = K (.int .i64 x) (st ++ [rdCells x dg mi]) := load1_eq (f := false) (all := [.int .i64 x, .int .i64 (dg : Int), .bool mi]) (by simp [rdCells]) rfl K
theorem ld1 (K : DV → M β) : M.load1 st.length (0 + 1) K (st ++ [rdCells x dg mi]) = K (.int .i64 (dg : Int)) (st ++ [rdCells x dg mi]) := load1_eq (f := false) (all := [.int .i64 x, .int .i64 (dg : Int), .bool mi]) (by simp [rdCells]) rfl K
theorem ld2 (K : DV → M β) : M.load1 st.length (0 + 2) K (st ++ [rdCells x dg mi]) = K (.bool mi) (st ++ [rdCells x dg mi]) := load1_eq (f := false) (all := [.int .i64 x, .int .i64 (dg : Int), .bool mi]) (by simp [rdCells]) rfl K
theorem sv0 (y : Int) (K : M β) : M.store st.length 0 [.int .i64 y] K (st ++ [rdCells x dg mi]) = K (st ++ [rdCells y dg mi]) := store_new _ (by simp) K
theorem sv1 (y : Int) (e : Nat) (h : y = (e : Int)) (K : M β) : M.store st.length (0 + 1) [.int .i64 y] K (st ++ [rdCells x dg mi]) = K (st ++ [rdCells x e mi]) := by subst h; exact store_new _ (by simp) K
theorem sv2 (b : Bool) (K : M β) : M.store st.length (0 + 2) [.bool b] K (st ++ [rdCells x dg mi]) = K (st ++ [rdCells x dg b]) := store_new _ (by simp) K
end
theorem ev_takes {Bd : Bodies} (h : H_digit_reader_takes Bd) (n : Nat) (x : Int) (dg : Nat) (mi : Bool) (r : Nat) (hx : -9223372036854775808 ≤ x ∧ x ≤ 0) (hdg : dg < 1000000) (hr : r < 2097152) (st : St) :
    run Bd (n + 1) 62 [.ptr (some (st.length, 0)), .int .i32 r] (st ++ [rdCells x dg mi]) = match takesF x dg mi r with
      | some (y, e, m) => some (.val [.bool true], st ++ [rdCells y e m])
      | none => some (.val [.bool false], st ++ [rdCells x dg mi]) := by
  rw [run_succ, h.eq]
  unfold b_digit_reader_takes
  simp only [J_p, J_i, D_nil, nn_some', join_eq]
  by_cases h45 : r = 45
  · subst h45
    have e : (((45 : Nat) : Int) == 45) = true := rfl
    have e48 : decide (((45 : Nat) : Int) < 48) = true := by decide
    simp only [e, cond_true, ld1, D_int, J_b, D_nil]
    by_cases hd0 : dg = 0
    · subst hd0
      have e0 : (((0 : Nat) : Int) == 0) = true := rfl
      simp only [e0, cond_true, ld2, D_bool]
      cases mi
      · simp only [Bool.not_false, cond_true, sv2, ret_eq]
        rfl
      · simp only [Bool.not_true, cond_false, e48, cond_true, ret_eq]
        rfl
    · have e0 : ((dg : Int) == 0) = false := by rw [beq_eq_false_iff_ne]; omega
      simp only [e0, cond_false, e48, cond_true, ret_eq]
      have : takesF x dg mi 45 = none := by unfold takesF; rw [if_neg (by omega), if_pos (by omega)]
      rw [this]
  · have e : ((r : Int) == 45) = false := by rw [beq_eq_false_iff_ne]; omega
    simp only [e, cond_false, J_b, D_nil]
    have t1 : ∀ P : Prop, [Decidable P] → (r < 48 ∨ 57 < r ∨ (0 < dg ∧ x = 0) ↔ P) → takesF x dg mi r = if P then none else if 10 * x - ((r : Int) - 48) < -9223372036854775808 then none else some (10 * x - ((r : Int) - 48), dg + 1, mi) := by
      intro P _ hP
      unfold takesF
      rw [if_neg (by omega)]
      by_cases h : P
      · rw [if_pos h, if_pos (hP.2 h)]
      · rw [if_neg h, if_neg (fun h' => h (hP.1 h'))]
    by_cases h48 : r < 48
    · have e1 : decide ((r : Int) < 48) = true := decide_eq_true (by omega)
      simp only [e1, cond_true, ret_eq]
      rw [t1 True (by simp [h48]), if_pos trivial]
    · have e1 : decide ((r : Int) < 48) = false := decide_eq_false (by omega)
      simp only [e1, cond_false]
      by_cases h57 : 57 < r
      · have e2 : decide ((r : Int) > 57) = true := decide_eq_true (by omega)
        simp only [e2, cond_true, ret_eq]
        rw [t1 True (by simp [h57]), if_pos trivial]
      · have e2 : decide ((r : Int) > 57) = false := decide_eq_false (by omega)
        simp only [e2, cond_false, ld1, D_int]
        -- is there a nought ahead?
        have hT : ∀ c : Int, c = (r : Int) - 48 → (x < wr64 ((wr64 ((-9223372036854775808) + c)).tdiv 10) ↔ 10 * x - c < -9223372036854775808) := by
          intro c hc
          rw [wr64_of (x := -9223372036854775808 + c) (by omega) (by omega)]
          have hc9 : c = 0 ∨ c = 1 ∨ c = 2 ∨ c = 3 ∨ c = 4 ∨ c = 5 ∨ c = 6 ∨ c = 7 ∨ c = 8 ∨ c = 9 := by omega
          have v : ∀ c' y : Int, c = c' → wr64 ((-9223372036854775808 + c').tdiv 10) = y → wr64 ((-9223372036854775808 + c).tdiv 10) = y := fun c' y e1 e2 => by rw [e1]; exact e2
          rcases hc9 with h | h | h | h | h | h | h | h | h | h
          all_goals first
            | (rw [v _ (-922337203685477580) h (by decide)]; omega)
            | (rw [v _ (-922337203685477579) h (by decide)]; omega)
        have hw : wr64 (IntKind.wrap .i32 ((r : Int) - 48)) = (r : Int) - 48 := by
          have : IntKind.wrap .i32 ((r : Int) - 48) = (r : Int) - 48 := by
            have e : ∀ y : Int, 0 ≤ y → y < 10 → IntKind.wrap .i32 y = y := by
              intro y h1 h2
              rcases (show y = 0 ∨ y = 1 ∨ y = 2 ∨ y = 3 ∨ y = 4 ∨ y = 5 ∨ y = 6 ∨ y = 7 ∨ y = 8 ∨ y = 9 by omega) with rfl | rfl | rfl | rfl | rfl | rfl | rfl | rfl | rfl | rfl <;> decide
            exact e _ (by omega) (by omega)
          rw [this, wr64_of (by omega) (by omega)]
        have last : ¬ (0 < dg ∧ x = 0) → (match takesF x dg mi r with
            | some (y, e, m) => (some (.val [.bool true], st ++ [rdCells y e m]) : Option (Out (List DV) × St))
            | none => some (.val [.bool false], st ++ [rdCells x dg mi])) = (M.load1 st.length 0 fun d => D.int .i64 d fun x1 => bif decide (x1 < wr64 ((wr64 ((-9223372036854775808) + (wr64 (IntKind.wrap .i32 ((r : Int) - 48))))).tdiv 10)) then M.ret [.bool false] else
              M.load1 st.length 0 fun d1 => D.int .i64 d1 fun x2 => M.store st.length 0 [.int .i64 (wr64 ((wr64 (10 * x2)) - (wr64 (IntKind.wrap .i32 ((r : Int) - 48)))))] <| M.load1 st.length (0 + 1) fun d2 => D.int .i64 d2 fun x3 =>
                M.store st.length (0 + 1) [.int .i64 (wr64 (x3 + 1))] <| M.ret [.bool true]) (st ++ [rdCells x dg mi]) := by
          intro hno
          rw [t1 False (by simp only [iff_false]; omega), if_neg (fun h => h), ld0]
          simp only [D_int, hw]
          by_cases hlt : 10 * x - ((r : Int) - 48) < -9223372036854775808
          · rw [if_pos hlt, decide_eq_true ((hT _ rfl).2 hlt), cond_true, ret_eq]
          · rw [if_neg hlt, decide_eq_false (fun h => hlt ((hT _ rfl).1 h)), cond_false, ld0]
            simp only [D_int]
            rw [wr64_of (x := 10 * x) (by omega) (by omega), wr64_of (x := 10 * x - ((r : Int) - 48)) (by omega) (by omega), sv0, ld1]
            simp only [D_int]
            rw [sv1 (e := dg + 1) (h := by rw [wr64_of (by omega) (by omega)]; omega), ret_eq]
        by_cases hd : 0 < dg
        · have e3 : decide ((dg : Int) > 0) = true := decide_eq_true (by omega)
          simp only [e3, cond_true, ld0, D_int]
          by_cases hx0 : x = 0
          · have e4 : (x == 0) = true := by rw [hx0]; rfl
            simp only [e4, cond_true, ret_eq]
            rw [t1 True (by simp [hd, hx0]), if_pos trivial]
          · have e4 : (x == 0) = false := by rw [beq_eq_false_iff_ne]; exact hx0
            simp only [e4, cond_false]
            rw [last (by omega), ld0]
        · have e3 : decide ((dg : Int) > 0) = false := decide_eq_false (by omega)
          simp only [e3, cond_false]
          rw [last (by omega)]
/-- What was read. -/
def numberF (x : Int) (dg : Nat) (mi : Bool) : Option Int :=
  if dg = 0 ∨ (mi = true ∧ x = 0) ∨ (mi = false ∧ x = -9223372036854775808) then none else if mi then some x else some (-x)
def outR : Option Int → List DV
  | some z => [.int .i64 z, .bool true]
  | none => [.int .i64 0, .bool false]
theorem ev_number {Bd : Bodies} (h : H_digit_reader_number Bd) (n : Nat) (x : Int) (dg : Nat) (mi : Bool) (hx : -9223372036854775808 ≤ x ∧ x ≤ 0) (st : St) :
    run Bd (n + 1) 61 [.ptr (some (st.length, 0))] (st ++ [rdCells x dg mi]) = some (.val (outR (numberF x dg mi)), st ++ [rdCells x dg mi]) := by
  rw [run_succ, h.eq]
  unfold b_digit_reader_number
  simp only [J_p, D_nil, nn_some', join_eq, ld1, D_int]
  by_cases h0 : dg = 0
  · have e : ((dg : Int) == 0) = true := by rw [h0]; rfl
    simp only [e, cond_true, J_b, D_nil, ret_eq]
    unfold numberF
    rw [if_pos (.inl h0)]
    rfl
  · have e : ((dg : Int) == 0) = false := by rw [beq_eq_false_iff_ne]; omega
    simp only [e, cond_false, ld2, D_bool]
    cases mi with
    | true =>
      simp only [cond_true, ld0, D_int, J_b, D_nil]
      by_cases hx0 : x = 0
      · have e2 : (x == 0) = true := by rw [hx0]; rfl
        simp only [e2, cond_true, ret_eq]
        unfold numberF
        rw [if_pos (.inr (.inl ⟨rfl, hx0⟩))]
        rfl
      · have e2 : (x == 0) = false := by rw [beq_eq_false_iff_ne]; exact hx0
        simp only [e2, cond_false, ld2, D_bool, Bool.not_true, cond_true, ld0, D_int, ret_eq]
        unfold numberF
        rw [if_neg (by simp [h0, hx0]), if_pos rfl]
        rfl
    | false =>
      simp only [cond_false, J_b, D_nil, ld2, D_bool, Bool.not_false, cond_true, ld0, D_int]
      by_cases hm : x = -9223372036854775808
      · have e2 : (x == -9223372036854775808) = true := by rw [hm]; rfl
        simp only [e2, cond_true, ret_eq]
        unfold numberF
        rw [if_pos (.inr (.inr ⟨rfl, hm⟩))]
        rfl
      · have e2 : (x == -9223372036854775808) = false := by rw [beq_eq_false_iff_ne]; exact hm
        simp only [e2, cond_false, ld2, D_bool, ld0, D_int, ret_eq]
        unfold numberF
        rw [if_neg (by simp [h0, hm]), if_neg (by simp), wr64_of (by omega) (by omega)]
        have : 0 - x = -x := by omega
        rw [this]
        rfl
def rdF : List Nat → Int → Nat → Bool → Option Int
  | [], x, dg, mi => numberF x dg mi
  | r :: l, x, dg, mi => match takesF x dg mi r with
    | some (y, e, m) => rdF l y e m
    | none => none
/-- The number of a text. -/
def readF (s : List UInt8) : Option Int := rdF (rns s) 0 0 false
theorem takes_range {x : Int} {dg : Nat} {mi : Bool} {r : Nat} {y : Int} {e : Nat} {m : Bool} (h : takesF x dg mi r = some (y, e, m)) (hx : -9223372036854775808 ≤ x ∧ x ≤ 0) : (-9223372036854775808 ≤ y ∧ y ≤ 0) ∧ e ≤ dg + 1 := by
  unfold takesF at h
  split at h
  · cases h; exact ⟨hx, by omega⟩
  · split at h
    · cases h
    · split at h
      · cases h
      · cases h; exact ⟨by omega, by omega⟩
theorem ev_digit_Read {Bd : Bodies} (h : H_digit_Read Bd) (n : Nat) (s : List UInt8) (hn : s.length + 4 ≤ n) (hs : s.length < 100000) (st : St) :
    Ok (fun o => ∃ s', o = (.val (outR (readF s)), s') ∧ Pre st s') (run Bd n 50 [.str s] st) := by
  obtain ⟨n, rfl⟩ : ∃ m, n = m + 2 := ⟨n - 2, by omega⟩
  rw [run_succ, h.eq]
  unfold b_digit_Read
  simp only [J_s, D_nil, new_eq, join_eq]
  refine loop_rule _ (fun k q s2 => ∃ (p : Nat) (x : Int) (dg : Nat) (mi : Bool), q = [.nat p] ∧ p ≤ s.length ∧ s.length - p ≤ k ∧ s2 = st ++ [rdCells x dg mi] ∧ (-9223372036854775808 ≤ x ∧ x ≤ 0) ∧ dg ≤ p ∧ readF s = rdF (rns (s.drop p)) x dg mi)
    ?_ s.length (n + 1) _ _ ⟨0, 0, 0, false, rfl, Nat.zero_le _, by omega, rfl, by omega, Nat.le_refl _, by rw [List.drop_zero]; rfl⟩ (by omega)
  rintro k _ s2 ⟨p, x, dg, mi, rfl, hp, hk, rfl, hx, hdg, hr⟩ rec hrec
  simp only [J_n, D_nil]
  by_cases hlt : p < s.length
  · have hblt : Nat.blt p s.length = true := by rw [Nat.blt_eq]; exact hlt
    have hw := dec_pos s p
    have hle := dec_le s p hlt
    rw [hblt, cond_true]
    have ht := ev_takes h.digit_reader_takes n x dg mi (dec s p).1 hx (by omega) (dec_lt s p) st
    rw [rns_at hlt] at hr
    simp only [rdF] at hr
    unfold runeAt runeW
    cases htk : takesF x dg mi (dec s p).1 with
    | none =>
      rw [htk] at ht hr
      simp only at ht hr
      rw [call_eq ht]
      simp only [J_b, D_nil, Bool.not_false, cond_true, ret_eq]
      rw [hr]
      exact .mk ⟨_, rfl, .new _ _⟩
    | some z =>
      obtain ⟨y, e, m⟩ := z
      rw [htk] at ht hr
      simp only at ht hr
      obtain ⟨h1, h2⟩ := takes_range htk hx
      rw [call_eq ht]
      simp only [J_b, D_nil, Bool.not_true, cond_false]
      exact hrec (s.length - (p + (dec s p).2)) _ _ (by omega) ⟨p + (dec s p).2, y, e, m, rfl, hle, by omega, rfl, h1, by omega, hr⟩
  · have e : Nat.blt p s.length = false := by rw [Bool.eq_false_iff]; intro h; rw [Nat.blt_eq] at h; exact hlt h
    rw [e, cond_false]
    rw [List.drop_of_length_le (by omega), rns_nil] at hr
    simp only [rdF] at hr
    rw [call_eq (ev_number h.digit_reader_number n x dg mi hx st), hr]
    cases numberF x dg mi with
    | none => exact .mk ⟨_, rfl, .new _ _⟩
    | some z => exact .mk ⟨_, rfl, .new _ _⟩
end Go.Gv.F

/- Which texts are numbers'. -/
namespace Go.Gv.F
def isDig (r : Nat) : Bool := decide (48 ≤ r) && decide (r ≤ 57)
theorem isDig_iff {r : Nat} : isDig r = true ↔ 48 ≤ r ∧ r ≤ 57 := by unfold isDig; simp
def foldV (v : Nat) (l : List Nat) : Nat := l.foldl (fun a r => 10 * a + (r - 48)) v
theorem foldV_cons (v r : Nat) (l : List Nat) : foldV v (r :: l) = foldV (10 * v + (r - 48)) l := by unfold foldV; rw [List.foldl_cons]
theorem foldV_ge : ∀ (l : List Nat) (v : Nat), v ≤ foldV v l
  | [], v => Nat.le_refl v
  | r :: l, v => by
    rw [foldV_cons]
    have := foldV_ge l (10 * v + (r - 48))
    omega
theorem decS_one {d : Nat} (h : d < 10) : decS d = [UInt8.ofNat (48 + d)] := by rw [decS, if_pos h]
theorem decS_step {v d : Nat} (hv : 0 < v) (hd : d < 10) : decS (10 * v + d) = decS v ++ [UInt8.ofNat (48 + d)] := by
  rw [decS, if_neg (by omega), show (10 * v + d) / 10 = v by omega, show (10 * v + d) % 10 = d by omega]
theorem decS_fold : ∀ (l : List Nat) (v : Nat), 0 < v → (∀ r ∈ l, isDig r = true) → decS (foldV v l) = decS v ++ l.map UInt8.ofNat
  | [], v, _, _ => by simp [foldV]
  | r :: l, v, hv, h => by
    have hr := isDig_iff.1 (h r (by simp))
    rw [foldV_cons, decS_fold l _ (by omega) (fun x hx => h x (by simp [hx])), decS_step hv (by omega), show 48 + (r - 48) = r by omega]
    simp
theorem rdF_run : ∀ (l : List Nat) (v dg : Nat) (mi : Bool), 0 < v → v ≤ 9223372036854775808 →
    rdF l (-(v : Int)) (dg + 1) mi = if l.all isDig = true ∧ foldV v l ≤ 9223372036854775808 then numberF (-(foldV v l : Int)) (dg + 1 + l.length) mi else none
  | [], v, dg, mi, _, hv => by
    rw [if_pos ⟨rfl, hv⟩]; rfl
  | r :: l, v, dg, mi, h0, hv => by
    simp only [rdF]
    have ge := foldV_ge l (10 * v + (r - 48))
    unfold takesF
    rw [if_neg (by omega)]
    by_cases hd : isDig r = true
    · have hr := isDig_iff.1 hd
      rw [if_neg (by omega)]
      by_cases hb : 10 * v + (r - 48) > 9223372036854775808
      · rw [if_pos (by omega), if_neg (by rw [foldV_cons]; omega)]
      · rw [if_neg (by omega)]
        simp only
        rw [show 10 * (-(v : Int)) - ((r : Int) - 48) = -((10 * v + (r - 48) : Nat) : Int) by omega, rdF_run l (10 * v + (r - 48)) (dg + 1) mi (by omega) (by omega), foldV_cons, List.all_cons, hd, Bool.true_and, List.length_cons,
          show dg + 1 + 1 + l.length = dg + 1 + (l.length + 1) by omega]
    · have hr : ¬ (48 ≤ r ∧ r ≤ 57) := fun h => hd (isDig_iff.2 h)
      rw [if_pos (by omega), if_neg (by rw [List.all_cons]; simp [hd])]
theorem rdF_zero (l : List Nat) (dg : Nat) (mi : Bool) : rdF l 0 (dg + 1) mi = if l = [] then numberF 0 (dg + 1) mi else none := by
  cases l with
  | nil => rw [if_pos rfl]; rfl
  | cons r l =>
    rw [if_neg (by simp)]
    simp only [rdF]
    unfold takesF
    rw [if_neg (by omega), if_pos (by omega)]
theorem rdF_digit (r : Nat) (l : List Nat) (mi : Bool) (h : isDig r = true) : rdF (r :: l) 0 0 mi = rdF l (-((r - 48 : Nat) : Int)) 1 mi := by
  have hr := isDig_iff.1 h
  simp only [rdF]
  unfold takesF
  rw [if_neg (by omega), if_neg (by omega), if_neg (by omega)]
  simp only
  congr 1
  omega
theorem rdF_other (r : Nat) (l : List Nat) (mi : Bool) (h : ¬ isDig r = true) (h2 : r ≠ 45 ∨ mi = true) : rdF (r :: l) 0 0 mi = none := by
  have hr : ¬ (48 ≤ r ∧ r ≤ 57) := fun h' => h (isDig_iff.2 h')
  simp only [rdF]
  unfold takesF
  rw [if_neg (by rintro ⟨a, _, b⟩; rcases h2 with h2 | h2; exact h2 a; rw [b] at h2; cases h2), if_pos (by omega)]
theorem rdF_minus (l : List Nat) : rdF (45 :: l) 0 0 false = rdF l 0 0 true := by
  simp only [rdF]
  unfold takesF
  rw [if_pos ⟨rfl, rfl, rfl⟩]
theorem number_neg {V k : Nat} (hV : 0 < V) : numberF (-(V : Int)) (k + 1) true = some (-(V : Int)) := by
  unfold numberF
  rw [if_neg (by simp; omega), if_pos rfl]
theorem number_pos {V k : Nat} (h : V ≠ 9223372036854775808) : numberF (-(V : Int)) (k + 1) false = some (V : Int) := by
  unfold numberF
  rw [if_neg (by simp; omega), if_neg (by simp)]
  simp
theorem first_digits : ∀ (k V : Nat), V ≤ k → 0 < V → ∃ d l, 1 ≤ d ∧ d ≤ 9 ∧ (∀ r ∈ l, isDig r = true) ∧ decS V = UInt8.ofNat (48 + d) :: l.map UInt8.ofNat ∧ foldV d l = V
  | 0, V, hk, h => by omega
  | k + 1, V, hk, h => by
    by_cases h10 : V < 10
    · exact ⟨V, [], h, by omega, (fun r hr => by cases hr), by rw [decS_one h10]; rfl, rfl⟩
    · obtain ⟨d, l, h1, h2, h3, h4, h5⟩ := first_digits k (V / 10) (by omega) (by omega)
      have hm : V % 10 < 10 := Nat.mod_lt _ (by omega)
      refine ⟨d, l ++ [48 + V % 10], h1, h2, fun r hr => ?_, ?_, ?_⟩
      · rcases List.mem_append.1 hr with hr | hr
        · exact h3 r hr
        · rw [List.mem_singleton.1 hr]; exact isDig_iff.2 (by omega)
      · rw [decS, if_neg h10, h4]; simp
      · unfold foldV at h5 ⊢
        rw [List.foldl_append, h5]
        simp only [List.foldl_cons, List.foldl_nil]
        omega
theorem rns_map : ∀ l : List Nat, (∀ r ∈ l, r < 128) → rns (l.map UInt8.ofNat) = l
  | [], _ => rns_nil
  | r :: l, h => by
    have hr := h r (by simp)
    have e : (UInt8.ofNat r).toNat = r := by simp; omega
    rw [List.map_cons, rns_ascii (by omega), e, rns_map l fun x hx => h x (by simp [hx])]
theorem dig_lt {r : Nat} (h : isDig r = true) : r < 128 := by have := isDig_iff.1 h; omega
theorem of_rns {s : List UInt8} (h : ∀ r ∈ rns s, r < 128) : s = (rns s).map UInt8.ofNat := by
  have := flat_rns s s.length 0 (by omega) (Nat.zero_le _) (by rw [List.drop_zero]; exact fun r hr => by have := h r hr; omega)
  rw [List.drop_zero] at this
  have key : ∀ l : List Nat, (∀ r ∈ l, r < 128) → l.flatMap encF = l.map UInt8.ofNat := by
    intro l
    induction l with
    | nil => intro _; rfl
    | cons a l ih =>
      intro h
      rw [List.flatMap_cons, ih fun r hr => h r (by simp [hr]), List.map_cons]
      unfold encF
      rw [if_pos (h a (by simp))]
      rfl
  rw [← key _ h]; exact this.symm
/-- A number's text is read back. -/
theorem read_show (z : Int) (hz : -9223372036854775808 ≤ z ∧ z ≤ 9223372036854775807) : readF (showI z) = some z := by
  unfold readF showI
  by_cases hneg : z < 0
  · rw [if_pos hneg]
    obtain ⟨d, l, h1, h2, h3, h4, h5⟩ := first_digits z.natAbs z.natAbs (Nat.le_refl _) (by omega)
    have hd : isDig (48 + d) = true := isDig_iff.2 (by omega)
    have e : (45 : UInt8) :: decS z.natAbs = (45 :: (48 + d) :: l).map UInt8.ofNat := by rw [h4]; rfl
    rw [e, rns_map _ (fun r hr => by
      rcases List.mem_cons.1 hr with rfl | hr
      · omega
      · rcases List.mem_cons.1 hr with rfl | hr
        · exact dig_lt hd
        · exact dig_lt (h3 r hr)), rdF_minus, rdF_digit _ _ _ hd, show 48 + d - 48 = d by omega, rdF_run l d 0 true (by omega) (by omega), if_pos ⟨List.all_eq_true.2 h3, by rw [h5]; omega⟩, h5, show 0 + 1 + l.length = l.length + 1 by omega, number_neg (by omega)]
    congr 1
    omega
  · rw [if_neg hneg]
    by_cases h0 : z = 0
    · subst h0
      rw [show Int.natAbs 0 = 0 from rfl, decS_one (by omega)]
      rw [show [UInt8.ofNat (48 + 0)] = [48].map UInt8.ofNat from rfl, rns_map _ (by simp)]
      decide
    · obtain ⟨d, l, h1, h2, h3, h4, h5⟩ := first_digits z.natAbs z.natAbs (Nat.le_refl _) (by omega)
      have hd : isDig (48 + d) = true := isDig_iff.2 (by omega)
      have e : decS z.natAbs = ((48 + d) :: l).map UInt8.ofNat := by rw [h4]; rfl
      rw [e, rns_map _ (fun r hr => by
        rcases List.mem_cons.1 hr with rfl | hr
        · exact dig_lt hd
        · exact dig_lt (h3 r hr)), rdF_digit _ _ _ hd, show 48 + d - 48 = d by omega, rdF_run l d 0 false (by omega) (by omega), if_pos ⟨List.all_eq_true.2 h3, by rw [h5]; omega⟩, h5, show 0 + 1 + l.length = l.length + 1 by omega, number_pos (by omega)]
      congr 1
      omega
/-- What is read is a number's text. -/
theorem show_read {s : List UInt8} {z : Int} (h : readF s = some z) : s = showI z ∧ -9223372036854775808 ≤ z ∧ z ≤ 9223372036854775807 := by
  unfold readF at h
  have hs : ∀ l, rns s = l → (∀ r ∈ l, r < 128) → s = l.map UInt8.ofNat := fun l hl hr => by
    rw [← hl] at hr ⊢
    exact of_rns hr
  generalize hl : rns s = l at h
  cases l with
  | nil => cases h
  | cons r l =>
    by_cases hd : isDig r = true
    · have hr := isDig_iff.1 hd
      rw [rdF_digit _ _ _ hd] at h
      by_cases h0 : r = 48
      · subst h0
        have e := rdF_zero l 0 false
        rw [show -((48 - 48 : Nat) : Int) = 0 from rfl, e] at h
        split at h
        · rename_i hln
          subst hln
          cases h
          rw [hs _ hl (by simp)]
          exact ⟨by unfold showI; rw [if_neg (by decide), show Int.natAbs (-0) = 0 from rfl, decS_one (by omega)]; rfl, by decide, by decide⟩
        · cases h
      · rw [rdF_run l (r - 48) 0 false (by omega) (by omega)] at h
        split at h
        · rename_i hc
          have ha := List.all_eq_true.1 hc.1
          have ge := foldV_ge l (r - 48)
          by_cases hV : foldV (r - 48) l = 9223372036854775808
          · rw [hV] at h
            unfold numberF at h
            rw [if_pos (by simp)] at h
            cases h
          · rw [show 0 + 1 + l.length = l.length + 1 by omega, number_pos hV] at h
            cases h
            refine ⟨?_, by omega, by omega⟩
            rw [hs _ hl (fun x hx => by
              rcases List.mem_cons.1 hx with rfl | hx
              · exact dig_lt hd
              · exact dig_lt (ha x hx))]
            unfold showI
            rw [if_neg (by omega), Int.natAbs_natCast, decS_fold l _ (by omega) ha, decS_one (by omega), show 48 + (r - 48) = r by omega]
            rfl
        · cases h
    · by_cases h45 : r = 45
      · subst h45
        rw [rdF_minus] at h
        cases l with
        | nil => cases h
        | cons r2 l =>
          by_cases hd2 : isDig r2 = true
          · have hr := isDig_iff.1 hd2
            rw [rdF_digit _ _ _ hd2] at h
            by_cases h0 : r2 = 48
            · subst h0
              have e := rdF_zero l 0 true
              rw [show -((48 - 48 : Nat) : Int) = 0 from rfl, e] at h
              split at h
              · cases h
              · cases h
            · rw [rdF_run l (r2 - 48) 0 true (by omega) (by omega)] at h
              split at h
              · rename_i hc
                have ha := List.all_eq_true.1 hc.1
                have ge := foldV_ge l (r2 - 48)
                rw [show 0 + 1 + l.length = l.length + 1 by omega, number_neg (by omega)] at h
                cases h
                refine ⟨?_, by omega, by omega⟩
                rw [hs _ hl (fun x hx => by
                  rcases List.mem_cons.1 hx with rfl | hx
                  · omega
                  · rcases List.mem_cons.1 hx with rfl | hx
                    · exact dig_lt hd2
                    · exact dig_lt (ha x hx))]
                unfold showI
                rw [if_pos (by omega), Int.natAbs_neg, Int.natAbs_natCast, decS_fold l _ (by omega) ha, decS_one (by omega), show 48 + (r2 - 48) = r2 by omega]
                rfl
              · cases h
          · rw [rdF_other _ _ _ hd2 (.inr rfl)] at h
            cases h
      · rw [rdF_other _ _ _ hd (.inl h45)] at h
        cases h
end Go.Gv.F

/- The laws of numbers. -/
namespace Go.Gv.F
theorem ev_IndexByte {Bd : Bodies} (h : H_stringslite_IndexByte Bd) (n : Nat) (s : List UInt8) (st : St) : run Bd (n + 2) 88 [.str s, .int .u8 46] st = some (.val [.int .i64 (Lib.indexByte s 46)], st) := by
  have e : run Bd (n + 1) 89 [.str s, .int .u8 46] st = some (.val [.int .i64 (Lib.indexByte s 46)], st) := by
    rw [run_succ, h.bytealg_IndexByteString.eq]
    rfl
  rw [run_succ, h.eq]
  unfold b_stringslite_IndexByte
  simp only [J_s, J_i, D_nil]
  rw [call_eq e]
  simp only [J_i, D_nil, ret_eq]
theorem ev_Index {Bd : Bodies} (h : H_stringslite_Index Bd) (n : Nat) (s : List UInt8) (st : St) : run Bd (n + 3) 84 [.str s, .str [46]] st = some (.val [.int .i64 (Lib.indexByte s 46)], st) := by
  rw [run_succ, h.eq]
  unfold b_stringslite_Index
  have e0 : ((([46] : List UInt8).length : Int) == 0) = false := rfl
  have e1 : ((([46] : List UInt8).length : Int) == 1) = true := rfl
  have e2 : inB 0 ([46] : List UInt8).length = true := rfl
  have e3 : byteAt [46] 0 = 46 := rfl
  simp only [J_s, D_nil, e0, cond_false, join_eq, J_b]
  cases hs : (([46] : List UInt8) == s) with
  | true =>
    have : [46] = s := by simpa using hs
    subst this
    simp only [cond_true, ret_eq]
    rfl
  | false =>
    simp only [cond_false, e1, cond_true, e2, chk_true, e3]
    rw [call_eq (ev_IndexByte h.stringslite_IndexByte n s st)]
    simp only [J_i, D_nil, ret_eq]
/-- A text, cut at its first dot. -/
def cutD (s : List UInt8) : List UInt8 × List UInt8 × Bool :=
  if 0 ≤ Lib.indexByte s 46 then (s.take (Lib.indexByte s 46).toNat, s.drop ((Lib.indexByte s 46).toNat + 1), true) else (s, [], false)
theorem idx_lt {s : List UInt8} (h : 0 ≤ Lib.indexByte s 46) : (Lib.indexByte s 46).toNat < s.length := by
  have := (Lib.indexByte_some (l := s) (c := 46) (o := (Lib.indexByte s 46).toNat) (by omega)).1
  exact (List.getElem?_eq_some_iff.1 this).1
theorem ev_Cut {Bd : Bodies} (h : H_strings_Cut Bd) (n : Nat) (s : List UInt8) (hs : s.length < 1000000) (st : St) :
    run Bd (n + 5) 66 [.str s, .str [46]] st = some (.val [.str (cutD s).1, .str (cutD s).2.1, .bool (cutD s).2.2], st) := by
  have e : run Bd (n + 4) 76 [.str s, .str [46]] st = some (.val [.str (cutD s).1, .str (cutD s).2.1, .bool (cutD s).2.2], st) := by
    rw [run_succ, h.stringslite_Cut.eq]
    unfold b_stringslite_Cut
    simp only [J_s, D_nil]
    rw [call_eq (ev_Index h.stringslite_Cut.stringslite_Index n s st)]
    simp only [J_i, D_nil]
    unfold cutD
    by_cases hi : 0 ≤ Lib.indexByte s 46
    · have hl := idx_lt hi
      have w : wr64 (Lib.indexByte s 46 + ((([46] : List UInt8).length : Nat) : Int)) = Lib.indexByte s 46 + 1 := by
        show wr64 (Lib.indexByte s 46 + 1) = _
        exact wr64_of (by omega) (by omega)
      rw [if_pos hi, decide_eq_true (show Lib.indexByte s 46 ≥ 0 from hi), cond_true, w]
      rw [chk_of (by simp only [Bool.true_and, decide_eq_true_eq]; omega), chk_of (by simp only [Bool.and_eq_true, decide_eq_true_eq]; omega), ret_eq,
        show (Lib.indexByte s 46 + 1).toNat = (Lib.indexByte s 46).toNat + 1 by omega]
    · rw [if_neg hi, decide_eq_false (show ¬ Lib.indexByte s 46 ≥ 0 from hi), cond_false, ret_eq]
  rw [run_succ, h.eq]
  unfold b_strings_Cut
  simp only [J_s, D_nil]
  rw [call_eq e]
  simp only [J_s, J_b, D_nil, ret_eq]
def handleF (s : List UInt8) : Option (Int × Int) := match (cutD s).2.2, readF (cutD s).1, readF (cutD s).2.1 with
  | true, some a, some b => if a < 0 ∨ b < 0 then none else some (a, b)
  | _, _, _ => none
def outH : Option (Int × Int) → List DV
  | some (a, b) => [.agg [.int .i64 a, .int .i64 b], .bool true]
  | none => [.agg [.int .i64 0, .int .i64 0], .bool false]
theorem cutD_len (s : List UInt8) : (cutD s).1.length ≤ s.length ∧ (cutD s).2.1.length ≤ s.length := by
  unfold cutD
  split
  · simp only [List.length_take, List.length_drop]; omega
  · simp
theorem ev_ReadHandle {Bd : Bodies} (h : H_digit_ReadHandle Bd) (n : Nat) (s : List UInt8) (hn : s.length + 10 ≤ n) (hs : s.length < 100000) (st : St) :
    Ok (fun o => ∃ s', o = (.val (outH (handleF s)), s') ∧ Pre st s') (run Bd n 59 [.str s] st) := by
  obtain ⟨n, rfl⟩ : ∃ m, n = m + 6 := ⟨n - 6, by omega⟩
  have hl := cutD_len s
  rw [run_succ, h.eq]
  unfold b_digit_ReadHandle
  simp only [J_s, D_nil]
  rw [call_eq (ev_Cut h.strings_Cut n s (by omega) st)]
  simp only [J_s, J_b, D_nil]
  refine Ok.call (ev_digit_Read h.digit_Read (n + 5) (cutD s).1 (by omega) (by omega) st) ?_
  rintro _ ⟨s1, rfl, hp1⟩
  refine ⟨_, s1, rfl, ?_⟩
  have ho : ∀ r : Option Int, ∃ a : Int, outR r = [.int .i64 a, .bool r.isSome] ∧ (∀ z, r = some z → a = z) := by
    intro r
    cases r with
    | none => exact ⟨0, rfl, fun z h => by cases h⟩
    | some z => exact ⟨z, rfl, fun y h => by cases h; rfl⟩
  obtain ⟨a, ea, ha⟩ := ho (readF (cutD s).1)
  obtain ⟨b, eb, hb⟩ := ho (readF (cutD s).2.1)
  rw [ea]
  simp only [J_i, J_b, D_nil]
  refine Ok.call (ev_digit_Read h.digit_Read (n + 5) (cutD s).2.1 (by omega) (by omega) s1) ?_
  rintro _ ⟨s2, rfl, hp2⟩
  refine ⟨_, s2, rfl, ?_⟩
  rw [eb]
  simp only [J_i, J_b, D_nil, join_bool]
  have hfin : handleF s = if (bif (bif (bif !(cutD s).2.2 then true else !(readF (cutD s).1).isSome) then true else !(readF (cutD s).2.1).isSome) then true else decide ((if b < a then b else a) < 0)) = true then none else some (a, b) := by
    unfold handleF
    cases (cutD s).2.2 with
    | false => rfl
    | true =>
      cases h1 : readF (cutD s).1 with
      | none => rfl
      | some x =>
        cases h2 : readF (cutD s).2.1 with
        | none => rfl
        | some y =>
          have := ha x h1
          have := hb y h2
          subst a
          subst b
          simp only [Option.isSome_some, Bool.not_true, cond_false, decide_eq_true_eq]
          by_cases hc : x < 0 ∨ y < 0
          · rw [if_pos hc, if_pos (by split <;> omega)]
          · rw [if_neg hc, if_neg (by split <;> omega)]
  rw [hfin]
  cases (bif (bif (bif !(cutD s).2.2 then true else !(readF (cutD s).1).isSome) then true else !(readF (cutD s).2.1).isSome) then true else decide ((if b < a then b else a) < 0)) with
  | true =>
    rw [cond_true, ret_eq, if_pos rfl]
    exact .mk ⟨s2, rfl, hp1.trans hp2⟩
  | false =>
    rw [cond_false, ret_eq, if_neg (by simp)]
    exact .mk ⟨s2, rfl, hp1.trans hp2⟩
theorem decS_le : ∀ (k d : Nat), d < 10 ^ (k + 1) → (decS d).length ≤ k + 1
  | 0, d, h => by rw [decS_one (by simpa using h)]; simp
  | k + 1, d, h => by
    by_cases h10 : d < 10
    · rw [decS_one h10]; simp
    · have := decS_le k (d / 10) ((Nat.div_lt_iff_lt_mul (by omega)).2 (by rw [← Nat.pow_succ]; exact h))
      rw [decS, if_neg h10]
      simp only [List.length_append, List.length_singleton]
      omega
theorem showI_len (z : Int) (hz : -9223372036854775808 ≤ z ∧ z ≤ 9223372036854775807) : (showI z).length ≤ 20 := by
  have h := decS_le 18 z.natAbs (by have : (10 : Nat) ^ (18 + 1) = 10000000000000000000 := by decide
                                    omega)
  unfold showI
  split
  · simp only [List.length_cons]; omega
  · omega
theorem show3 : showI 3 = [51] := by unfold showI; rw [if_neg (by decide), show Int.natAbs 3 = 3 from rfl, decS_one (by omega)]; rfl
end Go.Gv.F

/- Reading: the document's way; any text. -/
namespace Go.Gv.F
theorem wr64_range (x : Int) : -9223372036854775808 ≤ wr64 x ∧ wr64 x ≤ 9223372036854775807 := by
  unfold wr64
  rw [IntKind.wrap_i64]
  omega
def cR (neg : Bool) (a : Int) (c : Nat) : Int := wr64 (wr64 (a * 10) + sg neg 1 * ((c : Int) - 48))
theorem sg_mul (neg : Bool) (x : Int) : sg neg 1 * x = if neg then -x else x := by
  unfold sg; cases neg
  · simp
  · simp
def refN (s : List UInt8) : Int := match s with
  | [] => 0
  | c :: r => if c = 45 then (r.map UInt8.toNat).foldl (cR true) 0 else ((c :: r).map UInt8.toNat).foldl (cR false) 0
theorem fold_range (neg : Bool) : ∀ (l : List Nat) (a : Int), (-9223372036854775808 ≤ a ∧ a ≤ 9223372036854775807) → -9223372036854775808 ≤ l.foldl (cR neg) a ∧ l.foldl (cR neg) a ≤ 9223372036854775807
  | [], _a, h => h
  | _c :: l, _a, _ => fold_range neg l _ (wr64_range _)
theorem refN_range (s : List UInt8) : -9223372036854775808 ≤ refN s ∧ refN s ≤ 9223372036854775807 := by
  unfold refN
  split
  · decide
  · split
    · exact fold_range _ _ _ (by decide)
    · exact fold_range _ _ _ (by decide)
theorem fold_sg (neg : Bool) : ∀ (l : List Nat) (v : Nat), (∀ r ∈ l, isDig r = true) → foldV v l ≤ (if neg then 9223372036854775808 else 9223372036854775807) → l.foldl (cR neg) (sg neg v) = sg neg (foldV v l)
  | [], v, _, _ => rfl
  | r :: l, v, h, hV => by
    have hr := isDig_iff.1 (h r (by simp))
    have ge := foldV_ge l (10 * v + (r - 48))
    rw [foldV_cons] at hV ⊢
    rw [List.foldl_cons]
    have e : cR neg (sg neg v) r = sg neg (10 * v + (r - 48)) := by
      unfold cR
      rw [sg_mul]
      cases neg with
      | false =>
        simp only [Bool.false_eq_true, if_false] at hV ⊢
        unfold sg
        simp only [Bool.false_eq_true, if_false]
        rw [wr64_of (x := (v : Int) * 10) (by omega) (by omega), wr64_of (by omega) (by omega)]
        omega
      | true =>
        simp only [if_true] at hV ⊢
        unfold sg
        simp only [if_true]
        rw [wr64_of (x := -(v : Int) * 10) (by omega) (by omega), wr64_of (by omega) (by omega)]
        omega
    rw [e]
    exact fold_sg neg l _ (fun x hx => h x (by simp [hx])) hV
theorem map_toNat : ∀ l : List Nat, (∀ r ∈ l, isDig r = true) → (l.map UInt8.ofNat).map UInt8.toNat = l
  | [], _ => rfl
  | r :: l, h => by
    have hr := dig_lt (h r (by simp))
    rw [List.map_cons, List.map_cons, map_toNat l fun x hx => h x (by simp [hx])]
    congr 1
    simp
    omega
theorem refN_show (z : Int) (hz : -9223372036854775808 ≤ z ∧ z ≤ 9223372036854775807) : refN (showI z) = z := by
  by_cases h0 : z = 0
  · subst h0
    have : showI 0 = [48] := by unfold showI; rw [if_neg (by decide), show Int.natAbs 0 = 0 from rfl, decS_one (by omega)]; rfl
    rw [this]
    decide +kernel
  · obtain ⟨d, l, h1, h2, h3, h4, h5⟩ := first_digits z.natAbs z.natAbs (Nat.le_refl _) (by omega)
    have hd : isDig (48 + d) = true := isDig_iff.2 (by omega)
    have hall : ∀ r ∈ (48 + d) :: l, isDig r = true := fun r hr => by
      rcases List.mem_cons.1 hr with rfl | hr
      · exact hd
      · exact h3 r hr
    have hmap : (decS z.natAbs).map UInt8.toNat = (48 + d) :: l := by
      rw [h4, show UInt8.ofNat (48 + d) :: l.map UInt8.ofNat = ((48 + d) :: l).map UInt8.ofNat from rfl, map_toNat _ hall]
    have hV : foldV 0 ((48 + d) :: l) = z.natAbs := by rw [foldV_cons, show 10 * 0 + (48 + d - 48) = d by omega, h5]
    unfold showI
    by_cases hneg : z < 0
    · rw [if_pos hneg]
      unfold refN
      simp only
      rw [if_pos trivial, hmap]
      have := fold_sg true ((48 + d) :: l) 0 hall (by rw [hV]; simp only [if_true]; omega)
      rw [hV] at this
      rw [show (0 : Int) = sg true 0 from rfl, this]
      unfold sg
      simp only [if_true]
      omega
    · rw [if_neg hneg]
      have hne : decS z.natAbs = UInt8.ofNat (48 + d) :: l.map UInt8.ofNat := h4
      have h45 : UInt8.ofNat (48 + d) ≠ 45 := by
        intro h
        have := congrArg UInt8.toNat h
        simp at this
        omega
      have hr : refN (decS z.natAbs) = ((decS z.natAbs).map UInt8.toNat).foldl (cR false) 0 := by
        rw [hne]
        unfold refN
        simp only
        rw [if_neg h45]
      rw [hr, hmap]
      have := fold_sg false ((48 + d) :: l) 0 hall (by rw [hV]; simp only [Bool.false_eq_true, if_false]; omega)
      rw [hV] at this
      rw [show (0 : Int) = sg false 0 from rfl, this]
      unfold sg
      simp only [Bool.false_eq_true, if_false]
      omega
/-- What the document reads. -/
theorem read_ref (s : List UInt8) : outR (readF s) = if s.length > 20 then outR none else if showI (refN s) = s then outR (some (refN s)) else outR none := by
  cases h : readF s with
  | some z =>
    obtain ⟨rfl, hz⟩ := show_read h
    have hl := showI_len z hz
    rw [if_neg (by omega), refN_show z hz, if_pos rfl]
  | none =>
    split
    · rfl
    · split
      · rename_i he
        have := read_show (refN s) (refN_range s)
        rw [he, h] at this
        cases this
      · rfl
theorem oc_toNat {s : List UInt8} {i : Nat} (h : i < s.length) : byteAt s (i : Int) = ((s[i].toNat : Nat) : Int) := by rw [byteAt_eq, oc_get h]
theorem ev_ref03_Read {Bd : Bodies} (h : H_ref03_Read Bd) (n : Nat) (s : List UInt8) (hn : 50 ≤ n) (st : St) :
    Ok (fun o => ∃ s', o = (.val (outR (readF s)), s') ∧ Pre st s') (run Bd n 53 [.str s] st) := by
  obtain ⟨n, rfl⟩ : ∃ m, n = m + 2 := ⟨n - 2, by omega⟩
  rw [run_succ, h.eq, read_ref]
  unfold b_ref03_Read
  simp only [J_s, D_nil]
  by_cases hl : s.length > 20
  · rw [decide_eq_true (show (s.length : Int) > 20 by omega), cond_true, ret_eq, if_pos hl]
    exact .mk ⟨st, rfl, .refl st⟩
  · rw [decide_eq_false (show ¬ (s.length : Int) > 20 by omega), cond_false, if_neg hl, join_eq]
    refine loop_rule _ (fun k q s2 => ∃ (i : Nat) (a : Int), q = [.int .i64 a, .int .i64 i] ∧ i ≤ s.length ∧ s.length - i ≤ k ∧ s2 = st ∧ ((i = 0 ∧ a = 0) ∨ (0 < i ∧ ((s.drop i).map UInt8.toNat).foldl (cR (decide (s[0]? = some 45))) a = refN s)))
      ?_ s.length (n + 1) _ _ ⟨0, 0, rfl, Nat.zero_le _, by omega, rfl, .inl ⟨rfl, rfl⟩⟩ (by omega)
    rintro k _ s2 ⟨i, a, rfl, hi, hk, rfl, hI⟩ rec hrec
    simp only [J_i, D_nil]
    by_cases hlt : i < s.length
    · rw [decide_eq_true (show (i : Int) < (s.length : Int) by omega), cond_true]
      have h0 : 0 < s.length := by omega
      have b0 : byteAt s 0 = ((s[0].toNat : Nat) : Int) := oc_toNat h0
      have e45 : (byteAt s 0 == 45) = decide (s[0]? = some 45) := by
        rw [b0, Bool.eq_iff_iff]
        simp only [beq_iff_eq, decide_eq_true_eq, List.getElem?_eq_getElem h0, Option.some.injEq]
        constructor
        · intro h; exact UInt8.toNat_inj.1 (by show s[0].toNat = 45; omega)
        · intro h; rw [h]; rfl
      have in0 : inB 0 s.length = true := inB_of h0
      have w1 : wr64 ((i : Int) + 1) = ((i + 1 : Nat) : Int) := by rw [wr64_of (by omega) (by omega)]; rfl
      have bi : byteAt s (i : Int) = ((s[i].toNat : Nat) : Int) := oc_toNat hlt
      have hb := s[i].toNat_lt
      rw [join_eq]
      generalize hneg : decide (s[0]? = some 45) = neg at *
      -- a digit that is taken
      have digit : ∀ (a : Int), (∀ y, y = cR neg a s[i].toNat → Ok (fun o => ∃ s', o = (.val (if showI (refN s) = s then outR (some (refN s)) else outR none), s') ∧ Pre s2 s') (rec [.int .i64 y, .int .i64 ((i + 1 : Nat) : Int)] s2)) →
          Ok (fun o => ∃ s', o = (.val (if showI (refN s) = s then outR (some (refN s)) else outR none), s') ∧ Pre s2 s')
            ((bif neg then rec [.int .i64 (wr64 ((wr64 (a * 10)) + (wr64 (0 - (wr64 ((wr64 (byteAt s (i : Int))) - 48)))))), .int .i64 (wr64 ((i : Int) + 1))] else rec [.int .i64 (wr64 ((wr64 (a * 10)) + (wr64 ((wr64 (byteAt s (i : Int))) - 48)))), .int .i64 (wr64 ((i : Int) + 1))]) s2) := by
        intro a hy
        rw [bi, w1, wr64_of (x := ((s[i].toNat : Nat) : Int)) (by omega) (by omega), wr64_of (x := ((s[i].toNat : Nat) : Int) - 48) (by omega) (by omega)]
        unfold cR at hy
        rw [sg_mul] at hy
        cases neg with
        | true =>
          rw [cond_true, wr64_of (x := 0 - (((s[i].toNat : Nat) : Int) - 48)) (by omega) (by omega)]
          refine hy _ ?_
          simp only [if_true]
          congr 1
          omega
        | false =>
          rw [cond_false]
          refine hy _ ?_
          simp
      have step : Ok (fun o => ∃ s', o = (.val (if showI (refN s) = s then outR (some (refN s)) else outR none), s') ∧ Pre s2 s')
            ((bif neg then rec [.int .i64 (wr64 ((wr64 (a * 10)) + (wr64 (0 - (wr64 ((wr64 (byteAt s (i : Int))) - 48)))))), .int .i64 (wr64 ((i : Int) + 1))] else rec [.int .i64 (wr64 ((wr64 (a * 10)) + (wr64 ((wr64 (byteAt s (i : Int))) - 48)))), .int .i64 (wr64 ((i : Int) + 1))]) s2) ∨ (i = 0 ∧ neg = true) := by
        by_cases hs : i = 0 ∧ neg = true
        · exact .inr hs
        · refine .inl (digit a fun y hy => hrec (k - 1) _ _ (by omega) ⟨i + 1, y, rfl, by omega, by omega, rfl, .inr ⟨by omega, ?_⟩⟩)
          rw [hy]
          rcases hI with ⟨hi0, ha⟩ | ⟨_, hI⟩
          · subst hi0
            subst ha
            have hnf : neg = false := by cases neg; rfl; exact absurd ⟨rfl, rfl⟩ hs
            subst hnf
            have hc : s[0] ≠ 45 := by
              intro h
              rw [List.getElem?_eq_getElem h0, h] at hneg
              simp at hneg
            have hsc : s = s[0] :: s.drop 1 := by rw [← List.drop_eq_getElem_cons h0, List.drop_zero]
            have : refN s = ((s[0] :: s.drop 1).map UInt8.toNat).foldl (cR false) 0 := by
              conv => lhs; rw [hsc]
              unfold refN
              simp only
              rw [if_neg hc]
            rw [this]
            rfl
          · rw [List.drop_eq_getElem_cons hlt] at hI
            exact hI
      by_cases hi0 : 0 < i
      · rw [decide_eq_true (show (i : Int) > 0 by omega)]
        simp only [cond_true, J_b, D_nil, chk_of (inB_of hlt), in0, chk_true, e45, join_eq, J_i]
        rcases step with h | h
        · exact h
        · omega
      · have hi0 : i = 0 := by omega
        rw [decide_eq_false (show ¬ (i : Int) > 0 by omega)]
        simp only [cond_false, J_b, D_nil, in0, chk_true, e45, join_eq, J_i]
        cases neg with
        | true =>
          simp only [Bool.not_true, cond_false]
          rw [w1]
          refine hrec (k - 1) _ _ (by omega) ⟨i + 1, a, rfl, by omega, by omega, rfl, .inr ⟨by omega, ?_⟩⟩
          rcases hI with ⟨_, ha⟩ | ⟨h, _⟩
          · subst hi0
            subst ha
            have hc : s[0] = 45 := by
              rw [List.getElem?_eq_getElem h0] at hneg
              simpa using hneg
            have hsc : s = s[0] :: s.drop 1 := by rw [← List.drop_eq_getElem_cons h0, List.drop_zero]
            have : refN s = ((s.drop 1).map UInt8.toNat).foldl (cR true) 0 := by
              conv => lhs; rw [hsc]
              unfold refN
              simp only
              rw [if_pos hc]
            rw [this]
          · omega
        | false =>
          simp only [Bool.not_false, cond_true, chk_of (inB_of hlt)]
          rcases step with h | h
          · exact h
          · cases h.2
    · rw [decide_eq_false (show ¬ (i : Int) < (s.length : Int) by omega), cond_false]
      have ha : a = refN s := by
        rcases hI with ⟨h1, h2⟩ | ⟨_, h2⟩
        · have : s = [] := List.eq_nil_of_length_eq_zero (by omega)
          rw [this, h2]; rfl
        · rw [List.drop_of_length_le (by omega)] at h2; exact h2
      subst ha
      refine Ok.call (ev_ref03_Show h.ref03_Show (n + 1) (refN s) (refN_range s) (by omega) s2) ?_
      rintro _ ⟨s3, rfl, hp⟩
      refine ⟨_, s3, rfl, ?_⟩
      simp only [J_s, D_nil]
      by_cases he : showI (refN s) = s
      · rw [if_pos he, show (showI (refN s) == s) = true by rw [beq_iff_eq]; exact he, Bool.not_true, cond_false, ret_eq]
        exact .mk ⟨s3, rfl, hp⟩
      · rw [if_neg he, show (showI (refN s) == s) = false by rw [beq_eq_false_iff_ne]; exact he, Bool.not_false, cond_true, ret_eq]
        exact .mk ⟨s3, rfl, hp⟩
end Go.Gv.F

/- Numbers and handles: unlike ones; there and back. -/
namespace Go.Gv.F
theorem idx_eq {s : List UInt8} {i : Nat} (h : s[i]? = some 46) (hno : ∀ k, k < i → s[k]? ≠ some 46) : Lib.indexByte s 46 = i := by
  have ge := Lib.indexByte_ge s 46
  by_cases hm : Lib.indexByte s 46 = -1
  · exact absurd h (Lib.indexByte_none hm i)
  · obtain ⟨o, ho⟩ : ∃ o : Nat, Lib.indexByte s 46 = o := ⟨(Lib.indexByte s 46).toNat, by omega⟩
    obtain ⟨h1, h2⟩ := Lib.indexByte_some ho
    rw [ho]
    rcases Nat.lt_trichotomy o i with h' | h' | h'
    · exact absurd h1 (hno o h')
    · rw [h']
    · exact absurd h (h2 i h')
theorem idx_none {s : List UInt8} (hno : ∀ k, k < s.length → s[k]? ≠ some 46) : Lib.indexByte s 46 = -1 := by
  have ge := Lib.indexByte_ge s 46
  by_cases hm : Lib.indexByte s 46 = -1
  · exact hm
  · obtain ⟨o, ho⟩ : ∃ o : Nat, Lib.indexByte s 46 = o := ⟨(Lib.indexByte s 46).toNat, by omega⟩
    obtain ⟨h1, _⟩ := Lib.indexByte_some ho
    exact absurd h1 (hno o (List.getElem?_eq_some_iff.1 h1).1)
theorem show_nodot (z : Int) : ∀ c ∈ showI z, c ≠ 46 := by
  have dig : ∀ N : Nat, ∀ c ∈ decS N, c ≠ 46 := by
    intro N c hc
    rcases Nat.eq_zero_or_pos N with h | h
    · subst h
      rw [decS_one (by omega)] at hc
      rw [List.mem_singleton.1 hc]; decide
    · obtain ⟨d, l, h1, h2, h3, h4, _⟩ := first_digits N N (Nat.le_refl _) h
      rw [h4, show UInt8.ofNat (48 + d) :: l.map UInt8.ofNat = ((48 + d) :: l).map UInt8.ofNat from rfl, List.mem_map] at hc
      obtain ⟨r, hr, rfl⟩ := hc
      have hrd : isDig r = true := by
        rcases List.mem_cons.1 hr with rfl | hr
        · exact isDig_iff.2 (by omega)
        · exact h3 r hr
      have := isDig_iff.1 hrd
      intro h
      have := congrArg UInt8.toNat h
      have e2 : UInt8.toNat 46 = 46 := rfl
      have e1 : (UInt8.ofNat r).toNat = r := by simp; omega
      omega
  intro c hc
  unfold showI at hc
  split at hc
  · rcases List.mem_cons.1 hc with rfl | hc
    · decide
    · exact dig _ c hc
  · exact dig _ c hc
def showH (a b : Int) : List UInt8 := if a < 0 ∨ b < 0 then [] else (showI a ++ [46]) ++ showI b
theorem cut_show (a : Int) (w : List UInt8) : cutD ((showI a ++ [46]) ++ w) = (showI a, w, true) := by
  have hi : Lib.indexByte ((showI a ++ [46]) ++ w) 46 = ((showI a).length : Nat) := by
    refine idx_eq ?_ fun k hk => ?_
    · rw [List.append_assoc, List.getElem?_append_right (Nat.le_refl _), Nat.sub_self]; rfl
    · rw [List.append_assoc, List.getElem?_append_left hk]
      intro h
      exact show_nodot a 46 (List.mem_of_getElem? h) rfl
  unfold cutD
  rw [hi, if_pos (by omega), Int.toNat_natCast]
  have e1 : ((showI a ++ [46]) ++ w).take (showI a).length = showI a := by rw [List.append_assoc, List.take_left]
  have e2 : ((showI a ++ [46]) ++ w).drop ((showI a).length + 1) = w := by
    have : (showI a ++ [46]).length = (showI a).length + 1 := by simp
    rw [← this, List.drop_left]
  rw [e1, e2]
theorem handle_show {a b : Int} (ha : 0 ≤ a ∧ a ≤ 9223372036854775807) (hb : 0 ≤ b ∧ b ≤ 9223372036854775807) : handleF (showH a b) = some (a, b) := by
  unfold handleF showH
  rw [if_neg (by omega), cut_show]
  simp only [read_show a (by omega), read_show b (by omega)]
  rw [if_neg (by omega)]
theorem show_handle {s : List UInt8} {a b : Int} (h : handleF s = some (a, b)) : s = showH a b := by
  unfold handleF at h
  cases hc : (cutD s).2.2 with
  | false => rw [hc] at h; cases h
  | true =>
    rw [hc] at h
    cases h1 : readF (cutD s).1 with
    | none => rw [h1] at h; cases h
    | some x =>
      cases h2 : readF (cutD s).2.1 with
      | none => rw [h1, h2] at h; cases h
      | some y =>
        rw [h1, h2] at h
        simp only at h
        split at h
        · cases h
        · rename_i hneg
          cases h
          obtain ⟨e1, _⟩ := show_read h1
          obtain ⟨e2, _⟩ := show_read h2
          unfold showH
          rw [if_neg hneg, ← e1, ← e2]
          unfold cutD at hc ⊢
          split at hc
          · rename_i hi
            rw [if_pos hi]
            simp only
            have hl := idx_lt hi
            have hat : s[(Lib.indexByte s 46).toNat]? = some 46 := (Lib.indexByte_some (o := (Lib.indexByte s 46).toNat) (by omega)).1
            have hg : s[(Lib.indexByte s 46).toNat] = 46 := by
              rw [List.getElem?_eq_getElem hl] at hat
              exact Option.some.inj hat
            have hdr : s.drop (Lib.indexByte s 46).toNat = 46 :: s.drop ((Lib.indexByte s 46).toNat + 1) := by rw [List.drop_eq_getElem_cons hl, hg]
            rw [List.append_assoc, List.singleton_append, ← hdr, List.take_append_drop]
          · cases hc
theorem showH_len {a b : Int} (ha : -9223372036854775808 ≤ a ∧ a ≤ 9223372036854775807) (hb : -9223372036854775808 ≤ b ∧ b ≤ 9223372036854775807) : (showH a b).length ≤ 41 := by
  have h1 := showI_len a ha
  have h2 := showI_len b hb
  unfold showH
  split
  · simp
  · simp only [List.length_append, List.length_singleton]; omega
theorem ev_ShowHandle {Bd : Bodies} (h : H_digit_ShowHandle Bd) (n : Nat) (a b : Int) (ha : -9223372036854775808 ≤ a ∧ a ≤ 9223372036854775807) (hb : -9223372036854775808 ≤ b ∧ b ≤ 9223372036854775807) (hn : 80 ≤ n) (st : St) (ht : Tabs st) :
    Ok (fun o => ∃ s', o = (.val [.str (showH a b)], s') ∧ Pre st s') (run Bd n 98 [.agg [.int .i64 a, .int .i64 b]] st) := by
  obtain ⟨n, rfl⟩ : ∃ m, n = m + 1 := ⟨n - 1, by omega⟩
  rw [run_succ, h.eq]
  unfold b_digit_ShowHandle
  simp only [J_a, J_i, D_nil]
  by_cases hneg : a < 0 ∨ b < 0
  · rw [decide_eq_true (show (if b < a then b else a) < 0 by split <;> omega), cond_true, ret_eq, show showH a b = [] by unfold showH; rw [if_pos hneg]]
    exact .mk ⟨st, rfl, .refl st⟩
  · rw [decide_eq_false (show ¬ (if b < a then b else a) < 0 by split <;> omega), cond_false, show showH a b = (showI a ++ [46]) ++ showI b by unfold showH; rw [if_neg hneg]]
    have h1 := showI_len a ha
    have h2 := showI_len b hb
    refine Ok.callN (ev_digit_Show h.digit_Show n a ha (by omega) st ht) ?_
    rintro _ ⟨s1, rfl, hp1⟩
    refine ⟨_, s1, rfl, ?_⟩
    simp only [J_s, D_nil]
    rw [chk_of (Nat.ble_eq_true_of_le (by simp only [List.length_singleton]; omega))]
    refine Ok.callN (ev_digit_Show h.digit_Show n b hb (by omega) s1 (ht.mono hp1)) ?_
    rintro _ ⟨s2, rfl, hp2⟩
    refine ⟨_, s2, rfl, ?_⟩
    simp only [J_s, D_nil]
    rw [chk_of (Nat.ble_eq_true_of_le (by simp only [List.length_append, List.length_singleton]; omega)), ret_eq]
    exact .mk ⟨s2, rfl, hp1.trans hp2⟩
theorem ev_ref03_Handle {Bd : Bodies} (h : H_ref03_Handle Bd) (n : Nat) (a b : Int) (ha : -9223372036854775808 ≤ a ∧ a ≤ 9223372036854775807) (hb : -9223372036854775808 ≤ b ∧ b ≤ 9223372036854775807) (hn : 80 ≤ n) (st : St) :
    Ok (fun o => ∃ s', o = (.val [.str (showH a b)], s') ∧ Pre st s') (run Bd n 99 [.agg [.int .i64 a, .int .i64 b]] st) := by
  obtain ⟨n, rfl⟩ : ∃ m, n = m + 1 := ⟨n - 1, by omega⟩
  rw [run_succ, h.eq]
  unfold b_ref03_Handle
  simp only [J_a, J_i, D_nil, join_bool, J_b]
  by_cases hneg : a < 0 ∨ b < 0
  · rw [show (bif decide (a < 0) then true else decide (b < 0)) = true by rw [Bool.cond_true_left, Bool.or_eq_true, decide_eq_true_eq, decide_eq_true_eq]; exact hneg, cond_true, ret_eq, show showH a b = [] by unfold showH; rw [if_pos hneg]]
    exact .mk ⟨st, rfl, .refl st⟩
  · rw [show (bif decide (a < 0) then true else decide (b < 0)) = false by rw [Bool.cond_true_left, Bool.or_eq_false_iff, decide_eq_false_iff_not, decide_eq_false_iff_not]; omega, cond_false, show showH a b = (showI a ++ [46]) ++ showI b by unfold showH; rw [if_neg hneg]]
    have h1 := showI_len a ha
    have h2 := showI_len b hb
    refine Ok.callN (ev_ref03_Show h.ref03_Show n a ha (by omega) st) ?_
    rintro _ ⟨s1, rfl, hp1⟩
    refine ⟨_, s1, rfl, ?_⟩
    simp only [J_s, D_nil]
    rw [chk_of (Nat.ble_eq_true_of_le (by simp only [List.length_singleton]; omega))]
    refine Ok.callN (ev_ref03_Show h.ref03_Show n b hb (by omega) s1) ?_
    rintro _ ⟨s2, rfl, hp2⟩
    refine ⟨_, s2, rfl, ?_⟩
    simp only [J_s, D_nil]
    rw [chk_of (Nat.ble_eq_true_of_le (by simp only [List.length_append, List.length_singleton]; omega)), ret_eq]
    exact .mk ⟨s2, rfl, hp1.trans hp2⟩
theorem handle_range {s : List UInt8} {a b : Int} (h : handleF s = some (a, b)) : (0 ≤ a ∧ a ≤ 9223372036854775807) ∧ 0 ≤ b ∧ b ≤ 9223372036854775807 := by
  unfold handleF at h
  cases hc : (cutD s).2.2 with
  | false => rw [hc] at h; cases h
  | true =>
    rw [hc] at h
    cases h1 : readF (cutD s).1 with
    | none => rw [h1] at h; cases h
    | some x =>
      cases h2 : readF (cutD s).2.1 with
      | none => rw [h1, h2] at h; cases h
      | some y =>
        rw [h1, h2] at h
        simp only at h
        split at h
        · cases h
        · cases h
          have := (show_read h1).2
          have := (show_read h2).2
          omega
theorem ev_ref03_ReadHandle {Bd : Bodies} (h : H_ref03_ReadHandle Bd) (n : Nat) (s : List UInt8) (hn : s.length + 100 ≤ n) (hs : s.length < 100000) (st : St) :
    Ok (fun o => ∃ s', o = (.val (outH (handleF s)), s') ∧ Pre st s') (run Bd n 95 [.str s] st) := by
  obtain ⟨n, rfl⟩ : ∃ m, n = m + 1 := ⟨n - 1, by omega⟩
  rw [run_succ, h.eq]
  unfold b_ref03_ReadHandle
  simp only [J_s, D_nil]
  rw [join_eq]
  refine loop_rule _ (fun k q s2 => ∃ i : Nat, q = [.agg [.int .i64 0, .int .i64 0], .int .i64 i] ∧ i ≤ s.length ∧ s.length - i ≤ k ∧ s2 = st ∧ ∀ k, k < i → s[k]? ≠ some 46)
    ?_ s.length n _ _ ⟨0, rfl, Nat.zero_le _, by omega, rfl, fun k hk => by omega⟩ (by omega)
  rintro k _ s2 ⟨i, rfl, hi, hk, rfl, hno⟩ rec hrec
  simp only [J_a, J_i, D_nil]
  by_cases hlt : i < s.length
  · rw [decide_eq_true (show (i : Int) < (s.length : Int) by omega), cond_true, chk_of (inB_of hlt), oc_toNat hlt]
    have hg : s[i]? = some s[i] := List.getElem?_eq_getElem hlt
    have w1 : wr64 ((i : Int) + 1) = ((i + 1 : Nat) : Int) := by rw [wr64_of (by omega) (by omega)]; rfl
    by_cases h46 : s[i] = 46
    · rw [show (((s[i].toNat : Nat) : Int) == 46) = true by rw [h46]; rfl, cond_true]
      have hidx : Lib.indexByte s 46 = i := idx_eq (by rw [hg, h46]) hno
      have hcut : cutD s = (s.take i, s.drop (i + 1), true) := by
        unfold cutD
        rw [hidx, if_pos (by omega), Int.toNat_natCast]
      rw [w1, Int.toNat_natCast, Int.toNat_natCast, chk_of (by simp only [Bool.and_eq_true, decide_eq_true_eq]; omega)]
      refine Ok.call (ev_ref03_Read h.ref03_Read n (s.take i) (by omega) s2) ?_
      rintro _ ⟨s3, rfl, hp3⟩
      refine ⟨_, s3, rfl, ?_⟩
      have ho : ∀ r : Option Int, ∃ a : Int, outR r = [.int .i64 a, .bool r.isSome] ∧ (∀ z, r = some z → a = z) := by
        intro r
        cases r with
        | none => exact ⟨0, rfl, fun z h => by cases h⟩
        | some z => exact ⟨z, rfl, fun y h => by cases h; rfl⟩
      obtain ⟨a, ea, ha⟩ := ho (readF (s.take i))
      obtain ⟨b, eb, hb⟩ := ho (readF (s.drop (i + 1)))
      rw [ea]
      simp only [J_i, J_b, D_nil]
      rw [chk_of (by simp only [Bool.and_eq_true, decide_eq_true_eq]; omega)]
      refine Ok.call (ev_ref03_Read h.ref03_Read n (s.drop (i + 1)) (by omega) s3) ?_
      rintro _ ⟨s4, rfl, hp4⟩
      refine ⟨_, s4, rfl, ?_⟩
      rw [eb]
      simp only [J_i, J_b, D_nil, join_bool]
      have hno2 : ∀ s5 : St, Pre s2 s5 → handleF s = none → Ok (fun o => ∃ s', o = (.val (outH (handleF s)), s') ∧ Pre s2 s') ((M.ret [.agg [.int .i64 0, .int .i64 0], .bool false] : M (List DV)) s5) := fun s5 hp he => by
        rw [he, ret_eq]; exact .mk ⟨s5, rfl, hp⟩
      cases h1 : readF (s.take i) with
      | none =>
        simp only [Option.isSome_none, cond_false, join_eq, J_b, D_nil]
        refine hno2 s4 (hp3.trans hp4) ?_
        unfold handleF
        rw [hcut]
        simp only [h1]
      | some x =>
        have := ha x h1
        subst a
        cases h2 : readF (s.drop (i + 1)) with
        | none =>
          simp only [Option.isSome_none, Option.isSome_some, cond_true, cond_false, join_eq, J_b, D_nil]
          refine hno2 s4 (hp3.trans hp4) ?_
          unfold handleF
          rw [hcut]
          simp only [h1, h2]
        | some y =>
          have := hb y h2
          subst b
          simp only [Option.isSome_some, cond_true, join_eq, J_b, D_nil]
          obtain ⟨_, rx⟩ := show_read h1
          obtain ⟨_, ry⟩ := show_read h2
          refine Ok.call (ev_ref03_Handle h.ref03_Handle n x y rx ry (by omega) s4) ?_
          rintro _ ⟨s5, rfl, hp5⟩
          refine ⟨_, s5, rfl, ?_⟩
          simp only [J_s, D_nil]
          have hh : handleF s = if x < 0 ∨ y < 0 then none else some (x, y) := by
            unfold handleF
            rw [hcut]
            simp only [h1, h2]
          by_cases hneg : x < 0 ∨ y < 0
          · rw [if_pos hneg] at hh
            have hne : (showH x y == s) = false := by
              rw [beq_eq_false_iff_ne, show showH x y = [] by unfold showH; rw [if_pos hneg]]
              intro e
              rw [← e] at hlt
              cases hlt
            rw [hne, cond_false]
            exact hno2 s5 (hp3.trans (hp4.trans hp5)) hh
          · rw [if_neg hneg] at hh
            rw [show (showH x y == s) = true by rw [beq_iff_eq]; exact (show_handle hh).symm, cond_true, ret_eq, hh]
            exact .mk ⟨s5, rfl, hp3.trans (hp4.trans hp5)⟩
    · have hne : (((s[i].toNat : Nat) : Int) == 46) = false := by
        rw [beq_eq_false_iff_ne]
        intro h
        exact h46 (UInt8.toNat_inj.1 (by show s[i].toNat = 46; omega))
      rw [hne, cond_false, w1]
      refine hrec (k - 1) _ _ (by omega) ⟨i + 1, rfl, by omega, by omega, rfl, fun j hj => ?_⟩
      rcases Nat.lt_or_ge j i with h' | h'
      · exact hno j h'
      · have : j = i := by omega
        subst this
        rw [hg]
        intro h
        exact h46 (Option.some.inj h)
  · rw [decide_eq_false (show ¬ (i : Int) < (s.length : Int) by omega), cond_false, ret_eq]
    have : handleF s = none := by
      unfold handleF cutD
      rw [idx_none (fun k hk => hno k (by omega)), if_neg (by omega)]
    rw [this]
    exact .mk ⟨s2, rfl, .refl s2⟩
end Go.Gv.F
