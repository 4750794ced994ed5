/- Numbers as texts: base 10. -/
import Derived.Test.YtanmddhmkphilaaDoorGvPCmp
import Derived.Test.YtanmddhmkphilaaDoorGvBDi
namespace Go.Gv.F

theorem sm1 (v : Nat) (h : v < 100) : byteAt str_0 ((v * 2 + 1 : Nat) : Int) = ((48 + v % 10 : Nat) : Int) := by
  rw [byteAt_eq]
  have all : ∀ v, v < 100 → oc str_0 (v * 2 + 1) = 48 + v % 10 := by decide +kernel
  rw [all v h]
theorem sm0 (v : Nat) (h : v < 100) : byteAt str_0 ((v * 2 : Nat) : Int) = ((48 + v / 10 : Nat) : Int) := by
  rw [byteAt_eq]
  have all : ∀ v, v < 100 → oc str_0 (v * 2) = 48 + v / 10 := by decide +kernel
  rw [all v h]

/-- The lowest decimal digits. -/
def padS : Nat → Nat → List UInt8
  | 0, _ => []
  | k + 1, u => UInt8.ofNat (48 + u / 10 ^ k % 10) :: padS k u
theorem padS_len : ∀ k u, (padS k u).length = k
  | 0, _ => rfl
  | k + 1, u => by simp [padS, padS_len k u]
def decS (n : Nat) : List UInt8 := if n < 10 then [UInt8.ofNat (48 + n)] else decS (n / 10) ++ [UInt8.ofNat (48 + n % 10)]
termination_by n
decreasing_by omega
theorem padS_last : ∀ k u, padS (k + 1) u = padS k (u / 10) ++ [UInt8.ofNat (48 + u % 10)]
  | 0, u => by simp [padS]
  | k + 1, u => by
    have ih := padS_last k u
    show UInt8.ofNat (48 + u / 10 ^ (k + 1) % 10) :: padS (k + 1) u = UInt8.ofNat (48 + u / 10 / 10 ^ k % 10) :: padS k (u / 10) ++ _
    rw [ih, Nat.div_div_eq_div_mul, Nat.mul_comm 10 (10 ^ k), ← Nat.pow_succ]
    rfl
theorem padS_dec : ∀ k u, u < 10 ^ (k + 1) → 10 ^ k ≤ u ∨ k = 0 → padS (k + 1) u = decS u
  | 0, u, h, _ => by
    rw [decS, if_pos (by simpa using h)]
    simp [padS]
    congr 2
    simp at h
    omega
  | k + 1, u, h, h2 => by
    have hge : 10 ^ (k + 1) ≤ u := by rcases h2 with h | h; exact h; omega
    have hp : 10 ^ k > 0 := Nat.pow_pos (by omega)
    have h10 : 10 ≤ u := by rw [Nat.pow_succ] at hge; omega
    rw [padS_last, decS, if_neg (by omega), padS_dec k (u / 10) ((Nat.div_lt_iff_lt_mul (by omega)).2 (by rw [← Nat.pow_succ]; exact h)) (.inl ((Nat.le_div_iff_mul_le (by omega)).2 (by rw [← Nat.pow_succ]; exact hge)))]

/-- The cells of which the last k hold digits. -/
structure Inv10 (cs : List DV) (o an U k : Nat) : Prop where
  len : o + an ≤ cs.length
  le : k ≤ an
  cells : (cs.drop (o + (an - k))).take k = byteCells (padS k U)

theorem ok_put {Q : Out (List DV) × St → Prop} {st : St} {cs : List DV} {o an U k m d : Nat} (I : Inv10 cs o an U k) (hm : m + 1 + k = an) (hd : d = U / 10 ^ k % 10) {K : M (List DV)}
    (hK : ∀ cs', cs'.length = cs.length → Inv10 cs' o an U (k + 1) → Ok Q (K (st ++ [some ⟨false, cs'⟩]))) :
    Ok Q ((M.chk (inB (m : Int) an) (M.store st.length ((m : Int).toNat * 1 + o) [.int .u8 ((48 + d : Nat) : Int)] K)) (st ++ [some ⟨false, cs⟩])) := by
  have hl := I.len
  rw [chk_of (inB_of (by omega)), Int.toNat_natCast, Nat.mul_one, store_new _ (by omega)]
  refine hK _ (by simp) ⟨by simp; omega, by omega, ?_⟩
  have hc := I.cells
  rw [show o + (an - k) = m + o + 1 by omega] at hc
  rw [show o + (an - (k + 1)) = m + o by omega, List.drop_eq_getElem_cons (by simp; omega)]
  simp only [List.getElem_set_self, List.take_succ_cons]
  rw [List.drop_set_of_lt (by omega), hc]
  show _ = DV.int .u8 ((UInt8.ofNat (48 + U / 10 ^ k % 10)).toNat : Int) :: byteCells (padS k U)
  rw [hd]
  congr 3
  have : U / 10 ^ k % 10 < 10 := Nat.mod_lt _ (by omega)
  simp
  omega

theorem w32n (x : Nat) (h : x < 4294967296) : IntKind.wrap .u32 (x : Int) = (x : Int) := IntWalk.u32_in _ (by omega)
theorem w64n (x : Nat) (h : x < 18446744073709551616) : IntKind.wrap .u64 (x : Int) = (x : Int) := IntWalk.u64_in _ (by omega)
theorem tm100 (x : Nat) : (x : Int).tmod 100 = ((x % 100 : Nat) : Int) := rfl
theorem tm10k (x : Nat) : (x : Int).tmod 10000 = ((x % 10000 : Nat) : Int) := rfl
theorem tm100m (x : Nat) : (x : Int).tmod 100000000 = ((x % 100000000 : Nat) : Int) := rfl
theorem td100 (x : Nat) : (x : Int).tdiv 100 = ((x / 100 : Nat) : Int) := rfl
theorem td10k (x : Nat) : (x : Int).tdiv 10000 = ((x / 10000 : Nat) : Int) := rfl
theorem td100m (x : Nat) : (x : Int).tdiv 100000000 = ((x / 100000000 : Nat) : Int) := rfl
theorem mul2 (x : Nat) : (x : Int) * 2 = ((x * 2 : Nat) : Int) := by omega
theorem add1 (x : Nat) : (x : Int) + 1 = ((x + 1 : Nat) : Int) := by omega
theorem sub_n (m j : Nat) (h : j ≤ m) (hm : m < 1000) : wr64 ((m : Int) - (j : Int)) = ((m - j : Nat) : Int) := by rw [wr64_of (by omega) (by omega)]; omega
theorem w8f (x : Nat) (h : x < 10) : IntKind.wrap .u8 (IntKind.wrap .u32 (48 + (x : Int))) = ((48 + x : Nat) : Int) := by
  rw [show 48 + (x : Int) = ((48 + x : Nat) : Int) by omega, w32n _ (by omega)]
  exact IntWalk.u8_in _ (by omega)
theorem inS (v : Nat) (h : v < 200) : inB (v : Int) str_0.length = true := inB_of (by show v < 200; exact h)

theorem ev_formatBase10 {Bd : Bodies} (h : H_strconv_formatBase10 Bd) (n U an o : Nat) (hU : U < 18446744073709551616) (hn : 40 ≤ n) (han : 1 ≤ an ∧ an ≤ 30) (hUa : U < 10 ^ an) (cs : List DV) (hl : o + an ≤ cs.length) (st : St) :
    Ok (fun r => ∃ cs', r = (.val [], st ++ [some ⟨false, cs'⟩]) ∧ cs'.length = cs.length ∧ (cs'.drop o).take an = byteCells (padS an U))
      (run Bd n 70 [.slice 1 (some (st.length, o)) an, .int .u64 U] (st ++ [some ⟨false, cs⟩])) := by
  obtain ⟨n, rfl⟩ : ∃ m, n = m + 1 := ⟨n - 1, by omega⟩
  rw [run_succ, h.eq]
  unfold b_strconv_formatBase10
  simp only [J_l, J_i, D_nil, nn_some']
  rw [join_eq]
  refine loop_rule _ (fun q x s2 => ∃ (k m : Nat) (cs' : List DV), x = [.int .u64 ((U / 10 ^ k : Nat) : Int), .int .i64 m] ∧ m = q ∧ m + k = an ∧ cs'.length = cs.length ∧ Inv10 cs' o an U k ∧ s2 = st ++ [some ⟨false, cs'⟩])
    ?_ an n _ _ ⟨0, an, cs, by simp, rfl, rfl, rfl, ⟨hl, Nat.zero_le _, rfl⟩, rfl⟩ (by omega)
  rintro q _ s2 ⟨k, m, c0, rfl, rfl, hmk, hc0, I0, rfl⟩ rec hrec
  have hu64 : U / 10 ^ k < 18446744073709551616 := Nat.lt_of_le_of_lt (Nat.div_le_self _ _) hU
  have hum : U / 10 ^ k < 10 ^ m := by
    rw [Nat.div_lt_iff_lt_mul (Nat.pow_pos (by omega)), ← Nat.pow_add, hmk]; exact hUa
  have hj : ∀ j, U / 10 ^ (k + j) = U / 10 ^ k / 10 ^ j := fun j => by rw [Nat.pow_add, Nat.div_div_eq_div_mul]
  generalize hu : U / 10 ^ k = u at *
  simp only [J_i, D_nil]
  have g1 : U / 10 ^ (k + 1) = u / 10 := by (rw [hj 1] <;> rfl)
  have g2 : U / 10 ^ (k + 2) = u / 100 := by (rw [hj 2] <;> rfl)
  have g3 : U / 10 ^ (k + 3) = u / 1000 := by (rw [hj 3] <;> rfl)
  have g4 : U / 10 ^ (k + 4) = u / 10000 := by (rw [hj 4] <;> rfl)
  have g5 : U / 10 ^ (k + 5) = u / 100000 := by (rw [hj 5] <;> rfl)
  have g6 : U / 10 ^ (k + 6) = u / 1000000 := by (rw [hj 6] <;> rfl)
  have g7 : U / 10 ^ (k + 7) = u / 10000000 := by (rw [hj 7] <;> rfl)
  have g8 : U / 10 ^ (k + 8) = u / 100000000 := by (rw [hj 8] <;> rfl)
  by_cases h8 : 8 ≤ m
  · rw [decide_eq_true (show (m : Int) ≥ 8 by omega), cond_true]
    have e1 : wr64 ((m : Int) - 1) = ((m - 1 : Nat) : Int) := sub_n m 1 (by omega) (by omega)
    have e2 : wr64 ((m : Int) - 2) = ((m - 2 : Nat) : Int) := sub_n m 2 (by omega) (by omega)
    have e3 : wr64 ((m : Int) - 3) = ((m - 3 : Nat) : Int) := sub_n m 3 (by omega) (by omega)
    have e4 : wr64 ((m : Int) - 4) = ((m - 4 : Nat) : Int) := sub_n m 4 (by omega) (by omega)
    have e5 : wr64 ((m : Int) - 5) = ((m - 5 : Nat) : Int) := sub_n m 5 (by omega) (by omega)
    have e6 : wr64 ((m : Int) - 6) = ((m - 6 : Nat) : Int) := sub_n m 6 (by omega) (by omega)
    have e7 : wr64 ((m : Int) - 7) = ((m - 7 : Nat) : Int) := sub_n m 7 (by omega) (by omega)
    have e8 : wr64 ((m : Int) - 8) = ((m - 8 : Nat) : Int) := sub_n m 8 (by omega) (by omega)
    simp (disch := omega) only [tm100, tm10k, tm100m, td100, td10k, td100m, mul2, add1, w32n, w64n, e1, e2, e3, e4, e5, e6, e7, e8, sm1, sm0, inS, chk_true]
    refine ok_put I0 (by omega) (by rw [hu]; omega) fun c1 l1 I1 => ?_
    refine ok_put I1 (by omega) (by rw [g1]; omega) fun c2 l2 I2 => ?_
    refine ok_put I2 (by omega) (by rw [show k + 1 + 1 = k + 2 from rfl, g2]; omega) fun c3 l3 I3 => ?_
    refine ok_put I3 (by omega) (by rw [show k + 1 + 1 + 1 = k + 3 from rfl, g3]; omega) fun c4 l4 I4 => ?_
    refine ok_put I4 (by omega) (by rw [show k + 1 + 1 + 1 + 1 = k + 4 from rfl, g4]; omega) fun c5 l5 I5 => ?_
    refine ok_put I5 (by omega) (by rw [show k + 1 + 1 + 1 + 1 + 1 = k + 5 from rfl, g5]; omega) fun c6 l6 I6 => ?_
    refine ok_put I6 (by omega) (by rw [show k + 1 + 1 + 1 + 1 + 1 + 1 = k + 6 from rfl, g6]; omega) fun c7 l7 I7 => ?_
    refine ok_put I7 (by omega) (by rw [show k + 1 + 1 + 1 + 1 + 1 + 1 + 1 = k + 7 from rfl, g7]; omega) fun c8 l8 I8 => ?_
    exact hrec (m - 8) _ _ (by omega) ⟨k + 8, m - 8, c8, by rw [g8], rfl, by omega, by omega, I8, rfl⟩
  · rw [decide_eq_false (show ¬ (m : Int) ≥ 8 by omega), cond_false]
    have hlt : ∀ j, m = j → u < 10 ^ j := fun j e => by rw [← e]; exact hum
    rcases (show m = 0 ∨ m = 1 ∨ m = 2 ∨ m = 3 ∨ m = 4 ∨ m = 5 ∨ m = 6 ∨ m = 7 by omega) with rfl | rfl | rfl | rfl | rfl | rfl | rfl | rfl
    · have hu7 : u < 1 := hlt 0 rfl
      have q0 : decide (((0 : Nat) : Int) ≥ 4) = false := by decide
      have q1 : decide (((0 : Nat) : Int) ≥ 2) = false := by decide
      have q2 : decide (((0 : Nat) : Int) > 0) = false := by decide
      simp (disch := omega) only [J_i, D_nil, join_eq, cond_false, tm100, tm10k, td100, td10k, mul2, add1, w32n, sm1, sm0, inS, chk_true, q0, q1, q2]
      exact .mk ⟨c0, rfl, by omega, by have := I0.cells; rwa [show k = an by omega, Nat.sub_self, Nat.add_zero] at this⟩
    · have hu7 : u < 10 := hlt 1 rfl
      have q0 : decide (((1 : Nat) : Int) ≥ 4) = false := by decide
      have q1 : decide (((1 : Nat) : Int) ≥ 2) = false := by decide
      have q2 : decide (((1 : Nat) : Int) > 0) = true := by decide
      simp (disch := omega) only [J_i, D_nil, join_eq, cond_true, cond_false, tm100, tm10k, td100, td10k, mul2, add1, w32n, w8f, sm1, sm0, inS, chk_true, q0, q1, q2]
      refine ok_put (m := 0) I0 (by omega) (by rw [hu]; omega) fun c1 l1 I1 => ?_
      exact .mk ⟨c1, rfl, by omega, by have := I1.cells; rwa [show k + 1 = an by omega, Nat.sub_self, Nat.add_zero] at this⟩
    · have hu7 : u < 100 := hlt 2 rfl
      have q0 : decide (((2 : Nat) : Int) ≥ 4) = false := by decide
      have q1 : decide (((2 : Nat) : Int) ≥ 2) = true := by decide
      have q2 : wr64 (((2 : Nat) : Int) - 1) = ((1 : Nat) : Int) := by decide
      have q3 : wr64 (((2 : Nat) : Int) - 2) = ((0 : Nat) : Int) := by decide
      have q4 : decide (((0 : Nat) : Int) > 0) = false := by decide
      simp (disch := omega) only [J_i, D_nil, join_eq, cond_true, cond_false, tm100, tm10k, td100, td10k, mul2, add1, w32n, sm1, sm0, inS, chk_true, q0, q1, q2, q3, q4]
      refine ok_put (m := 1) I0 (by omega) (by rw [hu]; omega) fun c1 l1 I1 => ?_
      refine ok_put (m := 0) I1 (by omega) (by rw [g1]; omega) fun c2 l2 I2 => ?_
      exact .mk ⟨c2, rfl, by omega, by have := I2.cells; rwa [show k + 1 + 1 = an by omega, Nat.sub_self, Nat.add_zero] at this⟩
    · have hu7 : u < 1000 := hlt 3 rfl
      have q0 : decide (((3 : Nat) : Int) ≥ 4) = false := by decide
      have q1 : decide (((3 : Nat) : Int) ≥ 2) = true := by decide
      have q2 : wr64 (((3 : Nat) : Int) - 1) = ((2 : Nat) : Int) := by decide
      have q3 : wr64 (((3 : Nat) : Int) - 2) = ((1 : Nat) : Int) := by decide
      have q4 : decide (((1 : Nat) : Int) > 0) = true := by decide
      simp (disch := omega) only [J_i, D_nil, join_eq, cond_true, cond_false, tm100, tm10k, td100, td10k, mul2, add1, w32n, w8f, sm1, sm0, inS, chk_true, q0, q1, q2, q3, q4]
      refine ok_put (m := 2) I0 (by omega) (by rw [hu]; omega) fun c1 l1 I1 => ?_
      refine ok_put (m := 1) I1 (by omega) (by rw [g1]; omega) fun c2 l2 I2 => ?_
      refine ok_put (m := 0) I2 (by omega) (by rw [show k + 1 + 1 = k + 2 from rfl, g2]; omega) fun c3 l3 I3 => ?_
      exact .mk ⟨c3, rfl, by omega, by have := I3.cells; rwa [show k + 1 + 1 + 1 = an by omega, Nat.sub_self, Nat.add_zero] at this⟩
    · have hu7 : u < 10000 := hlt 4 rfl
      have q0 : decide (((4 : Nat) : Int) ≥ 4) = true := by decide
      have q1 : wr64 (((4 : Nat) : Int) - 1) = ((3 : Nat) : Int) := by decide
      have q2 : wr64 (((4 : Nat) : Int) - 2) = ((2 : Nat) : Int) := by decide
      have q3 : wr64 (((4 : Nat) : Int) - 3) = ((1 : Nat) : Int) := by decide
      have q4 : wr64 (((4 : Nat) : Int) - 4) = ((0 : Nat) : Int) := by decide
      have q5 : decide (((0 : Nat) : Int) ≥ 2) = false := by decide
      have q6 : decide (((0 : Nat) : Int) > 0) = false := by decide
      simp (disch := omega) only [J_i, D_nil, join_eq, cond_true, cond_false, tm100, tm10k, td100, td10k, mul2, add1, w32n, sm1, sm0, inS, chk_true, q0, q1, q2, q3, q4, q5, q6]
      refine ok_put (m := 3) I0 (by omega) (by rw [hu]; omega) fun c1 l1 I1 => ?_
      refine ok_put (m := 2) I1 (by omega) (by rw [g1]; omega) fun c2 l2 I2 => ?_
      refine ok_put (m := 1) I2 (by omega) (by rw [show k + 1 + 1 = k + 2 from rfl, g2]; omega) fun c3 l3 I3 => ?_
      refine ok_put (m := 0) I3 (by omega) (by rw [show k + 1 + 1 + 1 = k + 3 from rfl, g3]; omega) fun c4 l4 I4 => ?_
      exact .mk ⟨c4, rfl, by omega, by have := I4.cells; rwa [show k + 1 + 1 + 1 + 1 = an by omega, Nat.sub_self, Nat.add_zero] at this⟩
    · have hu7 : u < 100000 := hlt 5 rfl
      have q0 : decide (((5 : Nat) : Int) ≥ 4) = true := by decide
      have q1 : wr64 (((5 : Nat) : Int) - 1) = ((4 : Nat) : Int) := by decide
      have q2 : wr64 (((5 : Nat) : Int) - 2) = ((3 : Nat) : Int) := by decide
      have q3 : wr64 (((5 : Nat) : Int) - 3) = ((2 : Nat) : Int) := by decide
      have q4 : wr64 (((5 : Nat) : Int) - 4) = ((1 : Nat) : Int) := by decide
      have q5 : decide (((1 : Nat) : Int) ≥ 2) = false := by decide
      have q6 : decide (((1 : Nat) : Int) > 0) = true := by decide
      simp (disch := omega) only [J_i, D_nil, join_eq, cond_true, cond_false, tm100, tm10k, td100, td10k, mul2, add1, w32n, w8f, sm1, sm0, inS, chk_true, q0, q1, q2, q3, q4, q5, q6]
      refine ok_put (m := 4) I0 (by omega) (by rw [hu]; omega) fun c1 l1 I1 => ?_
      refine ok_put (m := 3) I1 (by omega) (by rw [g1]; omega) fun c2 l2 I2 => ?_
      refine ok_put (m := 2) I2 (by omega) (by rw [show k + 1 + 1 = k + 2 from rfl, g2]; omega) fun c3 l3 I3 => ?_
      refine ok_put (m := 1) I3 (by omega) (by rw [show k + 1 + 1 + 1 = k + 3 from rfl, g3]; omega) fun c4 l4 I4 => ?_
      refine ok_put (m := 0) I4 (by omega) (by rw [show k + 1 + 1 + 1 + 1 = k + 4 from rfl, g4]; omega) fun c5 l5 I5 => ?_
      exact .mk ⟨c5, rfl, by omega, by have := I5.cells; rwa [show k + 1 + 1 + 1 + 1 + 1 = an by omega, Nat.sub_self, Nat.add_zero] at this⟩
    · have hu7 : u < 1000000 := hlt 6 rfl
      have q0 : decide (((6 : Nat) : Int) ≥ 4) = true := by decide
      have q1 : wr64 (((6 : Nat) : Int) - 1) = ((5 : Nat) : Int) := by decide
      have q2 : wr64 (((6 : Nat) : Int) - 2) = ((4 : Nat) : Int) := by decide
      have q3 : wr64 (((6 : Nat) : Int) - 3) = ((3 : Nat) : Int) := by decide
      have q4 : wr64 (((6 : Nat) : Int) - 4) = ((2 : Nat) : Int) := by decide
      have q5 : decide (((2 : Nat) : Int) ≥ 2) = true := by decide
      have q6 : wr64 (((2 : Nat) : Int) - 1) = ((1 : Nat) : Int) := by decide
      have q7 : wr64 (((2 : Nat) : Int) - 2) = ((0 : Nat) : Int) := by decide
      have q8 : decide (((0 : Nat) : Int) > 0) = false := by decide
      simp (disch := omega) only [J_i, D_nil, join_eq, cond_true, cond_false, tm100, tm10k, td100, td10k, mul2, add1, w32n, sm1, sm0, inS, chk_true, q0, q1, q2, q3, q4, q5, q6, q7, q8]
      refine ok_put (m := 5) I0 (by omega) (by rw [hu]; omega) fun c1 l1 I1 => ?_
      refine ok_put (m := 4) I1 (by omega) (by rw [g1]; omega) fun c2 l2 I2 => ?_
      refine ok_put (m := 3) I2 (by omega) (by rw [show k + 1 + 1 = k + 2 from rfl, g2]; omega) fun c3 l3 I3 => ?_
      refine ok_put (m := 2) I3 (by omega) (by rw [show k + 1 + 1 + 1 = k + 3 from rfl, g3]; omega) fun c4 l4 I4 => ?_
      refine ok_put (m := 1) I4 (by omega) (by rw [show k + 1 + 1 + 1 + 1 = k + 4 from rfl, g4]; omega) fun c5 l5 I5 => ?_
      refine ok_put (m := 0) I5 (by omega) (by rw [show k + 1 + 1 + 1 + 1 + 1 = k + 5 from rfl, g5]; omega) fun c6 l6 I6 => ?_
      exact .mk ⟨c6, rfl, by omega, by have := I6.cells; rwa [show k + 1 + 1 + 1 + 1 + 1 + 1 = an by omega, Nat.sub_self, Nat.add_zero] at this⟩
    · have hu7 : u < 10000000 := hlt 7 rfl
      have q0 : decide (((7 : Nat) : Int) ≥ 4) = true := by decide
      have q1 : wr64 (((7 : Nat) : Int) - 1) = ((6 : Nat) : Int) := by decide
      have q2 : wr64 (((7 : Nat) : Int) - 2) = ((5 : Nat) : Int) := by decide
      have q3 : wr64 (((7 : Nat) : Int) - 3) = ((4 : Nat) : Int) := by decide
      have q4 : wr64 (((7 : Nat) : Int) - 4) = ((3 : Nat) : Int) := by decide
      have q5 : decide (((3 : Nat) : Int) ≥ 2) = true := by decide
      have q6 : wr64 (((3 : Nat) : Int) - 1) = ((2 : Nat) : Int) := by decide
      have q7 : wr64 (((3 : Nat) : Int) - 2) = ((1 : Nat) : Int) := by decide
      have q8 : decide (((1 : Nat) : Int) > 0) = true := by decide
      simp (disch := omega) only [J_i, D_nil, join_eq, cond_true, tm100, tm10k, td100, td10k, mul2, add1, w32n, w8f, sm1, sm0, inS, chk_true, q0, q1, q2, q3, q4, q5, q6, q7, q8]
      refine ok_put (m := 6) I0 (by omega) (by rw [hu]; omega) fun c1 l1 I1 => ?_
      refine ok_put (m := 5) I1 (by omega) (by rw [g1]; omega) fun c2 l2 I2 => ?_
      refine ok_put (m := 4) I2 (by omega) (by rw [show k + 1 + 1 = k + 2 from rfl, g2]; omega) fun c3 l3 I3 => ?_
      refine ok_put (m := 3) I3 (by omega) (by rw [show k + 1 + 1 + 1 = k + 3 from rfl, g3]; omega) fun c4 l4 I4 => ?_
      refine ok_put (m := 2) I4 (by omega) (by rw [show k + 1 + 1 + 1 + 1 = k + 4 from rfl, g4]; omega) fun c5 l5 I5 => ?_
      refine ok_put (m := 1) I5 (by omega) (by rw [show k + 1 + 1 + 1 + 1 + 1 = k + 5 from rfl, g5]; omega) fun c6 l6 I6 => ?_
      refine ok_put (m := 0) I6 (by omega) (by rw [show k + 1 + 1 + 1 + 1 + 1 + 1 = k + 6 from rfl, g6]; omega) fun c7 l7 I7 => ?_
      exact .mk ⟨c7, rfl, by omega, by have := I7.cells; rwa [show k + 1 + 1 + 1 + 1 + 1 + 1 + 1 = an by omega, Nat.sub_self, Nat.add_zero] at this⟩

/-! ### How many digits -/
theorem len8 (x : Nat) (h : x < 256) (h0 : 0 < x) : ∃ t : Nat, byteAt str_2 (x : Int) = (t : Int) ∧ 1 ≤ t ∧ t ≤ 8 ∧ 2 ^ (t - 1) ≤ x ∧ x < 2 ^ t := by
  have all : ∀ x, x < 256 → 0 < x → 1 ≤ oc str_2 x ∧ oc str_2 x ≤ 8 ∧ 2 ^ (oc str_2 x - 1) ≤ x ∧ x < 2 ^ oc str_2 x := by decide +kernel
  exact ⟨oc str_2 x, byteAt_eq _ _, all x h h0⟩
theorem fd32 (x : Nat) : (x : Int).fdiv (2 ^ 32) = ((x / 2 ^ 32 : Nat) : Int) := by
  have e : (2 : Int) ^ 32 = ((2 ^ 32 : Nat) : Int) := by decide
  rw [e, ← Int.ofNat_fdiv]
theorem fd16 (x : Nat) : (x : Int).fdiv (2 ^ 16) = ((x / 2 ^ 16 : Nat) : Int) := by
  have e : (2 : Int) ^ 16 = ((2 ^ 16 : Nat) : Int) := by decide
  rw [e, ← Int.ofNat_fdiv]
theorem fd8 (x : Nat) : (x : Int).fdiv (2 ^ 8) = ((x / 2 ^ 8 : Nat) : Int) := by
  have e : (2 : Int) ^ 8 = ((2 ^ 8 : Nat) : Int) := by decide
  rw [e, ← Int.ofNat_fdiv]
theorem fd18 (x : Nat) : (x : Int).fdiv (2 ^ 18) = ((x / 2 ^ 18 : Nat) : Int) := by
  have e : (2 : Int) ^ 18 = ((2 ^ 18 : Nat) : Int) := by decide
  rw [e, ← Int.ofNat_fdiv]

theorem len_str2 : str_2.length = 256 := by decide +kernel
theorem dd2 (d a b : Nat) : d / 2 ^ a / 2 ^ b = d / 2 ^ (a + b) := by rw [Nat.div_div_eq_div_mul, ← Nat.pow_add]
/-- So many binary digits. -/
def BLen (d L : Nat) : Prop := 1 ≤ L ∧ 2 ^ (L - 1) ≤ d ∧ d < 2 ^ L
theorem BLen.shift {d s L : Nat} (h : BLen (d / 2 ^ s) L) : BLen d (L + s) := by
  obtain ⟨h1, h2, h3⟩ := h
  refine ⟨by omega, ?_, ?_⟩
  · rw [show L + s - 1 = L - 1 + s by omega, Nat.pow_add]
    exact (Nat.le_div_iff_mul_le (Nat.pow_pos (by omega))).1 h2
  · rw [Nat.pow_add]
    exact (Nat.div_lt_iff_lt_mul (Nat.pow_pos (by omega))).1 h3

theorem ev_Len64 {Bd : Bodies} (h : H_bits_Len64 Bd) (n d : Nat) (h0 : 0 < d) (hd : d < 18446744073709551616) (st : St) : ∃ L : Nat, BLen d L ∧ L ≤ 64 ∧ run Bd (n + 1) 77 [.int .u64 d] st = some (.val [.int .i64 (L : Int)], st) := by
  rw [run_succ, h.eq]
  unfold b_bits_Len64
  -- the last step
  have fin : ∀ (x s : Nat), x = d / 2 ^ s → 0 < x → x < 256 → s ≤ 56 → ∃ L : Nat, BLen d L ∧ L ≤ 64 ∧
      (M.chk (inB (IntKind.wrap .u8 (x : Int)) str_2.length) (M.ret [.int .i64 (wr64 ((s : Int) + (wr64 (byteAt str_2 (IntKind.wrap .u8 (x : Int))))))]) : M (List DV)) st = some (.val [.int .i64 (L : Int)], st) := by
    intro x s hx h1 h2 hs
    obtain ⟨t, ht, t1, t2, t3, t4⟩ := len8 x h2 h1
    refine ⟨t + s, BLen.shift ⟨t1, by rw [← hx]; exact t3, by rw [← hx]; exact t4⟩, by omega, ?_⟩
    rw [IntWalk.u8_in _ (by omega), chk_of (inB_of (by rw [len_str2]; exact h2)), ht, wr64_of (x := (t : Int)) (by omega) (by omega), wr64_of (by omega) (by omega), ret_eq]
    congr 5
    omega
  simp only [J_i, D_nil, join_eq]
  by_cases a : d ≥ 4294967296
  · rw [decide_eq_true (show (d : Int) ≥ 4294967296 by omega), cond_true, fd32]
    try simp only [J_i, D_nil]
    by_cases b : d / 2 ^ 32 ≥ 65536
    · rw [decide_eq_true (show ((d / 2 ^ 32 : Nat) : Int) ≥ 65536 by omega), cond_true, fd16]
      try simp only [J_i, D_nil]
      by_cases c : d / 2 ^ 32 / 2 ^ 16 ≥ 256
      · rw [decide_eq_true (show ((d / 2 ^ 32 / 2 ^ 16 : Nat) : Int) ≥ 256 by omega), cond_true, fd8]
        try simp only [J_i, D_nil]
        exact fin _ 56 (by simp only [dd2]) (by omega) (by omega) (by omega)
      · rw [decide_eq_false (show ¬ ((d / 2 ^ 32 / 2 ^ 16 : Nat) : Int) ≥ 256 by omega), cond_false]
        try simp only [J_i, D_nil]
        exact fin _ 48 (by simp only [dd2]) (by omega) (by omega) (by omega)
    · rw [decide_eq_false (show ¬ ((d / 2 ^ 32 : Nat) : Int) ≥ 65536 by omega), cond_false]
      try simp only [J_i, D_nil]
      by_cases c : d / 2 ^ 32 ≥ 256
      · rw [decide_eq_true (show ((d / 2 ^ 32 : Nat) : Int) ≥ 256 by omega), cond_true, fd8]
        try simp only [J_i, D_nil]
        exact fin _ 40 (by simp only [dd2]) (by omega) (by omega) (by omega)
      · rw [decide_eq_false (show ¬ ((d / 2 ^ 32 : Nat) : Int) ≥ 256 by omega), cond_false]
        try simp only [J_i, D_nil]
        exact fin _ 32 rfl (by omega) (by omega) (by omega)
  · rw [decide_eq_false (show ¬ (d : Int) ≥ 4294967296 by omega), cond_false]
    try simp only [J_i, D_nil]
    by_cases b : d ≥ 65536
    · rw [decide_eq_true (show (d : Int) ≥ 65536 by omega), cond_true, fd16]
      try simp only [J_i, D_nil]
      by_cases c : d / 2 ^ 16 ≥ 256
      · rw [decide_eq_true (show ((d / 2 ^ 16 : Nat) : Int) ≥ 256 by omega), cond_true, fd8]
        try simp only [J_i, D_nil]
        exact fin _ 24 (by simp only [dd2]) (by omega) (by omega) (by omega)
      · rw [decide_eq_false (show ¬ ((d / 2 ^ 16 : Nat) : Int) ≥ 256 by omega), cond_false]
        try simp only [J_i, D_nil]
        exact fin _ 16 rfl (by omega) (by omega) (by omega)
    · rw [decide_eq_false (show ¬ (d : Int) ≥ 65536 by omega), cond_false]
      try simp only [J_i, D_nil]
      by_cases c : d ≥ 256
      · rw [decide_eq_true (show (d : Int) ≥ 256 by omega), cond_true, fd8]
        try simp only [J_i, D_nil]
        exact fin _ 8 rfl (by omega) (by omega) (by omega)
      · rw [decide_eq_false (show ¬ (d : Int) ≥ 256 by omega), cond_false]
        try simp only [J_i, D_nil]
        exact fin _ 0 (by simp) (by omega) (by omega) (by omega)

/-- So many decimal digits. -/
def DLen (d r : Nat) : Prop := 1 ≤ r ∧ r ≤ 20 ∧ d < 10 ^ r ∧ (10 ^ (r - 1) ≤ d ∨ r = 1)
theorem ev_numDigits {Bd : Bodies} (h : H_strconv_numDigits Bd) (n d : Nat) (h0 : 0 < d) (hd : d < 18446744073709551616) (st : St) (ht : Tabs st) : ∃ r : Nat, DLen d r ∧ run Bd (n + 2) 69 [.int .u64 d] st = some (.val [.int .i64 (r : Int)], st) := by
  obtain ⟨L, hL, h64, hrun⟩ := ev_Len64 h.bits_Len64 n d h0 hd st
  rw [run_succ, h.eq]
  unfold b_strconv_numDigits
  simp only [J_i, D_nil]
  rw [call_eq hrun]
  simp only [J_i, D_nil]
  have hk : run Bd (n + 1) 78 [.int .i64 (L : Int)] st = some (.val [.int .i64 ((L * 78913 / 2 ^ 18 : Nat) : Int)], st) := by
    rw [run_succ, h.strconv_log10Pow2.eq]
    unfold b_strconv_log10Pow2
    simp only [J_i, D_nil, ret_eq]
    rw [show (L : Int) * 78913 = ((L * 78913 : Nat) : Int) by omega, wr64_of (by omega) (by omega), fd18]
  rw [call_eq hk]
  simp only [J_i, D_nil]
  have facts : ∀ L, L ≤ 64 → 1 ≤ L → L * 78913 / 2 ^ 18 < 20 ∧ 2 ^ L ≤ 10 ^ (L * 78913 / 2 ^ 18 + 1) ∧ (1 ≤ L * 78913 / 2 ^ 18 → 10 ^ (L * 78913 / 2 ^ 18 - 1) ≤ 2 ^ (L - 1)) := by
    have : ∀ L, L < 65 → 1 ≤ L → L * 78913 / 2 ^ 18 < 20 ∧ 2 ^ L ≤ 10 ^ (L * 78913 / 2 ^ 18 + 1) ∧ (1 ≤ L * 78913 / 2 ^ 18 → 10 ^ (L * 78913 / 2 ^ 18 - 1) ≤ 2 ^ (L - 1)) := by decide +kernel
    exact fun L h1 h2 => this L (by omega) h2
  obtain ⟨f1, f2, f3⟩ := facts L h64 hL.1
  generalize L * 78913 / 2 ^ 18 = k at *
  have htab : tab1[k]? = some (.int .u64 ((10 ^ k : Nat) : Int)) := by
    have all : ∀ k, k < 20 → tab1[k]? = some (.int .u64 ((10 ^ k : Nat) : Int)) := by
      intro k hk
      match k, hk with
      | 0, _ => exact rfl
      | 1, _ => exact rfl
      | 2, _ => exact rfl
      | 3, _ => exact rfl
      | 4, _ => exact rfl
      | 5, _ => exact rfl
      | 6, _ => exact rfl
      | 7, _ => exact rfl
      | 8, _ => exact rfl
      | 9, _ => exact rfl
      | 10, _ => exact rfl
      | 11, _ => exact rfl
      | 12, _ => exact rfl
      | 13, _ => exact rfl
      | 14, _ => exact rfl
      | 15, _ => exact rfl
      | 16, _ => exact rfl
      | 17, _ => exact rfl
      | 18, _ => exact rfl
      | 19, _ => exact rfl
      | k + 20, h => exact absurd h (by omega)
    exact all k f1
  rw [chk_of (inB_of f1), Int.toNat_natCast, Nat.mul_one, Nat.add_zero, load1_eq (i := 1) (f := true) (all := tab1) (ht 1 _ rfl) htab]
  simp only [D_int]
  have hb : ∀ b : Bool, run Bd (n + 1) 85 [.bool b] st = some (.val [.int .i64 ((if b then 1 else 0 : Nat) : Int)], st) := by
    intro b
    rw [run_succ, h.internal_strconv_bool2_int.eq]
    unfold b_internal_strconv_bool2_int
    simp only [J_b, D_nil]
    cases b <;> rfl
  rw [call_eq (hb _)]
  simp only [J_i, D_nil, ret_eq]
  by_cases hge : 10 ^ k ≤ d
  · refine ⟨k + 1, ⟨by omega, by omega, Nat.lt_of_lt_of_le hL.2.2 f2, .inl hge⟩, ?_⟩
    rw [decide_eq_true (show (d : Int) ≥ ((10 ^ k : Nat) : Int) by omega), if_pos rfl, wr64_of (by omega) (by omega)]
    rfl
  · have hk1 : 1 ≤ k := by
      rcases Nat.eq_zero_or_pos k with h | h
      · subst h; simp at hge; omega
      · exact h
    refine ⟨k, ⟨hk1, by omega, by omega, .inl (Nat.le_trans (f3 hk1) hL.2.1)⟩, ?_⟩
    rw [decide_eq_false (show ¬ (d : Int) ≥ ((10 ^ k : Nat) : Int) by omega), if_neg (by simp), wr64_of (by omega) (by omega)]
    simp
end Go.Gv.F
