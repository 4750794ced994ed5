/- Numbers, read. -/
import Derived.Test.YtanmddhmkphilaaDoorGvPItoa
namespace Go.Gv.F

/-! ### The document's text of a number -/
theorem tmod_neg (a : Nat) : (-(a : Int)).tmod 10 = -((a % 10 : Nat) : Int) := by rw [Int.neg_tmod]; rfl
theorem tdiv_neg (a : Nat) : (-(a : Int)).tdiv 10 = -((a / 10 : Nat) : Int) := by rw [Int.neg_tdiv]; rfl
theorem tmod_pos (a : Nat) : ((a : Nat) : Int).tmod 10 = ((a % 10 : Nat) : Int) := rfl
theorem tdiv_pos (a : Nat) : ((a : Nat) : Int).tdiv 10 = ((a / 10 : Nat) : Int) := rfl
def sg (b : Bool) (a : Nat) : Int := if b then -(a : Int) else a
theorem sg_tmod (b : Bool) (a : Nat) : (sg b a).tmod 10 = sg b (a % 10) := by
  unfold sg; cases b
  · exact tmod_pos a
  · exact tmod_neg a
theorem sg_tdiv (b : Bool) (a : Nat) : (sg b a).tdiv 10 = sg b (a / 10) := by
  unfold sg; cases b
  · exact tdiv_pos a
  · exact tdiv_neg a
theorem sg_cases (b : Bool) (a : Nat) : sg b a = a ∨ sg b a = -(a : Int) := by
  unfold sg; cases b
  · exact .inl rfl
  · exact .inr rfl
theorem sg_abs (z : Int) : z = sg (decide (z < 0)) z.natAbs := by
  unfold sg
  by_cases h : z < 0
  · rw [decide_eq_true h, if_pos rfl]; omega
  · rw [decide_eq_false h, if_neg (by simp)]; omega

theorem pow20 : (18446744073709551616 : Nat) ≤ 10 ^ 20 := by decide
theorem ev_ref03_Show {Bd : Bodies} (h : H_ref03_Show Bd) (n : Nat) (z : Int) (hz : -9223372036854775808 ≤ z ∧ z ≤ 9223372036854775807) (hn : 40 ≤ n) (st : St) :
    Ok (fun o => ∃ s', o = (.val [.str (showI z)], s') ∧ Pre st s') (run Bd n 51 [.int .i64 z] st) := by
  obtain ⟨n, rfl⟩ : ∃ m, n = m + 3 := ⟨n - 3, by omega⟩
  rw [run_succ, h.eq]
  unfold b_ref03_Show
  simp only [J_i, D_nil]
  by_cases h0 : z = 0
  · subst h0
    have e : ((0 : Int) == 0) = true := rfl
    rw [e, cond_true, ret_eq]
    refine .mk ⟨st, ?_, .refl st⟩
    unfold showI
    rw [if_neg (by omega), show Int.natAbs 0 = 0 from rfl, decS, if_pos (by omega)]
    rfl
  · have e : (z == 0) = false := by rw [beq_eq_false_iff_ne]; exact h0
    rw [e, cond_false, join_eq]
    generalize hN : z.natAbs = N
    generalize hb : decide (z < 0) = b
    have hzb : z = sg b N := by rw [← hb, ← hN]; exact sg_abs z
    have hNlt : N < 18446744073709551616 := by omega
    refine loop_rule _ (fun q x s2 => ∃ k : Nat, x = [.str (padS k N), .int .i64 (sg b (N / 10 ^ k))] ∧ q + k = 20 ∧ (k = 0 ∨ 10 ^ (k - 1) ≤ N) ∧ Pre st s2)
      ?_ 20 (n + 2) _ _ ⟨0, by rw [Nat.pow_zero, Nat.div_one, ← hzb]; rfl, rfl, .inl rfl, .refl st⟩ (by omega)
    rintro q _ s2 ⟨k, rfl, hq, hk, hp⟩ rec hrec
    simp only [J_s, J_i, D_nil]
    by_cases hm : N / 10 ^ k = 0
    · have e2 : (!(sg b (N / 10 ^ k) == 0)) = false := by rw [hm]; cases b <;> rfl
      rw [e2, cond_false]
      have hlt : N < 10 ^ k := by
        rcases (Nat.div_eq_zero_iff).1 hm with h | h
        · exact absurd h (Nat.pos_iff_ne_zero.1 (Nat.pow_pos (by omega)))
        · exact h
      have hN0 : 0 < N := by omega
      have hk1 : 1 ≤ k := by
        rcases Nat.eq_zero_or_pos k with h | h
        · subst h; simp at hlt; omega
        · exact h
      have hpd : padS k N = decS N := by
        obtain ⟨j, rfl⟩ : ∃ j, k = j + 1 := ⟨k - 1, by omega⟩
        exact padS_dec j N hlt (.inl (by rcases hk with h | h; omega; simpa using h))
      have hlen : (padS k N).length = k := padS_len k N
      rw [show showI z = if z < 0 then 45 :: decS N else decS N by unfold showI; rw [hN], ← hpd]
      by_cases hneg : z < 0
      · rw [show b = true by rw [← hb]; exact decide_eq_true hneg, cond_true, chk_of (Nat.ble_eq_true_of_le (by rw [hlen]; show 1 + k ≤ _; omega)), ret_eq, if_pos hneg]
        exact .mk ⟨s2, rfl, hp⟩
      · rw [show b = false by rw [← hb]; exact decide_eq_false hneg, cond_false, ret_eq, if_neg hneg]
        exact .mk ⟨s2, rfl, hp⟩
    · have e2 : (!(sg b (N / 10 ^ k) == 0)) = true := by
        have : sg b (N / 10 ^ k) ≠ 0 := by rcases sg_cases b (N / 10 ^ k) with h | h <;> (rw [h]; omega)
        simp [this]
      rw [e2, cond_true, join_eq]
      have hge : 10 ^ k ≤ N := by
        rcases Nat.lt_or_ge N (10 ^ k) with h | h
        · exact absurd (Nat.div_eq_of_lt h) hm
        · exact h
      have hk20 : k < 20 := by
        rcases Nat.lt_or_ge k 20 with h | h
        · exact h
        · have := Nat.pow_le_pow_right (n := 10) (by omega) h
          have := pow20
          omega
      have hu : N / 10 ^ k ≤ N := Nat.div_le_self _ _
      have hnext : N / 10 ^ k / 10 = N / 10 ^ (k + 1) := by rw [Nat.div_div_eq_div_mul, ← Nat.pow_succ]
      generalize hu2 : N / 10 ^ k = u at *
      have hbnd : sg b (u / 10) ≤ 9223372036854775807 ∧ -9223372036854775808 ≤ sg b (u / 10) := by rcases sg_cases b (u / 10) with h | h <;> (rw [h]; omega)
      have hd : u % 10 < 10 := Nat.mod_lt _ (by omega)
      have goOn : ∀ d : Nat, d = u % 10 → Ok (fun o => ∃ s', o = (.val [.str (showI z)], s') ∧ Pre st s')
          ((M.new [.int .u8 (IntKind.wrap .u8 (wr64 (48 + (d : Int))))] fun i => M.load i 0 1 fun cs => D.oct cs fun l => M.chk (Nat.ble (l.length + (padS k N).length) 4611686018427387904) (rec [.str (l ++ padS k N), .int .i64 (wr64 ((sg b u).tdiv 10))])) s2) := by
        rintro d rfl
        have w : IntKind.wrap .u8 (wr64 (48 + ((u % 10 : Nat) : Int))) = ((UInt8.ofNat (48 + u % 10)).toNat : Int) := by
          rw [wr64_of (by omega) (by omega), IntWalk.u8_in _ (by omega)]
          simp
          omega
        rw [w, new_eq, load_new (by simp)]
        show Ok _ ((D.oct (byteCells [UInt8.ofNat (48 + u % 10)]) _) _)
        rw [D_oct, chk_of (Nat.ble_eq_true_of_le (by rw [padS_len]; show 1 + k ≤ _; omega)), sg_tdiv, wr64_of (by omega) (by omega), hnext]
        exact hrec (q - 1) _ _ (by omega) ⟨k + 1, by show _ = [DV.str (UInt8.ofNat (48 + N / 10 ^ k % 10) :: padS k N), _]; rw [hu2]; rfl, by omega, .inr (by simpa using hge), hp.trans (.new _ _)⟩
      rw [sg_tmod]
      by_cases hneg : sg b (u % 10) < 0
      · rw [decide_eq_true hneg, cond_true]
        simp only [J_i, D_nil]
        have e3 : wr64 (0 - sg b (u % 10)) = ((u % 10 : Nat) : Int) := by
          rcases sg_cases b (u % 10) with h | h
          · rw [h] at hneg; omega
          · rw [h, wr64_of (by omega) (by omega)]; omega
        rw [e3]
        exact goOn _ rfl
      · rw [decide_eq_false hneg, cond_false]
        simp only [J_i, D_nil]
        have e3 : sg b (u % 10) = ((u % 10 : Nat) : Int) := by
          rcases sg_cases b (u % 10) with h | h
          · exact h
          · rw [h] at hneg ⊢; omega
        rw [e3]
        exact goOn _ rfl

/-! ### The reader -/
/-- One more rune. -/
def takesF (x : Int) (dg : Nat) (mi : Bool) (r : Nat) : Option (Int × Nat × Bool) :=
  if r = 45 ∧ dg = 0 ∧ mi = false then some (x, dg, true)
  else if r < 48 ∨ 57 < r ∨ (0 < dg ∧ x = 0) then none
  else if 10 * x - ((r : Int) - 48) < -9223372036854775808 then none
  else some (10 * x - ((r : Int) - 48), dg + 1, mi)

def rdCells (x : Int) (dg : Nat) (mi : Bool) : Option Blk := some ⟨false, [.int .i64 x, .int .i64 (dg : Int), .bool mi]⟩
section
variable {β : Type} (st : St) (x : Int) (dg : Nat) (mi : Bool)
theorem ld0 (K : DV → M β) : M.load1 st.length 0 K (st ++ [rdCells x dg mi]) = K (.int .i64 x) (st ++ [rdCells x dg mi]) := load1_eq (f := false) (all := [.int .i64 x, .int .i64 (dg : Int), .bool mi]) (by simp [rdCells]) rfl K
theorem ld1 (K : DV → M β) : M.load1 st.length (0 + 1) K (st ++ [rdCells x dg mi]) = K (.int .i64 (dg : Int)) (st ++ [rdCells x dg mi]) := load1_eq (f := false) (all := [.int .i64 x, .int .i64 (dg : Int), .bool mi]) (by simp [rdCells]) rfl K
theorem ld2 (K : DV → M β) : M.load1 st.length (0 + 2) K (st ++ [rdCells x dg mi]) = K (.bool mi) (st ++ [rdCells x dg mi]) := load1_eq (f := false) (all := [.int .i64 x, .int .i64 (dg : Int), .bool mi]) (by simp [rdCells]) rfl K
theorem sv0 (y : Int) (K : M β) : M.store st.length 0 [.int .i64 y] K (st ++ [rdCells x dg mi]) = K (st ++ [rdCells y dg mi]) := store_new _ (by simp) K
theorem sv1 (y : Int) (e : Nat) (h : y = (e : Int)) (K : M β) : M.store st.length (0 + 1) [.int .i64 y] K (st ++ [rdCells x dg mi]) = K (st ++ [rdCells x e mi]) := by subst h; exact store_new _ (by simp) K
theorem sv2 (b : Bool) (K : M β) : M.store st.length (0 + 2) [.bool b] K (st ++ [rdCells x dg mi]) = K (st ++ [rdCells x dg b]) := store_new _ (by simp) K
end

theorem ev_takes {Bd : Bodies} (h : H_digit_reader_takes Bd) (n : Nat) (x : Int) (dg : Nat) (mi : Bool) (r : Nat) (hx : -9223372036854775808 ≤ x ∧ x ≤ 0) (hdg : dg < 1000000) (hr : r < 2097152) (st : St) :
    run Bd (n + 1) 62 [.ptr (some (st.length, 0)), .int .i32 r] (st ++ [rdCells x dg mi]) = match takesF x dg mi r with
      | some (y, e, m) => some (.val [.bool true], st ++ [rdCells y e m])
      | none => some (.val [.bool false], st ++ [rdCells x dg mi]) := by
  rw [run_succ, h.eq]
  unfold b_digit_reader_takes
  simp only [J_p, J_i, D_nil, nn_some', join_eq]
  by_cases h45 : r = 45
  · subst h45
    have e : (((45 : Nat) : Int) == 45) = true := rfl
    have e48 : decide (((45 : Nat) : Int) < 48) = true := by decide
    simp only [e, cond_true, ld1, D_int, J_b, D_nil]
    by_cases hd0 : dg = 0
    · subst hd0
      have e0 : (((0 : Nat) : Int) == 0) = true := rfl
      simp only [e0, cond_true, ld2, D_bool]
      cases mi
      · simp only [Bool.not_false, cond_true, sv2, ret_eq]
        rfl
      · simp only [Bool.not_true, cond_false, e48, cond_true, ret_eq]
        rfl
    · have e0 : ((dg : Int) == 0) = false := by rw [beq_eq_false_iff_ne]; omega
      simp only [e0, cond_false, e48, cond_true, ret_eq]
      have : takesF x dg mi 45 = none := by unfold takesF; rw [if_neg (by omega), if_pos (by omega)]
      rw [this]
  · have e : ((r : Int) == 45) = false := by rw [beq_eq_false_iff_ne]; omega
    simp only [e, cond_false, J_b, D_nil]
    have t1 : ∀ P : Prop, [Decidable P] → (r < 48 ∨ 57 < r ∨ (0 < dg ∧ x = 0) ↔ P) → takesF x dg mi r = if P then none else if 10 * x - ((r : Int) - 48) < -9223372036854775808 then none else some (10 * x - ((r : Int) - 48), dg + 1, mi) := by
      intro P _ hP
      unfold takesF
      rw [if_neg (by omega)]
      by_cases h : P
      · rw [if_pos h, if_pos (hP.2 h)]
      · rw [if_neg h, if_neg (fun h' => h (hP.1 h'))]
    by_cases h48 : r < 48
    · have e1 : decide ((r : Int) < 48) = true := decide_eq_true (by omega)
      simp only [e1, cond_true, ret_eq]
      rw [t1 True (by simp [h48]), if_pos trivial]
    · have e1 : decide ((r : Int) < 48) = false := decide_eq_false (by omega)
      simp only [e1, cond_false]
      by_cases h57 : 57 < r
      · have e2 : decide ((r : Int) > 57) = true := decide_eq_true (by omega)
        simp only [e2, cond_true, ret_eq]
        rw [t1 True (by simp [h57]), if_pos trivial]
      · have e2 : decide ((r : Int) > 57) = false := decide_eq_false (by omega)
        simp only [e2, cond_false, ld1, D_int]
        -- is there a nought ahead?
        have hT : ∀ c : Int, c = (r : Int) - 48 → (x < wr64 ((wr64 ((-9223372036854775808) + c)).tdiv 10) ↔ 10 * x - c < -9223372036854775808) := by
          intro c hc
          rw [wr64_of (x := -9223372036854775808 + c) (by omega) (by omega)]
          have hc9 : c = 0 ∨ c = 1 ∨ c = 2 ∨ c = 3 ∨ c = 4 ∨ c = 5 ∨ c = 6 ∨ c = 7 ∨ c = 8 ∨ c = 9 := by omega
          have v : ∀ c' y : Int, c = c' → wr64 ((-9223372036854775808 + c').tdiv 10) = y → wr64 ((-9223372036854775808 + c).tdiv 10) = y := fun c' y e1 e2 => by rw [e1]; exact e2
          rcases hc9 with h | h | h | h | h | h | h | h | h | h
          all_goals first
            | (rw [v _ (-922337203685477580) h (by decide)]; omega)
            | (rw [v _ (-922337203685477579) h (by decide)]; omega)
        have hw : wr64 (IntKind.wrap .i32 ((r : Int) - 48)) = (r : Int) - 48 := by
          have : IntKind.wrap .i32 ((r : Int) - 48) = (r : Int) - 48 := by
            have e : ∀ y : Int, 0 ≤ y → y < 10 → IntKind.wrap .i32 y = y := by
              intro y h1 h2
              rcases (show y = 0 ∨ y = 1 ∨ y = 2 ∨ y = 3 ∨ y = 4 ∨ y = 5 ∨ y = 6 ∨ y = 7 ∨ y = 8 ∨ y = 9 by omega) with rfl | rfl | rfl | rfl | rfl | rfl | rfl | rfl | rfl | rfl <;> decide
            exact e _ (by omega) (by omega)
          rw [this, wr64_of (by omega) (by omega)]
        have last : ¬ (0 < dg ∧ x = 0) → (match takesF x dg mi r with
            | some (y, e, m) => (some (.val [.bool true], st ++ [rdCells y e m]) : Option (Out (List DV) × St))
            | none => some (.val [.bool false], st ++ [rdCells x dg mi])) = (M.load1 st.length 0 fun d => D.int .i64 d fun x1 => bif decide (x1 < wr64 ((wr64 ((-9223372036854775808) + (wr64 (IntKind.wrap .i32 ((r : Int) - 48))))).tdiv 10)) then M.ret [.bool false] else
              M.load1 st.length 0 fun d1 => D.int .i64 d1 fun x2 => M.store st.length 0 [.int .i64 (wr64 ((wr64 (10 * x2)) - (wr64 (IntKind.wrap .i32 ((r : Int) - 48)))))] <| M.load1 st.length (0 + 1) fun d2 => D.int .i64 d2 fun x3 =>
                M.store st.length (0 + 1) [.int .i64 (wr64 (x3 + 1))] <| M.ret [.bool true]) (st ++ [rdCells x dg mi]) := by
          intro hno
          rw [t1 False (by simp only [iff_false]; omega), if_neg (fun h => h), ld0]
          simp only [D_int, hw]
          by_cases hlt : 10 * x - ((r : Int) - 48) < -9223372036854775808
          · rw [if_pos hlt, decide_eq_true ((hT _ rfl).2 hlt), cond_true, ret_eq]
          · rw [if_neg hlt, decide_eq_false (fun h => hlt ((hT _ rfl).1 h)), cond_false, ld0]
            simp only [D_int]
            rw [wr64_of (x := 10 * x) (by omega) (by omega), wr64_of (x := 10 * x - ((r : Int) - 48)) (by omega) (by omega), sv0, ld1]
            simp only [D_int]
            rw [sv1 (e := dg + 1) (h := by rw [wr64_of (by omega) (by omega)]; omega), ret_eq]
        by_cases hd : 0 < dg
        · have e3 : decide ((dg : Int) > 0) = true := decide_eq_true (by omega)
          simp only [e3, cond_true, ld0, D_int]
          by_cases hx0 : x = 0
          · have e4 : (x == 0) = true := by rw [hx0]; rfl
            simp only [e4, cond_true, ret_eq]
            rw [t1 True (by simp [hd, hx0]), if_pos trivial]
          · have e4 : (x == 0) = false := by rw [beq_eq_false_iff_ne]; exact hx0
            simp only [e4, cond_false]
            rw [last (by omega), ld0]
        · have e3 : decide ((dg : Int) > 0) = false := decide_eq_false (by omega)
          simp only [e3, cond_false]
          rw [last (by omega)]

/-- What was read. -/
def numberF (x : Int) (dg : Nat) (mi : Bool) : Option Int :=
  if dg = 0 ∨ (mi = true ∧ x = 0) ∨ (mi = false ∧ x = -9223372036854775808) then none else if mi then some x else some (-x)
def outR : Option Int → List DV
  | some z => [.int .i64 z, .bool true]
  | none => [.int .i64 0, .bool false]

theorem ev_number {Bd : Bodies} (h : H_digit_reader_number Bd) (n : Nat) (x : Int) (dg : Nat) (mi : Bool) (hx : -9223372036854775808 ≤ x ∧ x ≤ 0) (st : St) :
    run Bd (n + 1) 61 [.ptr (some (st.length, 0))] (st ++ [rdCells x dg mi]) = some (.val (outR (numberF x dg mi)), st ++ [rdCells x dg mi]) := by
  rw [run_succ, h.eq]
  unfold b_digit_reader_number
  simp only [J_p, D_nil, nn_some', join_eq, ld1, D_int]
  by_cases h0 : dg = 0
  · have e : ((dg : Int) == 0) = true := by rw [h0]; rfl
    simp only [e, cond_true, J_b, D_nil, ret_eq]
    unfold numberF
    rw [if_pos (.inl h0)]
    rfl
  · have e : ((dg : Int) == 0) = false := by rw [beq_eq_false_iff_ne]; omega
    simp only [e, cond_false, ld2, D_bool]
    cases mi with
    | true =>
      simp only [cond_true, ld0, D_int, J_b, D_nil]
      by_cases hx0 : x = 0
      · have e2 : (x == 0) = true := by rw [hx0]; rfl
        simp only [e2, cond_true, ret_eq]
        unfold numberF
        rw [if_pos (.inr (.inl ⟨rfl, hx0⟩))]
        rfl
      · have e2 : (x == 0) = false := by rw [beq_eq_false_iff_ne]; exact hx0
        simp only [e2, cond_false, ld2, D_bool, Bool.not_true, cond_true, ld0, D_int, ret_eq]
        unfold numberF
        rw [if_neg (by simp [h0, hx0]), if_pos rfl]
        rfl
    | false =>
      simp only [cond_false, J_b, D_nil, ld2, D_bool, Bool.not_false, cond_true, ld0, D_int]
      by_cases hm : x = -9223372036854775808
      · have e2 : (x == -9223372036854775808) = true := by rw [hm]; rfl
        simp only [e2, cond_true, ret_eq]
        unfold numberF
        rw [if_pos (.inr (.inr ⟨rfl, hm⟩))]
        rfl
      · have e2 : (x == -9223372036854775808) = false := by rw [beq_eq_false_iff_ne]; exact hm
        simp only [e2, cond_false, ld2, D_bool, ld0, D_int, ret_eq]
        unfold numberF
        rw [if_neg (by simp [h0, hm]), if_neg (by simp), wr64_of (by omega) (by omega)]
        have : 0 - x = -x := by omega
        rw [this]
        rfl

def rdF : List Nat → Int → Nat → Bool → Option Int
  | [], x, dg, mi => numberF x dg mi
  | r :: l, x, dg, mi => match takesF x dg mi r with
    | some (y, e, m) => rdF l y e m
    | none => none
/-- The number of a text. -/
def readF (s : List UInt8) : Option Int := rdF (rns s) 0 0 false

theorem takes_range {x : Int} {dg : Nat} {mi : Bool} {r : Nat} {y : Int} {e : Nat} {m : Bool} (h : takesF x dg mi r = some (y, e, m)) (hx : -9223372036854775808 ≤ x ∧ x ≤ 0) : (-9223372036854775808 ≤ y ∧ y ≤ 0) ∧ e ≤ dg + 1 := by
  unfold takesF at h
  split at h
  · cases h; exact ⟨hx, by omega⟩
  · split at h
    · cases h
    · split at h
      · cases h
      · cases h; exact ⟨by omega, by omega⟩

theorem ev_digit_Read {Bd : Bodies} (h : H_digit_Read Bd) (n : Nat) (s : List UInt8) (hn : s.length + 4 ≤ n) (hs : s.length < 100000) (st : St) :
    Ok (fun o => ∃ s', o = (.val (outR (readF s)), s') ∧ Pre st s') (run Bd n 50 [.str s] st) := by
  obtain ⟨n, rfl⟩ : ∃ m, n = m + 2 := ⟨n - 2, by omega⟩
  rw [run_succ, h.eq]
  unfold b_digit_Read
  simp only [J_s, D_nil, new_eq, join_eq]
  refine loop_rule _ (fun k q s2 => ∃ (p : Nat) (x : Int) (dg : Nat) (mi : Bool), q = [.nat p] ∧ p ≤ s.length ∧ s.length - p ≤ k ∧ s2 = st ++ [rdCells x dg mi] ∧ (-9223372036854775808 ≤ x ∧ x ≤ 0) ∧ dg ≤ p ∧ readF s = rdF (rns (s.drop p)) x dg mi)
    ?_ s.length (n + 1) _ _ ⟨0, 0, 0, false, rfl, Nat.zero_le _, by omega, rfl, by omega, Nat.le_refl _, by rw [List.drop_zero]; rfl⟩ (by omega)
  rintro k _ s2 ⟨p, x, dg, mi, rfl, hp, hk, rfl, hx, hdg, hr⟩ rec hrec
  simp only [J_n, D_nil]
  by_cases hlt : p < s.length
  · have hblt : Nat.blt p s.length = true := by rw [Nat.blt_eq]; exact hlt
    have hw := dec_pos s p
    have hle := dec_le s p hlt
    rw [hblt, cond_true]
    have ht := ev_takes h.digit_reader_takes n x dg mi (dec s p).1 hx (by omega) (dec_lt s p) st
    rw [rns_at hlt] at hr
    simp only [rdF] at hr
    unfold runeAt runeW
    cases htk : takesF x dg mi (dec s p).1 with
    | none =>
      rw [htk] at ht hr
      simp only at ht hr
      rw [call_eq ht]
      simp only [J_b, D_nil, Bool.not_false, cond_true, ret_eq]
      rw [hr]
      exact .mk ⟨_, rfl, .new _ _⟩
    | some z =>
      obtain ⟨y, e, m⟩ := z
      rw [htk] at ht hr
      simp only at ht hr
      obtain ⟨h1, h2⟩ := takes_range htk hx
      rw [call_eq ht]
      simp only [J_b, D_nil, Bool.not_true, cond_false]
      exact hrec (s.length - (p + (dec s p).2)) _ _ (by omega) ⟨p + (dec s p).2, y, e, m, rfl, hle, by omega, rfl, h1, by omega, hr⟩
  · have e : Nat.blt p s.length = false := by rw [Bool.eq_false_iff]; intro h; rw [Nat.blt_eq] at h; exact hlt h
    rw [e, cond_false]
    rw [List.drop_of_length_le (by omega), rns_nil] at hr
    simp only [rdF] at hr
    rw [call_eq (ev_number h.digit_reader_number n x dg mi hx st), hr]
    cases numberF x dg mi with
    | none => exact .mk ⟨_, rfl, .new _ _⟩
    | some z => exact .mk ⟨_, rfl, .new _ _⟩
end Go.Gv.F
