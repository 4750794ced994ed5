/- Itoa. -/
import Derived.Test.YtanmddhmkphilaaDoorGvPDec
namespace Go.Gv.F

/-- A number's text. -/
def showI (z : Int) : List UInt8 := if z < 0 then 45 :: decS z.natAbs else decS z.natAbs

theorem dec_pad {d r : Nat} (h : DLen d r) : padS r d = decS d := by
  obtain ⟨h1, h2, h3, h4⟩ := h
  obtain ⟨k, rfl⟩ : ∃ k, r = k + 1 := ⟨r - 1, by omega⟩
  exact padS_dec k d h3 (by rcases h4 with h | h; exact .inl (by simpa using h); exact .inr (by omega))

theorem len_str0 : str_0.length = 200 := by decide +kernel
theorem ev_small {Bd : Bodies} (h : H_strconv_small Bd) (n i : Nat) (hi : i < 100) (st : St) : run Bd (n + 1) 68 [.int .i64 i] st = some (.val [.str (decS i)], st) := by
  rw [run_succ, h.eq]
  unfold b_strconv_small
  simp only [J_i, D_nil]
  have w1 : wr64 ((i : Int) + 1) = ((i + 1 : Nat) : Int) := by rw [wr64_of (by omega) (by omega)]; rfl
  have w2 : wr64 ((i : Int) * 2) = ((i * 2 : Nat) : Int) := by rw [wr64_of (by omega) (by omega)]; omega
  have w3 : wr64 (((i * 2 : Nat) : Int) + 2) = ((i * 2 + 2 : Nat) : Int) := by rw [wr64_of (by omega) (by omega)]; omega
  by_cases h10 : i < 10
  · rw [decide_eq_true (show (i : Int) < 10 by omega), cond_true, w1, Int.toNat_natCast, Int.toNat_natCast]
    rw [chk_of (by simp only [Bool.and_eq_true, decide_eq_true_eq]; exact ⟨by omega, by show ((i + 1 : Nat) : Int) ≤ 36; omega⟩), chk_of (by simp only [Bool.and_eq_true, decide_eq_true_eq]; omega), ret_eq]
    have all : ∀ i, i < 10 → ((bs [48, 49, 50, 51, 52, 53, 54, 55, 56, 57, 97, 98, 99, 100, 101, 102, 103, 104, 105, 106, 107, 108, 109, 110, 111, 112, 113, 114, 115, 116, 117, 118, 119, 120, 121, 122]).take (i + 1)).drop i = padS 1 i := by decide +kernel
    rw [all i h10, padS_dec 0 i (by simpa using h10) (.inr rfl)]
  · rw [decide_eq_false (show ¬ (i : Int) < 10 by omega), cond_false, w2, w3, len_str0, Int.toNat_natCast, Int.toNat_natCast]
    rw [chk_of (by simp only [Bool.and_eq_true, decide_eq_true_eq]; omega), chk_of (by simp only [Bool.and_eq_true, decide_eq_true_eq]; omega), ret_eq]
    have all : ∀ i, i < 100 → 10 ≤ i → (str_0.take (i * 2 + 2)).drop (i * 2) = padS 2 i := by decide +kernel
    rw [all i hi (by omega), padS_dec 1 i (by omega) (.inl (by omega))]

theorem decS_len {d r : Nat} (h : DLen d r) : (decS d).length = r := by rw [← dec_pad h, padS_len]

theorem ev_FormatInt10 {Bd : Bodies} (h : H_strconv_FormatInt_ Bd) (n : Nat) (z : Int) (hz : -9223372036854775808 ≤ z ∧ z ≤ 9223372036854775807) (hn : 60 ≤ n) (st : St) (ht : Tabs st) :
    Ok (fun o => ∃ s', o = (.val [.str (showI z)], s') ∧ Pre st s') (run Bd n 63 [.int .i64 z, .int .i64 10] st) := by
  obtain ⟨n, rfl⟩ : ∃ m, n = m + 3 := ⟨n - 3, by omega⟩
  rw [run_succ, h.eq]
  unfold b_strconv_FormatInt_
  simp only [J_i, D_nil]
  have e10 : ((10 : Int) == 10) = true := rfl
  rw [e10, cond_true, join_bool]
  simp only [J_b, D_nil]
  by_cases hs : 0 ≤ z ∧ z < 100
  · have e : (bif decide ((0 : Int) ≤ z) then decide (z < 100) else false) = true := by rw [Bool.cond_false_right, Bool.and_eq_true, decide_eq_true_eq, decide_eq_true_eq]; exact hs
    obtain ⟨i, rfl⟩ : ∃ i : Nat, z = i := ⟨z.toNat, by omega⟩
    rw [e, cond_true, call_eq (ev_small h.strconv_small (n + 1) i (by omega) st)]
    simp only [J_s, D_nil, ret_eq]
    refine .mk ⟨st, ?_, .refl st⟩
    unfold showI
    rw [if_neg (by omega), Int.natAbs_natCast]
  · have e : (bif decide ((0 : Int) ≤ z) then decide (z < 100) else false) = false := by rw [Bool.cond_false_right, Bool.and_eq_false_iff, decide_eq_false_iff_not, decide_eq_false_iff_not]; omega
    rw [e, cond_false, new_eq, join_eq]
    simp only [J_i, D_nil]
    have hpos : 0 < z.natAbs := by omega
    have hu : z.natAbs < 18446744073709551616 := by omega
    obtain ⟨r, hr, hrun⟩ := ev_numDigits h.strconv_numDigits n z.natAbs hpos hu (st ++ [some ⟨false, List.replicate 24 (.int .u8 0)⟩]) (ht.mono (.new _ _))
    have hr' := hr
    obtain ⟨r1, r2, r3, _⟩ := hr'
    have w1 : wr64 (1 + (r : Int)) = ((r + 1 : Nat) : Int) := by rw [wr64_of (by omega) (by omega)]; omega
    have key : Ok (fun o => ∃ s', o = (.val [.str (showI z)], s') ∧ Pre st s') ((M.call (β := List DV) (run Bd (n + 2) 69 [.int .u64 (z.natAbs : Int)]) fun ds =>
          J.i .i64 ds fun x1 ds =>
          D.nil ds <|
          M.load st.length 0 24 fun _ =>
          M.chk (decide (0 ≤ wr64 (1 + x1)) && decide (wr64 (1 + x1) ≤ 24)) <|
          M.chk (decide ((1 : Int) ≤ (((wr64 (1 + x1)).toNat : Nat) : Int))) <|
          M.call (run Bd (n + 2) 70 [.slice 1 (some (st.length, 1)) (((wr64 (1 + x1)).toNat) - 1), .int .u64 (z.natAbs : Int)]) fun ds =>
          D.nil ds <|
          bif decide (z < 0) then
            M.store st.length 0 [.int .u8 45] <|
            M.load st.length 0 24 fun _ =>
            M.chk (decide (0 ≤ wr64 (1 + x1)) && decide (wr64 (1 + x1) ≤ 24)) <|
            M.load st.length 0 ((wr64 (1 + x1)).toNat) fun cs =>
            D.oct cs fun l =>
            M.ret [.str l]
          else
            M.load st.length 0 24 fun _ =>
            M.chk (decide (0 ≤ wr64 (1 + x1)) && decide (wr64 (1 + x1) ≤ 24)) <|
            M.chk (decide ((1 : Int) ≤ (((wr64 (1 + x1)).toNat : Nat) : Int))) <|
            M.load st.length 1 (((wr64 (1 + x1)).toNat) - 1) fun cs1 =>
            D.oct cs1 fun l1 =>
            M.ret [.str l1]) (st ++ [some ⟨false, List.replicate 24 (.int .u8 0)⟩])) := by
      rw [call_eq hrun]
      simp only [J_i, D_nil, w1, Int.toNat_natCast, Nat.add_sub_cancel]
      have c1 : (decide ((0 : Int) ≤ ((r + 1 : Nat) : Int)) && decide (((r + 1 : Nat) : Int) ≤ 24)) = true := by simp only [Bool.and_eq_true, decide_eq_true_eq]; omega
      have c2 : decide ((1 : Int) ≤ ((r + 1 : Nat) : Int)) = true := decide_eq_true (by omega)
      simp only [c1, c2, chk_true]
      rw [load_new (by simp)]
      refine Ok.call (ev_formatBase10 h.strconv_formatBase10 (n + 2) z.natAbs r 1 hu (by omega) ⟨r1, by omega⟩ r3 (List.replicate 24 (.int .u8 0)) (by simp; omega) st) ?_
      rintro _ ⟨cs, rfl, hl, hc⟩
      refine ⟨_, _, rfl, ?_⟩
      have hl : cs.length = 24 := by simpa using hl
      simp only [D_nil]
      rw [dec_pad hr] at hc
      by_cases hneg : z < 0
      · rw [decide_eq_true hneg, cond_true, store_new _ (by omega), load_new (by simp; omega), load_new (by simp; omega)]
        have e2 : ((cs.set 0 (.int .u8 45)).drop 0).take (r + 1) = byteCells (45 :: decS z.natAbs) := by
          match cs, hl, hc with
          | c :: cs, hl, hc =>
            simp only [List.drop_succ_cons, List.drop_zero] at hc
            simp only [List.set_cons_zero, List.drop_zero, List.take_succ_cons, hc]
            rfl
        rw [e2, D_oct, ret_eq]
        rw [show showI z = 45 :: decS z.natAbs by unfold showI; rw [if_pos hneg]]
        exact .mk ⟨_, rfl, .new _ _⟩
      · rw [decide_eq_false hneg, cond_false, load_new (by omega), load_new (by omega), hc, D_oct, ret_eq]
        rw [show showI z = decS z.natAbs by unfold showI; rw [if_neg hneg]]
        exact .mk ⟨_, rfl, .new _ _⟩
    by_cases hneg : z < 0
    · rw [decide_eq_true hneg] at key ⊢
      rw [cond_true]
      have wu : IntKind.wrap .u64 (0 - IntKind.wrap .u64 z) = (z.natAbs : Int) := by
        have e : ∀ x : Int, IntKind.wrap .u64 x = x % 18446744073709551616 := by intro x; simp [IntKind.wrap, IntKind.bits, IntKind.signed]
        rw [e, e]
        omega
      rw [wu]
      exact key
    · rw [decide_eq_false hneg] at key ⊢
      rw [cond_false]
      have wu : IntKind.wrap .u64 z = (z.natAbs : Int) := by rw [IntWalk.u64_in _ (by omega)]; omega
      rw [wu]
      exact key

theorem ev_digit_Show {Bd : Bodies} (h : H_digit_Show Bd) (n : Nat) (z : Int) (hz : -9223372036854775808 ≤ z ∧ z ≤ 9223372036854775807) (hn : 70 ≤ n) (st : St) (ht : Tabs st) :
    Ok (fun o => ∃ s', o = (.val [.str (showI z)], s') ∧ Pre st s') (run Bd n 49 [.int .i64 z] st) := by
  obtain ⟨n, rfl⟩ : ∃ m, n = m + 3 := ⟨n - 3, by omega⟩
  rw [run_succ, h.eq]
  unfold b_digit_Show
  simp only [J_i, D_nil]
  have h2 : Ok (fun o => ∃ s', o = (.val [.str (showI z)], s') ∧ Pre st s') (run Bd (n + 2) 60 [.int .i64 z] st) := by
    rw [run_succ, h.strconv_Itoa.eq]
    unfold b_strconv_Itoa
    simp only [J_i, D_nil]
    have h3 : Ok (fun o => ∃ s', o = (.val [.str (showI z)], s') ∧ Pre st s') (run Bd (n + 1) 67 [.int .i64 z] st) := by
      rw [run_succ, h.strconv_Itoa.strconv_Itoa_.eq]
      unfold b_strconv_Itoa_
      simp only [J_i, D_nil]
      refine Ok.call (ev_FormatInt10 h.strconv_Itoa.strconv_Itoa_.strconv_FormatInt_ n z hz (by omega) st ht) ?_
      rintro _ ⟨s1, rfl, hp⟩
      refine ⟨_, s1, rfl, ?_⟩
      simp only [J_s, D_nil, ret_eq]
      exact .mk ⟨s1, rfl, hp⟩
    refine Ok.call h3 ?_
    rintro _ ⟨s1, rfl, hp⟩
    refine ⟨_, s1, rfl, ?_⟩
    simp only [J_s, D_nil, ret_eq]
    exact .mk ⟨s1, rfl, hp⟩
  refine Ok.call h2 ?_
  rintro _ ⟨s1, rfl, hp⟩
  refine ⟨_, s1, rfl, ?_⟩
  simp only [J_s, D_nil, ret_eq]
  exact .mk ⟨s1, rfl, hp⟩
end Go.Gv.F
