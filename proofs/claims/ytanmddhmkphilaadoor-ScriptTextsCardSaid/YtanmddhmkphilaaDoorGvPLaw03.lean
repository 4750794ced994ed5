/- The laws of numbers. -/
import Derived.Test.YtanmddhmkphilaaDoorGvPRead
import Derived.Lib.IndexLaws
namespace Go.Gv.F

theorem ev_IndexByte {Bd : Bodies} (h : H_stringslite_IndexByte Bd) (n : Nat) (s : List UInt8) (st : St) : run Bd (n + 2) 88 [.str s, .int .u8 46] st = some (.val [.int .i64 (Lib.indexByte s 46)], st) := by
  have e : run Bd (n + 1) 89 [.str s, .int .u8 46] st = some (.val [.int .i64 (Lib.indexByte s 46)], st) := by
    rw [run_succ, h.bytealg_IndexByteString.eq]
    rfl
  rw [run_succ, h.eq]
  unfold b_stringslite_IndexByte
  simp only [J_s, J_i, D_nil]
  rw [call_eq e]
  simp only [J_i, D_nil, ret_eq]
theorem ev_Index {Bd : Bodies} (h : H_stringslite_Index Bd) (n : Nat) (s : List UInt8) (st : St) : run Bd (n + 3) 84 [.str s, .str [46]] st = some (.val [.int .i64 (Lib.indexByte s 46)], st) := by
  rw [run_succ, h.eq]
  unfold b_stringslite_Index
  have e0 : ((([46] : List UInt8).length : Int) == 0) = false := rfl
  have e1 : ((([46] : List UInt8).length : Int) == 1) = true := rfl
  have e2 : inB 0 ([46] : List UInt8).length = true := rfl
  have e3 : byteAt [46] 0 = 46 := rfl
  simp only [J_s, D_nil, e0, cond_false, join_eq, J_b]
  cases hs : (([46] : List UInt8) == s) with
  | true =>
    have : [46] = s := by simpa using hs
    subst this
    simp only [cond_true, ret_eq]
    rfl
  | false =>
    simp only [cond_false, e1, cond_true, e2, chk_true, e3]
    rw [call_eq (ev_IndexByte h.stringslite_IndexByte n s st)]
    simp only [J_i, D_nil, ret_eq]

/-- A text, cut at its first dot. -/
def cutD (s : List UInt8) : List UInt8 × List UInt8 × Bool :=
  if 0 ≤ Lib.indexByte s 46 then (s.take (Lib.indexByte s 46).toNat, s.drop ((Lib.indexByte s 46).toNat + 1), true) else (s, [], false)
theorem idx_lt {s : List UInt8} (h : 0 ≤ Lib.indexByte s 46) : (Lib.indexByte s 46).toNat < s.length := by
  have := (Lib.indexByte_some (l := s) (c := 46) (o := (Lib.indexByte s 46).toNat) (by omega)).1
  exact (List.getElem?_eq_some_iff.1 this).1
theorem ev_Cut {Bd : Bodies} (h : H_strings_Cut Bd) (n : Nat) (s : List UInt8) (hs : s.length < 1000000) (st : St) :
    run Bd (n + 5) 66 [.str s, .str [46]] st = some (.val [.str (cutD s).1, .str (cutD s).2.1, .bool (cutD s).2.2], st) := by
  have e : run Bd (n + 4) 76 [.str s, .str [46]] st = some (.val [.str (cutD s).1, .str (cutD s).2.1, .bool (cutD s).2.2], st) := by
    rw [run_succ, h.stringslite_Cut.eq]
    unfold b_stringslite_Cut
    simp only [J_s, D_nil]
    rw [call_eq (ev_Index h.stringslite_Cut.stringslite_Index n s st)]
    simp only [J_i, D_nil]
    unfold cutD
    by_cases hi : 0 ≤ Lib.indexByte s 46
    · have hl := idx_lt hi
      have w : wr64 (Lib.indexByte s 46 + ((([46] : List UInt8).length : Nat) : Int)) = Lib.indexByte s 46 + 1 := by
        show wr64 (Lib.indexByte s 46 + 1) = _
        exact wr64_of (by omega) (by omega)
      rw [if_pos hi, decide_eq_true (show Lib.indexByte s 46 ≥ 0 from hi), cond_true, w]
      rw [chk_of (by simp only [Bool.true_and, decide_eq_true_eq]; omega), chk_of (by simp only [Bool.and_eq_true, decide_eq_true_eq]; omega), ret_eq,
        show (Lib.indexByte s 46 + 1).toNat = (Lib.indexByte s 46).toNat + 1 by omega]
    · rw [if_neg hi, decide_eq_false (show ¬ Lib.indexByte s 46 ≥ 0 from hi), cond_false, ret_eq]
  rw [run_succ, h.eq]
  unfold b_strings_Cut
  simp only [J_s, D_nil]
  rw [call_eq e]
  simp only [J_s, J_b, D_nil, ret_eq]

/-! ### Handles -/
def handleF (s : List UInt8) : Option (Int × Int) := match (cutD s).2.2, readF (cutD s).1, readF (cutD s).2.1 with
  | true, some a, some b => if a < 0 ∨ b < 0 then none else some (a, b)
  | _, _, _ => none
def outH : Option (Int × Int) → List DV
  | some (a, b) => [.agg [.int .i64 a, .int .i64 b], .bool true]
  | none => [.agg [.int .i64 0, .int .i64 0], .bool false]
theorem cutD_len (s : List UInt8) : (cutD s).1.length ≤ s.length ∧ (cutD s).2.1.length ≤ s.length := by
  unfold cutD
  split
  · simp only [List.length_take, List.length_drop]; omega
  · simp

theorem ev_ReadHandle {Bd : Bodies} (h : H_digit_ReadHandle Bd) (n : Nat) (s : List UInt8) (hn : s.length + 10 ≤ n) (hs : s.length < 100000) (st : St) :
    Ok (fun o => ∃ s', o = (.val (outH (handleF s)), s') ∧ Pre st s') (run Bd n 59 [.str s] st) := by
  obtain ⟨n, rfl⟩ : ∃ m, n = m + 6 := ⟨n - 6, by omega⟩
  have hl := cutD_len s
  rw [run_succ, h.eq]
  unfold b_digit_ReadHandle
  simp only [J_s, D_nil]
  rw [call_eq (ev_Cut h.strings_Cut n s (by omega) st)]
  simp only [J_s, J_b, D_nil]
  refine Ok.call (ev_digit_Read h.digit_Read (n + 5) (cutD s).1 (by omega) (by omega) st) ?_
  rintro _ ⟨s1, rfl, hp1⟩
  refine ⟨_, s1, rfl, ?_⟩
  have ho : ∀ r : Option Int, ∃ a : Int, outR r = [.int .i64 a, .bool r.isSome] ∧ (∀ z, r = some z → a = z) := by
    intro r
    cases r with
    | none => exact ⟨0, rfl, fun z h => by cases h⟩
    | some z => exact ⟨z, rfl, fun y h => by cases h; rfl⟩
  obtain ⟨a, ea, ha⟩ := ho (readF (cutD s).1)
  obtain ⟨b, eb, hb⟩ := ho (readF (cutD s).2.1)
  rw [ea]
  simp only [J_i, J_b, D_nil]
  refine Ok.call (ev_digit_Read h.digit_Read (n + 5) (cutD s).2.1 (by omega) (by omega) s1) ?_
  rintro _ ⟨s2, rfl, hp2⟩
  refine ⟨_, s2, rfl, ?_⟩
  rw [eb]
  simp only [J_i, J_b, D_nil, join_bool]
  have hfin : handleF s = if (bif (bif (bif !(cutD s).2.2 then true else !(readF (cutD s).1).isSome) then true else !(readF (cutD s).2.1).isSome) then true else decide ((if b < a then b else a) < 0)) = true then none else some (a, b) := by
    unfold handleF
    cases (cutD s).2.2 with
    | false => rfl
    | true =>
      cases h1 : readF (cutD s).1 with
      | none => rfl
      | some x =>
        cases h2 : readF (cutD s).2.1 with
        | none => rfl
        | some y =>
          have := ha x h1
          have := hb y h2
          subst a
          subst b
          simp only [Option.isSome_some, Bool.not_true, cond_false, decide_eq_true_eq]
          by_cases hc : x < 0 ∨ y < 0
          · rw [if_pos hc, if_pos (by split <;> omega)]
          · rw [if_neg hc, if_neg (by split <;> omega)]
  rw [hfin]
  cases (bif (bif (bif !(cutD s).2.2 then true else !(readF (cutD s).1).isSome) then true else !(readF (cutD s).2.1).isSome) then true else decide ((if b < a then b else a) < 0)) with
  | true =>
    rw [cond_true, ret_eq, if_pos rfl]
    exact .mk ⟨s2, rfl, hp1.trans hp2⟩
  | false =>
    rw [cond_false, ret_eq, if_neg (by simp)]
    exact .mk ⟨s2, rfl, hp1.trans hp2⟩

theorem decS_le : ∀ (k d : Nat), d < 10 ^ (k + 1) → (decS d).length ≤ k + 1
  | 0, d, h => by rw [decS_one (by simpa using h)]; simp
  | k + 1, d, h => by
    by_cases h10 : d < 10
    · rw [decS_one h10]; simp
    · have := decS_le k (d / 10) ((Nat.div_lt_iff_lt_mul (by omega)).2 (by rw [← Nat.pow_succ]; exact h))
      rw [decS, if_neg h10]
      simp only [List.length_append, List.length_singleton]
      omega
theorem showI_len (z : Int) (hz : -9223372036854775808 ≤ z ∧ z ≤ 9223372036854775807) : (showI z).length ≤ 20 := by
  have h := decS_le 18 z.natAbs (by have : (10 : Nat) ^ (18 + 1) = 10000000000000000000 := by decide
                                    omega)
  unfold showI
  split
  · simp only [List.length_cons]; omega
  · omega
theorem show3 : showI 3 = [51] := by unfold showI; rw [if_neg (by decide), show Int.natAbs 3 = 3 from rfl, decS_one (by omega)]; rfl
theorem show1 : showI 1 = [49] := by unfold showI; rw [if_neg (by decide), show Int.natAbs 1 = 1 from rfl, decS_one (by omega)]; rfl
theorem handle31 : handleF [51, 46, 49] = some (3, 1) := by
  have hc : cutD [51, 46, 49] = ([51], [49], true) := by decide +kernel
  have r3 : readF [51] = some 3 := by rw [← show3]; exact read_show 3 (by decide)
  have r1 : readF [49] = some 1 := by rw [← show1]; exact read_show 1 (by decide)
  unfold handleF
  rw [hc]
  simp only [r3, r1]
  rfl
theorem showMin' : showI (-9223372036854775808) = 45 :: padS 19 9223372036854775808 := by
  unfold showI
  rw [if_pos (by decide), show Int.natAbs (-9223372036854775808) = 9223372036854775808 from rfl, ← padS_dec 18 9223372036854775808 (by decide) (.inl (by decide))]

theorem minText : showI (-9223372036854775808) = bs [45, 57, 50, 50, 51, 51, 55, 50, 48, 51, 54, 56, 53, 52, 55, 55, 53, 56, 48, 56] := by
  rw [showMin']
  decide +kernel
theorem ev_law03_awake {Bd : Bodies} (h : H_law03_awake Bd) (n : Nat) (hn : 100 ≤ n) (st : St) (ht : Tabs st) : Ok (fun o => ∃ s', o = (.val [.bool true], s') ∧ Pre st s') (run Bd n 48 [] st) := by
  obtain ⟨n, rfl⟩ : ∃ m, n = m + 1 := ⟨n - 1, by omega⟩
  rw [run_succ, h.eq]
  unfold b_law03_awake
  simp only [D_nil]
  refine Ok.call (ev_ReadHandle h.digit_ReadHandle n (bs [51, 46, 49]) (by show 3 + 10 ≤ n; omega) (by decide) st) ?_
  rintro _ ⟨s1, rfl, hp1⟩
  refine ⟨_, s1, rfl, ?_⟩
  rw [show handleF (bs [51, 46, 49]) = some (3, 1) from handle31]
  unfold outH
  have e3 : (((3 : Int) == 3) && (((1 : Int) == 1) && true)) = true := rfl
  simp only [J_a, J_i, J_b, D_nil, cond_true, join_eq, e3]
  refine Ok.call (ev_digit_Show h.digit_Show n (-9223372036854775808) (by decide) (by omega) s1 (ht.mono hp1)) ?_
  rintro _ ⟨s2, rfl, hp2⟩
  refine ⟨_, s2, rfl, ?_⟩
  simp only [J_s, D_nil, ret_eq]
  rw [minText, beq_self_eq_true]
  exact .mk ⟨s2, rfl, hp1.trans hp2⟩

theorem law_law03_DigitShows {Bd : Bodies} (h : H_law03_DigitShows Bd) (s : St) (args : List DV) (_ : Frz s) (ht : Tabs s) (hr : RdA s [(false, .i .i64)] args) : ∃ n s', run Bd n 47 args s = some (.val [.bool true], s') := by
  obtain ⟨_, _, _, ⟨z, rfl, hz1, hz2⟩, rfl, rfl, hd⟩ := hr
  cases hd
  have hz := i64_range ⟨hz1, hz2⟩
  refine ok_true (n := 1000) ?_
  rw [run_succ, h.eq]
  unfold b_law03_DigitShows
  simp only [J_i, D_nil]
  refine Ok.call (ev_law03_awake h.law03_awake 999 (by omega) s ht) ?_
  rintro _ ⟨s1, rfl, hp1⟩
  refine ⟨_, s1, rfl, ?_⟩
  simp only [J_b, D_nil, Bool.not_true, cond_false]
  refine Ok.call (ev_digit_Show h.digit_Show 999 z hz (by omega) s1 (ht.mono hp1)) ?_
  rintro _ ⟨s2, rfl, hp2⟩
  refine ⟨_, s2, rfl, ?_⟩
  simp only [J_s, D_nil]
  refine Ok.call (ev_digit_Read h.digit_Read 999 (showI z) (by have := showI_len z hz; omega) (by have := showI_len z hz; omega) s2) ?_
  rintro _ ⟨s3, rfl, hp3⟩
  refine ⟨_, s3, rfl, ?_⟩
  rw [read_show z hz]
  unfold outR
  simp only [J_i, J_b, D_nil]
  refine Ok.call (ev_ref03_Show h.ref03_Show 999 z hz (by omega) s3) ?_
  rintro _ ⟨s4, rfl, hp4⟩
  refine ⟨_, s4, rfl, ?_⟩
  simp only [J_s, J_b, D_nil, beq_self_eq_true, cond_true, join_eq, ret_eq]
  exact .mk ⟨s4, rfl⟩
end Go.Gv.F
