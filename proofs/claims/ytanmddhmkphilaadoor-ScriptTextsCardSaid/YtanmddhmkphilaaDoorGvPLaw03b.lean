/- Numbers and handles: unlike ones; there and back. -/
import Derived.Test.YtanmddhmkphilaaDoorGvPRead2
import Derived.Test.YtanmddhmkphilaaDoorGvBDb
namespace Go.Gv.F

theorem show_inj {a b : Int} (ha : -9223372036854775808 ≤ a ∧ a ≤ 9223372036854775807) (hb : -9223372036854775808 ≤ b ∧ b ≤ 9223372036854775807) (h : showI a = showI b) : a = b := by
  have h1 := read_show a ha
  have h2 := read_show b hb
  rw [h, h2] at h1
  cases h1; rfl
/-- How a number's text begins. -/
theorem show_head (z : Int) : ∃ c r, showI z = c :: r ∧ (c = 45 ∨ (48 ≤ c.toNat ∧ c.toNat ≤ 57)) ∧ (c = 48 → r = []) := by
  by_cases h0 : z = 0
  · subst h0
    exact ⟨48, [], by unfold showI; rw [if_neg (by decide), show Int.natAbs 0 = 0 from rfl, decS_one (by omega)]; rfl, .inr (by decide), fun _ => rfl⟩
  · obtain ⟨d, l, h1, h2, _, h4, _⟩ := first_digits z.natAbs z.natAbs (Nat.le_refl _) (by omega)
    unfold showI
    by_cases hneg : z < 0
    · rw [if_pos hneg]
      exact ⟨45, _, rfl, .inl rfl, fun h => by cases h⟩
    · rw [if_neg hneg, h4]
      have e : (UInt8.ofNat (48 + d)).toNat = 48 + d := by simp; omega
      refine ⟨_, _, rfl, .inr (by omega), fun h => ?_⟩
      have := congrArg UInt8.toNat h
      rw [e] at this
      have e2 : UInt8.toNat 48 = 48 := rfl
      omega
theorem read_zero (z : Int) : readF (48 :: showI z) = none := by
  cases h : readF (48 :: showI z) with
  | none => rfl
  | some y =>
    obtain ⟨h1, _⟩ := show_read h
    obtain ⟨c, r, hc, _, h48⟩ := show_head y
    obtain ⟨c', r', hc', _⟩ := show_head z
    rw [hc, hc'] at h1
    have e1 := (List.cons.inj h1).1
    have e2 := (List.cons.inj h1).2
    rw [h48 e1.symm] at e2
    cases e2
theorem read_plus (w : List UInt8) : readF (43 :: w) = none := by
  cases h : readF (43 :: w) with
  | none => rfl
  | some y =>
    obtain ⟨h1, _⟩ := show_read h
    obtain ⟨c, r, hc, h2, _⟩ := show_head y
    rw [hc] at h1
    have e1 := (List.cons.inj h1).1
    rw [← e1] at h2
    rcases h2 with h2 | h2
    · cases h2
    · have e2 : UInt8.toNat 43 = 43 := rfl
      omega

theorem law_law03_DigitApart {Bd : Bodies} (h : H_law03_DigitApart Bd) (s : St) (args : List DV) (_ : Frz s) (ht : Tabs s) (hr : RdA s [(false, .i .i64), (false, .i .i64), (false, .i .u8)] args) : ∃ n s', run Bd n 96 args s = some (.val [.bool true], s') := by
  obtain ⟨_, _, _, ⟨a, rfl, ha1, ha2⟩, ⟨_, _, _, ⟨b, rfl, hb1, hb2⟩, ⟨_, _, _, ⟨c, rfl, hc1, hc2⟩, rfl, rfl, hd3⟩, rfl, hd2⟩, rfl, hd⟩ := hr
  cases hd
  cases hd2
  cases hd3
  have ha := i64_range ⟨ha1, ha2⟩
  have hb := i64_range ⟨hb1, hb2⟩
  refine ok_true (n := 1000) ?_
  rw [run_succ, h.eq]
  unfold b_law03_DigitApart
  simp only [J_i, D_nil]
  refine Ok.call (ev_law03_awake h.law03_awake 999 (by omega) s ht) ?_
  rintro _ ⟨s1, rfl, hp1⟩
  refine ⟨_, s1, rfl, ?_⟩
  simp only [J_b, D_nil, Bool.not_true, cond_false]
  refine Ok.call (ev_digit_Show h.digit_Show 999 a ha (by omega) s1 (ht.mono hp1)) ?_
  rintro _ ⟨s2, rfl, hp2⟩
  refine ⟨_, s2, rfl, ?_⟩
  simp only [J_s, D_nil]
  refine Ok.call (ev_digit_Show h.digit_Show 999 b hb (by omega) s2 (ht.mono (hp1.trans hp2))) ?_
  rintro _ ⟨s3, rfl, hp3⟩
  refine ⟨_, s3, rfl, ?_⟩
  simp only [J_s, D_nil]
  have heq : (showI a == showI b) = (a == b) := by
    rw [Bool.eq_iff_iff]
    simp only [beq_iff_eq]
    exact ⟨show_inj ha hb, fun h => by rw [h]⟩
  rw [heq, beq_self_eq_true, Bool.not_true, cond_false, new_eq, load_new (by simp)]
  generalize hx : UInt8.ofNat c.toNat = x
  have ho : ∀ K : List UInt8 → M (List DV), D.oct (([DV.int .u8 c].drop 0).take 1) K = K [x] := fun K => by rw [← hx]; rfl
  have hla := showI_len a ha
  rw [ho, chk_of (Nat.ble_eq_true_of_le (by simp only [List.length_singleton]; omega))]
  have hp4 : Pre s (s3 ++ [some ⟨false, [DV.int .u8 c]⟩]) := hp1.trans (hp2.trans (hp3.trans (.new _ _)))
  generalize s3 ++ [some ⟨false, [DV.int .u8 c]⟩] = s4 at hp4 ⊢
  refine Ok.call (ev_digit_Read h.digit_Read 999 (showI a ++ [x]) (by simp; omega) (by simp; omega) s4) ?_
  rintro _ ⟨s5, rfl, hp5⟩
  refine ⟨_, s5, rfl, ?_⟩
  -- the two last questions
  have fin : ∀ s6 : St, Pre s s6 → Ok (fun o => ∃ s', o = (.val [.bool true], s')) ((M.chk (Nat.ble ((bs [48]).length + (showI a).length) 4611686018427387904) <|
          M.call (run Bd 999 50 [.str ((bs [48]) ++ showI a)]) fun ds =>
          J.i .i64 ds fun x5 ds =>
          J.b ds fun x6 ds =>
          D.nil ds <|
          M.chk (Nat.ble ((bs [43]).length + (showI a).length) 4611686018427387904) <|
          M.call (run Bd 999 50 [.str ((bs [43]) ++ showI a)]) fun ds =>
          J.i .i64 ds fun x7 ds =>
          J.b ds fun x8 ds =>
          D.nil ds <|
          M.join (β := List DV) (fun st => J.b st fun b2 st => D.nil st <|
            M.ret [.bool b2]) fun jk2 =>
          bif !x6 then
            jk2 [.bool (!x8)]
          else
            jk2 [.bool false]) s6) := by
    intro s6 hp6
    rw [chk_of (Nat.ble_eq_true_of_le (by show 1 + (showI a).length ≤ _; omega))]
    refine Ok.call (ev_digit_Read h.digit_Read 999 (bs [48] ++ showI a) (by simp only [List.length_append, List.length_singleton]; omega) (by simp only [List.length_append, List.length_singleton]; omega) s6) ?_
    rintro _ ⟨s7, rfl, hp7⟩
    refine ⟨_, s7, rfl, ?_⟩
    rw [show readF (bs [48] ++ showI a) = none from read_zero a]
    unfold outR
    simp only [J_i, J_b, D_nil]
    rw [chk_of (Nat.ble_eq_true_of_le (by show 1 + (showI a).length ≤ _; omega))]
    refine Ok.call (ev_digit_Read h.digit_Read 999 (bs [43] ++ showI a) (by simp only [List.length_append, List.length_singleton]; omega) (by simp only [List.length_append, List.length_singleton]; omega) s7) ?_
    rintro _ ⟨s8, rfl, hp8⟩
    refine ⟨_, s8, rfl, ?_⟩
    rw [show readF (bs [43] ++ showI a) = none from read_plus (showI a)]
    unfold outR
    simp only [J_i, J_b, D_nil, join_eq, Bool.not_false, cond_true, ret_eq]
    exact .mk ⟨s8, rfl⟩
  simp only [join_eq] at fin
  cases hrd : readF (showI a ++ [x]) with
  | none =>
    unfold outR
    simp only [J_i, J_b, D_nil, join_eq, cond_false]
    exact fin s5 (hp4.trans hp5)
  | some k =>
    obtain ⟨hk, hkr⟩ := show_read hrd
    have hne : (k == a) = false := by
      rw [beq_eq_false_iff_ne]
      rintro rfl
      have := congrArg List.length hk
      simp at this
    unfold outR
    simp only [J_i, J_b, D_nil, cond_true, hne, cond_false, join_eq]
    refine Ok.call (ev_digit_Show h.digit_Show 999 k hkr (by omega) s5 (ht.mono (hp4.trans hp5))) ?_
    rintro _ ⟨s6, rfl, hp6⟩
    refine ⟨_, s6, rfl, ?_⟩
    rw [hk]
    simp only [J_s, D_nil, beq_self_eq_true, Bool.not_true, cond_false]
    exact fin s6 (hp4.trans (hp5.trans hp6))

/-! ### Handles -/
theorem idx_eq {s : List UInt8} {i : Nat} (h : s[i]? = some 46) (hno : ∀ k, k < i → s[k]? ≠ some 46) : Lib.indexByte s 46 = i := by
  have ge := Lib.indexByte_ge s 46
  by_cases hm : Lib.indexByte s 46 = -1
  · exact absurd h (Lib.indexByte_none hm i)
  · obtain ⟨o, ho⟩ : ∃ o : Nat, Lib.indexByte s 46 = o := ⟨(Lib.indexByte s 46).toNat, by omega⟩
    obtain ⟨h1, h2⟩ := Lib.indexByte_some ho
    rw [ho]
    rcases Nat.lt_trichotomy o i with h' | h' | h'
    · exact absurd h1 (hno o h')
    · rw [h']
    · exact absurd h (h2 i h')
theorem idx_none {s : List UInt8} (hno : ∀ k, k < s.length → s[k]? ≠ some 46) : Lib.indexByte s 46 = -1 := by
  have ge := Lib.indexByte_ge s 46
  by_cases hm : Lib.indexByte s 46 = -1
  · exact hm
  · obtain ⟨o, ho⟩ : ∃ o : Nat, Lib.indexByte s 46 = o := ⟨(Lib.indexByte s 46).toNat, by omega⟩
    obtain ⟨h1, _⟩ := Lib.indexByte_some ho
    exact absurd h1 (hno o (List.getElem?_eq_some_iff.1 h1).1)
theorem show_nodot (z : Int) : ∀ c ∈ showI z, c ≠ 46 := by
  have dig : ∀ N : Nat, ∀ c ∈ decS N, c ≠ 46 := by
    intro N c hc
    rcases Nat.eq_zero_or_pos N with h | h
    · subst h
      rw [decS_one (by omega)] at hc
      rw [List.mem_singleton.1 hc]; decide
    · obtain ⟨d, l, h1, h2, h3, h4, _⟩ := first_digits N N (Nat.le_refl _) h
      rw [h4, show UInt8.ofNat (48 + d) :: l.map UInt8.ofNat = ((48 + d) :: l).map UInt8.ofNat from rfl, List.mem_map] at hc
      obtain ⟨r, hr, rfl⟩ := hc
      have hrd : isDig r = true := by
        rcases List.mem_cons.1 hr with rfl | hr
        · exact isDig_iff.2 (by omega)
        · exact h3 r hr
      have := isDig_iff.1 hrd
      intro h
      have := congrArg UInt8.toNat h
      have e2 : UInt8.toNat 46 = 46 := rfl
      have e1 : (UInt8.ofNat r).toNat = r := by simp; omega
      omega
  intro c hc
  unfold showI at hc
  split at hc
  · rcases List.mem_cons.1 hc with rfl | hc
    · decide
    · exact dig _ c hc
  · exact dig _ c hc
def showH (a b : Int) : List UInt8 := if a < 0 ∨ b < 0 then [] else (showI a ++ [46]) ++ showI b
theorem cut_show (a : Int) (w : List UInt8) : cutD ((showI a ++ [46]) ++ w) = (showI a, w, true) := by
  have hi : Lib.indexByte ((showI a ++ [46]) ++ w) 46 = ((showI a).length : Nat) := by
    refine idx_eq ?_ fun k hk => ?_
    · rw [List.append_assoc, List.getElem?_append_right (Nat.le_refl _), Nat.sub_self]; rfl
    · rw [List.append_assoc, List.getElem?_append_left hk]
      intro h
      exact show_nodot a 46 (List.mem_of_getElem? h) rfl
  unfold cutD
  rw [hi, if_pos (by omega), Int.toNat_natCast]
  have e1 : ((showI a ++ [46]) ++ w).take (showI a).length = showI a := by rw [List.append_assoc, List.take_left]
  have e2 : ((showI a ++ [46]) ++ w).drop ((showI a).length + 1) = w := by
    have : (showI a ++ [46]).length = (showI a).length + 1 := by simp
    rw [← this, List.drop_left]
  rw [e1, e2]
theorem handle_show {a b : Int} (ha : 0 ≤ a ∧ a ≤ 9223372036854775807) (hb : 0 ≤ b ∧ b ≤ 9223372036854775807) : handleF (showH a b) = some (a, b) := by
  unfold handleF showH
  rw [if_neg (by omega), cut_show]
  simp only [read_show a (by omega), read_show b (by omega)]
  rw [if_neg (by omega)]
theorem handle_nil : handleF [] = none := by
  unfold handleF
  rw [show cutD [] = ([], [], false) from rfl]
theorem show_handle {s : List UInt8} {a b : Int} (h : handleF s = some (a, b)) : s = showH a b := by
  unfold handleF at h
  cases hc : (cutD s).2.2 with
  | false => rw [hc] at h; cases h
  | true =>
    rw [hc] at h
    cases h1 : readF (cutD s).1 with
    | none => rw [h1] at h; cases h
    | some x =>
      cases h2 : readF (cutD s).2.1 with
      | none => rw [h1, h2] at h; cases h
      | some y =>
        rw [h1, h2] at h
        simp only at h
        split at h
        · cases h
        · rename_i hneg
          cases h
          obtain ⟨e1, _⟩ := show_read h1
          obtain ⟨e2, _⟩ := show_read h2
          unfold showH
          rw [if_neg hneg, ← e1, ← e2]
          unfold cutD at hc ⊢
          split at hc
          · rename_i hi
            rw [if_pos hi]
            simp only
            have hl := idx_lt hi
            have hat : s[(Lib.indexByte s 46).toNat]? = some 46 := (Lib.indexByte_some (o := (Lib.indexByte s 46).toNat) (by omega)).1
            have hg : s[(Lib.indexByte s 46).toNat] = 46 := by
              rw [List.getElem?_eq_getElem hl] at hat
              exact Option.some.inj hat
            have hdr : s.drop (Lib.indexByte s 46).toNat = 46 :: s.drop ((Lib.indexByte s 46).toNat + 1) := by rw [List.drop_eq_getElem_cons hl, hg]
            rw [List.append_assoc, List.singleton_append, ← hdr, List.take_append_drop]
          · cases hc

theorem showH_len {a b : Int} (ha : -9223372036854775808 ≤ a ∧ a ≤ 9223372036854775807) (hb : -9223372036854775808 ≤ b ∧ b ≤ 9223372036854775807) : (showH a b).length ≤ 41 := by
  have h1 := showI_len a ha
  have h2 := showI_len b hb
  unfold showH
  split
  · simp
  · simp only [List.length_append, List.length_singleton]; omega

theorem ev_ShowHandle {Bd : Bodies} (h : H_digit_ShowHandle Bd) (n : Nat) (a b : Int) (ha : -9223372036854775808 ≤ a ∧ a ≤ 9223372036854775807) (hb : -9223372036854775808 ≤ b ∧ b ≤ 9223372036854775807) (hn : 80 ≤ n) (st : St) (ht : Tabs st) :
    Ok (fun o => ∃ s', o = (.val [.str (showH a b)], s') ∧ Pre st s') (run Bd n 98 [.agg [.int .i64 a, .int .i64 b]] st) := by
  obtain ⟨n, rfl⟩ : ∃ m, n = m + 1 := ⟨n - 1, by omega⟩
  rw [run_succ, h.eq]
  unfold b_digit_ShowHandle
  simp only [J_a, J_i, D_nil]
  by_cases hneg : a < 0 ∨ b < 0
  · rw [decide_eq_true (show (if b < a then b else a) < 0 by split <;> omega), cond_true, ret_eq, show showH a b = [] by unfold showH; rw [if_pos hneg]]
    exact .mk ⟨st, rfl, .refl st⟩
  · rw [decide_eq_false (show ¬ (if b < a then b else a) < 0 by split <;> omega), cond_false, show showH a b = (showI a ++ [46]) ++ showI b by unfold showH; rw [if_neg hneg]]
    have h1 := showI_len a ha
    have h2 := showI_len b hb
    refine Ok.callN (ev_digit_Show h.digit_Show n a ha (by omega) st ht) ?_
    rintro _ ⟨s1, rfl, hp1⟩
    refine ⟨_, s1, rfl, ?_⟩
    simp only [J_s, D_nil]
    rw [chk_of (Nat.ble_eq_true_of_le (by simp only [List.length_singleton]; omega))]
    refine Ok.callN (ev_digit_Show h.digit_Show n b hb (by omega) s1 (ht.mono hp1)) ?_
    rintro _ ⟨s2, rfl, hp2⟩
    refine ⟨_, s2, rfl, ?_⟩
    simp only [J_s, D_nil]
    rw [chk_of (Nat.ble_eq_true_of_le (by simp only [List.length_append, List.length_singleton]; omega)), ret_eq]
    exact .mk ⟨s2, rfl, hp1.trans hp2⟩

theorem ev_ref03_Handle {Bd : Bodies} (h : H_ref03_Handle Bd) (n : Nat) (a b : Int) (ha : -9223372036854775808 ≤ a ∧ a ≤ 9223372036854775807) (hb : -9223372036854775808 ≤ b ∧ b ≤ 9223372036854775807) (hn : 80 ≤ n) (st : St) :
    Ok (fun o => ∃ s', o = (.val [.str (showH a b)], s') ∧ Pre st s') (run Bd n 99 [.agg [.int .i64 a, .int .i64 b]] st) := by
  obtain ⟨n, rfl⟩ : ∃ m, n = m + 1 := ⟨n - 1, by omega⟩
  rw [run_succ, h.eq]
  unfold b_ref03_Handle
  simp only [J_a, J_i, D_nil, join_bool, J_b]
  by_cases hneg : a < 0 ∨ b < 0
  · rw [show (bif decide (a < 0) then true else decide (b < 0)) = true by rw [Bool.cond_true_left, Bool.or_eq_true, decide_eq_true_eq, decide_eq_true_eq]; exact hneg, cond_true, ret_eq, show showH a b = [] by unfold showH; rw [if_pos hneg]]
    exact .mk ⟨st, rfl, .refl st⟩
  · rw [show (bif decide (a < 0) then true else decide (b < 0)) = false by rw [Bool.cond_true_left, Bool.or_eq_false_iff, decide_eq_false_iff_not, decide_eq_false_iff_not]; omega, cond_false, show showH a b = (showI a ++ [46]) ++ showI b by unfold showH; rw [if_neg hneg]]
    have h1 := showI_len a ha
    have h2 := showI_len b hb
    refine Ok.callN (ev_ref03_Show h.ref03_Show n a ha (by omega) st) ?_
    rintro _ ⟨s1, rfl, hp1⟩
    refine ⟨_, s1, rfl, ?_⟩
    simp only [J_s, D_nil]
    rw [chk_of (Nat.ble_eq_true_of_le (by simp only [List.length_singleton]; omega))]
    refine Ok.callN (ev_ref03_Show h.ref03_Show n b hb (by omega) s1) ?_
    rintro _ ⟨s2, rfl, hp2⟩
    refine ⟨_, s2, rfl, ?_⟩
    simp only [J_s, D_nil]
    rw [chk_of (Nat.ble_eq_true_of_le (by simp only [List.length_append, List.length_singleton]; omega)), ret_eq]
    exact .mk ⟨s2, rfl, hp1.trans hp2⟩

theorem law_law03_DigitHandles {Bd : Bodies} (h : H_law03_DigitHandles Bd) (s : St) (args : List DV) (_ : Frz s) (ht : Tabs s) (hr : RdA s [(true, .pr (.i .i64) (.pr (.i .i64) .un))] args) : ∃ n s', run Bd n 97 args s = some (.val [.bool true], s') := by
  obtain ⟨_, d, _, ⟨_, _, rfl, ⟨a, rfl, ha1, ha2⟩, ⟨_, _, rfl, ⟨b, rfl, hb1, hb2⟩, hun⟩⟩, rfl, rfl, hd⟩ := hr
  cases hun
  have ha := i64_range ⟨ha1, ha2⟩
  have hb := i64_range ⟨hb1, hb2⟩
  have hd : d = .agg [.int .i64 a, .int .i64 b] := hd
  subst hd
  refine ok_true (n := 1000) ?_
  rw [run_succ, h.eq]
  unfold b_law03_DigitHandles
  simp only [J_a, J_i, D_nil]
  refine Ok.call (ev_law03_awake h.law03_awake 999 (by omega) s ht) ?_
  rintro _ ⟨s1, rfl, hp1⟩
  refine ⟨_, s1, rfl, ?_⟩
  simp only [J_b, D_nil, Bool.not_true, cond_false]
  refine Ok.call (ev_ShowHandle h.digit_ShowHandle 999 a b ha hb (by omega) s1 (ht.mono hp1)) ?_
  rintro _ ⟨s2, rfl, hp2⟩
  refine ⟨_, s2, rfl, ?_⟩
  have hsl := showH_len ha hb
  simp only [J_s, D_nil]
  refine Ok.call (ev_ReadHandle h.digit_ReadHandle 999 (showH a b) (by omega) (by omega) s2) ?_
  rintro _ ⟨s3, rfl, hp3⟩
  refine ⟨_, s3, rfl, ?_⟩
  by_cases hneg : a < 0 ∨ b < 0
  · rw [show showH a b = [] by unfold showH; rw [if_pos hneg], handle_nil]
    unfold outH
    simp only [J_a, J_i, J_b, D_nil, join_bool]
    rw [show (bif decide (a < 0) then true else decide (b < 0)) = true by rw [Bool.cond_true_left, Bool.or_eq_true, decide_eq_true_eq, decide_eq_true_eq]; exact hneg, cond_true, ret_eq]
    exact .mk ⟨s3, rfl⟩
  · rw [handle_show (by omega) (by omega)]
    unfold outH
    simp only [J_a, J_i, J_b, D_nil, join_bool]
    rw [show (bif decide (a < 0) then true else decide (b < 0)) = false by rw [Bool.cond_true_left, Bool.or_eq_false_iff, decide_eq_false_iff_not, decide_eq_false_iff_not]; omega, cond_false]
    refine Ok.call (ev_ref03_Handle h.ref03_Handle 999 a b ha hb (by omega) s3) ?_
    rintro _ ⟨s4, rfl, hp4⟩
    refine ⟨_, s4, rfl, ?_⟩
    simp only [J_s, D_nil, beq_self_eq_true, cond_true, Bool.and_self, ret_eq]
    exact .mk ⟨s4, rfl⟩

theorem handle_range {s : List UInt8} {a b : Int} (h : handleF s = some (a, b)) : (0 ≤ a ∧ a ≤ 9223372036854775807) ∧ 0 ≤ b ∧ b ≤ 9223372036854775807 := by
  unfold handleF at h
  cases hc : (cutD s).2.2 with
  | false => rw [hc] at h; cases h
  | true =>
    rw [hc] at h
    cases h1 : readF (cutD s).1 with
    | none => rw [h1] at h; cases h
    | some x =>
      cases h2 : readF (cutD s).2.1 with
      | none => rw [h1, h2] at h; cases h
      | some y =>
        rw [h1, h2] at h
        simp only at h
        split at h
        · cases h
        · cases h
          have := (show_read h1).2
          have := (show_read h2).2
          omega

theorem ev_ref03_ReadHandle {Bd : Bodies} (h : H_ref03_ReadHandle Bd) (n : Nat) (s : List UInt8) (hn : s.length + 100 ≤ n) (hs : s.length < 100000) (st : St) :
    Ok (fun o => ∃ s', o = (.val (outH (handleF s)), s') ∧ Pre st s') (run Bd n 95 [.str s] st) := by
  obtain ⟨n, rfl⟩ : ∃ m, n = m + 1 := ⟨n - 1, by omega⟩
  rw [run_succ, h.eq]
  unfold b_ref03_ReadHandle
  simp only [J_s, D_nil]
  rw [join_eq]
  refine loop_rule _ (fun k q s2 => ∃ i : Nat, q = [.agg [.int .i64 0, .int .i64 0], .int .i64 i] ∧ i ≤ s.length ∧ s.length - i ≤ k ∧ s2 = st ∧ ∀ k, k < i → s[k]? ≠ some 46)
    ?_ s.length n _ _ ⟨0, rfl, Nat.zero_le _, by omega, rfl, fun k hk => by omega⟩ (by omega)
  rintro k _ s2 ⟨i, rfl, hi, hk, rfl, hno⟩ rec hrec
  simp only [J_a, J_i, D_nil]
  by_cases hlt : i < s.length
  · rw [decide_eq_true (show (i : Int) < (s.length : Int) by omega), cond_true, chk_of (inB_of hlt), oc_toNat hlt]
    have hg : s[i]? = some s[i] := List.getElem?_eq_getElem hlt
    have w1 : wr64 ((i : Int) + 1) = ((i + 1 : Nat) : Int) := by rw [wr64_of (by omega) (by omega)]; rfl
    by_cases h46 : s[i] = 46
    · rw [show (((s[i].toNat : Nat) : Int) == 46) = true by rw [h46]; rfl, cond_true]
      have hidx : Lib.indexByte s 46 = i := idx_eq (by rw [hg, h46]) hno
      have hcut : cutD s = (s.take i, s.drop (i + 1), true) := by
        unfold cutD
        rw [hidx, if_pos (by omega), Int.toNat_natCast]
      rw [w1, Int.toNat_natCast, Int.toNat_natCast, chk_of (by simp only [Bool.and_eq_true, decide_eq_true_eq]; omega)]
      refine Ok.call (ev_ref03_Read h.ref03_Read n (s.take i) (by omega) s2) ?_
      rintro _ ⟨s3, rfl, hp3⟩
      refine ⟨_, s3, rfl, ?_⟩
      have ho : ∀ r : Option Int, ∃ a : Int, outR r = [.int .i64 a, .bool r.isSome] ∧ (∀ z, r = some z → a = z) := by
        intro r
        cases r with
        | none => exact ⟨0, rfl, fun z h => by cases h⟩
        | some z => exact ⟨z, rfl, fun y h => by cases h; rfl⟩
      obtain ⟨a, ea, ha⟩ := ho (readF (s.take i))
      obtain ⟨b, eb, hb⟩ := ho (readF (s.drop (i + 1)))
      rw [ea]
      simp only [J_i, J_b, D_nil]
      rw [chk_of (by simp only [Bool.and_eq_true, decide_eq_true_eq]; omega)]
      refine Ok.call (ev_ref03_Read h.ref03_Read n (s.drop (i + 1)) (by omega) s3) ?_
      rintro _ ⟨s4, rfl, hp4⟩
      refine ⟨_, s4, rfl, ?_⟩
      rw [eb]
      simp only [J_i, J_b, D_nil, join_bool]
      have hno2 : ∀ s5 : St, Pre s2 s5 → handleF s = none → Ok (fun o => ∃ s', o = (.val (outH (handleF s)), s') ∧ Pre s2 s') ((M.ret [.agg [.int .i64 0, .int .i64 0], .bool false] : M (List DV)) s5) := fun s5 hp he => by
        rw [he, ret_eq]; exact .mk ⟨s5, rfl, hp⟩
      cases h1 : readF (s.take i) with
      | none =>
        simp only [Option.isSome_none, cond_false, join_eq, J_b, D_nil]
        refine hno2 s4 (hp3.trans hp4) ?_
        unfold handleF
        rw [hcut]
        simp only [h1]
      | some x =>
        have := ha x h1
        subst a
        cases h2 : readF (s.drop (i + 1)) with
        | none =>
          simp only [Option.isSome_none, Option.isSome_some, cond_true, cond_false, join_eq, J_b, D_nil]
          refine hno2 s4 (hp3.trans hp4) ?_
          unfold handleF
          rw [hcut]
          simp only [h1, h2]
        | some y =>
          have := hb y h2
          subst b
          simp only [Option.isSome_some, cond_true, join_eq, J_b, D_nil]
          obtain ⟨_, rx⟩ := show_read h1
          obtain ⟨_, ry⟩ := show_read h2
          refine Ok.call (ev_ref03_Handle h.ref03_Handle n x y rx ry (by omega) s4) ?_
          rintro _ ⟨s5, rfl, hp5⟩
          refine ⟨_, s5, rfl, ?_⟩
          simp only [J_s, D_nil]
          have hh : handleF s = if x < 0 ∨ y < 0 then none else some (x, y) := by
            unfold handleF
            rw [hcut]
            simp only [h1, h2]
          by_cases hneg : x < 0 ∨ y < 0
          · rw [if_pos hneg] at hh
            have hne : (showH x y == s) = false := by
              rw [beq_eq_false_iff_ne, show showH x y = [] by unfold showH; rw [if_pos hneg]]
              intro e
              rw [← e] at hlt
              cases hlt
            rw [hne, cond_false]
            exact hno2 s5 (hp3.trans (hp4.trans hp5)) hh
          · rw [if_neg hneg] at hh
            rw [show (showH x y == s) = true by rw [beq_iff_eq]; exact (show_handle hh).symm, cond_true, ret_eq, hh]
            exact .mk ⟨s5, rfl, hp3.trans (hp4.trans hp5)⟩
    · have hne : (((s[i].toNat : Nat) : Int) == 46) = false := by
        rw [beq_eq_false_iff_ne]
        intro h
        exact h46 (UInt8.toNat_inj.1 (by show s[i].toNat = 46; omega))
      rw [hne, cond_false, w1]
      refine hrec (k - 1) _ _ (by omega) ⟨i + 1, rfl, by omega, by omega, rfl, fun j hj => ?_⟩
      rcases Nat.lt_or_ge j i with h' | h'
      · exact hno j h'
      · have : j = i := by omega
        subst this
        rw [hg]
        intro h
        exact h46 (Option.some.inj h)
  · rw [decide_eq_false (show ¬ (i : Int) < (s.length : Int) by omega), cond_false, ret_eq]
    have : handleF s = none := by
      unfold handleF cutD
      rw [idx_none (fun k hk => hno k (by omega)), if_neg (by omega)]
    rw [this]
    exact .mk ⟨s2, rfl, .refl s2⟩

theorem law_law03_DigitTickets {Bd : Bodies} (h : H_law03_DigitTickets Bd) (s : St) (args : List DV) (_ : Frz s) (ht : Tabs s) (hr : RdA s [(false, .s)] args) : ∃ n s', run Bd n 94 args s = some (.val [.bool true], s') := by
  obtain ⟨_, _, _, ⟨l, rfl, _⟩, rfl, rfl, hd⟩ := hr
  cases hd
  refine ok_true (n := 1000) ?_
  rw [run_succ, h.eq]
  unfold b_law03_DigitTickets
  simp only [J_s, D_nil]
  refine Ok.call (ev_law03_awake h.law03_awake 999 (by omega) s ht) ?_
  rintro _ ⟨s1, rfl, hp1⟩
  refine ⟨_, s1, rfl, ?_⟩
  simp only [J_b, D_nil, Bool.not_true, cond_false, join_eq]
  by_cases hl : l.length > 200
  · have e : decide ((l.length : Int) > 200) = true := decide_eq_true (by omega)
    simp only [e, cond_true]
    refine Ok.call (ev_law03_awake h.law03_awake 999 (by omega) s1 (ht.mono hp1)) ?_
    rintro _ ⟨s2, rfl, hp2⟩
    refine ⟨_, s2, rfl, ?_⟩
    simp only [J_b, D_nil, ret_eq]
    exact .mk ⟨s2, rfl⟩
  · have e : decide ((l.length : Int) > 200) = false := decide_eq_false (by omega)
    simp only [e, cond_false]
    have ho : ∃ (a b : Int) (c : Bool), outH (handleF l) = [.agg [.int .i64 a, .int .i64 b], .bool c] := by
      cases handleF l with
      | none => exact ⟨0, 0, false, rfl⟩
      | some z => exact ⟨z.1, z.2, true, rfl⟩
    obtain ⟨a, b, c, ho⟩ := ho
    refine Ok.call (ev_ReadHandle h.digit_ReadHandle 999 l (by omega) (by omega) s1) ?_
    rintro _ ⟨s2, rfl, hp2⟩
    refine ⟨_, s2, rfl, ?_⟩
    rw [ho]
    simp only [J_a, J_i, J_b, D_nil]
    refine Ok.call (ev_ref03_ReadHandle h.ref03_ReadHandle 999 l (by omega) (by omega) s2) ?_
    rintro _ ⟨s3, rfl, hp3⟩
    refine ⟨_, s3, rfl, ?_⟩
    rw [ho]
    simp only [J_a, J_i, J_b, D_nil, beq_self_eq_true, cond_true, Bool.and_self, ret_eq]
    exact .mk ⟨s3, rfl⟩
end Go.Gv.F
