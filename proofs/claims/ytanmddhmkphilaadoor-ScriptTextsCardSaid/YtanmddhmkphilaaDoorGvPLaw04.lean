/- The laws of names. -/
import Derived.Test.YtanmddhmkphilaaDoorGvPShow
namespace Go.Gv.F

theorem hex32 : hexS 32 = [50, 48] := by
  rw [hexS, if_neg (by decide), hexS, if_pos (by decide)]
  decide
theorem show_cons {s : List UInt8} (h : 0 < s.length) : showS s = seen s 0 ++ showS (s.drop (dec s 0).2) := by
  have := show_at (s := s) (p := 0) h
  rwa [List.drop_zero, Nat.zero_add] at this
theorem show_a_b : showS [97, 32, 98] = [97, 60, 50, 48, 62, 98] := by
  have d1 : dec [97, 32, 98] 0 = (97, 1) := by decide +kernel
  have d2 : dec [32, 98] 0 = (32, 1) := by decide +kernel
  have d3 : dec [98] 0 = (98, 1) := by decide +kernel
  have o1 : ofI ((97 : Nat) : Int) = true := by decide
  have o2 : ofI ((32 : Nat) : Int) = false := by decide
  have o3 : ofI ((98 : Nat) : Int) = true := by decide
  rw [show_cons (by decide)]
  unfold seen
  rw [d1]
  simp only
  rw [if_pos o1]
  show [97] ++ showS [32, 98] = _
  rw [show_cons (by decide)]
  unfold seen
  rw [d2]
  simp only
  rw [o2, if_neg (by decide), hex32]
  show [97] ++ ([60, 50, 48, 62] ++ showS [98]) = _
  rw [show_cons (by decide)]
  unfold seen
  rw [d3]
  simp only
  rw [if_pos o3]
  show [97] ++ ([60, 50, 48, 62] ++ ([98] ++ showS [])) = _
  rw [show_nil]
  rfl

theorem right1 : rightS [97, 98] = true := by unfold rightS; rw [rns_F 2 _ (by decide)]; decide +kernel
theorem right2 : rightS [230, 151, 165, 230, 156, 172] = true := by unfold rightS; rw [rns_F 6 _ (by decide)]; decide +kernel
theorem right3 : rightS [97, 32, 98] = false := by unfold rightS; rw [rns_F 3 _ (by decide)]; decide +kernel
theorem right4 : rightS [] = false := by unfold rightS; rw [rns_F 0 _ (by decide)]; decide +kernel
theorem right5 : rightS [49, 50, 51, 52, 53, 54, 55, 56, 57] = false := by unfold rightS; rw [rns_F 9 _ (by decide)]; decide +kernel

theorem right_call {Bd : Bodies} (h : H_name_Right Bd) (n : Nat) (s : List UInt8) (hn : s.length + 12 ≤ n) (hs : s.length < 100000) (st : St) : run Bd n 26 [.str s] st = some (.val [.bool (rightS s)], st) := by
  obtain ⟨o, e, rfl⟩ := ev_name_Right h n s hn hs st
  exact e

theorem ev_law04_awake {Bd : Bodies} (h : H_law04_awake Bd) (n : Nat) (hn : 140 ≤ n) (st : St) (ht : Tabs st) : Ok (fun o => ∃ s', o = (.val [.bool true], s') ∧ Pre st s') (run Bd n 25 [] st) := by
  obtain ⟨n, rfl⟩ : ∃ m, n = m + 1 := ⟨n - 1, by omega⟩
  rw [run_succ, h.eq]
  unfold b_law04_awake
  have c1 : run Bd n 26 [.str (bs [97, 98])] st = _ := right_call h.name_Right n _ (by show 2 + 12 ≤ n; omega) (by decide) st
  have c2 : run Bd n 26 [.str (bs [230, 151, 165, 230, 156, 172])] st = _ := right_call h.name_Right n _ (by show 6 + 12 ≤ n; omega) (by decide) st
  have c3 : run Bd n 26 [.str (bs [97, 32, 98])] st = _ := right_call h.name_Right n _ (by show 3 + 12 ≤ n; omega) (by decide) st
  have c4 : run Bd n 26 [.str (bs [])] st = _ := right_call h.name_Right n _ (by show 0 + 12 ≤ n; omega) (by decide) st
  have c5 : run Bd n 26 [.str (bs [49, 50, 51, 52, 53, 54, 55, 56, 57])] st = _ := right_call h.name_Right n _ (by show 9 + 12 ≤ n; omega) (by decide) st
  rw [show rightS (bs [97, 98]) = true from right1] at c1
  rw [show rightS (bs [230, 151, 165, 230, 156, 172]) = true from right2] at c2
  rw [show rightS (bs [97, 32, 98]) = false from right3] at c3
  rw [show rightS (bs []) = false from right4] at c4
  rw [show rightS (bs [49, 50, 51, 52, 53, 54, 55, 56, 57]) = false from right5] at c5
  simp only [D_nil, call_eq c1, call_eq c2, call_eq c3, call_eq c4, call_eq c5, J_b, join_eq, cond_true, Bool.not_false]
  refine Ok.call (ev_name_Show h.name_Show n (bs [97, 32, 98]) (by show 3 + 120 ≤ n; omega) (by decide) st ht) ?_
  rintro _ ⟨s1, rfl, hp⟩
  refine ⟨_, s1, rfl, ?_⟩
  simp only [J_s, D_nil, ret_eq]
  rw [show (showS (bs [97, 32, 98]) == bs [97, 60, 50, 48, 62, 98]) = true by rw [show showS (bs [97, 32, 98]) = _ from show_a_b]; rfl]
  exact .mk ⟨s1, rfl, hp⟩

theorem i32_range {n : Int} (h : IntKind.min .i32 ≤ n ∧ n ≤ IntKind.max .i32) : -2147483648 ≤ n ∧ n ≤ 2147483647 := by
  have e1 : IntKind.min .i32 = -2147483648 := by decide
  have e2 : IntKind.max .i32 = 2147483647 := by decide
  rw [e1, e2] at h
  exact h

theorem ok_true {Bd : Bodies} {n g : Nat} {args : List DV} {s : St} (h : Ok (fun o => ∃ s', o = (.val [.bool true], s')) (run Bd n g args s)) : ∃ n s', run Bd n g args s = some (.val [.bool true], s') := by
  obtain ⟨o, e, s', rfl⟩ := h
  exact ⟨n, s', e⟩

theorem law_law04_NameRights {Bd : Bodies} (h : H_law04_NameRights Bd) (s : St) (args : List DV) (_ : Frz s) (ht : Tabs s) (hr : RdA s [(false, .s), (false, .i .i32)] args) : ∃ n s', run Bd n 24 args s = some (.val [.bool true], s') := by
  obtain ⟨_, _, _, ⟨l, rfl, _⟩, ⟨_, _, _, ⟨r, rfl, hr1, hr2⟩, rfl, rfl, hd2⟩, rfl, hd⟩ := hr
  cases hd
  cases hd2
  have hrr := i32_range ⟨hr1, hr2⟩
  refine ok_true (n := 1000) ?_
  rw [run_succ, h.eq]
  unfold b_law04_NameRights
  simp only [J_s, J_i, D_nil]
  refine Ok.call (ev_law04_awake h.law04_awake 999 (by omega) s ht) ?_
  rintro _ ⟨s1, rfl, hp1⟩
  refine ⟨_, s1, rfl, ?_⟩
  simp only [J_b, D_nil, Bool.not_true, cond_false, join_eq]
  by_cases hl : l.length > 300
  · have e : decide ((l.length : Int) > 300) = true := decide_eq_true (by omega)
    simp only [e, cond_true]
    refine Ok.call (ev_law04_awake h.law04_awake 999 (by omega) s1 (ht.mono hp1)) ?_
    rintro _ ⟨s2, rfl, hp2⟩
    refine ⟨_, s2, rfl, ?_⟩
    simp only [J_b, D_nil, ret_eq]
    exact .mk ⟨s2, rfl⟩
  · have e : decide ((l.length : Int) > 300) = false := decide_eq_false (by omega)
    simp only [e, cond_false]
    rw [call_eq (right_call h.name_Right 999 l (by omega) (by omega) s1)]
    simp only [J_b, D_nil]
    refine Ok.call (ev_ref04_Right h.ref04_Right 999 l (by omega) (by omega) s1) ?_
    rintro _ ⟨s2, rfl, hp2⟩
    refine ⟨_, s2, rfl, ?_⟩
    simp only [J_b, D_nil, beq_self_eq_true, cond_true]
    rw [call_eq (ev_name_Of h.name_Of 991 r s2)]
    simp only [J_b, D_nil]
    rw [wr64_of (by omega) (by omega), call_eq (ev_ref04_Of h.ref04_Of 998 r s2)]
    simp only [J_b, D_nil, beq_self_eq_true, ret_eq]
    exact .mk ⟨s2, rfl⟩

/-! ### A name is seen as it is -/
theorem show_name (s : List UInt8) : ∀ (k p : Nat), s.length - p ≤ k → p ≤ s.length → ((rns (s.drop p)).all fun r => ofI r) = true → showS (s.drop p) = s.drop p
  | k, p, hk, hp, h => by
    by_cases hlt : p < s.length
    · rw [rns_at hlt, List.all_cons, Bool.and_eq_true] at h
      have hw := dec_pos s p
      have hle := dec_le s p hlt
      rw [show_at hlt]
      unfold seen
      rw [if_pos h.1]
      match k, hk with
      | 0, hk => omega
      | k + 1, hk =>
        rw [show_name s k (p + (dec s p).2) (by omega) hle h.2, ← List.drop_drop, List.take_append_drop]
    · rw [List.drop_of_length_le (by omega), show_nil]
theorem rightS_all {s : List UInt8} (h : rightS s = true) : ((rns s).all fun r => ofI r) = true := by
  unfold rightS at h
  simp only [Bool.and_eq_true] at h
  exact h.2.2
theorem show_right {s : List UInt8} (h : rightS s = true) : showS s = s := by
  have := show_name s s.length 0 (by omega) (Nat.zero_le _) (by rw [List.drop_zero]; exact rightS_all h)
  rwa [List.drop_zero] at this

theorem law_law04_NameShows {Bd : Bodies} (h : H_law04_NameShows Bd) (s : St) (args : List DV) (_ : Frz s) (ht : Tabs s) (hr : RdA s [(false, .s)] args) : ∃ n s', run Bd n 30 args s = some (.val [.bool true], s') := by
  obtain ⟨_, _, _, ⟨l, rfl, _⟩, rfl, rfl, hd⟩ := hr
  cases hd
  refine ok_true (n := 1000) ?_
  rw [run_succ, h.eq]
  unfold b_law04_NameShows
  simp only [J_s, D_nil]
  refine Ok.call (ev_law04_awake h.law04_awake 999 (by omega) s ht) ?_
  rintro _ ⟨s1, rfl, hp1⟩
  refine ⟨_, s1, rfl, ?_⟩
  simp only [J_b, D_nil, Bool.not_true, cond_false, join_eq]
  by_cases hl : l.length > 300
  · have e : decide ((l.length : Int) > 300) = true := decide_eq_true (by omega)
    simp only [e, cond_true]
    refine Ok.call (ev_law04_awake h.law04_awake 999 (by omega) s1 (ht.mono hp1)) ?_
    rintro _ ⟨s2, rfl, hp2⟩
    refine ⟨_, s2, rfl, ?_⟩
    simp only [J_b, D_nil, ret_eq]
    exact .mk ⟨s2, rfl⟩
  · have e : decide ((l.length : Int) > 300) = false := decide_eq_false (by omega)
    simp only [e, cond_false]
    refine Ok.call (ev_name_Show h.name_Show 999 l (by omega) (by omega) s1 (ht.mono hp1)) ?_
    rintro _ ⟨s2, rfl, hp2⟩
    refine ⟨_, s2, rfl, ?_⟩
    simp only [J_s, D_nil]
    refine Ok.call (ev_ref04_Show h.ref04_Show 999 l (by omega) (by omega) s2) ?_
    rintro _ rfl
    refine ⟨_, s2, rfl, ?_⟩
    simp only [J_s, D_nil, beq_self_eq_true, cond_true]
    rw [call_eq (right_call h.name_Right 999 l (by omega) (by omega) s2)]
    simp only [J_b, D_nil]
    cases hb : rightS l with
    | false =>
      simp only [Bool.not_false, cond_true, ret_eq]
      exact .mk ⟨s2, rfl⟩
    | true =>
      simp only [Bool.not_true, cond_false, ret_eq]
      rw [show_right hb, beq_self_eq_true]
      exact .mk ⟨s2, rfl⟩

/-! ### Beginnings -/
/-- Where so many runes end. -/
def cutE (s : List UInt8) : Nat → Nat → Nat
  | 0, p => p
  | n + 1, p => if p < s.length then cutE s n (p + (dec s p).2) else p
theorem cutE_succ {s : List UInt8} (n p : Nat) : cutE s (n + 1) p = if p < s.length then cutE s n (p + (dec s p).2) else p := rfl
theorem cutE_out {s : List UInt8} : ∀ (n p : Nat), s.length ≤ p → cutE s n p = p
  | 0, _, _ => rfl
  | n + 1, p, h => by unfold cutE; rw [if_neg (by omega)]
theorem cutE_le {s : List UInt8} : ∀ (n p : Nat), p ≤ s.length → cutE s n p ≤ s.length
  | 0, _, h => h
  | n + 1, p, h => by
    unfold cutE
    split
    · rename_i hlt; exact cutE_le n _ (dec_le s p hlt)
    · exact h

theorem ev_name_Cut {Bd : Bodies} (h : H_name_Cut Bd) (n : Nat) (s : List UInt8) (m : Int) (hm : -9223372036854775808 ≤ m ∧ m ≤ 9223372036854775807) (hn : s.length + 2 ≤ n) (st : St) :
    Ok (fun o => o = (.val [.str (s.take (cutE s m.toNat 0))], st)) (run Bd n 36 [.str s, .int .i64 m] st) := by
  obtain ⟨n, rfl⟩ : ∃ k, n = k + 1 := ⟨n - 1, by omega⟩
  rw [run_succ, h.eq]
  unfold b_name_Cut
  simp only [J_s, J_i, D_nil]
  rw [join_eq]
  refine loop_rule _ (fun k x s2 => ∃ (p : Nat) (z : Int), x = [.int .i64 z, .nat p] ∧ p ≤ s.length ∧ s.length - p ≤ k ∧ s2 = st ∧ z ≤ m ∧ -9223372036854775808 ≤ z ∧ (0 ≤ z ∨ p = 0) ∧ cutE s z.toNat p = cutE s m.toNat 0)
    ?_ s.length n _ _ ⟨0, m, rfl, Nat.zero_le _, by omega, rfl, Int.le_refl _, hm.1, .inr rfl, rfl⟩ (by omega)
  rintro k _ s2 ⟨p, z, rfl, hp, hk, rfl, hz, hz2, hz0, hc⟩ rec hrec
  simp only [J_i, J_n, D_nil]
  by_cases hlt : p < s.length
  · have hblt : Nat.blt p s.length = true := by rw [Nat.blt_eq]; exact hlt
    have hw := dec_pos s p
    have hle := dec_le s p hlt
    simp only [hblt, cond_true, runeW]
    by_cases h1 : z < 1
    · rw [decide_eq_true h1, cond_true, chk_of (by simp only [Bool.and_eq_true, decide_eq_true_eq]; omega), ret_eq, Int.toNat_natCast]
      have e : z.toNat = 0 := by omega
      rw [e] at hc
      exact .mk (by rw [← hc]; rfl)
    · rw [decide_eq_false h1, cond_false, wr64_of (by omega) (by omega)]
      obtain ⟨q, hq⟩ : ∃ q, z.toNat = q + 1 := ⟨z.toNat - 1, by omega⟩
      rw [hq] at hc
      rw [cutE_succ, if_pos hlt] at hc
      exact hrec (s.length - (p + (dec s p).2)) _ _ (by omega) ⟨p + (dec s p).2, z - 1, rfl, hle, by omega, rfl, by omega, by omega, .inl (by omega), by rw [show (z - 1).toNat = q by omega]; exact hc⟩
  · have e : Nat.blt p s.length = false := by rw [Bool.eq_false_iff]; intro h; rw [Nat.blt_eq] at h; exact hlt h
    simp only [e, cond_false]
    rw [cutE_out _ _ (by omega)] at hc
    by_cases h0 : z < 0
    · rw [decide_eq_true h0, cond_true, ret_eq]
      have : p = 0 := by omega
      subst this
      exact .mk (by rw [← hc]; rfl)
    · rw [decide_eq_false h0, cond_false, ret_eq]
      refine .mk ?_
      rw [← hc, List.take_of_length_le (by omega)]

theorem ev_ref04_Cut {Bd : Bodies} (h : H_ref04_Cut Bd) (n : Nat) (s : List UInt8) (m : Int) (hm : -9223372036854775808 ≤ m ∧ m ≤ 9223372036854775807) (hn : s.length + 8 ≤ n) (hs : s.length < 100000) (st : St) :
    Ok (fun o => o = (.val [.str (s.take (cutE s m.toNat 0))], st)) (run Bd n 37 [.str s, .int .i64 m] st) := by
  obtain ⟨n, rfl⟩ : ∃ k, n = k + 3 := ⟨n - 3, by omega⟩
  rw [run_succ, h.eq]
  unfold b_ref04_Cut
  simp only [J_s, J_i, D_nil]
  rw [join_eq]
  refine loop_rule _ (fun k x s2 => ∃ (p : Nat) (z : Int), x = [.str (s.drop p), .int .i64 z, .str (s.take p)] ∧ p ≤ s.length ∧ s.length - p ≤ k ∧ s2 = st ∧ z ≤ m ∧ -9223372036854775808 ≤ z ∧ cutE s z.toNat p = cutE s m.toNat 0)
    ?_ s.length (n + 2) _ _ ⟨0, m, rfl, Nat.zero_le _, by omega, rfl, Int.le_refl _, hm.1, rfl⟩ (by omega)
  rintro k _ s2 ⟨p, z, rfl, hp, hk, rfl, hz, hz2, hc⟩ rec hrec
  have hdl : (s.drop p).length = s.length - p := List.length_drop
  simp only [J_i, J_s, D_nil, join_bool, J_b]
  by_cases hgo : p < s.length ∧ z > 0
  · have e : (bif decide (((s.drop p).length : Int) > 0) then decide (z > 0) else false) = true := by
      rw [Bool.cond_false_right, Bool.and_eq_true, decide_eq_true_eq, decide_eq_true_eq]; omega
    have hw := dec_pos s p
    have hle := dec_le s p hgo.1
    have hd : dec (s.drop p) 0 = dec s p := by rw [dec_drop, Nat.add_zero]
    rw [e, cond_true, call_eq (ev_ref04_First h.ref04_First n (s.drop p) (by omega) s2)]
    simp only [J_i, D_nil, hd, Int.toNat_natCast]
    rw [chk_of (by simp only [Bool.and_eq_true, decide_eq_true_eq]; omega), chk_of (Nat.ble_eq_true_of_le (by simp only [List.length_take, List.length_drop]; omega)), chk_of (by simp only [Bool.and_eq_true, decide_eq_true_eq]; omega), wr64_of (by omega) (by omega), List.drop_drop, ← List.take_add]
    obtain ⟨q, hq⟩ : ∃ q, z.toNat = q + 1 := ⟨z.toNat - 1, by omega⟩
    rw [hq] at hc
    rw [cutE_succ, if_pos hgo.1] at hc
    exact hrec (s.length - (p + (dec s p).2)) _ _ (by omega) ⟨p + (dec s p).2, z - 1, rfl, hle, by omega, rfl, by omega, by omega, by rw [show (z - 1).toNat = q by omega]; exact hc⟩
  · have e : (bif decide (((s.drop p).length : Int) > 0) then decide (z > 0) else false) = false := by
      rw [Bool.cond_false_right, Bool.and_eq_false_iff, decide_eq_false_iff_not, decide_eq_false_iff_not]; omega
    rw [e, cond_false, ret_eq]
    have hE : cutE s z.toNat p = p := by
      by_cases hlt : p < s.length
      · rw [show z.toNat = 0 by omega]; rfl
      · exact cutE_out _ _ (by omega)
    exact .mk (by rw [← hc, hE])

theorem i64_range {n : Int} (h : IntKind.min .i64 ≤ n ∧ n ≤ IntKind.max .i64) : -9223372036854775808 ≤ n ∧ n ≤ 9223372036854775807 := by
  have e1 : IntKind.min .i64 = -9223372036854775808 := by decide
  have e2 : IntKind.max .i64 = 9223372036854775807 := by decide
  rw [e1, e2] at h
  exact h

theorem law_law04_NameCuts {Bd : Bodies} (h : H_law04_NameCuts Bd) (s : St) (args : List DV) (_ : Frz s) (ht : Tabs s) (hr : RdA s [(false, .s), (false, .i .i64)] args) : ∃ n s', run Bd n 35 args s = some (.val [.bool true], s') := by
  obtain ⟨_, _, _, ⟨l, rfl, _⟩, ⟨_, _, _, ⟨r, rfl, hr1, hr2⟩, rfl, rfl, hd2⟩, rfl, hd⟩ := hr
  cases hd
  cases hd2
  have hrr := i64_range ⟨hr1, hr2⟩
  refine ok_true (n := 1000) ?_
  rw [run_succ, h.eq]
  unfold b_law04_NameCuts
  simp only [J_s, J_i, D_nil]
  refine Ok.call (ev_law04_awake h.law04_awake 999 (by omega) s ht) ?_
  rintro _ ⟨s1, rfl, hp1⟩
  refine ⟨_, s1, rfl, ?_⟩
  simp only [J_b, D_nil, Bool.not_true, cond_false, join_eq]
  by_cases hl : l.length > 300
  · have e : decide ((l.length : Int) > 300) = true := decide_eq_true (by omega)
    simp only [e, cond_true]
    refine Ok.call (ev_law04_awake h.law04_awake 999 (by omega) s1 (ht.mono hp1)) ?_
    rintro _ ⟨s2, rfl, hp2⟩
    refine ⟨_, s2, rfl, ?_⟩
    simp only [J_b, D_nil, ret_eq]
    exact .mk ⟨s2, rfl⟩
  · have e : decide ((l.length : Int) > 300) = false := decide_eq_false (by omega)
    simp only [e, cond_false]
    refine Ok.call (ev_name_Cut h.name_Cut 999 l r hrr (by omega) s1) ?_
    rintro _ rfl
    refine ⟨_, s1, rfl, ?_⟩
    simp only [J_s, D_nil]
    refine Ok.call (ev_ref04_Cut h.ref04_Cut 999 l r hrr (by omega) (by omega) s1) ?_
    rintro _ rfl
    refine ⟨_, s1, rfl, ?_⟩
    have hle := cutE_le (s := l) r.toNat 0 (Nat.zero_le _)
    have htl : (l.take (cutE l r.toNat 0)).length = cutE l r.toNat 0 := by rw [List.length_take]; omega
    simp only [J_s, D_nil, beq_self_eq_true, cond_true, htl, Int.toNat_natCast]
    rw [chk_of (by simp only [Bool.and_eq_true, decide_eq_true_eq]; omega), ret_eq]
    exact .mk ⟨s1, rfl⟩

/-! ### Runes -/
def ic32 (r : Nat) : DV := .int .i32 (r : Int)
theorem ev_name_Runes {Bd : Bodies} (h : H_name_Runes Bd) (n : Nat) (s : List UInt8) (hn : s.length + 4 ≤ n) (hs : s.length < 1000000) (st : St) :
    Ok (fun o => ∃ a s', o = (.val [.slice 1 a (rns s).length], s') ∧ Pre st s' ∧ Sl s' a ((rns s).map ic32)) (run Bd n 34 [.str s] st) := by
  obtain ⟨n, rfl⟩ : ∃ m, n = m + 1 := ⟨n - 1, by omega⟩
  rw [run_succ, h.eq]
  unfold b_name_Runes
  simp only [J_s, D_nil, base_eq]
  rw [join_eq]
  refine loop_rule _ (fun k x s1 => ∃ (p : Nat) (a : Option (Nat × Nat)) (z : Nat) (acc : List Nat), x = [.slice z a acc.length, .nat p] ∧ (z = 1 ∨ a = none) ∧ p ≤ s.length ∧ s.length - p ≤ k ∧ acc.length ≤ p ∧ rns s = acc ++ rns (s.drop p) ∧ Own st s1 a (acc.map ic32))
    ?_ s.length n _ _ ⟨0, none, 0, [], rfl, .inr rfl, Nat.zero_le _, by omega, Nat.zero_le _, by rw [List.drop_zero]; rfl, Own.nil (.refl st)⟩ (by omega)
  rintro k _ s1 ⟨p, a, z, acc, rfl, hz, hp, hk, hl, hr, ho⟩ rec hrec
  simp only [J_n, J_l_any 1 z a _ hz, D_nil, J_l]
  by_cases hlt : p < s.length
  · have hblt : Nat.blt p s.length = true := by rw [Nat.blt_eq]; exact hlt
    have hw := dec_pos s p
    have hle := dec_le s p hlt
    rw [hblt, cond_true]
    obtain ⟨q, s2, ho2, hp2⟩ := ho.push (β := List DV) (sz := 1) (n := acc.length) (lim := 17592186044416) [ic32 (dec s p).1] (Nat.succ_pos 0) (by simp) rfl (by omega)
    have := hp2 (fun p1 => rec [.slice 1 p1 (acc.length + 1), .nat (p + runeW s p)])
    refine (congrArg (Ok _) this).mpr ?_
    refine hrec (s.length - (p + (dec s p).2)) _ _ (by omega) ⟨p + (dec s p).2, q, 1, acc ++ [(dec s p).1], by simp [runeW], .inl rfl, hle, by omega, by simp; omega, by rw [hr, rns_at hlt]; simp, by simpa using ho2⟩
  · have e : Nat.blt p s.length = false := by rw [Bool.eq_false_iff]; intro h; rw [Nat.blt_eq] at h; exact hlt h
    rw [e, cond_false]
    rw [List.drop_of_length_le (by omega), rns_nil, List.append_nil] at hr
    rw [retF_eq, hr]
    exact .mk ⟨a, _, rfl, frz_pre ho.1, ho.sl.frz _⟩

theorem rns_small (s : List UInt8) : ∀ r ∈ rns s, r < 2097152 := by
  have key : ∀ (k : Nat) (s : List UInt8), s.length ≤ k → ∀ r ∈ rns s, r < 2097152 := by
    intro k
    induction k with
    | zero =>
      intro s h r hr
      have e : s = [] := List.eq_nil_of_length_eq_zero (by omega)
      rw [e, rns_nil] at hr; cases hr
    | succ k ih =>
      intro s h r hr
      by_cases h0 : 0 < s.length
      · rw [rns_cons h0, List.mem_cons] at hr
        rcases hr with rfl | hr
        · exact dec_lt s 0
        · have := dec_pos s 0
          exact ih _ (by simp only [List.length_drop]; omega) r hr
      · have e : s = [] := List.eq_nil_of_length_eq_zero (by omega)
        rw [e, rns_nil] at hr; cases hr
  exact key s.length s (Nat.le_refl _)

theorem law_law04_NameRunes {Bd : Bodies} (h : H_law04_NameRunes Bd) (s : St) (args : List DV) (_ : Frz s) (ht : Tabs s) (hr : RdA s [(false, .s)] args) : ∃ n s', run Bd n 33 args s = some (.val [.bool true], s') := by
  obtain ⟨_, _, _, ⟨l, rfl, _⟩, rfl, rfl, hd⟩ := hr
  cases hd
  refine ok_true (n := 1000) ?_
  rw [run_succ, h.eq]
  unfold b_law04_NameRunes
  simp only [J_s, D_nil]
  refine Ok.call (ev_law04_awake h.law04_awake 999 (by omega) s ht) ?_
  rintro _ ⟨s1, rfl, hp1⟩
  refine ⟨_, s1, rfl, ?_⟩
  simp only [J_b, D_nil, Bool.not_true, cond_false]
  rw [join_eq]
  simp only [J_b, D_nil]
  by_cases hl : l.length > 300
  · have e : decide ((l.length : Int) > 300) = true := decide_eq_true (by omega)
    simp only [e, cond_true]
    refine Ok.call (ev_law04_awake h.law04_awake 999 (by omega) s1 (ht.mono hp1)) ?_
    rintro _ ⟨s2, rfl, hp2⟩
    refine ⟨_, s2, rfl, ?_⟩
    simp only [J_b, D_nil, ret_eq]
    exact .mk ⟨s2, rfl⟩
  · have e : decide ((l.length : Int) > 300) = false := decide_eq_false (by omega)
    simp only [e, cond_false]
    refine Ok.call (ev_name_Runes h.name_Runes 999 l (by omega) (by omega) s1) ?_
    rintro _ ⟨a, s2, rfl, hp2, hsl⟩
    refine ⟨_, s2, rfl, ?_⟩
    simp only [J_l, D_nil]
    refine Ok.call (ev_ref04_Runes h.ref04_Runes 999 l (by omega) (by omega) s2) ?_
    rintro _ ⟨a', s3, rfl, hp3, hsl'⟩
    refine ⟨_, s3, rfl, ?_⟩
    have hsl := hsl.mono hp3
    have hrl := rns_len l
    simp only [J_l, D_nil, beq_self_eq_true, Bool.not_true, cond_false]
    rw [join_eq]
    refine loop_rule _ (fun k x s4 => ∃ i : Nat, x = [.int .i64 i] ∧ i ≤ (rns l).length ∧ (rns l).length - i ≤ k ∧ s4 = s3) ?_ (rns l).length 999 _ _ ⟨0, rfl, Nat.zero_le _, by omega, rfl⟩ (by omega)
    rintro k _ s4 ⟨i, rfl, hi, hk, rfl⟩ rec hrec
    simp only [J_i, D_nil]
    by_cases hlt : i < (rns l).length
    · rw [decide_eq_true (show (i : Int) < ((rns l).length : Int) by omega), cond_true]
      obtain ⟨r, hr⟩ : ∃ r, (rns l)[i]? = some r := ⟨_, List.getElem?_eq_getElem hlt⟩
      have hrs := rns_small l r (List.mem_of_getElem? hr)
      obtain ⟨b, o, rfl⟩ := hsl.some_of (by simp; omega)
      obtain ⟨b', o', rfl⟩ := hsl'.some_of (by simp; omega)
      simp only [nn_some', chk_of (inB_of hlt), Int.toNat_natCast]
      rw [hsl.get1 (d := ic32 r) (by simp [hr])]
      unfold ic32
      simp only [D_int]
      rw [hsl'.get1 (d := ic r) (by simp [hr])]
      unfold ic
      simp only [D_int]
      rw [wr64_of (by omega) (by omega), beq_self_eq_true, Bool.not_true, cond_false, wr64_of (by omega) (by omega)]
      exact hrec (k - 1) _ _ (by omega) ⟨i + 1, rfl, by omega, by omega, rfl⟩
    · rw [decide_eq_false (show ¬ (i : Int) < ((rns l).length : Int) by omega), cond_false, ret_eq]
      exact .mk ⟨s4, rfl⟩
end Go.Gv.F
