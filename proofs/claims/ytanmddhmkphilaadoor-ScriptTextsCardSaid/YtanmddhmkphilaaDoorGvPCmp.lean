/- The order of texts. -/
import Derived.Test.YtanmddhmkphilaaDoorGvPLaw04
namespace Go.Gv.F

/-- Which of two lists of runes comes first. -/
def cmpL : List Nat → List Nat → Int
  | [], [] => 0
  | [], _ :: _ => -1
  | _ :: _, [] => 1
  | a :: l, b :: m => if a < b then -1 else if b < a then 1 else cmpL l m

theorem cmpL_self : ∀ l : List Nat, cmpL l l = 0
  | [] => rfl
  | a :: l => by simp only [cmpL, Nat.lt_irrefl, if_false]; exact cmpL_self l
theorem cmpL_cases : ∀ l m : List Nat, cmpL l m = 0 ∨ cmpL l m = 1 ∨ cmpL l m = -1
  | [], [] => .inl rfl
  | [], _ :: _ => .inr (.inr rfl)
  | _ :: _, [] => .inr (.inl rfl)
  | a :: l, b :: m => by
    simp only [cmpL]
    split
    · exact .inr (.inr rfl)
    · split
      · exact .inr (.inl rfl)
      · exact cmpL_cases l m
theorem cmpL_anti : ∀ l m : List Nat, cmpL m l = - cmpL l m
  | [], [] => rfl
  | [], _ :: _ => rfl
  | _ :: _, [] => rfl
  | a :: l, b :: m => by
    simp only [cmpL]
    by_cases h1 : a < b
    · rw [if_pos h1, if_neg (by omega), if_pos h1]; rfl
    · by_cases h2 : b < a
      · rw [if_pos h2, if_neg h1, if_pos h2]
      · rw [if_neg h2, if_neg h1, if_neg h1, if_neg h2]; exact cmpL_anti l m
theorem cmpL_eq : ∀ {l m : List Nat}, cmpL l m = 0 → l = m
  | [], [], _ => rfl
  | [], _ :: _, h => by cases h
  | _ :: _, [], h => by cases h
  | a :: l, b :: m, h => by
    simp only [cmpL] at h
    by_cases h1 : a < b
    · rw [if_pos h1] at h; cases h
    · by_cases h2 : b < a
      · rw [if_neg h1, if_pos h2] at h; cases h
      · rw [if_neg h1, if_neg h2] at h
        rw [cmpL_eq h, show a = b by omega]
theorem cmpL_trans : ∀ l m k : List Nat, cmpL l m < 0 → cmpL m k < 0 → cmpL l k < 0
  | [], [], _, h, _ => by cases h
  | _ :: _, [], _, h, _ => by cases h
  | _, _ :: _, [], _, h => by cases h
  | [], _ :: _, _ :: _, _, _ => by show (-1 : Int) < 0; decide
  | a :: l, b :: m, c :: k, h1, h2 => by
    simp only [cmpL] at h1 h2 ⊢
    by_cases e1 : a < b
    · by_cases e2 : b < c
      · rw [if_pos (by omega)]; decide
      · by_cases e3 : c < b
        · rw [if_neg e2, if_pos e3] at h2; cases h2
        · rw [if_pos (by omega)]; decide
    · by_cases e1' : b < a
      · rw [if_neg e1, if_pos e1'] at h1; cases h1
      · rw [if_neg e1, if_neg e1'] at h1
        by_cases e2 : b < c
        · rw [if_pos (by omega)]; decide
        · by_cases e3 : c < b
          · rw [if_neg e2, if_pos e3] at h2; cases h2
          · rw [if_neg e2, if_neg e3] at h2
            rw [if_neg (by omega), if_neg (by omega)]
            exact cmpL_trans l m k h1 h2

theorem cmpL_drop (l m : List Nat) (i : Nat) (hl : i < l.length) (hm : i < m.length) : cmpL (l.drop i) (m.drop i) = if l[i] < m[i] then -1 else if m[i] < l[i] then 1 else cmpL (l.drop (i + 1)) (m.drop (i + 1)) := by
  rw [List.drop_eq_getElem_cons hl, List.drop_eq_getElem_cons hm]
  rfl

theorem ev_cmp_isNaN {Bd : Bodies} (h : H_cmp_isNaN_rune Bd) (n : Nat) (x : Int) (st : St) : run Bd (n + 1) 72 [.int .i32 x] st = some (.val [.bool false], st) := by
  rw [run_succ, h.eq]
  unfold b_cmp_isNaN_rune
  simp only [J_i, D_nil, beq_self_eq_true, Bool.not_true, ret_eq]
theorem ev_cmp_Compare {Bd : Bodies} (h : H_cmp_Compare_rune Bd) (n : Nat) (x y : Nat) (st : St) : run Bd (n + 2) 64 [.int .i32 x, .int .i32 y] st = some (.val [.int .i64 (if x < y then -1 else if y < x then 1 else 0)], st) := by
  rw [run_succ, h.eq]
  unfold b_cmp_Compare_rune
  simp only [J_i, D_nil]
  rw [call_eq (ev_cmp_isNaN h.cmp_isNaN_rune n _ st)]
  simp only [J_b, D_nil]
  rw [call_eq (ev_cmp_isNaN h.cmp_isNaN_rune n _ st)]
  simp only [J_b, D_nil, cond_false]
  by_cases h1 : x < y
  · rw [if_pos h1, decide_eq_true (show (x : Int) < (y : Int) by omega), cond_true, ret_eq]
  · rw [if_neg h1, decide_eq_false (show ¬ (x : Int) < (y : Int) by omega), cond_false]
    by_cases h2 : y < x
    · rw [if_pos h2, decide_eq_true (show (x : Int) > (y : Int) by omega), cond_true, ret_eq]
    · rw [if_neg h2, decide_eq_false (show ¬ (x : Int) > (y : Int) by omega), cond_false, ret_eq]

theorem ev_slices_Compare {Bd : Bodies} (h : H_slices_Compare_rune_rune Bd) (n : Nat) (l m : List Nat) (a b : Option (Nat × Nat)) (st : St) (ha : Sl st a (l.map ic32)) (hb : Sl st b (m.map ic32)) (hn : l.length + 4 ≤ n) (hl : l.length < 1000000) :
    Ok (fun o => o = (.val [.int .i64 (cmpL l m)], st)) (run Bd n 57 [.slice 1 a l.length, .slice 1 b m.length] st) := by
  obtain ⟨n, rfl⟩ : ∃ k, n = k + 3 := ⟨n - 3, by omega⟩
  rw [run_succ, h.eq]
  unfold b_slices_Compare_rune_rune
  simp only [J_l, D_nil]
  rw [join_eq]
  refine loop_rule _ (fun k x s2 => ∃ i : Nat, x = [.int .i64 i] ∧ i ≤ l.length ∧ i ≤ m.length ∧ l.length - i ≤ k ∧ s2 = st ∧ cmpL l m = cmpL (l.drop i) (m.drop i))
    ?_ l.length (n + 2) _ _ ⟨0, rfl, Nat.zero_le _, Nat.zero_le _, by omega, rfl, rfl⟩ (by omega)
  rintro k _ s2 ⟨i, rfl, hi, hi2, hk, rfl, hc⟩ rec hrec
  simp only [J_i, D_nil]
  by_cases hlt : i < l.length
  · rw [decide_eq_true (show (i : Int) < (l.length : Int) by omega), cond_true]
    obtain ⟨j, o, rfl⟩ := ha.some_of (by simp; omega)
    simp only [nn_some', chk_of (inB_of hlt), Int.toNat_natCast]
    rw [ha.get1 (d := ic32 l[i]) (by simp [hlt])]
    unfold ic32
    simp only [D_int]
    by_cases hlt2 : i < m.length
    · rw [decide_eq_false (show ¬ (i : Int) ≥ (m.length : Int) by omega), cond_false]
      obtain ⟨j2, o2, rfl⟩ := hb.some_of (by simp; omega)
      simp only [nn_some', chk_of (inB_of hlt2)]
      rw [hb.get1 (d := ic32 m[i]) (by simp [hlt2])]
      unfold ic32
      simp only [D_int]
      rw [call_eq (ev_cmp_Compare h.cmp_Compare_rune n l[i] m[i] s2)]
      simp only [J_i, D_nil]
      rw [cmpL_drop l m i hlt hlt2] at hc
      by_cases h1 : l[i] < m[i]
      · rw [if_pos h1] at hc ⊢
        exact .mk (by rw [hc])
      · rw [if_neg h1] at hc ⊢
        by_cases h2 : m[i] < l[i]
        · rw [if_pos h2] at hc ⊢
          exact .mk (by rw [hc])
        · rw [if_neg h2] at hc ⊢
          have e : (!((0 : Int) == 0)) = false := rfl
          rw [e, cond_false, wr64_of (by omega) (by omega)]
          exact hrec (k - 1) _ _ (by omega) ⟨i + 1, rfl, by omega, by omega, by omega, rfl, hc⟩
    · rw [decide_eq_true (show (i : Int) ≥ (m.length : Int) by omega), cond_true, ret_eq]
      rw [List.drop_eq_getElem_cons hlt, List.drop_of_length_le (by omega : m.length ≤ i)] at hc
      exact .mk (by rw [hc]; rfl)
  · rw [decide_eq_false (show ¬ (i : Int) < (l.length : Int) by omega), cond_false]
    rw [List.drop_of_length_le (by omega : l.length ≤ i)] at hc
    by_cases h2 : l.length < m.length
    · rw [decide_eq_true (show (l.length : Int) < (m.length : Int) by omega), cond_true, ret_eq]
      rw [List.drop_eq_getElem_cons (show i < m.length by omega)] at hc
      exact .mk (by rw [hc]; rfl)
    · rw [decide_eq_false (show ¬ (l.length : Int) < (m.length : Int) by omega), cond_false, ret_eq]
      rw [List.drop_of_length_le (by omega : m.length ≤ i)] at hc
      exact .mk (by rw [hc]; rfl)

theorem ev_name_Compare {Bd : Bodies} (h : H_name_Compare Bd) (n : Nat) (a b : List UInt8) (hn : a.length + 8 ≤ n) (hn2 : b.length + 8 ≤ n) (ha : a.length < 100000) (hb : b.length < 100000) (st : St) :
    Ok (fun o => ∃ s', o = (.val [.int .i64 (cmpL (rns a) (rns b))], s') ∧ Pre st s') (run Bd n 39 [.str a, .str b] st) := by
  obtain ⟨n, rfl⟩ : ∃ k, n = k + 1 := ⟨n - 1, by omega⟩
  rw [run_succ, h.eq]
  unfold b_name_Compare
  simp only [J_s, D_nil]
  refine Ok.call (ev_name_Runes h.name_Runes n a (by omega) (by omega) st) ?_
  rintro _ ⟨p, s1, rfl, hp1, hs1⟩
  refine ⟨_, s1, rfl, ?_⟩
  simp only [J_l, D_nil]
  refine Ok.call (ev_name_Runes h.name_Runes n b (by omega) (by omega) s1) ?_
  rintro _ ⟨q, s2, rfl, hp2, hs2⟩
  refine ⟨_, s2, rfl, ?_⟩
  simp only [J_l, D_nil]
  have hr := rns_len a
  refine Ok.call (ev_slices_Compare h.slices_Compare_rune_rune n (rns a) (rns b) p q s2 (hs1.mono hp2) hs2 (by omega) (by omega)) ?_
  rintro _ rfl
  refine ⟨_, s2, rfl, ?_⟩
  simp only [J_i, D_nil, ret_eq]
  exact .mk ⟨s2, rfl, hp1.trans hp2⟩

theorem ev_ref04_Compare {Bd : Bodies} (h : H_ref04_Compare Bd) (n : Nat) (a b : List UInt8) (hn : a.length + 8 ≤ n) (hn2 : b.length + 8 ≤ n) (ha : a.length < 100000) (hb : b.length < 100000) (st : St) :
    Ok (fun o => ∃ s', o = (.val [.int .i64 (cmpL (rns a) (rns b))], s') ∧ Pre st s') (run Bd n 40 [.str a, .str b] st) := by
  obtain ⟨n, rfl⟩ : ∃ k, n = k + 1 := ⟨n - 1, by omega⟩
  rw [run_succ, h.eq]
  unfold b_ref04_Compare
  simp only [J_s, D_nil]
  refine Ok.call (ev_ref04_Runes h.ref04_Runes n a (by omega) (by omega) st) ?_
  rintro _ ⟨p, s1, rfl, hp1, hs1⟩
  refine ⟨_, s1, rfl, ?_⟩
  simp only [J_l, D_nil]
  refine Ok.call (ev_ref04_Runes h.ref04_Runes n b (by omega) (by omega) s1) ?_
  rintro _ ⟨q, s2, rfl, hp2, hs2⟩
  refine ⟨_, s2, rfl, ?_⟩
  have hs1 := hs1.mono hp2
  have hr1 := rns_len a
  have hr2 := rns_len b
  simp only [J_l, D_nil]
  generalize hl : rns a = l at *
  generalize hm : rns b = m at *
  rw [join_eq]
  refine loop_rule _ (fun k x s3 => ∃ i : Nat, x = [.int .i64 i] ∧ i ≤ l.length ∧ i ≤ m.length ∧ l.length - i ≤ k ∧ s3 = s2 ∧ cmpL l m = cmpL (l.drop i) (m.drop i))
    ?_ l.length n _ _ ⟨0, rfl, Nat.zero_le _, Nat.zero_le _, by omega, rfl, rfl⟩ (by omega)
  rintro k _ s3 ⟨i, rfl, hi, hi2, hk, rfl, hc⟩ rec hrec
  simp only [J_i, D_nil, join_bool, J_b]
  by_cases hlt : i < l.length
  · by_cases hlt2 : i < m.length
    · rw [show (bif decide ((i : Int) < (l.length : Int)) then decide ((i : Int) < (m.length : Int)) else false) = true by rw [Bool.cond_false_right, Bool.and_eq_true, decide_eq_true_eq, decide_eq_true_eq]; omega, cond_true]
      obtain ⟨j, o, rfl⟩ := hs1.some_of (by simp; omega)
      obtain ⟨j2, o2, rfl⟩ := hs2.some_of (by simp; omega)
      have g1 : ∀ K : DV → M (List DV), M.load1 j (i * 1 + o) K s3 = K (.int .i64 (l[i] : Int)) s3 := fun K => hs1.get1 (d := ic l[i]) (by simp [hlt]) K
      have g2 : ∀ K : DV → M (List DV), M.load1 j2 (i * 1 + o2) K s3 = K (.int .i64 (m[i] : Int)) s3 := fun K => hs2.get1 (d := ic m[i]) (by simp [hlt2]) K
      simp only [nn_some', chk_of (inB_of hlt), chk_of (inB_of hlt2), Int.toNat_natCast]
      rw [g1]
      simp only [D_int]
      rw [g2]
      simp only [D_int]
      rw [cmpL_drop l m i hlt hlt2] at hc
      by_cases h1 : l[i] < m[i]
      · rw [if_pos h1] at hc
        rw [decide_eq_true (show (l[i] : Int) < (m[i] : Int) by omega), cond_true, ret_eq]
        exact .mk ⟨s3, by rw [hc], hp1.trans hp2⟩
      · rw [if_neg h1] at hc
        rw [decide_eq_false (show ¬ (l[i] : Int) < (m[i] : Int) by omega), cond_false, g1]
        simp only [D_int]
        rw [g2]
        simp only [D_int]
        by_cases h2 : m[i] < l[i]
        · rw [if_pos h2] at hc
          rw [decide_eq_true (show (l[i] : Int) > (m[i] : Int) by omega), cond_true, ret_eq]
          exact .mk ⟨s3, by rw [hc], hp1.trans hp2⟩
        · rw [if_neg h2] at hc
          rw [decide_eq_false (show ¬ (l[i] : Int) > (m[i] : Int) by omega), cond_false, wr64_of (by omega) (by omega)]
          exact hrec (k - 1) _ _ (by omega) ⟨i + 1, rfl, by omega, by omega, by omega, rfl, hc⟩
    · rw [show (bif decide ((i : Int) < (l.length : Int)) then decide ((i : Int) < (m.length : Int)) else false) = false by rw [Bool.cond_false_right, Bool.and_eq_false_iff, decide_eq_false_iff_not, decide_eq_false_iff_not]; omega, cond_false]
      rw [List.drop_eq_getElem_cons hlt, List.drop_of_length_le (by omega : m.length ≤ i)] at hc
      rw [decide_eq_false (show ¬ (l.length : Int) < (m.length : Int) by omega), cond_false, decide_eq_true (show (l.length : Int) > (m.length : Int) by omega), cond_true, ret_eq]
      exact .mk ⟨s3, by rw [hc]; rfl, hp1.trans hp2⟩
  · rw [show (bif decide ((i : Int) < (l.length : Int)) then decide ((i : Int) < (m.length : Int)) else false) = false by rw [Bool.cond_false_right, Bool.and_eq_false_iff, decide_eq_false_iff_not, decide_eq_false_iff_not]; omega, cond_false]
    rw [List.drop_of_length_le (by omega : l.length ≤ i)] at hc
    by_cases h2 : l.length < m.length
    · rw [decide_eq_true (show (l.length : Int) < (m.length : Int) by omega), cond_true, ret_eq]
      rw [List.drop_eq_getElem_cons (show i < m.length by omega)] at hc
      exact .mk ⟨s3, by rw [hc]; rfl, hp1.trans hp2⟩
    · rw [decide_eq_false (show ¬ (l.length : Int) < (m.length : Int) by omega), cond_false, decide_eq_false (show ¬ (l.length : Int) > (m.length : Int) by omega), cond_false, ret_eq]
      rw [List.drop_of_length_le (by omega : m.length ≤ i)] at hc
      exact .mk ⟨s3, by rw [hc]; rfl, hp1.trans hp2⟩

/-! ### Names are ordered octet by octet, too -/
theorem lt1 {a b : Nat} (h : a < b) (hb : b < 256) (x y : List UInt8) : strLt (UInt8.ofNat a :: x) (UInt8.ofNat b :: y) = true ∧ strLt (UInt8.ofNat b :: y) (UInt8.ofNat a :: x) = false := by
  have e1 : (UInt8.ofNat a).toNat = a := by simp; omega
  have e2 : (UInt8.ofNat b).toNat = b := by simp; omega
  have h1 : UInt8.ofNat a < UInt8.ofNat b := by rw [UInt8.lt_iff_toNat_lt, e1, e2]; exact h
  have h2 : ¬ UInt8.ofNat b < UInt8.ofNat a := by rw [UInt8.lt_iff_toNat_lt, e1, e2]; omega
  have h3 : (UInt8.ofNat b == UInt8.ofNat a) = false := by
    rw [beq_eq_false_iff_ne]
    intro h
    have := congrArg UInt8.toNat h
    rw [e1, e2] at this
    omega
  constructor
  · show (decide (UInt8.ofNat a < UInt8.ofNat b) || _) = true
    rw [decide_eq_true h1, Bool.true_or]
  · show (decide (UInt8.ofNat b < UInt8.ofNat a) || ((UInt8.ofNat b == UInt8.ofNat a) && _)) = false
    rw [decide_eq_false h2, h3, Bool.false_and, Bool.or_false]
theorem eq1 (a : UInt8) (x y : List UInt8) : strLt (a :: x) (a :: y) = strLt x y := by
  show (decide (a < a) || ((a == a) && strLt x y)) = strLt x y
  rw [decide_eq_false (UInt8.lt_irrefl a), beq_self_eq_true, Bool.true_and, Bool.false_or]
theorem eqs : ∀ (w x y : List UInt8), strLt (w ++ x) (w ++ y) = strLt x y
  | [], _, _ => rfl
  | a :: w, x, y => by rw [List.cons_append, List.cons_append, eq1, eqs w x y]

theorem encF_lt {r r' : Nat} (h : r < r') (h' : r' < 65536) (x y : List UInt8) : strLt (encF r ++ x) (encF r' ++ y) = true ∧ strLt (encF r' ++ y) (encF r ++ x) = false := by
  unfold encF
  by_cases a1 : r < 128
  · rw [if_pos a1]
    by_cases b1 : r' < 128
    · rw [if_pos b1]; exact lt1 h (by omega) _ _
    · rw [if_neg b1]
      by_cases b2 : r' < 2048
      · rw [if_pos b2]; exact lt1 (by omega) (by omega) _ _
      · rw [if_neg b2, if_pos h']; exact lt1 (by omega) (by omega) _ _
  · rw [if_neg a1, if_neg (show ¬ r' < 128 by omega)]
    by_cases a2 : r < 2048
    · rw [if_pos a2]
      by_cases b2 : r' < 2048
      · rw [if_pos b2]
        by_cases c : r / 64 < r' / 64
        · exact lt1 (by omega) (by omega) _ _
        · rw [show r' / 64 = r / 64 by omega]
          simp only [List.cons_append, eq1]
          exact lt1 (by omega) (by omega) _ _
      · rw [if_neg b2, if_pos h']; exact lt1 (by omega) (by omega) _ _
    · rw [if_neg a2, if_neg (show ¬ r' < 2048 by omega), if_pos h', if_pos (show r < 65536 by omega)]
      by_cases c : r / 4096 < r' / 4096
      · exact lt1 (by omega) (by omega) _ _
      · rw [show r' / 4096 = r / 4096 by omega]
        simp only [List.cons_append, eq1]
        by_cases c2 : r / 64 % 64 < r' / 64 % 64
        · exact lt1 (by omega) (by omega) _ _
        · rw [show r' / 64 % 64 = r / 64 % 64 by omega]
          simp only [eq1]
          exact lt1 (by omega) (by omega) _ _
theorem encF_ne (r : Nat) : encF r ≠ [] := by
  unfold encF
  repeat' split
  all_goals (exact List.cons_ne_nil _ _)
theorem encF_len {r : Nat} (h : r < 65536) : (encF r).length ≤ 3 := by
  unfold encF
  rw [if_pos h]
  repeat' split
  all_goals (simp)

theorem flat_lt : ∀ l m : List Nat, (∀ r ∈ l, r < 65536) → (∀ r ∈ m, r < 65536) → strLt (l.flatMap encF) (m.flatMap encF) = decide (cmpL l m < 0)
  | [], [], _, _ => rfl
  | [], b :: m, _, _ => by
    rw [List.flatMap_cons]
    cases h : encF b with
    | nil => exact absurd h (encF_ne b)
    | cons c r => rfl
  | a :: l, [], _, _ => by
    show Op.bytesLess _ [] = _
    unfold Op.bytesLess
    rfl
  | a :: l, b :: m, hl, hm => by
    simp only [List.flatMap_cons]
    by_cases h1 : a < b
    · rw [show cmpL (a :: l) (b :: m) = -1 by simp only [cmpL]; rw [if_pos h1], (encF_lt h1 (hm b (by simp)) _ _).1]; rfl
    · by_cases h2 : b < a
      · rw [show cmpL (a :: l) (b :: m) = 1 by simp only [cmpL]; rw [if_neg h1, if_pos h2], (encF_lt h2 (hl a (by simp)) _ _).2]; rfl
      · rw [show cmpL (a :: l) (b :: m) = cmpL l m by simp only [cmpL]; rw [if_neg h1, if_neg h2], show a = b by omega, eqs]
        exact flat_lt l m (fun r h => hl r (by simp [h])) (fun r h => hm r (by simp [h]))

theorem ofI_lt {r : Nat} (h : ofI (r : Int) = true) : r < 65536 := by
  unfold ofI at h
  simp only [Bool.or_eq_true, Bool.and_eq_true, decide_eq_true_eq, beq_iff_eq] at h
  omega
theorem enc_flat (r : Nat) (s : List UInt8) (p : Nat) (hp : p < s.length) (hr : (dec s p).1 = r) (ho : r ≠ 65533) : encF r = (s.drop p).take (dec s p).2 := by
  have h := enc_take s p hp (by rw [hr]; exact ho)
  rw [← h, hr]
  have hv : r < 55296 ∨ (57344 ≤ r ∧ r ≤ 1114111) := by
    rw [← hr]
    have h0 := oc_lt s p
    rw [dec_eq]
    by_cases c0 : oc s p < 128
    · rw [if_pos c0]; simp only; omega
    rw [if_neg c0]
    by_cases c1 : (194 ≤ oc s p ∧ oc s p ≤ 223) ∧ (128 ≤ oc s (p + 1) ∧ oc s (p + 1) ≤ 191)
    · rw [if_pos c1]; simp only; omega
    rw [if_neg c1]
    by_cases c2 : (224 ≤ oc s p ∧ oc s p ≤ 239) ∧ ((if oc s p = 224 then 160 else 128) ≤ oc s (p + 1) ∧ oc s (p + 1) ≤ (if oc s p = 237 then 159 else 191)) ∧ (128 ≤ oc s (p + 2) ∧ oc s (p + 2) ≤ 191)
    · rw [if_pos c2]
      obtain ⟨a1, ⟨b1, b2⟩, d1⟩ := c2
      have hb : 128 ≤ oc s (p + 1) ∧ oc s (p + 1) ≤ 191 ∧ (oc s p = 237 → oc s (p + 1) ≤ 159) := by
        split at b1 <;> split at b2 <;> omega
      simp only; omega
    rw [if_neg c2]
    by_cases c3 : (240 ≤ oc s p ∧ oc s p ≤ 244) ∧ ((if oc s p = 240 then 144 else 128) ≤ oc s (p + 1) ∧ oc s (p + 1) ≤ (if oc s p = 244 then 143 else 191)) ∧ (128 ≤ oc s (p + 2) ∧ oc s (p + 2) ≤ 191) ∧ (128 ≤ oc s (p + 3) ∧ oc s (p + 3) ≤ 191)
    · rw [if_pos c3]
      obtain ⟨a1, ⟨b1, b2⟩, d1, e1⟩ := c3
      have hb : 128 ≤ oc s (p + 1) ∧ oc s (p + 1) ≤ 191 ∧ (oc s p = 240 → 144 ≤ oc s (p + 1)) ∧ (oc s p = 244 → oc s (p + 1) ≤ 143) := by
        split at b1 <;> split at b2 <;> omega
      simp only; omega
    rw [if_neg c3]; simp only; omega
  exact (enc_eq r hv).symm

/-- A text without faults is its runes, encoded. -/
theorem flat_rns (s : List UInt8) : ∀ (k p : Nat), s.length - p ≤ k → p ≤ s.length → (∀ r ∈ rns (s.drop p), r ≠ 65533) → (rns (s.drop p)).flatMap encF = s.drop p
  | k, p, hk, hp, h => by
    by_cases hlt : p < s.length
    · rw [rns_at hlt] at h ⊢
      have hw := dec_pos s p
      have hle := dec_le s p hlt
      rw [List.flatMap_cons, enc_flat _ s p hlt rfl (h _ (by simp))]
      match k, hk with
      | 0, hk => omega
      | k + 1, hk =>
        rw [flat_rns s k (p + (dec s p).2) (by omega) hle (fun r hr => h r (by simp [hr])), ← List.drop_drop, List.take_append_drop]
    · rw [List.drop_of_length_le (by omega), rns_nil]; rfl
theorem right_flat {s : List UInt8} (h : rightS s = true) : (rns s).flatMap encF = s ∧ ∀ r ∈ rns s, r < 65536 := by
  have ha := rightS_all h
  rw [List.all_eq_true] at ha
  have := flat_rns s s.length 0 (by omega) (Nat.zero_le _) (by rw [List.drop_zero]; exact fun r hr => ofI_ne (ha r hr))
  rw [List.drop_zero] at this
  exact ⟨this, fun r hr => ofI_lt (ha r hr)⟩
theorem flat_len : ∀ l : List Nat, (∀ r ∈ l, r < 65536) → (l.flatMap encF).length ≤ 3 * l.length
  | [], _ => Nat.le_refl _
  | a :: l, h => by
    rw [List.flatMap_cons, List.length_append, List.length_cons]
    have h1 := encF_len (h a (by simp))
    have h2 := flat_len l fun r hr => h r (by simp [hr])
    omega
theorem right_len {s : List UInt8} (h : rightS s = true) : s.length ≤ 24 := by
  obtain ⟨h1, h2⟩ := right_flat h
  have h3 := flat_len (rns s) h2
  rw [h1] at h3
  unfold rightS at h
  simp only [Bool.and_eq_true, decide_eq_true_eq] at h
  omega

theorem law_law04_NameOrders {Bd : Bodies} (h : H_law04_NameOrders Bd) (s : St) (args : List DV) (_ : Frz s) (ht : Tabs s) (hr : RdA s [(false, .s), (false, .s)] args) : ∃ n s', run Bd n 38 args s = some (.val [.bool true], s') := by
  obtain ⟨_, _, _, ⟨a, rfl, _⟩, ⟨_, _, _, ⟨b, rfl, _⟩, rfl, rfl, hd2⟩, rfl, hd⟩ := hr
  cases hd
  cases hd2
  refine ok_true (n := 1000) ?_
  rw [run_succ, h.eq]
  unfold b_law04_NameOrders
  simp only [J_s, D_nil]
  refine Ok.call (ev_law04_awake h.law04_awake 999 (by omega) s ht) ?_
  rintro _ ⟨s1, rfl, hp1⟩
  refine ⟨_, s1, rfl, ?_⟩
  simp only [J_b, D_nil, Bool.not_true, cond_false, join_bool]
  have e0 : (bif decide ((a.length : Int) > 300) then true else decide ((b.length : Int) > 300)) = decide (a.length > 300 ∨ b.length > 300) := by
    rw [Bool.cond_true_left, Bool.eq_iff_iff]; simp only [Bool.or_eq_true, decide_eq_true_eq]; omega
  rw [e0]
  by_cases hl : a.length > 300 ∨ b.length > 300
  · rw [decide_eq_true hl, cond_true]
    refine Ok.call (ev_law04_awake h.law04_awake 999 (by omega) s1 (ht.mono hp1)) ?_
    rintro _ ⟨s2, rfl, hp2⟩
    refine ⟨_, s2, rfl, ?_⟩
    simp only [J_b, D_nil, ret_eq]
    exact .mk ⟨s2, rfl⟩
  · rw [decide_eq_false hl, cond_false]
    refine Ok.call (ev_name_Compare h.name_Compare 999 a b (by omega) (by omega) (by omega) (by omega) s1) ?_
    rintro _ ⟨s2, rfl, hp2⟩
    refine ⟨_, s2, rfl, ?_⟩
    simp only [J_i, D_nil]
    refine Ok.call (ev_ref04_Compare h.ref04_Compare 999 a b (by omega) (by omega) (by omega) (by omega) s2) ?_
    rintro _ ⟨s3, rfl, hp3⟩
    refine ⟨_, s3, rfl, ?_⟩
    simp only [J_i, D_nil, beq_self_eq_true, Bool.not_true, cond_false]
    rw [join_eq]
    refine Ok.call (ev_name_Compare h.name_Compare 999 b a (by omega) (by omega) (by omega) (by omega) s3) ?_
    rintro _ ⟨s4, rfl, hp4⟩
    refine ⟨_, s4, rfl, ?_⟩
    have hc := cmpL_cases (rns a) (rns b)
    have hw : wr64 (0 - cmpL (rns a) (rns b)) = cmpL (rns b) (rns a) := by rw [cmpL_anti (rns a) (rns b), wr64_of (by omega) (by omega)]; omega
    simp only [J_i, J_b, D_nil, hw, beq_self_eq_true, Bool.not_true, cond_false]
    refine Ok.call (ev_ref04_Right h.ref04_Right 999 a (by omega) (by omega) s4) ?_
    rintro _ ⟨s5, rfl, hp5⟩
    refine ⟨_, s5, rfl, ?_⟩
    simp only [J_b, D_nil]
    rw [join_eq]
    cases hra : rightS a with
    | false =>
      simp only [Bool.not_false, cond_true, J_b, D_nil, ret_eq]
      exact .mk ⟨s5, rfl⟩
    | true =>
      simp only [Bool.not_true, cond_false]
      refine Ok.call (ev_ref04_Right h.ref04_Right 999 b (by omega) (by omega) s5) ?_
      rintro _ ⟨s6, rfl, hp6⟩
      refine ⟨_, s6, rfl, ?_⟩
      simp only [J_b, D_nil]
      cases hrb : rightS b with
      | false =>
        simp only [Bool.not_false, cond_true, ret_eq]
        exact .mk ⟨s6, rfl⟩
      | true =>
        obtain ⟨fa, la⟩ := right_flat hra
        obtain ⟨fb, lb⟩ := right_flat hrb
        have hlt : strLt a b = decide (cmpL (rns a) (rns b) < 0) := by
          have := flat_lt (rns a) (rns b) la lb
          rwa [fa, fb] at this
        have heq : (cmpL (rns a) (rns b) == 0) = (a == b) := by
          rw [Bool.eq_iff_iff]
          simp only [beq_iff_eq]
          constructor
          · intro h
            have := cmpL_eq h
            rw [← fa, ← fb, this]
          · rintro rfl
            exact cmpL_self _
        have hla := right_len hra
        simp only [Bool.not_true, cond_false]
        rw [decide_eq_true (show (a.length : Int) ≤ 24 by omega), hlt, heq]
        simp only [cond_true, beq_self_eq_true, ret_eq]
        exact .mk ⟨s6, rfl⟩

theorem ok_ite {Q : Out (List DV) × St → Prop} {b : Bool} {x y : M (List DV)} {s : St} (h1 : b = true → Ok Q (x s)) (h2 : b = false → Ok Q (y s)) : Ok Q ((bif b then x else y) s) := by
  cases b
  · exact h2 rfl
  · exact h1 rfl

theorem law_law04_NameBetween {Bd : Bodies} (h : H_law04_NameBetween Bd) (s : St) (args : List DV) (_ : Frz s) (ht : Tabs s) (hr : RdA s [(false, .s), (false, .s), (false, .s)] args) : ∃ n s', run Bd n 41 args s = some (.val [.bool true], s') := by
  obtain ⟨_, _, _, ⟨a, rfl, _⟩, ⟨_, _, _, ⟨b, rfl, _⟩, ⟨_, _, _, ⟨c, rfl, _⟩, rfl, rfl, hd3⟩, rfl, hd2⟩, rfl, hd⟩ := hr
  cases hd
  cases hd2
  cases hd3
  refine ok_true (n := 1000) ?_
  rw [run_succ, h.eq]
  unfold b_law04_NameBetween
  simp only [J_s, D_nil]
  refine Ok.call (ev_law04_awake h.law04_awake 999 (by omega) s ht) ?_
  rintro _ ⟨s1, rfl, hp1⟩
  refine ⟨_, s1, rfl, ?_⟩
  simp only [J_b, D_nil, Bool.not_true, cond_false, join_bool]
  have e0 : (bif (bif decide ((a.length : Int) > 100) then true else decide ((b.length : Int) > 100)) then true else decide ((c.length : Int) > 100)) = decide (a.length > 100 ∨ b.length > 100 ∨ c.length > 100) := by
    rw [Bool.cond_true_left, Bool.cond_true_left, Bool.eq_iff_iff]; simp only [Bool.or_eq_true, decide_eq_true_eq]; omega
  rw [e0]
  by_cases hl : a.length > 100 ∨ b.length > 100 ∨ c.length > 100
  · rw [decide_eq_true hl, cond_true]
    refine Ok.call (ev_law04_awake h.law04_awake 999 (by omega) s1 (ht.mono hp1)) ?_
    rintro _ ⟨s2, rfl, hp2⟩
    refine ⟨_, s2, rfl, ?_⟩
    simp only [J_b, D_nil, ret_eq]
    exact .mk ⟨s2, rfl⟩
  · rw [decide_eq_false hl, cond_false]
    refine Ok.call (ev_name_Compare h.name_Compare 999 a b (by omega) (by omega) (by omega) (by omega) s1) ?_
    rintro _ ⟨s2, rfl, hp2⟩
    refine ⟨_, s2, rfl, ?_⟩
    simp only [J_i, D_nil]
    refine Ok.call (ev_name_Compare h.name_Compare 999 b c (by omega) (by omega) (by omega) (by omega) s2) ?_
    rintro _ ⟨s3, rfl, hp3⟩
    refine ⟨_, s3, rfl, ?_⟩
    simp only [J_i, D_nil]
    refine Ok.call (ev_name_Compare h.name_Compare 999 a c (by omega) (by omega) (by omega) (by omega) s3) ?_
    rintro _ ⟨s4, rfl, hp4⟩
    refine ⟨_, s4, rfl, ?_⟩
    simp only [J_i, D_nil]
    generalize rns a = l at *
    generalize rns b = m at *
    generalize rns c = k at *
    have h1 := cmpL_cases l m
    have h2 := cmpL_cases m k
    have h3 := cmpL_cases l k
    have t1 := cmpL_trans l m k
    have t2 : 0 < cmpL l m → 0 < cmpL m k → 0 < cmpL l k := by
      have := cmpL_trans k m l
      rw [cmpL_anti m k, cmpL_anti l m, cmpL_anti l k] at this
      omega
    have q1 : cmpL l m = 0 → cmpL l k = cmpL m k := fun e => by rw [cmpL_eq e]
    have q2 : cmpL m k = 0 → cmpL l k = cmpL l m := fun e => by rw [cmpL_eq e]
    generalize cmpL l m = x at *
    generalize cmpL m k = y at *
    generalize cmpL l k = z at *
    rcases h1 with rfl | rfl | rfl <;> rcases h2 with rfl | rfl | rfl <;> rcases h3 with rfl | rfl | rfl <;> first | (exfalso; omega) | exact .mk ⟨s4, rfl⟩
end Go.Gv.F
