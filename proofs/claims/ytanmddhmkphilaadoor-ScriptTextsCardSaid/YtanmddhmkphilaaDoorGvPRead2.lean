/- Reading: the document's way; any text. -/
import Derived.Test.YtanmddhmkphilaaDoorGvPLaw03
namespace Go.Gv.F

theorem wr64_range (x : Int) : -9223372036854775808 ≤ wr64 x ∧ wr64 x ≤ 9223372036854775807 := by
  unfold wr64
  rw [IntKind.wrap_i64]
  omega
def cR (neg : Bool) (a : Int) (c : Nat) : Int := wr64 (wr64 (a * 10) + sg neg 1 * ((c : Int) - 48))
theorem sg_mul (neg : Bool) (x : Int) : sg neg 1 * x = if neg then -x else x := by
  unfold sg; cases neg
  · simp
  · simp
def refN (s : List UInt8) : Int := match s with
  | [] => 0
  | c :: r => if c = 45 then (r.map UInt8.toNat).foldl (cR true) 0 else ((c :: r).map UInt8.toNat).foldl (cR false) 0
theorem fold_range (neg : Bool) : ∀ (l : List Nat) (a : Int), (-9223372036854775808 ≤ a ∧ a ≤ 9223372036854775807) → -9223372036854775808 ≤ l.foldl (cR neg) a ∧ l.foldl (cR neg) a ≤ 9223372036854775807
  | [], _a, h => h
  | _c :: l, _a, _ => fold_range neg l _ (wr64_range _)
theorem refN_range (s : List UInt8) : -9223372036854775808 ≤ refN s ∧ refN s ≤ 9223372036854775807 := by
  unfold refN
  split
  · decide
  · split
    · exact fold_range _ _ _ (by decide)
    · exact fold_range _ _ _ (by decide)

theorem fold_sg (neg : Bool) : ∀ (l : List Nat) (v : Nat), (∀ r ∈ l, isDig r = true) → foldV v l ≤ (if neg then 9223372036854775808 else 9223372036854775807) → l.foldl (cR neg) (sg neg v) = sg neg (foldV v l)
  | [], v, _, _ => rfl
  | r :: l, v, h, hV => by
    have hr := isDig_iff.1 (h r (by simp))
    have ge := foldV_ge l (10 * v + (r - 48))
    rw [foldV_cons] at hV ⊢
    rw [List.foldl_cons]
    have e : cR neg (sg neg v) r = sg neg (10 * v + (r - 48)) := by
      unfold cR
      rw [sg_mul]
      cases neg with
      | false =>
        simp only [Bool.false_eq_true, if_false] at hV ⊢
        unfold sg
        simp only [Bool.false_eq_true, if_false]
        rw [wr64_of (x := (v : Int) * 10) (by omega) (by omega), wr64_of (by omega) (by omega)]
        omega
      | true =>
        simp only [if_true] at hV ⊢
        unfold sg
        simp only [if_true]
        rw [wr64_of (x := -(v : Int) * 10) (by omega) (by omega), wr64_of (by omega) (by omega)]
        omega
    rw [e]
    exact fold_sg neg l _ (fun x hx => h x (by simp [hx])) hV

theorem map_toNat : ∀ l : List Nat, (∀ r ∈ l, isDig r = true) → (l.map UInt8.ofNat).map UInt8.toNat = l
  | [], _ => rfl
  | r :: l, h => by
    have hr := dig_lt (h r (by simp))
    rw [List.map_cons, List.map_cons, map_toNat l fun x hx => h x (by simp [hx])]
    congr 1
    simp
    omega

theorem refN_show (z : Int) (hz : -9223372036854775808 ≤ z ∧ z ≤ 9223372036854775807) : refN (showI z) = z := by
  by_cases h0 : z = 0
  · subst h0
    have : showI 0 = [48] := by unfold showI; rw [if_neg (by decide), show Int.natAbs 0 = 0 from rfl, decS_one (by omega)]; rfl
    rw [this]
    decide +kernel
  · obtain ⟨d, l, h1, h2, h3, h4, h5⟩ := first_digits z.natAbs z.natAbs (Nat.le_refl _) (by omega)
    have hd : isDig (48 + d) = true := isDig_iff.2 (by omega)
    have hall : ∀ r ∈ (48 + d) :: l, isDig r = true := fun r hr => by
      rcases List.mem_cons.1 hr with rfl | hr
      · exact hd
      · exact h3 r hr
    have hmap : (decS z.natAbs).map UInt8.toNat = (48 + d) :: l := by
      rw [h4, show UInt8.ofNat (48 + d) :: l.map UInt8.ofNat = ((48 + d) :: l).map UInt8.ofNat from rfl, map_toNat _ hall]
    have hV : foldV 0 ((48 + d) :: l) = z.natAbs := by rw [foldV_cons, show 10 * 0 + (48 + d - 48) = d by omega, h5]
    unfold showI
    by_cases hneg : z < 0
    · rw [if_pos hneg]
      unfold refN
      simp only
      rw [if_pos trivial, hmap]
      have := fold_sg true ((48 + d) :: l) 0 hall (by rw [hV]; simp only [if_true]; omega)
      rw [hV] at this
      rw [show (0 : Int) = sg true 0 from rfl, this]
      unfold sg
      simp only [if_true]
      omega
    · rw [if_neg hneg]
      have hne : decS z.natAbs = UInt8.ofNat (48 + d) :: l.map UInt8.ofNat := h4
      have h45 : UInt8.ofNat (48 + d) ≠ 45 := by
        intro h
        have := congrArg UInt8.toNat h
        simp at this
        omega
      have hr : refN (decS z.natAbs) = ((decS z.natAbs).map UInt8.toNat).foldl (cR false) 0 := by
        rw [hne]
        unfold refN
        simp only
        rw [if_neg h45]
      rw [hr, hmap]
      have := fold_sg false ((48 + d) :: l) 0 hall (by rw [hV]; simp only [Bool.false_eq_true, if_false]; omega)
      rw [hV] at this
      rw [show (0 : Int) = sg false 0 from rfl, this]
      unfold sg
      simp only [Bool.false_eq_true, if_false]
      omega

/-- What the document reads. -/
theorem read_ref (s : List UInt8) : outR (readF s) = if s.length > 20 then outR none else if showI (refN s) = s then outR (some (refN s)) else outR none := by
  cases h : readF s with
  | some z =>
    obtain ⟨rfl, hz⟩ := show_read h
    have hl := showI_len z hz
    rw [if_neg (by omega), refN_show z hz, if_pos rfl]
  | none =>
    split
    · rfl
    · split
      · rename_i he
        have := read_show (refN s) (refN_range s)
        rw [he, h] at this
        cases this
      · rfl

theorem oc_toNat {s : List UInt8} {i : Nat} (h : i < s.length) : byteAt s (i : Int) = ((s[i].toNat : Nat) : Int) := by rw [byteAt_eq, oc_get h]

theorem ev_ref03_Read {Bd : Bodies} (h : H_ref03_Read Bd) (n : Nat) (s : List UInt8) (hn : 50 ≤ n) (st : St) :
    Ok (fun o => ∃ s', o = (.val (outR (readF s)), s') ∧ Pre st s') (run Bd n 53 [.str s] st) := by
  obtain ⟨n, rfl⟩ : ∃ m, n = m + 2 := ⟨n - 2, by omega⟩
  rw [run_succ, h.eq, read_ref]
  unfold b_ref03_Read
  simp only [J_s, D_nil]
  by_cases hl : s.length > 20
  · rw [decide_eq_true (show (s.length : Int) > 20 by omega), cond_true, ret_eq, if_pos hl]
    exact .mk ⟨st, rfl, .refl st⟩
  · rw [decide_eq_false (show ¬ (s.length : Int) > 20 by omega), cond_false, if_neg hl, join_eq]
    refine loop_rule _ (fun k q s2 => ∃ (i : Nat) (a : Int), q = [.int .i64 a, .int .i64 i] ∧ i ≤ s.length ∧ s.length - i ≤ k ∧ s2 = st ∧ ((i = 0 ∧ a = 0) ∨ (0 < i ∧ ((s.drop i).map UInt8.toNat).foldl (cR (decide (s[0]? = some 45))) a = refN s)))
      ?_ s.length (n + 1) _ _ ⟨0, 0, rfl, Nat.zero_le _, by omega, rfl, .inl ⟨rfl, rfl⟩⟩ (by omega)
    rintro k _ s2 ⟨i, a, rfl, hi, hk, rfl, hI⟩ rec hrec
    simp only [J_i, D_nil]
    by_cases hlt : i < s.length
    · rw [decide_eq_true (show (i : Int) < (s.length : Int) by omega), cond_true]
      have h0 : 0 < s.length := by omega
      have b0 : byteAt s 0 = ((s[0].toNat : Nat) : Int) := oc_toNat h0
      have e45 : (byteAt s 0 == 45) = decide (s[0]? = some 45) := by
        rw [b0, Bool.eq_iff_iff]
        simp only [beq_iff_eq, decide_eq_true_eq, List.getElem?_eq_getElem h0, Option.some.injEq]
        constructor
        · intro h; exact UInt8.toNat_inj.1 (by show s[0].toNat = 45; omega)
        · intro h; rw [h]; rfl
      have in0 : inB 0 s.length = true := inB_of h0
      have w1 : wr64 ((i : Int) + 1) = ((i + 1 : Nat) : Int) := by rw [wr64_of (by omega) (by omega)]; rfl
      have bi : byteAt s (i : Int) = ((s[i].toNat : Nat) : Int) := oc_toNat hlt
      have hb := s[i].toNat_lt
      rw [join_eq]
      generalize hneg : decide (s[0]? = some 45) = neg at *
      -- a digit that is taken
      have digit : ∀ (a : Int), (∀ y, y = cR neg a s[i].toNat → Ok (fun o => ∃ s', o = (.val (if showI (refN s) = s then outR (some (refN s)) else outR none), s') ∧ Pre s2 s') (rec [.int .i64 y, .int .i64 ((i + 1 : Nat) : Int)] s2)) →
          Ok (fun o => ∃ s', o = (.val (if showI (refN s) = s then outR (some (refN s)) else outR none), s') ∧ Pre s2 s')
            ((bif neg then rec [.int .i64 (wr64 ((wr64 (a * 10)) + (wr64 (0 - (wr64 ((wr64 (byteAt s (i : Int))) - 48)))))), .int .i64 (wr64 ((i : Int) + 1))] else rec [.int .i64 (wr64 ((wr64 (a * 10)) + (wr64 ((wr64 (byteAt s (i : Int))) - 48)))), .int .i64 (wr64 ((i : Int) + 1))]) s2) := by
        intro a hy
        rw [bi, w1, wr64_of (x := ((s[i].toNat : Nat) : Int)) (by omega) (by omega), wr64_of (x := ((s[i].toNat : Nat) : Int) - 48) (by omega) (by omega)]
        unfold cR at hy
        rw [sg_mul] at hy
        cases neg with
        | true =>
          rw [cond_true, wr64_of (x := 0 - (((s[i].toNat : Nat) : Int) - 48)) (by omega) (by omega)]
          refine hy _ ?_
          simp only [if_true]
          congr 1
          omega
        | false =>
          rw [cond_false]
          refine hy _ ?_
          simp
      have step : Ok (fun o => ∃ s', o = (.val (if showI (refN s) = s then outR (some (refN s)) else outR none), s') ∧ Pre s2 s')
            ((bif neg then rec [.int .i64 (wr64 ((wr64 (a * 10)) + (wr64 (0 - (wr64 ((wr64 (byteAt s (i : Int))) - 48)))))), .int .i64 (wr64 ((i : Int) + 1))] else rec [.int .i64 (wr64 ((wr64 (a * 10)) + (wr64 ((wr64 (byteAt s (i : Int))) - 48)))), .int .i64 (wr64 ((i : Int) + 1))]) s2) ∨ (i = 0 ∧ neg = true) := by
        by_cases hs : i = 0 ∧ neg = true
        · exact .inr hs
        · refine .inl (digit a fun y hy => hrec (k - 1) _ _ (by omega) ⟨i + 1, y, rfl, by omega, by omega, rfl, .inr ⟨by omega, ?_⟩⟩)
          rw [hy]
          rcases hI with ⟨hi0, ha⟩ | ⟨_, hI⟩
          · subst hi0
            subst ha
            have hnf : neg = false := by cases neg; rfl; exact absurd ⟨rfl, rfl⟩ hs
            subst hnf
            have hc : s[0] ≠ 45 := by
              intro h
              rw [List.getElem?_eq_getElem h0, h] at hneg
              simp at hneg
            have hsc : s = s[0] :: s.drop 1 := by rw [← List.drop_eq_getElem_cons h0, List.drop_zero]
            have : refN s = ((s[0] :: s.drop 1).map UInt8.toNat).foldl (cR false) 0 := by
              conv => lhs; rw [hsc]
              unfold refN
              simp only
              rw [if_neg hc]
            rw [this]
            rfl
          · rw [List.drop_eq_getElem_cons hlt] at hI
            exact hI
      by_cases hi0 : 0 < i
      · rw [decide_eq_true (show (i : Int) > 0 by omega)]
        simp only [cond_true, J_b, D_nil, chk_of (inB_of hlt), in0, chk_true, e45, join_eq, J_i]
        rcases step with h | h
        · exact h
        · omega
      · have hi0 : i = 0 := by omega
        rw [decide_eq_false (show ¬ (i : Int) > 0 by omega)]
        simp only [cond_false, J_b, D_nil, in0, chk_true, e45, join_eq, J_i]
        cases neg with
        | true =>
          simp only [Bool.not_true, cond_false]
          rw [w1]
          refine hrec (k - 1) _ _ (by omega) ⟨i + 1, a, rfl, by omega, by omega, rfl, .inr ⟨by omega, ?_⟩⟩
          rcases hI with ⟨_, ha⟩ | ⟨h, _⟩
          · subst hi0
            subst ha
            have hc : s[0] = 45 := by
              rw [List.getElem?_eq_getElem h0] at hneg
              simpa using hneg
            have hsc : s = s[0] :: s.drop 1 := by rw [← List.drop_eq_getElem_cons h0, List.drop_zero]
            have : refN s = ((s.drop 1).map UInt8.toNat).foldl (cR true) 0 := by
              conv => lhs; rw [hsc]
              unfold refN
              simp only
              rw [if_pos hc]
            rw [this]
          · omega
        | false =>
          simp only [Bool.not_false, cond_true, chk_of (inB_of hlt)]
          rcases step with h | h
          · exact h
          · cases h.2
    · rw [decide_eq_false (show ¬ (i : Int) < (s.length : Int) by omega), cond_false]
      have ha : a = refN s := by
        rcases hI with ⟨h1, h2⟩ | ⟨_, h2⟩
        · have : s = [] := List.eq_nil_of_length_eq_zero (by omega)
          rw [this, h2]; rfl
        · rw [List.drop_of_length_le (by omega)] at h2; exact h2
      subst ha
      refine Ok.call (ev_ref03_Show h.ref03_Show (n + 1) (refN s) (refN_range s) (by omega) s2) ?_
      rintro _ ⟨s3, rfl, hp⟩
      refine ⟨_, s3, rfl, ?_⟩
      simp only [J_s, D_nil]
      by_cases he : showI (refN s) = s
      · rw [if_pos he, show (showI (refN s) == s) = true by rw [beq_iff_eq]; exact he, Bool.not_true, cond_false, ret_eq]
        exact .mk ⟨s3, rfl, hp⟩
      · rw [if_neg he, show (showI (refN s) == s) = false by rw [beq_eq_false_iff_ne]; exact he, Bool.not_false, cond_true, ret_eq]
        exact .mk ⟨s3, rfl, hp⟩

theorem law_law03_DigitReads {Bd : Bodies} (h : H_law03_DigitReads Bd) (s : St) (args : List DV) (_ : Frz s) (ht : Tabs s) (hr : RdA s [(false, .s)] args) : ∃ n s', run Bd n 52 args s = some (.val [.bool true], s') := by
  obtain ⟨_, _, _, ⟨l, rfl, _⟩, rfl, rfl, hd⟩ := hr
  cases hd
  refine ok_true (n := 1000) ?_
  rw [run_succ, h.eq]
  unfold b_law03_DigitReads
  simp only [J_s, D_nil]
  refine Ok.call (ev_law03_awake h.law03_awake 999 (by omega) s ht) ?_
  rintro _ ⟨s1, rfl, hp1⟩
  refine ⟨_, s1, rfl, ?_⟩
  simp only [J_b, D_nil, Bool.not_true, cond_false, join_eq]
  by_cases hl : l.length > 200
  · have e : decide ((l.length : Int) > 200) = true := decide_eq_true (by omega)
    simp only [e, cond_true]
    refine Ok.call (ev_law03_awake h.law03_awake 999 (by omega) s1 (ht.mono hp1)) ?_
    rintro _ ⟨s2, rfl, hp2⟩
    refine ⟨_, s2, rfl, ?_⟩
    simp only [J_b, D_nil, ret_eq]
    exact .mk ⟨s2, rfl⟩
  · have e : decide ((l.length : Int) > 200) = false := decide_eq_false (by omega)
    simp only [e, cond_false]
    refine Ok.call (ev_digit_Read h.digit_Read 999 l (by omega) (by omega) s1) ?_
    rintro _ ⟨s2, rfl, hp2⟩
    refine ⟨_, s2, rfl, ?_⟩
    have ho : ∃ (a : Int) (b : Bool), outR (readF l) = [.int .i64 a, .bool b] := by
      cases readF l with
      | none => exact ⟨0, false, rfl⟩
      | some z => exact ⟨z, true, rfl⟩
    obtain ⟨a, b, ho⟩ := ho
    rw [ho]
    simp only [J_i, J_b, D_nil]
    refine Ok.call (ev_ref03_Read h.ref03_Read 999 l (by omega) s2) ?_
    rintro _ ⟨s3, rfl, hp3⟩
    refine ⟨_, s3, rfl, ?_⟩
    rw [ho]
    simp only [J_i, J_b, D_nil, beq_self_eq_true, cond_true, ret_eq]
    exact .mk ⟨s3, rfl⟩
end Go.Gv.F
