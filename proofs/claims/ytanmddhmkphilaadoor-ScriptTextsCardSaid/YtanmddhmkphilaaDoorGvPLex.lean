/- Lines and words. -/
import Derived.Test.YtanmddhmkphilaaDoorGvZLib
import Derived.Test.YtanmddhmkphilaaDoorGvZLaw
import Derived.Test.YtanmddhmkphilaaDoorGvBLaa
namespace Go.Gv.F
set_option linter.unusedSimpArgs false

theorem inB_of {i n : Nat} (h : i < n) : inB (i : Int) n = true := by unfold inB; simp; omega
theorem wr64_of {x : Int} (h1 : -9223372036854775808 ≤ x) (h2 : x < 9223372036854775808) : wr64 x = x := by
  unfold wr64; exact IntWalk.i64_in _ (by omega)

/-! ### Runes: the document's -/
theorem ev_ref04_follows {Bd : Bodies} (h : H_ref04_follows Bd) (n : Nat) (s : List UInt8) (k lo hi : Nat) (hlo : 0 < lo) (st : St) :
    run Bd (n + 1) 19 [.str s, .int .i64 k, .int .u8 lo, .int .u8 hi] st = some (.val [.bool (decide (lo ≤ oc s k ∧ oc s k ≤ hi))], st) := by
  rw [run_succ, h.eq]
  unfold b_ref04_follows
  simp only [J_s, J_i, D_nil, join_eq, J_b, byteAt_eq]
  by_cases hk : k < s.length
  · have e : decide ((k : Int) < (s.length : Int)) = true := by simpa using hk
    simp only [e, cond_true, chk_of (inB_of hk)]
    by_cases h1 : lo ≤ oc s k
    · have e1 : decide ((oc s k : Int) ≥ (lo : Int)) = true := by simpa using h1
      simp only [e1, cond_true, ret_eq]
      congr 5
      simp [h1]
    · have e1 : decide ((oc s k : Int) ≥ (lo : Int)) = false := by simpa using h1
      simp only [e1, cond_false, ret_eq]
      simp [h1]
  · have e : decide ((k : Int) < (s.length : Int)) = false := by simpa using hk
    simp only [e, cond_false, ret_eq]
    rw [oc_out (by omega)]
    have : ¬ lo ≤ 0 := by omega
    simp [this]
theorem byteAt0 (s : List UInt8) : byteAt s 0 = (oc s 0 : Int) := byteAt_eq s 0
theorem byteAt1 (s : List UInt8) : byteAt s 1 = (oc s 1 : Int) := byteAt_eq s 1
theorem byteAt2 (s : List UInt8) : byteAt s 2 = (oc s 2 : Int) := byteAt_eq s 2
theorem byteAt3 (s : List UInt8) : byteAt s 3 = (oc s 3 : Int) := byteAt_eq s 3
theorem len_of_oc {s : List UInt8} {k : Nat} (h : 0 < oc s k) : k < s.length := by
  rcases Nat.lt_or_ge k s.length with h' | h'
  · exact h'
  · rw [oc_out h'] at h; omega
theorem inB_lit1 {n : Nat} (h : 1 < n) : inB 1 n = true := inB_of h
theorem inB_lit0 {n : Nat} (h : 0 < n) : inB 0 n = true := inB_of h
theorem inB_lit2 {n : Nat} (h : 2 < n) : inB 2 n = true := inB_of h
theorem inB_lit3 {n : Nat} (h : 3 < n) : inB 3 n = true := inB_of h

theorem fin3 (a b c : Nat) (r2 : 224 ≤ a ∧ a ≤ 239) (h1 : 128 ≤ b) (h2 : b ≤ 191) (h3 : 128 ≤ c) (h4 : c ≤ 191) (st : St) :
    (some (Out.val [DV.int .i64 (wr64 ((wr64 ((wr64 ((wr64 (IntKind.wrap .u8 ((a : Int) - 224))) * 4096)) + (wr64 ((wr64 (IntKind.wrap .u8 ((b : Int) - 128))) * 64)))) + (wr64 (IntKind.wrap .u8 ((c : Int) - 128))))), .int .i64 3], st) : Option (Out (List DV) × St)) =
      some (.val [.int .i64 (((a - 224) * 4096 + (b - 128) * 64 + (c - 128) : Nat) : Int), .int .i64 ((3 : Nat) : Int)], st) := by
  rw [IntWalk.u8_in _ (by omega), IntWalk.u8_in _ (by omega), IntWalk.u8_in _ (by omega), wr64_of (x := (a : Int) - 224) (by omega) (by omega), wr64_of (x := (b : Int) - 128) (by omega) (by omega), wr64_of (x := (c : Int) - 128) (by omega) (by omega),
    wr64_of (x := ((a : Int) - 224) * 4096) (by omega) (by omega), wr64_of (x := ((b : Int) - 128) * 64) (by omega) (by omega), wr64_of (x := ((a : Int) - 224) * 4096 + ((b : Int) - 128) * 64) (by omega) (by omega), wr64_of (by omega) (by omega)]
  have e : ((a : Int) - 224) * 4096 + ((b : Int) - 128) * 64 + ((c : Int) - 128) = (((a - 224) * 4096 + (b - 128) * 64 + (c - 128) : Nat) : Int) := by omega
  rw [e]; rfl
theorem fin4 (a b c d : Nat) (r3 : 240 ≤ a ∧ a ≤ 244) (h1 : 128 ≤ b) (h2 : b ≤ 191) (h3 : 128 ≤ c) (h4 : c ≤ 191) (h5 : 128 ≤ d) (h6 : d ≤ 191) (st : St) :
    (some (Out.val [DV.int .i64 (wr64 ((wr64 ((wr64 ((wr64 ((wr64 (IntKind.wrap .u8 ((a : Int) - 240))) * 262144)) + (wr64 ((wr64 (IntKind.wrap .u8 ((b : Int) - 128))) * 4096)))) + (wr64 ((wr64 (IntKind.wrap .u8 ((c : Int) - 128))) * 64)))) + (wr64 (IntKind.wrap .u8 ((d : Int) - 128))))), .int .i64 4], st) : Option (Out (List DV) × St)) =
      some (.val [.int .i64 (((a - 240) * 262144 + (b - 128) * 4096 + (c - 128) * 64 + (d - 128) : Nat) : Int), .int .i64 ((4 : Nat) : Int)], st) := by
  rw [IntWalk.u8_in _ (by omega), IntWalk.u8_in _ (by omega), IntWalk.u8_in _ (by omega), IntWalk.u8_in _ (by omega), wr64_of (x := (a : Int) - 240) (by omega) (by omega), wr64_of (x := (b : Int) - 128) (by omega) (by omega), wr64_of (x := (c : Int) - 128) (by omega) (by omega), wr64_of (x := (d : Int) - 128) (by omega) (by omega),
    wr64_of (x := ((a : Int) - 240) * 262144) (by omega) (by omega), wr64_of (x := ((b : Int) - 128) * 4096) (by omega) (by omega), wr64_of (x := ((c : Int) - 128) * 64) (by omega) (by omega), wr64_of (x := ((a : Int) - 240) * 262144 + ((b : Int) - 128) * 4096) (by omega) (by omega), wr64_of (x := ((a : Int) - 240) * 262144 + ((b : Int) - 128) * 4096 + ((c : Int) - 128) * 64) (by omega) (by omega), wr64_of (by omega) (by omega)]
  have e : ((a : Int) - 240) * 262144 + ((b : Int) - 128) * 4096 + ((c : Int) - 128) * 64 + ((d : Int) - 128) = (((a - 240) * 262144 + (b - 128) * 4096 + (c - 128) * 64 + (d - 128) : Nat) : Int) := by omega
  rw [e]; rfl

theorem ev_ref04_First {Bd : Bodies} (h : H_ref04_First Bd) (n : Nat) (s : List UInt8) (hs : 0 < s.length) (st : St) :
    run Bd (n + 2) 15 [.str s] st = some (.val [.int .i64 ((dec s 0).1 : Int), .int .i64 ((dec s 0).2 : Int)], st) := by
  have h0 := oc_lt s 0
  have h1 := oc_lt s 1
  have h2 := oc_lt s 2
  have h3 := oc_lt s 3
  have f1 : ∀ lo hi : Nat, 0 < lo → run Bd (n + 1) 19 [.str s, .int .i64 1, .int .u8 lo, .int .u8 hi] st = some (.val [.bool (decide (lo ≤ oc s 1 ∧ oc s 1 ≤ hi))], st) := fun lo hi hlo => ev_ref04_follows h.ref04_follows n s 1 lo hi hlo st
  have f2 : run Bd (n + 1) 19 [.str s, .int .i64 2, .int .u8 128, .int .u8 191] st = some (.val [.bool (decide (128 ≤ oc s 2 ∧ oc s 2 ≤ 191))], st) := ev_ref04_follows h.ref04_follows n s 2 128 191 (by omega) st
  have f3 : run Bd (n + 1) 19 [.str s, .int .i64 3, .int .u8 128, .int .u8 191] st = some (.val [.bool (decide (128 ≤ oc s 3 ∧ oc s 3 ≤ 191))], st) := ev_ref04_follows h.ref04_follows n s 3 128 191 (by omega) st
  have g1 : run Bd (n + 1) 19 [.str s, .int .i64 1, .int .u8 128, .int .u8 191] st = _ := f1 128 191 (by omega)
  have g2 : run Bd (n + 1) 19 [.str s, .int .i64 1, .int .u8 160, .int .u8 191] st = _ := f1 160 191 (by omega)
  have g3 : run Bd (n + 1) 19 [.str s, .int .i64 1, .int .u8 128, .int .u8 159] st = _ := f1 128 159 (by omega)
  have g4 : run Bd (n + 1) 19 [.str s, .int .i64 1, .int .u8 144, .int .u8 191] st = _ := f1 144 191 (by omega)
  have g5 : run Bd (n + 1) 19 [.str s, .int .i64 1, .int .u8 128, .int .u8 143] st = _ := f1 128 143 (by omega)
  rw [run_succ, h.eq]
  unfold b_ref04_First
  simp only [J_s, D_nil, chk_of (inB_lit0 hs), byteAt0, byteAt1, byteAt2, byteAt3, Bool.cond_decide]
  rw [dec_eq]
  simp only [Nat.zero_add]
  generalize oc s 0 = a at *
  generalize hb : oc s 1 = b at *
  generalize hc : oc s 2 = c at *
  generalize hd : oc s 3 = d at *
  have l1 : 0 < b → inB 1 s.length = true := fun h => inB_lit1 (len_of_oc (by omega))
  have l2 : 0 < c → inB 2 s.length = true := fun h => inB_lit2 (len_of_oc (by omega))
  have l3 : 0 < d → inB 3 s.length = true := fun h => inB_lit3 (len_of_oc (by omega))
  by_cases c0 : a < 128
  · rw [if_pos (by omega), if_pos c0, wr64_of (by omega) (by omega)]; rfl
  rw [if_neg (by omega), if_neg c0]
  by_cases r1 : 194 ≤ a ∧ a ≤ 223
  · have e1 : (a : Int) ≥ 194 := by omega
    have e2 : (a : Int) ≤ 223 := by omega
    have e3 : ¬ (a : Int) ≥ 224 := by omega
    have e4 : ¬ (a : Int) ≥ 240 := by omega
    simp only [join_eq, J_b, D_nil, if_pos e1, decide_eq_true e2, cond_true, call_eq g1]
    by_cases k : 128 ≤ b ∧ b ≤ 191
    · simp only [decide_eq_true k, cond_true, chk_of (l1 (by omega)), ret_eq]
      rw [if_pos ⟨r1, k⟩, IntWalk.u8_in _ (by omega), IntWalk.u8_in _ (by omega), wr64_of (x := (a : Int) - 192) (by omega) (by omega), wr64_of (x := (b : Int) - 128) (by omega) (by omega), wr64_of (x := ((a : Int) - 192) * 64) (by omega) (by omega), wr64_of (by omega) (by omega)]
      have : (a : Int) - 192 = ((a - 192 : Nat) : Int) := by omega
      have : (b : Int) - 128 = ((b - 128 : Nat) : Int) := by omega
      simp [*]
    · simp only [decide_eq_false k, cond_false, if_neg e3, if_neg e4, J_b, D_nil, ret_eq]
      rw [if_neg (by rintro ⟨_, h⟩; exact k h), if_neg (by omega), if_neg (by omega)]
      rfl
  by_cases r2 : 224 ≤ a ∧ a ≤ 239
  · have e1 : (a : Int) ≥ 194 := by omega
    have e2 : ¬ (a : Int) ≤ 223 := by omega
    have e3 : (a : Int) ≥ 224 := by omega
    have e4 : (a : Int) ≤ 239 := by omega
    by_cases y1 : a = 224
    · subst y1
      have x1 : (((224 : Nat) : Int) == 224) = true := rfl
      have x2 : (((224 : Nat) : Int) == 237) = false := rfl
      simp only [join_eq, J_b, J_i, D_nil, if_pos e1, decide_eq_false e2, cond_false, if_pos e3, decide_eq_true e4, cond_true, x1, x2, call_eq g2, ret_eq]
      by_cases k : 160 ≤ b ∧ b ≤ 191
      · by_cases k2 : 128 ≤ c ∧ c ≤ 191
        · simp only [decide_eq_true k, decide_eq_true k2, cond_true, call_eq f2, J_b, D_nil, chk_of (l1 (by omega)), chk_of (l2 (by omega)), ret_eq]
          rw [if_neg (by omega), if_pos ⟨r2, by simpa using k, k2⟩]
          exact fin3 224 b c r2 (by omega) (by omega) (by omega) (by omega) st
        · simp only [decide_eq_true k, decide_eq_false k2, cond_true, cond_false, call_eq f2, J_b, D_nil, ret_eq]
          rw [if_neg (by omega), if_neg (by rintro ⟨_, _, h⟩; exact k2 h), if_neg (by omega)]
          rfl
      · simp only [decide_eq_false k, cond_false, J_b, D_nil, ret_eq]
        rw [if_neg (by omega), if_neg (by rintro ⟨_, h, _⟩; exact k (by simpa using h)), if_neg (by omega)]
        rfl
    · by_cases y2 : a = 237
      · subst y2
        have x1 : (((237 : Nat) : Int) == 224) = false := rfl
        have x2 : (((237 : Nat) : Int) == 237) = true := rfl
        simp only [join_eq, J_b, J_i, D_nil, if_pos e1, decide_eq_false e2, cond_false, if_pos e3, decide_eq_true e4, cond_true, x1, x2, call_eq g3, ret_eq]
        by_cases k : 128 ≤ b ∧ b ≤ 159
        · by_cases k2 : 128 ≤ c ∧ c ≤ 191
          · simp only [decide_eq_true k, decide_eq_true k2, cond_true, call_eq f2, J_b, D_nil, chk_of (l1 (by omega)), chk_of (l2 (by omega)), ret_eq]
            rw [if_neg (by omega), if_pos ⟨r2, by simpa using k, k2⟩]
            exact fin3 237 b c r2 (by omega) (by omega) (by omega) (by omega) st
          · simp only [decide_eq_true k, decide_eq_false k2, cond_true, cond_false, call_eq f2, J_b, D_nil, ret_eq]
            rw [if_neg (by omega), if_neg (by rintro ⟨_, _, h⟩; exact k2 h), if_neg (by omega)]
            rfl
        · simp only [decide_eq_false k, cond_false, J_b, D_nil, ret_eq]
          rw [if_neg (by omega), if_neg (by rintro ⟨_, h, _⟩; exact k (by simpa using h)), if_neg (by omega)]
          rfl
      · have x1 : ((a : Int) == 224) = false := by rw [beq_eq_false_iff_ne]; omega
        have x2 : ((a : Int) == 237) = false := by rw [beq_eq_false_iff_ne]; omega
        simp only [join_eq, J_b, J_i, D_nil, if_pos e1, decide_eq_false e2, cond_false, if_pos e3, decide_eq_true e4, cond_true, x1, x2, call_eq g1, ret_eq, if_neg y1, if_neg y2]
        by_cases k : 128 ≤ b ∧ b ≤ 191
        · by_cases k2 : 128 ≤ c ∧ c ≤ 191
          · simp only [decide_eq_true k, decide_eq_true k2, cond_true, call_eq f2, J_b, D_nil, chk_of (l1 (by omega)), chk_of (l2 (by omega)), ret_eq]
            rw [if_neg (by omega), if_pos ⟨r2, k, k2⟩]
            exact fin3 a b c r2 (by omega) (by omega) (by omega) (by omega) st
          · simp only [decide_eq_true k, decide_eq_false k2, cond_true, cond_false, call_eq f2, J_b, D_nil, ret_eq]
            rw [if_neg (by omega), if_neg (by rintro ⟨_, _, h⟩; exact k2 h), if_neg (by omega)]
            rfl
        · simp only [decide_eq_false k, cond_false, J_b, D_nil, ret_eq]
          rw [if_neg (by omega), if_neg (by rintro ⟨_, h, _⟩; exact k h), if_neg (by omega)]
          rfl
  by_cases r3 : 240 ≤ a ∧ a ≤ 244
  · have e1 : (a : Int) ≥ 194 := by omega
    have e2 : ¬ (a : Int) ≤ 223 := by omega
    have e3 : (a : Int) ≥ 224 := by omega
    have e4 : ¬ (a : Int) ≤ 239 := by omega
    have e5 : (a : Int) ≥ 240 := by omega
    have e6 : (a : Int) ≤ 244 := by omega
    by_cases y1 : a = 240
    · subst y1
      have x1 : (((240 : Nat) : Int) == 240) = true := rfl
      have x2 : (((240 : Nat) : Int) == 244) = false := rfl
      simp only [join_eq, J_b, J_i, D_nil, if_pos e1, decide_eq_false e2, cond_false, if_pos e3, decide_eq_false e4, if_pos e5, decide_eq_true e6, cond_true, x1, x2, call_eq g4, ret_eq]
      by_cases k : 144 ≤ b ∧ b ≤ 191
      · by_cases k2 : 128 ≤ c ∧ c ≤ 191
        · by_cases k3 : 128 ≤ d ∧ d ≤ 191
          · simp only [decide_eq_true k, decide_eq_true k2, decide_eq_true k3, cond_true, call_eq f2, call_eq f3, J_b, D_nil, chk_of (l1 (by omega)), chk_of (l2 (by omega)), chk_of (l3 (by omega)), ret_eq]
            rw [if_neg (by omega), if_neg (by omega), if_pos ⟨r3, by simpa using k, k2, k3⟩]
            exact fin4 240 b c d r3 (by omega) (by omega) (by omega) (by omega) (by omega) (by omega) st
          · simp only [decide_eq_true k, decide_eq_true k2, decide_eq_false k3, cond_true, cond_false, call_eq f2, call_eq f3, J_b, D_nil, ret_eq]
            rw [if_neg (by omega), if_neg (by omega), if_neg (by rintro ⟨_, _, _, h⟩; exact k3 h)]
            rfl
        · simp only [decide_eq_true k, decide_eq_false k2, cond_true, cond_false, call_eq f2, J_b, D_nil, ret_eq]
          rw [if_neg (by omega), if_neg (by omega), if_neg (by rintro ⟨_, _, h, _⟩; exact k2 h)]
          rfl
      · simp only [decide_eq_false k, cond_false, J_b, D_nil, ret_eq]
        rw [if_neg (by omega), if_neg (by omega), if_neg (by rintro ⟨_, h, _⟩; exact k (by simpa using h))]
        rfl
    · by_cases y2 : a = 244
      · subst y2
        have x1 : (((244 : Nat) : Int) == 240) = false := rfl
        have x2 : (((244 : Nat) : Int) == 244) = true := rfl
        simp only [join_eq, J_b, J_i, D_nil, if_pos e1, decide_eq_false e2, cond_false, if_pos e3, decide_eq_false e4, if_pos e5, decide_eq_true e6, cond_true, x1, x2, call_eq g5, ret_eq]
        by_cases k : 128 ≤ b ∧ b ≤ 143
        · by_cases k2 : 128 ≤ c ∧ c ≤ 191
          · by_cases k3 : 128 ≤ d ∧ d ≤ 191
            · simp only [decide_eq_true k, decide_eq_true k2, decide_eq_true k3, cond_true, call_eq f2, call_eq f3, J_b, D_nil, chk_of (l1 (by omega)), chk_of (l2 (by omega)), chk_of (l3 (by omega)), ret_eq]
              rw [if_neg (by omega), if_neg (by omega), if_pos ⟨r3, by simpa using k, k2, k3⟩]
              exact fin4 244 b c d r3 (by omega) (by omega) (by omega) (by omega) (by omega) (by omega) st
            · simp only [decide_eq_true k, decide_eq_true k2, decide_eq_false k3, cond_true, cond_false, call_eq f2, call_eq f3, J_b, D_nil, ret_eq]
              rw [if_neg (by omega), if_neg (by omega), if_neg (by rintro ⟨_, _, _, h⟩; exact k3 h)]
              rfl
          · simp only [decide_eq_true k, decide_eq_false k2, cond_true, cond_false, call_eq f2, J_b, D_nil, ret_eq]
            rw [if_neg (by omega), if_neg (by omega), if_neg (by rintro ⟨_, _, h, _⟩; exact k2 h)]
            rfl
        · simp only [decide_eq_false k, cond_false, J_b, D_nil, ret_eq]
          rw [if_neg (by omega), if_neg (by omega), if_neg (by rintro ⟨_, h, _⟩; exact k (by simpa using h))]
          rfl
      · have x1 : ((a : Int) == 240) = false := by rw [beq_eq_false_iff_ne]; omega
        have x2 : ((a : Int) == 244) = false := by rw [beq_eq_false_iff_ne]; omega
        simp only [join_eq, J_b, J_i, D_nil, if_pos e1, decide_eq_false e2, cond_false, if_pos e3, decide_eq_false e4, if_pos e5, decide_eq_true e6, cond_true, x1, x2, call_eq g1, ret_eq, if_neg y1, if_neg y2]
        by_cases k : 128 ≤ b ∧ b ≤ 191
        · by_cases k2 : 128 ≤ c ∧ c ≤ 191
          · by_cases k3 : 128 ≤ d ∧ d ≤ 191
            · simp only [decide_eq_true k, decide_eq_true k2, decide_eq_true k3, cond_true, call_eq f2, call_eq f3, J_b, D_nil, chk_of (l1 (by omega)), chk_of (l2 (by omega)), chk_of (l3 (by omega)), ret_eq]
              rw [if_neg (by omega), if_neg (by omega), if_pos ⟨r3, k, k2, k3⟩]
              exact fin4 a b c d r3 (by omega) (by omega) (by omega) (by omega) (by omega) (by omega) st
            · simp only [decide_eq_true k, decide_eq_true k2, decide_eq_false k3, cond_true, cond_false, call_eq f2, call_eq f3, J_b, D_nil, ret_eq]
              rw [if_neg (by omega), if_neg (by omega), if_neg (by rintro ⟨_, _, _, h⟩; exact k3 h)]
              rfl
          · simp only [decide_eq_true k, decide_eq_false k2, cond_true, cond_false, call_eq f2, J_b, D_nil, ret_eq]
            rw [if_neg (by omega), if_neg (by omega), if_neg (by rintro ⟨_, _, h, _⟩; exact k2 h)]
            rfl
        · simp only [decide_eq_false k, cond_false, J_b, D_nil, ret_eq]
          rw [if_neg (by omega), if_neg (by omega), if_neg (by rintro ⟨_, h, _⟩; exact k (h))]
          rfl
  · have e1 : (a : Int) ≥ 194 ∨ ¬ (a : Int) ≥ 194 := Classical.em _
    have e2 : ¬ (a : Int) ≤ 223 ∨ ¬ (a : Int) ≥ 194 := by omega
    have e4 : ¬ (a : Int) ≤ 239 ∨ ¬ (a : Int) ≥ 224 := by omega
    have e6 : ¬ (a : Int) ≤ 244 ∨ ¬ (a : Int) ≥ 240 := by omega
    rw [if_neg (by omega), if_neg (by omega), if_neg (by omega)]
    simp only [join_eq, J_b, D_nil]
    rcases e2 with e | e <;> rcases e4 with f | f <;> rcases e6 with g | g <;> (simp only [e, f, g, decide_false, if_false, cond_false, ite_self, ret_eq]; rfl)

def ic (r : Nat) : DV := .int .i64 (r : Int)

theorem ev_ref04_Runes {Bd : Bodies} (h : H_ref04_Runes Bd) (n : Nat) (s : List UInt8) (hn : s.length + 4 ≤ n) (hs : s.length < 1000000) (st : St) :
    Ok (fun o => ∃ a s', o = (.val [.slice 1 a (rns s).length], s') ∧ Pre st s' ∧ Sl s' a ((rns s).map ic)) (run Bd n 12 [.str s] st) := by
  obtain ⟨n, rfl⟩ : ∃ m, n = m + 3 := ⟨n - 3, by omega⟩
  rw [run_succ, h.eq]
  unfold b_ref04_Runes
  simp only [J_s, D_nil, base_eq, join_eq]
  refine loop_rule _ (fun k x s1 => ∃ (t : List UInt8) (a : Option (Nat × Nat)) (z : Nat) (acc : List Nat), x = [.str t, .slice z a acc.length] ∧ (z = 1 ∨ a = none) ∧ t.length ≤ k ∧ acc.length + t.length ≤ s.length ∧ rns s = acc ++ rns t ∧ Own st s1 a (acc.map ic))
    ?_ s.length (n + 2) _ _ ⟨s, none, 0, [], rfl, .inr rfl, Nat.le_refl _, by simp, rfl, Own.nil (.refl st)⟩ (by omega)
  rintro k _ s1 ⟨t, a, z, acc, rfl, hz, hk, hl, hr, ho⟩ rec hrec
  simp only [J_s, J_l_any 1 z a _ hz, D_nil, Bool.cond_decide, J_l]
  by_cases ht : (t.length : Int) > 0
  · rw [if_pos ht]
    have ht' : 0 < t.length := by omega
    have hw := dec_pos t 0
    have hle := dec_le t 0 ht'
    rw [call_eq (ev_ref04_First h.ref04_First n t ht' s1)]
    simp only [J_i, D_nil]
    obtain ⟨p, s2, ho2, hp⟩ := ho.push (β := List DV) (sz := 1) (n := acc.length) (lim := 8796093022208) [ic (dec t 0).1] (Nat.succ_pos 0) (by simp) rfl (by omega)
    have := hp (fun p => M.chk (decide (0 ≤ ((dec t 0).2 : Int)) && decide (((dec t 0).2 : Int) ≤ (t.length : Int))) (rec [.str (t.drop ((dec t 0).2 : Int).toNat), .slice 1 p (acc.length + 1)]))
    refine (congrArg (Ok _) this).mpr ?_
    rw [chk_of (by simp; omega)]
    refine hrec (t.length - 1) _ _ (by omega) ⟨t.drop (dec t 0).2, p, 1, acc ++ [(dec t 0).1], by simp, .inl rfl, by simp; omega, by simp; omega, by rw [hr, rns_cons ht']; simp, by simpa using ho2⟩
  · rw [if_neg ht]
    have ht' : t = [] := List.eq_nil_of_length_eq_zero (by omega)
    subst ht'
    rw [rns_nil, List.append_nil] at hr
    rw [retF_eq, hr]
    exact .mk ⟨a, _, rfl, frz_pre ho.1, ho.sl.frz _⟩

/-! ### Words -/
def wrongN (r : Nat) : Bool := (decide (r < 32) && !(r == 9)) || r == 127 || r == 65533

theorem natBeq (a b : Nat) : ((a : Int) == (b : Int)) = (a == b) := by rw [Bool.eq_iff_iff]; simp only [beq_iff_eq]; omega

theorem ev_ref31_Wrong {Bd : Bodies} (h : H_ref31_Wrong Bd) (n r : Nat) (st : St) : run Bd (n + 1) 13 [.int .i64 r] st = some (.val [.bool (wrongN r)], st) := by
  rw [run_succ, h.eq]
  unfold b_ref31_Wrong wrongN
  have e1 : ((r : Int) == 9) = (r == 9) := natBeq r 9
  have e2 : ((r : Int) == 127) = (r == 127) := natBeq r 127
  have e3 : ((r : Int) == 65533) = (r == 65533) := natBeq r 65533
  have e4 : decide ((r : Int) < 32) = decide (r < 32) := by rw [Bool.eq_iff_iff]; simp only [decide_eq_true_eq]; omega
  simp only [J_i, D_nil, e1, e2, e3, e4, join_bool, J_b, ret_eq]
  cases decide (r < 32) <;> cases (r == 9) <;> cases (r == 127) <;> cases (r == 65533) <;> rfl

theorem ev_lex_wrong {Bd : Bodies} (h : H_lex_wrong Bd) (n r : Nat) (st : St) : run Bd (n + 1) 11 [.int .i32 r] st = some (.val [.bool (wrongN r)], st) := by
  rw [run_succ, h.eq]
  unfold b_lex_wrong wrongN
  have e1 : ((r : Int) == 9) = (r == 9) := natBeq r 9
  have e2 : ((r : Int) == 127) = (r == 127) := natBeq r 127
  have e3 : ((r : Int) == 65533) = (r == 65533) := natBeq r 65533
  have e4 : decide ((r : Int) < 32) = decide (r < 32) := by rw [Bool.eq_iff_iff]; simp only [decide_eq_true_eq]; omega
  simp only [J_i, D_nil, e1, e2, e3, e4, join_bool, J_b, ret_eq]
  cases decide (r < 32) <;> cases (r == 9) <;> cases (r == 127) <;> cases (r == 65533) <;> rfl

def blankN (r : Nat) : Bool := r == 32 || r == 9
theorem ev_lex_blank {Bd : Bodies} (h : H_lex_blank Bd) (n r : Nat) (st : St) : run Bd (n + 1) 10 [.int .i32 r] st = some (.val [.bool (blankN r)], st) := by
  rw [run_succ, h.eq]
  unfold b_lex_blank blankN
  have e1 : ((r : Int) == 9) = (r == 9) := natBeq r 9
  have e2 : ((r : Int) == 32) = (r == 32) := natBeq r 32
  simp only [J_i, D_nil, e1, e2, join_bool, J_b, ret_eq]
  cases (r == 9) <;> cases (r == 32) <;> rfl

def flush (w : List UInt8) : List (List UInt8) := if w = [] then [] else [w]
/-- Words of octets: what is left, and the word that was begun. -/
def wsplit : List UInt8 → List UInt8 → List (List UInt8)
  | [], w => flush w
  | c :: r, w => if c = 35 then flush w else if c = 32 ∨ c = 9 then flush w ++ wsplit r [] else wsplit r (w ++ [c])

def wordsOf (line : List UInt8) : Int × List (List UInt8) :=
  if (rns line).any wrongN then (41, []) else if (wsplit line []).length > 40 then (40, []) else (0, wsplit line [])

/-- What a function that tells words answers. -/
def WordsAns (line : List UInt8) (st : St) (o : Out (List DV) × St) : Prop :=
  ∃ z a s', o = (.val [.slice z a (wordsOf line).2.length, .int .i64 (wordsOf line).1], s') ∧ (z = 1 ∨ a = none) ∧ Pre st s' ∧ Sl s' a ((wordsOf line).2.map .str)

/-- .. and its list stays as it is. -/
def WordsAns2 (line : List UInt8) (st : St) (o : Out (List DV) × St) : Prop :=
  ∃ z a s', o = (.val [.slice z a (wordsOf line).2.length, .int .i64 (wordsOf line).1], s') ∧ (z = 1 ∨ a = none) ∧ Pre st s' ∧ Fz s' a ((wordsOf line).2.map .str)
theorem WordsAns2.old {line : List UInt8} {st : St} {o : Out (List DV) × St} (h : WordsAns2 line st o) : WordsAns line st o :=
  let ⟨z, a, s', e, hz, hp, hf⟩ := h
  ⟨z, a, s', e, hz, hp, hf.1⟩

theorem slice1 (line : List UInt8) (i : Nat) (h : i < line.length) : (line.take (i + 1)).drop i = [line[i]] := by
  rw [List.take_succ_eq_append_getElem h, List.drop_append_of_le_length (by simp; omega), List.drop_of_length_le (by simp; omega)]
  rfl

theorem ocBeq (s : List UInt8) (i : Nat) (h : i < s.length) (k : Nat) (hk : k < 256) : ((oc s i : Int) == (k : Int)) = decide (s[i] = UInt8.ofNat k) := by
  have e : oc s i = s[i].toNat := by unfold oc; simp [List.getD_eq_getElem?_getD, h]
  rw [natBeq, e, Bool.eq_iff_iff]
  simp only [beq_iff_eq, decide_eq_true_eq]
  constructor
  · intro h
    rw [← h]; simp
  · intro h
    rw [h]; simp; omega

theorem ev_ref31_Words2 {Bd : Bodies} (h : H_ref31_Words Bd) (n : Nat) (line : List UInt8) (hn : line.length + 6 ≤ n) (hs : line.length < 100000) (st : St) : Ok (WordsAns2 line st) (run Bd n 3 [.str line] st) := by
  obtain ⟨n, rfl⟩ : ∃ m, n = m + 3 := ⟨n - 3, by omega⟩
  rw [run_succ, h.eq]
  unfold b_ref31_Words
  simp only [J_s, D_nil, base_eq]
  refine Ok.call (ev_ref04_Runes h.ref04_Runes (n + 2) line (by omega) (by omega) st) ?_
  rintro _ ⟨a, s1, rfl, hp1, hsl⟩
  refine ⟨_, s1, rfl, ?_⟩
  have hrl := rns_len line
  simp only [J_l, D_nil]
  rw [join_eq]
  -- no rune is wrong up to i
  refine loop_rule _ (fun k x s2 => ∃ i : Nat, x = [.int .i64 i] ∧ i ≤ (rns line).length ∧ (rns line).length - i ≤ k ∧ (∀ j r, j < i → (rns line)[j]? = some r → wrongN r = false) ∧ s2 = s1)
    ?_ (rns line).length (n + 2) _ _ ⟨0, rfl, Nat.zero_le _, by omega, fun j r hj => by omega, rfl⟩ (by omega)
  rintro k _ s2 ⟨i, rfl, hi, hk, hw, rfl⟩ rec hrec
  simp only [J_i, D_nil, Bool.cond_decide]
  by_cases hlt : (i : Int) < ((rns line).length : Int)
  · rw [if_pos hlt]
    have hlt' : i < (rns line).length := by omega
    obtain ⟨r, hr⟩ : ∃ r, (rns line)[i]? = some r := ⟨_, List.getElem?_eq_getElem hlt'⟩
    obtain ⟨b, o, rfl⟩ := hsl.some_of (by simp; omega)
    simp only [nn_some', chk_of (inB_of hlt'), Int.toNat_natCast]
    rw [hsl.get1 (d := ic r) (by simp [hr])]
    unfold ic
    simp only [D_int]
    rw [call_eq (ev_ref31_Wrong h.ref31_Wrong (n + 1) r s2)]
    simp only [J_b, D_nil]
    cases hwr : wrongN r with
    | true =>
      simp only [cond_true, retF_eq]
      have : wordsOf line = (41, []) := by
        unfold wordsOf
        rw [if_pos (List.any_eq_true.2 ⟨r, List.mem_of_getElem? hr, hwr⟩)]
      exact .mk ⟨0, none, _, by rw [this]; rfl, .inr rfl, frz_pre hp1, by rw [this]; exact Fz.nil _⟩
    | false =>
      simp only [cond_false]
      refine hrec (k - 1) _ _ (by omega) ⟨i + 1, by rw [wr64_of (by omega) (by omega)]; rfl, by omega, by omega, fun j r' hj hr' => ?_, rfl⟩
      rcases Nat.lt_or_ge j i with h | h
      · exact hw j r' h hr'
      · have : j = i := by omega
        subst this
        rw [hr] at hr'; cases hr'; exact hwr
  · rw [if_neg hlt]
    have hnw : (rns line).any wrongN = false := by
      rw [List.any_eq_false]
      intro r hr
      obtain ⟨j, hj⟩ := List.getElem?_of_mem hr
      have : j < (rns line).length := (List.getElem?_eq_some_iff.1 hj).1
      rw [hw j r (by omega) hj]; simp
    have hfin : ∀ (a' : Option (Nat × Nat)) (z : Nat) (s3 : St), (z = 1 ∨ a' = none) → Own st s3 a' ((wsplit line []).map .str) → Ok (WordsAns2 line st) ((if (((wsplit line []).length : Nat) : Int) > 40 then M.retF st.length [.slice 0 none 0, .int .i64 40] else M.retF st.length [.slice 1 a' (wsplit line []).length, .int .i64 0] : M (List DV)) s3) := by
      intro a' z s3 hz ho
      by_cases h40 : (wsplit line []).length > 40
      · rw [if_pos (by omega), retF_eq]
        have : wordsOf line = (40, []) := by unfold wordsOf; rw [hnw]; simp only [Bool.false_eq_true, if_false]; rw [if_pos h40]
        exact .mk ⟨0, none, _, by rw [this]; rfl, .inr rfl, frz_pre ho.1, by rw [this]; exact Fz.nil _⟩
      · rw [if_neg (by omega), retF_eq]
        have : wordsOf line = (0, wsplit line []) := by unfold wordsOf; rw [hnw]; simp only [Bool.false_eq_true, if_false]; rw [if_neg h40]
        exact .mk ⟨1, a', _, by rw [this], .inl rfl, frz_pre ho.1, by rw [this]; exact ho.fz⟩
    rw [join_eq]
    refine loop_rule _ (fun k x s3 => ∃ (i z : Nat) (a' : Option (Nat × Nat)) (acc : List (List UInt8)) (w : List UInt8), x = [.slice z a' acc.length, .str w, .int .i64 i] ∧ (z = 1 ∨ a' = none) ∧ line.length + 1 - i ≤ k ∧ w.length ≤ i ∧ acc.length ≤ i ∧ Own st s3 a' (acc.map .str) ∧
        ((i ≤ line.length ∧ wsplit line [] = acc ++ wsplit (line.drop i) w) ∨ (i = line.length + 1 ∧ wsplit line [] = acc)))
      ?_ (line.length + 1) (n + 2) _ _ ⟨0, 0, none, [], [], rfl, .inr rfl, by omega, Nat.zero_le _, Nat.zero_le _, Own.nil hp1, .inl ⟨Nat.zero_le _, rfl⟩⟩ (by omega)
    rintro k _ s3 ⟨i, z, a', acc, w, rfl, hz, hk, hwl, hal, ho, hI⟩ rec hrec
    simp only [J_i, J_s, J_l_any 1 z a' _ hz, D_nil, Bool.cond_decide, J_l]
    rcases hI with ⟨hi, hI⟩ | ⟨hi, hI⟩
    · rw [if_pos (by omega)]
      have hwi : wr64 ((i : Int) + 1) = ((i + 1 : Nat) : Int) := by rw [wr64_of (by omega) (by omega)]; rfl
      have hto : ((i + 1 : Nat) : Int).toNat = i + 1 := rfl
      by_cases hl : i = line.length
      · subst hl
        have e1 : ((line.length : Int) == (line.length : Int)) = true := by simp
        simp only [e1, cond_true, join_eq, J_b, J_l, D_nil, J_s]
        rw [List.drop_length, wsplit] at hI
        by_cases hw0 : w = []
        · subst hw0
          have e0 : flush ([] : List UInt8) = [] := rfl
          rw [e0] at hI
          have e2 : (([] : List UInt8) == bs []) = true := rfl
          simp only [e2, Bool.not_true, cond_false]
          rw [if_neg (by omega)]; try simp only [cond_false]
          rw [List.append_nil] at hI; rw [hwi]; exact hrec (k - 1) _ _ (by omega) ⟨line.length + 1, 1, a', acc, [], rfl, .inl rfl, by omega, Nat.zero_le _, by omega, ho, .inr ⟨rfl, hI⟩⟩
        · have e0 : flush w = [w] := by unfold flush; rw [if_neg hw0]
          rw [e0] at hI
          have e2 : (w == bs []) = false := by rw [beq_eq_false_iff_ne]; exact hw0
          simp only [e2, Bool.not_false, cond_true]
          obtain ⟨p, s4, h1, h2⟩ := ho.push (β := List DV) (sz := 1) (n := acc.length) (lim := 4398046511104) [.str w] (Nat.succ_pos 0) (by simp) rfl (by omega)
          have h1' : Own st s4 p ((acc ++ [w]).map .str) := by simpa using h1
          rw [h2]
          rw [if_neg (by omega)]; try simp only [cond_false]
          rw [hwi]; exact hrec (k - 1) _ _ (by omega) ⟨line.length + 1, 1, p, acc ++ [w], [], by simp, .inl rfl, by omega, Nat.zero_le _, by simp; omega, h1', .inr ⟨rfl, hI⟩⟩
      · have hlt : i < line.length := by omega
        have e1 : ((i : Int) == (line.length : Int)) = false := by rw [natBeq]; simpa using hl
        have b35 : ((oc line i : Int) == 35) = decide (line[i] = 35) := ocBeq line i hlt 35 (by omega)
        have b32 : ((oc line i : Int) == 32) = decide (line[i] = 32) := ocBeq line i hlt 32 (by omega)
        have b9 : ((oc line i : Int) == 9) = decide (line[i] = 9) := ocBeq line i hlt 9 (by omega)
        have hd : line.drop i = line[i] :: line.drop (i + 1) := List.drop_eq_getElem_cons hlt
        have hil : (i : Int) < (line.length : Int) := by omega
        rw [hd, wsplit] at hI
        simp only [e1, cond_false, join_eq, J_b, D_nil, J_l, J_s, chk_of (inB_of hlt), byteAt_eq, b35, b32, b9, if_pos hil]
        by_cases c35 : line[i] = 35
        · rw [if_pos c35] at hI
          simp only [decide_eq_true c35, cond_true]
          by_cases hw0 : w = []
          · subst hw0
            have e0 : flush ([] : List UInt8) = [] := rfl
            rw [e0] at hI
            have e2 : (([] : List UInt8) == bs []) = true := rfl
            simp only [e2, Bool.not_true, cond_false]
            skip
            rw [List.append_nil] at hI; rw [← hI] at ho ⊢; exact hfin a' 1 s3 (.inl rfl) ho
          · have e0 : flush w = [w] := by unfold flush; rw [if_neg hw0]
            rw [e0] at hI
            have e2 : (w == bs []) = false := by rw [beq_eq_false_iff_ne]; exact hw0
            simp only [e2, Bool.not_false, cond_true]
            obtain ⟨p, s4, h1, h2⟩ := ho.push (β := List DV) (sz := 1) (n := acc.length) (lim := 4398046511104) [.str w] (Nat.succ_pos 0) (by simp) rfl (by omega)
            have h1' : Own st s4 p ((acc ++ [w]).map .str) := by simpa using h1
            rw [h2]
            skip
            have := hfin p 1 s4 (.inl rfl) (by rw [hI]; exact h1'); rw [hI] at this; simpa using this
        · rw [if_neg c35] at hI
          by_cases c32 : line[i] = 32
          · rw [if_pos (.inl c32)] at hI
            have c35' : ¬ (32 : UInt8) = 35 := by decide
            simp only [decide_eq_false c35, decide_eq_true c32, cond_false, cond_true]
            by_cases hw0 : w = []
            · subst hw0
              have e0 : flush ([] : List UInt8) = [] := rfl
              rw [e0] at hI
              have e2 : (([] : List UInt8) == bs []) = true := rfl
              simp only [e2, Bool.not_true, cond_false]
              skip
              rw [List.nil_append] at hI; rw [hwi]; exact hrec (k - 1) _ _ (by omega) ⟨i + 1, 1, a', acc, [], rfl, .inl rfl, by omega, Nat.zero_le _, by omega, ho, .inl ⟨by omega, hI⟩⟩
            · have e0 : flush w = [w] := by unfold flush; rw [if_neg hw0]
              rw [e0] at hI
              have e2 : (w == bs []) = false := by rw [beq_eq_false_iff_ne]; exact hw0
              simp only [e2, Bool.not_false, cond_true]
              obtain ⟨p, s4, h1, h2⟩ := ho.push (β := List DV) (sz := 1) (n := acc.length) (lim := 4398046511104) [.str w] (Nat.succ_pos 0) (by simp) rfl (by omega)
              have h1' : Own st s4 p ((acc ++ [w]).map .str) := by simpa using h1
              rw [h2]
              skip
              rw [hwi]; exact hrec (k - 1) _ _ (by omega) ⟨i + 1, 1, p, acc ++ [w], [], by simp, .inl rfl, by omega, Nat.zero_le _, by simp; omega, h1', .inl ⟨by omega, by rw [hI]; simp⟩⟩
          · by_cases c9 : line[i] = 9
            · rw [if_pos (.inr c9)] at hI
              simp only [decide_eq_false c35, decide_eq_false c32, decide_eq_true c9, cond_false, cond_true]
              by_cases hw0 : w = []
              · subst hw0
                have e0 : flush ([] : List UInt8) = [] := rfl
                rw [e0] at hI
                have e2 : (([] : List UInt8) == bs []) = true := rfl
                simp only [e2, Bool.not_true, cond_false]
                skip
                rw [List.nil_append] at hI; rw [hwi]; exact hrec (k - 1) _ _ (by omega) ⟨i + 1, 1, a', acc, [], rfl, .inl rfl, by omega, Nat.zero_le _, by omega, ho, .inl ⟨by omega, hI⟩⟩
              · have e0 : flush w = [w] := by unfold flush; rw [if_neg hw0]
                rw [e0] at hI
                have e2 : (w == bs []) = false := by rw [beq_eq_false_iff_ne]; exact hw0
                simp only [e2, Bool.not_false, cond_true]
                obtain ⟨p, s4, h1, h2⟩ := ho.push (β := List DV) (sz := 1) (n := acc.length) (lim := 4398046511104) [.str w] (Nat.succ_pos 0) (by simp) rfl (by omega)
                have h1' : Own st s4 p ((acc ++ [w]).map .str) := by simpa using h1
                rw [h2]
                skip
                rw [hwi]; exact hrec (k - 1) _ _ (by omega) ⟨i + 1, 1, p, acc ++ [w], [], by simp, .inl rfl, by omega, Nat.zero_le _, by simp; omega, h1', .inl ⟨by omega, by rw [hI]; simp⟩⟩
            · rw [if_neg (by rintro (h | h); exact c32 h; exact c9 h)] at hI
              simp only [decide_eq_false c35, decide_eq_false c32, decide_eq_false c9, cond_false, hwi, hto]
              rw [chk_of (by simp; omega), chk_of (by first | (simp; done) | (simp; omega)), Int.toNat_natCast, slice1 line i hlt, chk_of (Nat.ble_eq_true_of_le (by simp; omega))]
              exact hrec (k - 1) _ _ (by omega) ⟨i + 1, 1, a', acc, w ++ [line[i]], rfl, .inl rfl, by omega, by simp; omega, by omega, ho, .inl ⟨by omega, hI⟩⟩
    · rw [if_neg (by omega), ← hI]
      rw [← hI] at ho
      exact hfin a' 1 s3 (.inl rfl) ho
theorem ev_ref31_Words {Bd : Bodies} (h : H_ref31_Words Bd) (n : Nat) (line : List UInt8) (hn : line.length + 6 ≤ n) (hs : line.length < 100000) (st : St) : Ok (WordsAns line st) (run Bd n 3 [.str line] st) :=
  (ev_ref31_Words2 h n line hn hs st).mono fun _ h => h.old

/-! ### The program's words -/
theorem wsplit_cut : ∀ (l : List UInt8) (e : Nat) (w : List UInt8), (∀ j c, j < e → l[j]? = some c → c ≠ 35) → (e = l.length ∨ l[e]? = some 35) → wsplit l w = wsplit (l.take e) w
  | [], e, w, _, h => by simp
  | c :: l, 0, w, _, h => by
    rcases h with h | h
    · cases h
    · simp only [List.getElem?_cons_zero, Option.some.injEq] at h
      subst h
      simp [wsplit]
  | c :: l, e + 1, w, h1, h => by
    have hc : c ≠ 35 := h1 0 c (by omega) rfl
    have h1' : ∀ j x, j < e → l[j]? = some x → x ≠ 35 := fun j x hj hx => h1 (j + 1) x (by omega) (by simpa using hx)
    have h' : e = l.length ∨ l[e]? = some 35 := h.imp (fun h => by simpa using h) (fun h => by simpa using h)
    simp only [List.take_succ_cons, wsplit, if_neg hc]
    rw [wsplit_cut l e [] h1' h', wsplit_cut l e (w ++ [c]) h1' h']

theorem wsplit_run : ∀ (x r w : List UInt8), (∀ c ∈ x, c ≠ 35 ∧ c ≠ 32 ∧ c ≠ 9) → wsplit (x ++ r) w = wsplit r (w ++ x)
  | [], r, w, _ => by simp
  | c :: x, r, w, h => by
    obtain ⟨h1, h2, h3⟩ := h c (by simp)
    rw [List.cons_append, wsplit, if_neg h1, if_neg (by rintro (h | h); exact h2 h; exact h3 h), wsplit_run x r _ fun c hc => h c (by simp [hc])]
    simp

theorem oc_get {s : List UInt8} {i : Nat} (h : i < s.length) : oc s i = s[i].toNat := by unfold oc; simp [List.getD_eq_getElem?_getD, h]
theorem oc_ne {s : List UInt8} {i : Nat} (h : i < s.length) {k : Nat} (hk : oc s i ≠ k) : s[i] ≠ UInt8.ofNat k ∨ 256 ≤ k := by
  rcases Nat.lt_or_ge k 256 with h' | h'
  · refine .inl fun e => hk ?_
    rw [oc_get h, e]; simp; omega
  · exact .inr h'
theorem oc_take {s : List UInt8} {e i : Nat} (h : i < e) : oc (s.take e) i = oc s i := by
  unfold oc; simp [List.getD_eq_getElem?_getD, List.getElem?_take, h]

theorem ev_lex_Words2 {Bd : Bodies} (h : H_lex_Words Bd) (n : Nat) (line : List UInt8) (hn : line.length + 4 ≤ n) (hs : line.length < 100000) (st : St) : Ok (WordsAns2 line st) (run Bd n 2 [.str line] st) := by
  obtain ⟨n, rfl⟩ : ∃ m, n = m + 2 := ⟨n - 2, by omega⟩
  rw [run_succ, h.eq]
  unfold b_lex_Words
  simp only [J_s, D_nil, base_eq]
  rw [join_eq]
  refine loop_rule _ (fun k x s2 => ∃ (p e : Nat) (dn : List Nat), x = [.int .i64 e, .nat p] ∧ p ≤ line.length ∧ line.length - p ≤ k ∧ s2 = st ∧ rns line = dn ++ rns (line.drop p) ∧ (∀ r ∈ dn, wrongN r = false) ∧
      e ≤ line.length ∧ (∀ j, j < p → j < e → oc line j ≠ 35) ∧ (e = line.length ∨ (e < p ∧ oc line e = 35)))
    ?_ line.length (n + 1) _ _ ⟨0, line.length, [], rfl, Nat.zero_le _, by omega, rfl, rfl, (fun r hr => by cases hr), Nat.le_refl _, (fun j hj => by omega), .inl rfl⟩ (by omega)
  rintro k _ s2 ⟨p, e, dn, rfl, hp, hk, rfl, hr, hdn, hel, he1, he2⟩ rec hrec
  simp only [J_i, J_n, D_nil]
  by_cases hlt : p < line.length
  · have hb : Nat.blt p line.length = true := by rw [Nat.blt_eq]; exact hlt
    have hrn : rns (line.drop p) = (dec line p).1 :: rns (line.drop (p + (dec line p).2)) := by
      rw [rns_cons (by simp; omega), dec_drop, Nat.add_zero, List.drop_drop]
    have hw := dec_pos line p
    have hle := dec_le line p hlt
    simp only [hb, cond_true, runeAt, runeW]
    rw [call_eq (ev_lex_wrong h.lex_wrong n (dec line p).1 s2)]
    simp only [J_b, D_nil]
    cases hwr : wrongN (dec line p).1 with
    | true =>
      simp only [cond_true, retF_eq]
      have : wordsOf line = (41, []) := by
        unfold wordsOf
        rw [if_pos (List.any_eq_true.2 ⟨_, by rw [hr, hrn]; simp, hwr⟩)]
      exact .mk ⟨0, none, _, by rw [this]; rfl, .inr rfl, frz_pre (.refl _), by rw [this]; exact Fz.nil _⟩
    | false =>
      simp only [cond_false, join_eq, J_i, D_nil]
      have next : ∀ e' : Nat, e' ≤ line.length → (∀ j, j < p + (dec line p).2 → j < e' → oc line j ≠ 35) → (e' = line.length ∨ (e' < p + (dec line p).2 ∧ oc line e' = 35)) → Ok (WordsAns2 line s2) (rec [.int .i64 e', .nat (p + (dec line p).2)] s2) :=
        fun e' h1 h2 h3 => hrec (line.length - (p + (dec line p).2)) _ _ (by omega) ⟨p + (dec line p).2, e', dn ++ [(dec line p).1], rfl, hle, by omega, rfl, by rw [hr, hrn]; simp, fun r hr => by
          rcases List.mem_append.1 hr with h | h
          · exact hdn r h
          · rw [List.mem_singleton.1 h]; exact hwr, h1, h2, h3⟩
      have e35 : (((dec line p).1 : Int) == 35) = ((dec line p).1 == 35) := natBeq _ 35
      rw [e35]
      rcases dec_cases line p hlt with ⟨hr1, hw1, hoc⟩ | ⟨hr1, hw1, hoc⟩
      · by_cases c35 : (dec line p).1 = 35
        · have : ((dec line p).1 == 35) = true := by simpa using c35
          simp only [this, cond_true]
          by_cases hpe : p < e
          · rw [if_pos (by omega)]
            exact next p (by omega) (fun j hj hje => he1 j hje (by omega)) (.inr ⟨by omega, by rw [hoc, c35]⟩)
          · rw [if_neg (by omega)]
            refine next e hel (fun j hj hje => he1 j (by omega) hje) (he2.imp id fun ⟨a, b⟩ => ⟨by omega, b⟩)
        · have : ((dec line p).1 == 35) = false := by simpa using c35
          simp only [this, cond_false]
          refine next e hel (fun j hj hje => ?_) (he2.imp id fun ⟨a, b⟩ => ⟨by omega, b⟩)
          rcases Nat.lt_or_ge j p with h' | h'
          · exact he1 j h' hje
          · rw [show j = p by omega, hoc]; exact c35
      · have : ((dec line p).1 == 35) = false := by rw [beq_eq_false_iff_ne]; omega
        simp only [this, cond_false]
        refine next e hel (fun j hj hje => ?_) (he2.imp id fun ⟨a, b⟩ => ⟨by omega, b⟩)
        rcases Nat.lt_or_ge j p with h' | h'
        · exact he1 j h' hje
        · have := hoc (j - p) (by omega)
          rw [show p + (j - p) = j by omega] at this
          omega
  · have hb : Nat.blt p line.length = false := by
      cases hb : Nat.blt p line.length with
      | false => rfl
      | true => rw [Nat.blt_eq] at hb; exact absurd hb hlt
    have hpl : p = line.length := by omega
    subst hpl
    have hnw : (rns line).any wrongN = false := by
      rw [List.drop_length, rns_nil, List.append_nil] at hr
      rw [hr, List.any_eq_false]
      intro r h'
      rw [hdn r h']; simp
    have hcut : wsplit line [] = wsplit (line.take e) [] := by
      refine wsplit_cut line e [] (fun j c hj hc => ?_) ?_
      · have hjl : j < line.length := (List.getElem?_eq_some_iff.1 hc).1
        have := he1 j hjl hj
        rw [oc_get hjl] at this
        rw [List.getElem?_eq_getElem hjl] at hc
        cases hc
        intro h; rw [h] at this; exact this rfl
      · rcases he2 with h | ⟨h1, h2⟩
        · exact .inl h
        · refine .inr ?_
          rw [List.getElem?_eq_getElem h1]
          rw [oc_get h1] at h2
          congr 1
          exact UInt8.toNat_inj.1 h2
    have hfin : ∀ (a' : Option (Nat × Nat)) (s3 : St), Own s2 s3 a' ((wsplit line []).map .str) → Ok (WordsAns2 line s2) ((bif decide ((((wsplit line []).length : Nat) : Int) > 40) then M.retF s2.length [.slice 0 none 0, .int .i64 40] else M.retF s2.length [.slice 1 a' (wsplit line []).length, .int .i64 0] : M (List DV)) s3) := by
      intro a' s3 ho
      by_cases h40 : (wsplit line []).length > 40
      · have e1 : decide ((((wsplit line []).length : Nat) : Int) > 40) = true := decide_eq_true (by omega)
        rw [e1]
        have : wordsOf line = (40, []) := by unfold wordsOf; rw [hnw]; simp only [Bool.false_eq_true, if_false]; rw [if_pos h40]
        exact .mk ⟨0, none, _, by rw [this]; rfl, .inr rfl, frz_pre ho.1, by rw [this]; exact Fz.nil _⟩
      · have e1 : decide ((((wsplit line []).length : Nat) : Int) > 40) = false := decide_eq_false (by omega)
        rw [e1]
        have : wordsOf line = (0, wsplit line []) := by unfold wordsOf; rw [hnw]; simp only [Bool.false_eq_true, if_false]; rw [if_neg h40]
        exact .mk ⟨1, a', _, by rw [this], .inl rfl, frz_pre ho.1, by rw [this]; exact ho.fz⟩
    simp only [hb, cond_false, Int.toNat_natCast]
    rw [chk_of (by simp only [Bool.and_eq_true, decide_eq_true_eq]; omega), join_eq]
    have hLl : (line.take e).length = e := by rw [List.length_take]; omega
    have hL35 : ∀ j, j < e → oc (line.take e) j ≠ 35 := fun j hj => by rw [oc_take hj]; exact he1 j (by omega) hj
    rw [hcut] at hfin
    refine loop_rule _ (fun k x s3 => ∃ (p z : Nat) (a' : Option (Nat × Nat)) (acc : List (List UInt8)) (cur : List UInt8) (from' : Int), x = [.slice z a' acc.length, .int .i64 from', .nat p] ∧ (z = 1 ∨ a' = none) ∧ p ≤ e ∧ e - p ≤ k ∧ acc.length ≤ p ∧ Own s2 s3 a' (acc.map .str) ∧
        wsplit (line.take e) [] = acc ++ wsplit ((line.take e).drop p) cur ∧ ((from' = -1 ∧ cur = []) ∨ ∃ f : Nat, from' = f ∧ f < p ∧ cur = ((line.take e).take p).drop f))
      ?_ e (n + 1) _ _ ⟨0, 0, none, [], [], -1, rfl, .inr rfl, Nat.zero_le _, by omega, Nat.zero_le _, Own.nil (.refl _), rfl, .inl ⟨rfl, rfl⟩⟩ (by omega)
    rintro k _ s3 ⟨p, z, a', acc, cur, from', rfl, hz, hp', hk', hal, ho, hI, hfr⟩ rec hrec
    simp only [J_i, J_n, J_l_any 1 z a' _ hz, D_nil, J_l]
    generalize hL : line.take e = L at *
    have ltp : ∀ f, (line.take p).drop f = (L.take p).drop f := by
      intro f
      rw [← hL, List.take_take, Nat.min_eq_left (by omega)]
    by_cases hlt : p < e
    · have hb : Nat.blt p L.length = true := by rw [Nat.blt_eq]; omega
      have hw := dec_pos L p
      have hle := dec_le L p (by omega)
      have cb : ∀ (K : List DV → M (List DV)) (s : St), M.call (run Bd (n + 1) 10 [.int .i32 ((dec L p).1 : Int)]) K s = K [.bool (blankN (dec L p).1)] s := fun K s => call_eq (ev_lex_blank h.lex_blank n (dec L p).1 s)
      simp only [hb, cond_true, runeAt, runeW, cb, J_b, D_nil, join_eq, J_l, J_i]
      -- what is behind the rune
      have hdrop : L.drop p = (L.drop p).take (dec L p).2 ++ L.drop (p + (dec L p).2) := by
        rw [← List.drop_drop]; exact (List.take_append_drop _ _).symm
      cases hbl : blankN (dec L p).1 with
      | true =>
        have hr : (dec L p).2 = 1 ∧ oc L p = (dec L p).1 := by
          unfold blankN at hbl
          simp only [Bool.or_eq_true, beq_iff_eq] at hbl
          rcases dec_cases L p (by omega) with ⟨_, h1, h2⟩ | ⟨h1, _⟩
          · exact ⟨h1, h2⟩
          · omega
        have hone : L.drop p = L[p]'(by omega) :: L.drop (p + 1) := List.drop_eq_getElem_cons (by omega)
        have hc : L[p]'(by omega) = 32 ∨ L[p]'(by omega) = 9 := by
          unfold blankN at hbl
          simp only [Bool.or_eq_true, beq_iff_eq] at hbl
          have := hr.2
          rw [oc_get (by omega)] at this
          refine hbl.imp (fun h => UInt8.toNat_inj.1 (this.trans h)) (fun h => UInt8.toNat_inj.1 (this.trans h))
        have hc35 : L[p]'(by omega) ≠ 35 := by rcases hc with h | h <;> rw [h] <;> decide
        rw [hone, wsplit, if_neg hc35, if_pos hc] at hI
        rw [hr.1]
        simp only [Bool.not_true, cond_false, cond_true, cb, J_b, D_nil, hbl]
        rcases hfr with ⟨rfl, rfl⟩ | ⟨f, rfl, hf, hcur⟩
        · have : decide ((-1 : Int) ≥ 0) = false := rfl
          simp only [this, cond_false]
          exact hrec (e - (p + 1)) _ _ (by omega) ⟨p + 1, 1, a', acc, [], -1, rfl, .inl rfl, by omega, by omega, by omega, ho, by simpa [flush] using hI, .inl ⟨rfl, rfl⟩⟩
        · have e1 : decide ((f : Int) ≥ 0) = true := decide_eq_true (by omega)
          have hne : cur ≠ [] := by
            intro h
            have := congrArg List.length hcur
            rw [h] at this
            simp at this
            omega
          simp only [e1, cond_true]
          rw [chk_of (by first | (simp; done) | (simp; omega)), chk_of (by first | (simp; done) | (simp; omega))]
          obtain ⟨q, s4, h1, h2⟩ := ho.push (β := List DV) (sz := 1) (n := acc.length) (lim := 4398046511104) [.str cur] (Nat.succ_pos 0) (by simp) rfl (by omega)
          simp only [Int.toNat_natCast, ltp, ← hcur]
          rw [h2]
          have hfl : flush cur = [cur] := by unfold flush; rw [if_neg hne]
          refine hrec (e - (p + 1)) _ _ (by omega) ⟨p + 1, 1, q, acc ++ [cur], [], -1, by simp, .inl rfl, by omega, by omega, by simp; omega, by simpa using h1, ?_, .inl ⟨rfl, rfl⟩⟩
          rw [hI, hfl]; simp
      | false =>
        -- octets of a word
        have hrun : ∀ c ∈ (L.drop p).take (dec L p).2, c ≠ 35 ∧ c ≠ 32 ∧ c ≠ 9 := by
          intro c hc
          obtain ⟨j, hj⟩ := List.getElem?_of_mem hc
          rw [List.getElem?_take] at hj
          split at hj
          · rename_i hjw
            rw [List.getElem?_drop] at hj
            have hpj : p + j < L.length := (List.getElem?_eq_some_iff.1 hj).1
            rw [List.getElem?_eq_getElem hpj] at hj
            cases hj
            have h35 := hL35 (p + j) (by omega)
            rw [oc_get hpj] at h35
            refine ⟨fun h => h35 (by rw [h]; rfl), ?_⟩
            rcases dec_cases L p (by omega) with ⟨h0, h1, h2⟩ | ⟨h0, _, h2⟩
            · have hj0 : j = 0 := by omega
              subst hj0
              simp only [Nat.add_zero] at *
              rw [oc_get (by omega)] at h2
              unfold blankN at hbl
              simp only [Bool.or_eq_false_iff, beq_eq_false_iff_ne] at hbl
              exact ⟨fun h => hbl.1 (by rw [← h2, h]; rfl), fun h => hbl.2 (by rw [← h2, h]; rfl)⟩
            · have := h2 j hjw
              rw [oc_get hpj] at this
              exact ⟨fun h => by rw [h] at this; exact absurd this (by decide), fun h => by rw [h] at this; exact absurd this (by decide)⟩
          · cases hj
        rw [hdrop, wsplit_run _ _ _ hrun] at hI
        simp only [Bool.not_false, cond_true, cond_false]
        have tk : ∀ f, f ≤ p → (L.take (p + (dec L p).2)).drop f = (L.take p).drop f ++ (L.drop p).take (dec L p).2 := by
          intro f hf
          rw [List.take_add, List.drop_append_of_le_length (by simp; omega)]
        rcases hfr with ⟨rfl, rfl⟩ | ⟨f, rfl, hf, hcur⟩
        · have : decide ((-1 : Int) < 0) = true := rfl
          simp only [this, cond_true]
          refine hrec (e - (p + (dec L p).2)) _ _ (by omega) ⟨p + (dec L p).2, 1, a', acc, _, (p : Int), rfl, .inl rfl, by omega, by omega, by omega, ho, hI, .inr ⟨p, rfl, by omega, ?_⟩⟩
          have e0 : (L.take p).drop p = [] := List.drop_of_length_le (by rw [List.length_take]; omega)
          rw [tk p (Nat.le_refl _), e0]
        · have e1 : decide ((f : Int) < 0) = false := decide_eq_false (by omega)
          simp only [e1, cond_false, cb, J_b, D_nil, hbl]
          refine hrec (e - (p + (dec L p).2)) _ _ (by omega) ⟨p + (dec L p).2, 1, a', acc, _, (f : Int), rfl, .inl rfl, by omega, by omega, by omega, ho, hI, .inr ⟨f, rfl, by omega, ?_⟩⟩
          rw [tk f (by omega), hcur]
    · have hb : Nat.blt p L.length = false := by
        cases hb : Nat.blt p L.length with
        | false => rfl
        | true => rw [Nat.blt_eq] at hb; omega
      have hpe : p = e := by omega
      subst hpe
      rw [List.drop_of_length_le (by omega), wsplit] at hI
      simp only [hb, cond_false, join_eq, J_l, D_nil]
      rcases hfr with ⟨rfl, rfl⟩ | ⟨f, rfl, hf, hcur⟩
      · have : decide ((-1 : Int) ≥ 0) = false := rfl
        simp only [this, cond_false]
        simp only [flush, if_true, List.append_nil] at hI
        rw [← hI] at ho ⊢
        exact hfin a' s3 ho
      · have e1 : decide ((f : Int) ≥ 0) = true := decide_eq_true (by omega)
        have hne : cur ≠ [] := by
          intro h
          have := congrArg List.length hcur
          rw [h] at this
          simp at this
          omega
        have hfl : flush cur = [cur] := by unfold flush; rw [if_neg hne]
        simp only [e1, cond_true]
        rw [chk_of (by first | (simp; done) | (simp; omega)), chk_of (by first | (simp; done) | (simp; omega))]
        obtain ⟨q, s4, h1, h2⟩ := ho.push (β := List DV) (sz := 1) (n := acc.length) (lim := 4398046511104) [.str cur] (Nat.succ_pos 0) (by simp) rfl (by omega)
        have e0 : L.take p = L := List.take_of_length_le (by omega)
        rw [e0] at hcur
        simp only [Int.toNat_natCast, ← hcur]
        rw [h2]
        rw [hfl] at hI
        have := hfin q s4 (by rw [hI]; simpa using h1)
        rw [hI] at this
        simpa using this

theorem ev_lex_Words {Bd : Bodies} (h : H_lex_Words Bd) (n : Nat) (line : List UInt8) (hn : line.length + 4 ≤ n) (hs : line.length < 100000) (st : St) : Ok (WordsAns line st) (run Bd n 2 [.str line] st) :=
  (ev_lex_Words2 h n line hn hs st).mono fun _ h => h.old

theorem ev_ref31_Same {Bd : Bodies} (h : H_ref31_Same Bd) (n : Nat) (ws vs : List (List UInt8)) (a b : Option (Nat × Nat)) (st : St) (ha : Sl st a (ws.map .str)) (hb : Sl st b (vs.map .str)) (hn : ws.length + 2 ≤ n) (hs : ws.length < 1000000) :
    Ok (fun o => o = (.val [.bool (decide (ws = vs))], st)) (run Bd n 4 [.slice 1 a ws.length, .slice 1 b vs.length] st) := by
  obtain ⟨n, rfl⟩ : ∃ m, n = m + 2 := ⟨n - 2, by omega⟩
  rw [run_succ, h.eq]
  unfold b_ref31_Same
  simp only [J_l, D_nil, Bool.cond_decide]
  by_cases hl : ws.length = vs.length
  · have e1 : ((ws.length : Int) == (vs.length : Int)) = true := by rw [natBeq]; simpa using hl
    simp only [e1, Bool.not_true, cond_false, join_eq]
    refine loop_rule _ (fun k x s1 => ∃ i : Nat, x = [.int .i64 i] ∧ i ≤ ws.length ∧ ws.length - i ≤ k ∧ s1 = st ∧ (∀ j, j < i → ws[j]? = vs[j]?)) ?_ ws.length (n + 1) _ _ ⟨0, rfl, Nat.zero_le _, by omega, rfl, fun j hj => by omega⟩ (by omega)
    rintro k _ s1 ⟨i, rfl, hi, hk, rfl, heq⟩ rec hrec
    simp only [J_i, D_nil]
    by_cases hlt : (i : Int) < (ws.length : Int)
    · rw [if_pos hlt]
      have h1 : ws[i]? = some (ws[i]'(by omega)) := List.getElem?_eq_getElem _
      have h2 : vs[i]? = some (vs[i]'(by omega)) := List.getElem?_eq_getElem _
      obtain ⟨p, o, rfl⟩ := ha.some_of (by simp; omega)
      obtain ⟨q, o', rfl⟩ := hb.some_of (by simp; omega)
      simp only [nn_some', chk_of (inB_of (i := i) (n := ws.length) (by omega)), chk_of (inB_of (i := i) (n := vs.length) (by omega)), Int.toNat_natCast]
      rw [ha.get1 (d := .str ws[i]) (by simp [h1])]
      simp only [D_str]
      rw [hb.get1 (d := .str vs[i]) (by simp [h2])]
      simp only [D_str]
      by_cases e : ws[i]'(by omega) = vs[i]'(by omega)
      · have e2 : (ws[i]'(by omega) == vs[i]'(by omega)) = true := by rw [e]; exact beq_self_eq_true _
        simp only [e2, Bool.not_true, cond_false]
        refine hrec (ws.length - (i + 1)) _ _ (by omega) ⟨i + 1, by rw [wr64_of (by omega) (by omega)]; rfl, by omega, by omega, rfl, fun j hj => ?_⟩
        rcases Nat.lt_or_ge j i with h | h
        · exact heq j h
        · rw [show j = i by omega, h1, h2, e]
      · have e2 : (ws[i]'(by omega) == vs[i]'(by omega)) = false := by rw [beq_eq_false_iff_ne]; exact e
        simp only [e2, Bool.not_false, cond_true, ret_eq]
        refine .mk ?_
        have : ¬ ws = vs := fun h => e (by subst h; rfl)
        simp [this]
    · rw [if_neg hlt]
      have : ws = vs := List.ext_getElem? fun j => by
        rcases Nat.lt_or_ge j ws.length with h | h
        · exact heq j (by omega)
        · rw [List.getElem?_eq_none h, List.getElem?_eq_none (by omega)]
      rw [decide_eq_true this]
      exact .mk rfl
  · have e1 : ((ws.length : Int) == (vs.length : Int)) = false := by rw [natBeq]; simpa using hl
    have : ¬ ws = vs := fun h => hl (by rw [h])
    simp only [e1, Bool.not_false, cond_true, ret_eq]
    exact .mk (by simp [this])

def badN (r : Nat) : Bool := wrongN r || blankN r || r == 35
def plainOf (w : List UInt8) : Bool := !(rns w).any badN && !(w == [])

theorem ev_lex_Plain {Bd : Bodies} (h : H_lex_Plain Bd) (n : Nat) (w : List UInt8) (hn : w.length + 3 ≤ n) (st : St) : Ok (fun o => o = (.val [.bool (plainOf w)], st)) (run Bd n 9 [.str w] st) := by
  obtain ⟨n, rfl⟩ : ∃ m, n = m + 2 := ⟨n - 2, by omega⟩
  rw [run_succ, h.eq]
  unfold b_lex_Plain
  simp only [J_s, D_nil]
  rw [join_eq]
  refine loop_rule _ (fun k x s1 => ∃ (p : Nat) (dn : List Nat), x = [.nat p] ∧ p ≤ w.length ∧ w.length - p ≤ k ∧ s1 = st ∧ rns w = dn ++ rns (w.drop p) ∧ (∀ r ∈ dn, badN r = false)) ?_ w.length (n + 1) _ _ ⟨0, [], rfl, Nat.zero_le _, by omega, rfl, rfl, (fun r hr => by cases hr)⟩ (by omega)
  rintro k _ s1 ⟨p, dn, rfl, hp, hk, rfl, hr, hdn⟩ rec hrec
  simp only [J_n, D_nil]
  by_cases hlt : p < w.length
  · have hb : Nat.blt p w.length = true := by rw [Nat.blt_eq]; exact hlt
    have hrn : rns (w.drop p) = (dec w p).1 :: rns (w.drop (p + (dec w p).2)) := by
      rw [rns_cons (by simp; omega), dec_drop, Nat.add_zero, List.drop_drop]
    have hw := dec_pos w p
    have hle := dec_le w p hlt
    have cw : ∀ (K : List DV → M (List DV)) (s : St), M.call (run Bd (n + 1) 11 [.int .i32 ((dec w p).1 : Int)]) K s = K [.bool (wrongN (dec w p).1)] s := fun K s => call_eq (ev_lex_wrong h.lex_wrong n (dec w p).1 s)
    have cb : ∀ (K : List DV → M (List DV)) (s : St), M.call (run Bd (n + 1) 10 [.int .i32 ((dec w p).1 : Int)]) K s = K [.bool (blankN (dec w p).1)] s := fun K s => call_eq (ev_lex_blank h.lex_blank n (dec w p).1 s)
    have e35 : (((dec w p).1 : Int) == 35) = ((dec w p).1 == 35) := natBeq _ 35
    simp only [hb, cond_true, runeAt, runeW, cw, J_b, D_nil, join_eq, e35]
    cases hbad : badN (dec w p).1 with
    | true =>
      have : plainOf w = false := by
        unfold plainOf
        rw [List.any_eq_true.2 ⟨_, by rw [hr, hrn]; simp, hbad⟩]; rfl
      unfold badN at hbad
      rw [this]
      cases h1 : wrongN (dec w p).1 with
      | true => simp only [cond_true, ret_eq]; exact .mk rfl
      | false =>
        simp only [cond_false, cb, J_b, D_nil]
        rw [h1, Bool.false_or] at hbad
        cases h2 : blankN (dec w p).1 with
        | true => simp only [cond_true, ret_eq]; exact .mk rfl
        | false =>
          rw [h2, Bool.false_or] at hbad
          simp only [hbad, cond_false, cond_true, ret_eq]; exact .mk rfl
    | false =>
      have hbad' := hbad
      unfold badN at hbad
      simp only [Bool.or_eq_false_iff] at hbad
      simp only [hbad.1.1, hbad.1.2, hbad.2, cond_false, cb, J_b, D_nil]
      exact hrec (w.length - (p + (dec w p).2)) _ _ (by omega) ⟨p + (dec w p).2, dn ++ [(dec w p).1], rfl, hle, by omega, rfl, by rw [hr, hrn]; simp, fun r h => by
        rcases List.mem_append.1 h with h | h
        · exact hdn r h
        · rw [List.mem_singleton.1 h]; exact hbad'⟩
  · have hb : Nat.blt p w.length = false := by
      cases hb : Nat.blt p w.length with
      | false => rfl
      | true => rw [Nat.blt_eq] at hb; exact absurd hb hlt
    have hpl : p = w.length := by omega
    subst hpl
    rw [List.drop_length, rns_nil, List.append_nil] at hr
    have hnb : (rns w).any badN = false := by
      rw [hr, List.any_eq_false]
      intro r h'
      rw [hdn r h']; simp
    simp only [hb, cond_false, ret_eq]
    refine .mk ?_
    unfold plainOf
    rw [hnb]; rfl

theorem ev_law31_awake {Bd : Bodies} (h : H_law31_awake Bd) (n : Nat) (hn : 40 ≤ n) (st : St) : Ok (fun o => ∃ s', o = (.val [.bool true], s') ∧ Pre st s') (run Bd n 1 [] st) := by
  obtain ⟨n, rfl⟩ : ∃ m, n = m + 1 := ⟨n - 1, by omega⟩
  rw [run_succ, h.eq]
  unfold b_law31_awake
  simp only [D_nil]
  refine Ok.call (ev_lex_Words h.lex_Words n _ (by simp; omega) (by simp) st) ?_
  rintro _ ⟨z, a, s1, rfl, hz, hp, hsl⟩
  refine ⟨_, s1, rfl, ?_⟩
  have hw : wordsOf (bs [112, 117, 116, 32, 97, 32, 53, 32, 35, 32, 102, 105, 118, 101]) = (0, [[112, 117, 116], [97], [53]]) := by
    unfold wordsOf
    rw [rns_F 14 _ (by decide)]
    decide +kernel
  rw [hw] at hsl ⊢
  simp only [J_l_any 1 z a _ hz, J_i, D_nil]
  obtain ⟨i, o, rfl⟩ := hsl.some_of (by simp)
  have e1 : ((0 : Int) == 0) = true := rfl
  have e2 : ((([[112, 117, 116], [97], [53]] : List (List UInt8)).length : Int) == 3) = true := rfl
  simp only [e1, e2, cond_true, join_eq, J_b, D_nil, nn_some']
  rw [chk_of (by rfl), hsl.get (j := 0) (d := .str [112, 117, 116]) rfl]
  simp only [D_str, J_b, D_nil]
  have e3 : (([112, 117, 116] : List UInt8) == bs [112, 117, 116]) = true := rfl
  simp only [e3, cond_true]
  rw [chk_of (by rfl), hsl.get (j := 2) (d := .str [53]) rfl]
  simp only [D_str, J_b, D_nil]
  have e4 : (([53] : List UInt8) == bs [53]) = true := rfl
  simp only [e4, cond_true]
  refine Ok.call (ev_lex_Plain h.lex_Plain n _ (by simp; omega) s1) ?_
  rintro _ rfl
  refine ⟨_, s1, rfl, ?_⟩
  have e5 : plainOf (bs [97]) = true := by unfold plainOf; rw [rns_F 1 _ (by decide)]; decide +kernel
  simp only [e5, J_b, D_nil, cond_true]
  refine Ok.call (ev_lex_Plain h.lex_Plain n _ (by simp; omega) s1) ?_
  rintro _ rfl
  refine ⟨_, s1, rfl, ?_⟩
  have e6 : plainOf (bs [97, 35]) = false := by unfold plainOf; rw [rns_F 2 _ (by decide)]; decide +kernel
  simp only [e6, J_b, D_nil, Bool.not_false, ret_eq]
  exact .mk ⟨s1, rfl, hp⟩

theorem law_law31_LexWords {Bd : Bodies} (h : H_law31_LexWords Bd) (s : St) (args : List DV) (_ : Frz s) (hr : RdA s [(false, .s)] args) : ∃ n s', run Bd n 0 args s = some (.val [.bool true], s') := by
  obtain ⟨_, _, _, ⟨line, rfl, _⟩, rfl, rfl, hd⟩ := hr
  cases hd
  suffices hs : Ok (fun o => ∃ s', o = (.val [.bool true], s')) (run Bd 1000 0 [.str line] s) by
    obtain ⟨o, e, s', rfl⟩ := hs
    exact ⟨1000, s', e⟩
  rw [run_succ, h.eq]
  unfold b_law31_LexWords
  simp only [J_s, D_nil]
  refine Ok.call (ev_law31_awake h.law31_awake 999 (by omega) s) ?_
  rintro _ ⟨s1, rfl, hp1⟩
  refine ⟨_, s1, rfl, ?_⟩
  simp only [J_b, D_nil, Bool.not_true, cond_false, join_eq]
  by_cases hl : line.length > 500
  · have e : decide ((line.length : Int) > 500) = true := decide_eq_true (by omega)
    simp only [e, cond_true]
    refine Ok.call (ev_law31_awake h.law31_awake 999 (by omega) s1) ?_
    rintro _ ⟨s2, rfl, hp2⟩
    refine ⟨_, s2, rfl, ?_⟩
    simp only [J_b, D_nil, ret_eq]
    exact .mk ⟨s2, rfl⟩
  · have e : decide ((line.length : Int) > 500) = false := decide_eq_false (by omega)
    simp only [e, cond_false]
    refine Ok.call (ev_lex_Words h.lex_Words 999 line (by omega) (by omega) s1) ?_
    rintro _ ⟨z, a, s2, rfl, hz, hp2, hsl⟩
    refine ⟨_, s2, rfl, ?_⟩
    simp only [J_l_any 1 z a _ hz, J_i, D_nil]
    refine Ok.call (ev_ref31_Words h.ref31_Words 999 line (by omega) (by omega) s2) ?_
    rintro _ ⟨z', a', s3, rfl, hz', hp3, hsl'⟩
    refine ⟨_, s3, rfl, ?_⟩
    have hlen : (wordsOf line).2.length ≤ 40 := by
      unfold wordsOf
      split
      · exact Nat.zero_le _
      · split
        · exact Nat.zero_le _
        · rename_i h; simp only; omega
    simp only [J_l_any 1 z' a' _ hz', J_i, D_nil, beq_self_eq_true, cond_true]
    refine Ok.call (ev_ref31_Same h.ref31_Same 999 _ _ a a' s3 (hsl.mono hp3) hsl' (by omega) (by omega)) ?_
    rintro _ rfl
    refine ⟨_, s3, rfl, ?_⟩
    simp only [J_b, D_nil, decide_true, ret_eq]
    exact .mk ⟨s3, rfl⟩

/-! ### Words that are plain -/
theorem wsplit_len : ∀ (l w : List UInt8), (wsplit l w).flatten.length ≤ w.length + l.length ∧ ((∃ c ∈ l, c = 35 ∨ c = 32 ∨ c = 9) → (wsplit l w).flatten.length < w.length + l.length)
  | [], w => by
    refine ⟨?_, fun ⟨c, hc, _⟩ => by cases hc⟩
    simp only [wsplit, flush]
    split <;> simp
  | c :: l, w => by
    have hf : (flush w).flatten.length ≤ w.length := by unfold flush; split <;> simp
    simp only [wsplit]
    split
    · exact ⟨by simp only [List.length_cons]; omega, fun _ => by simp only [List.length_cons]; omega⟩
    · rename_i h35
      split
      · have := (wsplit_len l []).1
        simp only [List.flatten_append, List.length_append, List.length_cons, List.length_nil] at this ⊢
        exact ⟨by omega, fun _ => by omega⟩
      · rename_i h32
        obtain ⟨h1, h2⟩ := wsplit_len l (w ++ [c])
        simp only [List.length_append, List.length_cons, List.length_nil] at h1 h2 ⊢
        refine ⟨by omega, fun ⟨x, hx, hx2⟩ => ?_⟩
        have := h2 (by
          rcases List.mem_cons.1 hx with rfl | hx
          · rcases hx2 with h | h
            · exact absurd h h35
            · exact absurd h h32
          · exact ⟨x, hx, hx2⟩)
        omega

/-- A word that is one word. -/
def IsWord (w : List UInt8) : Prop := wordsOf w = (0, [w])
instance (w : List UInt8) : Decidable (IsWord w) := inferInstanceAs (Decidable (wordsOf w = (0, [w])))

theorem IsWord.wrong {w : List UInt8} (h : IsWord w) : (rns w).any wrongN = false := by
  unfold IsWord wordsOf at h
  cases hw : (rns w).any wrongN with
  | false => rfl
  | true => rw [hw] at h; cases h
theorem IsWord.split {w : List UInt8} (h : IsWord w) : wsplit w [] = [w] := by
  have hw := h.wrong
  unfold IsWord wordsOf at h
  rw [hw] at h
  simp only [Bool.false_eq_true, if_false] at h
  split at h
  · cases h
  · exact (Prod.mk.injEq _ _ _ _ ▸ h).2
theorem IsWord.ne {w : List UInt8} (h : IsWord w) : w ≠ [] := by
  rintro rfl
  have := h.split
  cases this
theorem IsWord.sep {w : List UInt8} (h : IsWord w) : ∀ c ∈ w, c ≠ 35 ∧ c ≠ 32 ∧ c ≠ 9 := by
  intro c hc
  refine Classical.byContradiction fun hn => ?_
  have := (wsplit_len w []).2 ⟨c, hc, by
    refine Classical.byContradiction fun h2 => hn ?_
    simp only [not_or] at h2
    exact h2⟩
  rw [h.split] at this
  simp at this

/-- Blanks in front of a word. -/
def blanksOf (more : List UInt8) : List UInt8 := more.map fun b => if b.toNat % 2 = 0 then 9 else 32
theorem wsplit_blanks (r : List UInt8) : ∀ (more : List UInt8), wsplit (blanksOf more ++ r) [] = wsplit r []
  | [] => rfl
  | b :: more => by
    have : ∀ c : UInt8, (c = 9 ∨ c = 32) → wsplit (c :: (blanksOf more ++ r)) [] = wsplit r [] := by
      intro c hc
      rw [wsplit, if_neg (by rcases hc with h | h <;> rw [h] <;> decide), if_pos (by rcases hc with h | h; exact .inr h; exact .inl h), wsplit_blanks r more]
      rfl
    show wsplit ((if b.toNat % 2 = 0 then 9 else 32) :: (blanksOf more ++ r)) [] = _
    split
    · exact this 9 (.inl rfl)
    · exact this 32 (.inr rfl)

/-- Words, each with blanks in front. -/
def lineOf (more : List UInt8) : List (List UInt8) → List UInt8
  | [] => []
  | w :: ws => 32 :: (blanksOf more ++ (w ++ lineOf more ws))

theorem lineOf_snoc (more : List UInt8) (w : List UInt8) : ∀ ws, lineOf more (ws ++ [w]) = lineOf more ws ++ (32 :: (blanksOf more ++ w))
  | [] => by simp [lineOf]
  | x :: ws => by simp [lineOf, lineOf_snoc more w ws]

theorem lineOf_split (more : List UInt8) : ∀ (ws : List (List UInt8)) (r : List UInt8), (∀ w ∈ ws, IsWord w) → (r = [] ∨ ∃ r', r = 35 :: r') → ∀ cur, wsplit (lineOf more ws ++ r) cur = flush cur ++ ws
  | [], r, _, hr, cur => by
    rcases hr with rfl | ⟨r', rfl⟩
    · simp [lineOf, wsplit]
    · simp [lineOf, wsplit]
  | w :: ws, r, h, hr, cur => by
    have hw := h w (by simp)
    have e : lineOf more (w :: ws) ++ r = 32 :: (blanksOf more ++ (w ++ (lineOf more ws ++ r))) := by simp [lineOf]
    rw [e, wsplit, if_neg (by decide), if_pos (.inl rfl), wsplit_blanks, wsplit_run w _ [] hw.sep, lineOf_split more ws r (fun x hx => h x (by simp [hx])) hr ([] ++ w)]
    have : flush ([] ++ w) = [w] := by unfold flush; rw [if_neg (by simpa using hw.ne)]; rfl
    rw [this]; rfl

theorem blanks_runes (s : List UInt8) : ∀ (more : List UInt8), ∃ l : List Nat, (∀ r ∈ l, r = 9 ∨ r = 32) ∧ rns (blanksOf more ++ s) = l ++ rns s
  | [] => ⟨[], (fun r h => by cases h), rfl⟩
  | b :: more => by
    obtain ⟨l, h1, h2⟩ := blanks_runes s more
    by_cases hb : b.toNat % 2 = 0
    · refine ⟨9 :: l, fun r hr => ?_, ?_⟩
      · rcases List.mem_cons.1 hr with rfl | hr
        · exact .inl rfl
        · exact h1 r hr
      · have e : blanksOf (b :: more) ++ s = 9 :: (blanksOf more ++ s) := by simp [blanksOf, hb]
        rw [e, rns_ascii (by decide), h2]; rfl
    · refine ⟨32 :: l, fun r hr => ?_, ?_⟩
      · rcases List.mem_cons.1 hr with rfl | hr
        · exact .inr rfl
        · exact h1 r hr
      · have e : blanksOf (b :: more) ++ s = 32 :: (blanksOf more ++ s) := by simp [blanksOf, hb]
        rw [e, rns_ascii (by decide), h2]; rfl

theorem lineOf_wrong (more : List UInt8) (r : List UInt8) : ∀ (ws : List (List UInt8)), (∀ w ∈ ws, IsWord w) → (rns (lineOf more ws ++ r)).any wrongN = (rns r).any wrongN
  | [], _ => rfl
  | w :: ws, h => by
    have hw := (h w (by simp)).wrong
    have hw' : ∀ x ∈ rns w, x ≠ 65533 := by
      intro x hx e
      have := List.any_eq_false.1 hw x hx
      rw [e] at this
      exact this rfl
    obtain ⟨l, h1, h2⟩ := blanks_runes (w ++ (lineOf more ws ++ r)) more
    have e : lineOf more (w :: ws) ++ r = 32 :: (blanksOf more ++ (w ++ (lineOf more ws ++ r))) := by simp [lineOf]
    rw [e, rns_ascii (by decide), h2, rns_app _ hw', List.any_cons, List.any_append, List.any_append, hw, lineOf_wrong more r ws (fun x hx => h x (by simp [hx]))]
    have hl : l.any wrongN = false := by
      rw [List.any_eq_false]
      intro x hx
      rcases h1 x hx with rfl | rfl <;> decide
    rw [hl]; rfl

theorem lineOf_len (more : List UInt8) (m : Nat) (hm : more.length ≤ m) (k : Nat) : ∀ (ws : List (List UInt8)), (∀ w ∈ ws, w.length ≤ k) → (lineOf more ws).length ≤ ws.length * (1 + m + k)
  | [], _ => by simp [lineOf]
  | w :: ws, h => by
    have h1 := h w (by simp)
    have h2 := lineOf_len more m hm k ws fun x hx => h x (by simp [hx])
    have h3 : (blanksOf more).length = more.length := by simp [blanksOf]
    simp only [lineOf, List.length_cons, List.length_append, h3, Nat.succ_mul]
    omega

theorem ev_ref31_Plain {Bd : Bodies} (h : H_ref31_Plain Bd) (n : Nat) (w : List UInt8) (hn : w.length + 7 ≤ n) (hs : w.length < 100000) (st : St) : Ok (fun o => ∃ s', o = (.val [.bool (decide (IsWord w))], s') ∧ Pre st s') (run Bd n 6 [.str w] st) := by
  obtain ⟨n, rfl⟩ : ∃ m, n = m + 1 := ⟨n - 1, by omega⟩
  rw [run_succ, h.eq]
  unfold b_ref31_Plain
  simp only [J_s, D_nil]
  refine Ok.call (ev_ref31_Words h.ref31_Words n w (by omega) hs st) ?_
  rintro _ ⟨z, a, s1, rfl, hz, hp, hsl⟩
  refine ⟨_, s1, rfl, ?_⟩
  simp only [J_l_any 1 z a _ hz, J_i, D_nil, join_eq, J_b]
  have fin : ∀ b : Bool, b = decide (IsWord w) → Ok (fun o : Out (List DV) × St => ∃ s', o = (.val [.bool (decide (IsWord w))], s') ∧ Pre st s') ((M.ret [.bool b] : M (List DV)) s1) := by
    rintro b rfl
    exact .mk ⟨s1, rfl, hp⟩
  cases e1 : ((wordsOf w).1 == 0) with
  | false =>
    simp only [cond_false, J_b, D_nil]
    refine fin false ?_
    rw [eq_comm, decide_eq_false_iff_not]
    intro hw
    unfold IsWord at hw
    rw [hw] at e1; cases e1
  | true =>
    simp only [cond_true]
    cases e2 : (((wordsOf w).2.length : Int) == 1) with
    | false =>
      simp only [cond_false, J_b, D_nil]
      refine fin false ?_
      rw [eq_comm, decide_eq_false_iff_not]
      intro hw
      unfold IsWord at hw
      rw [hw] at e2; cases e2
    | true =>
      simp only [cond_true]
      have hl : (wordsOf w).2.length = 1 := by have := eq_of_beq e2; omega
      obtain ⟨x, hx⟩ : ∃ x, (wordsOf w).2 = [x] := List.length_eq_one_iff.1 hl
      rw [hx] at hsl
      obtain ⟨i, o, rfl⟩ := hsl.some_of (by simp)
      simp only [nn_some']
      rw [chk_of (by rw [hl]; rfl), hsl.get (j := 0) (d := .str x) rfl]
      simp only [D_str, J_b, D_nil]
      refine fin _ ?_
      have h0 : (wordsOf w).1 = 0 := eq_of_beq e1
      rw [Bool.eq_iff_iff, beq_iff_eq, decide_eq_true_eq]
      unfold IsWord
      constructor
      · intro e
        rw [← h0, ← e, ← hx, e]
      · intro e
        rw [e] at hx
        exact (List.cons.inj hx).1.symm

/-- Arguments: a list of texts. -/
theorem rd_strs {s : St} {d : DV} (h : Rd s (.sl .s) [d]) : ∃ a ws, (∃ z, (z = 1 ∨ a = none) ∧ d = .slice z a (List.length ws)) ∧ Sl s a (ws.map .str) := by
  rcases h with h | ⟨i, n, cs, h1, h2, h3, _, h5⟩
  · exact ⟨none, [], ⟨1, .inl rfl, (List.cons.inj h).1⟩, rfl⟩
  · have h3 : cs.length = n := by rw [h3]; exact Nat.mul_one n
    have key : ∀ j, j < n → ∃ l, cs[j]? = some (.str l) := by
      intro j hj
      obtain ⟨l, hl, _⟩ := h5 j hj
      have : (cs.drop (j * Ty.size .s)).take (Ty.size .s) = [cs[j]'(by omega)] := by
        show (cs.drop (j * 1)).take 1 = _
        rw [Nat.mul_one, List.drop_eq_getElem_cons (by omega)]; rfl
      rw [this] at hl
      exact ⟨l, by rw [List.getElem?_eq_getElem (by omega), (List.cons.inj hl).1]⟩
    have : ∃ ws : List (List UInt8), cs = ws.map .str := by
      refine ⟨cs.map fun d => match d with | .str l => l | _ => [], ?_⟩
      rw [List.map_map]
      refine List.ext_getElem? fun j => ?_
      rw [List.getElem?_map]
      rcases Nat.lt_or_ge j n with hj | hj
      · obtain ⟨l, hl⟩ := key j hj
        rw [hl]; rfl
      · rw [List.getElem?_eq_none (by omega)]; rfl
    obtain ⟨ws, rfl⟩ := this
    refine ⟨some (i, 0), ws, ⟨1, .inl rfl, ?_⟩, true, _, h2, by simp, by rw [List.drop_zero]; exact List.take_length⟩
    rw [(List.cons.inj h1).1, ← h3, List.length_map]; rfl

theorem bit_oc (more : List UInt8) (k : Nat) (h : k < more.length) : ((((byteAt more (k : Int)).tmod 2) == 0) : Bool) = decide ((more[k]).toNat % 2 = 0) := by
  rw [byteAt_eq, oc_get h, Bool.eq_iff_iff, beq_iff_eq, decide_eq_true_eq]
  have : (((more[k]).toNat : Int)).tmod 2 = (((more[k]).toNat % 2 : Nat) : Int) := IntWalk.up_tmod (y := 2) rfl rfl
  rw [this]; omega

theorem law_law31_LexBlanks {Bd : Bodies} (h : H_law31_LexBlanks Bd) (s : St) (args : List DV) (_ : Frz s) (hr : RdA s [(false, .sl .s), (false, .s), (false, .s)] args) : ∃ n s', run Bd n 5 args s = some (.val [.bool true], s') := by
  obtain ⟨_, d0, _, hr0, ⟨_, _, _, ⟨more, rfl, _⟩, ⟨_, _, _, ⟨remark, rfl, _⟩, rfl, rfl, hd2⟩, rfl, hd1⟩, rfl, hd0⟩ := hr
  cases hd0
  cases hd1
  cases hd2
  obtain ⟨a, ws, ⟨z, hz, rfl⟩, hsl⟩ := rd_strs hr0
  suffices hs : Ok (fun o => ∃ s', o = (.val [.bool true], s')) (run Bd 10000 5 [.slice z a ws.length, .str more, .str remark] s) by
    obtain ⟨o, e, s', rfl⟩ := hs
    exact ⟨10000, s', e⟩
  rw [run_succ, h.eq]
  unfold b_law31_LexBlanks
  simp only [J_s, J_l_any 1 z a _ hz, D_nil]
  refine Ok.call (ev_law31_awake h.law31_awake 9999 (by omega) s) ?_
  rintro _ ⟨s1, rfl, hp1⟩
  refine ⟨_, s1, rfl, ?_⟩
  simp only [J_b, D_nil, Bool.not_true, cond_false]
  have early : Ok (fun o : Out (List DV) × St => ∃ s', o = (.val [.bool true], s')) ((M.call (run Bd 9999 1 []) fun ds => J.b ds fun x1 ds => D.nil ds (M.ret [.bool x1]) : M (List DV)) s1) := by
    refine Ok.call (ev_law31_awake h.law31_awake 9999 (by omega) s1) ?_
    rintro _ ⟨s2, rfl, hp2⟩
    refine ⟨_, s2, rfl, ?_⟩
    simp only [J_b, D_nil, ret_eq]
    exact .mk ⟨s2, rfl⟩
  rw [join_eq]
  simp only [J_b, D_nil]
  by_cases h1 : ws.length > 30
  · have e : decide ((ws.length : Int) > 30) = true := decide_eq_true (by omega)
    rw [e, join_eq]
    simp only [cond_true, J_b, D_nil]
    rw [join_eq]
    simp only [cond_true, J_b, D_nil]
    exact early
  have e1 : decide ((ws.length : Int) > 30) = false := decide_eq_false (by omega)
  rw [e1, join_eq]
  simp only [cond_false, J_b, D_nil]
  by_cases h2 : more.length > 30
  · have e : decide ((more.length : Int) > 30) = true := decide_eq_true (by omega)
    rw [e, join_eq]
    simp only [cond_true, J_b, D_nil]
    exact early
  have e2 : decide ((more.length : Int) > 30) = false := decide_eq_false (by omega)
  rw [e2, join_eq]
  simp only [cond_false, J_b, D_nil]
  by_cases h3 : remark.length > 100
  · have e : decide ((remark.length : Int) > 100) = true := decide_eq_true (by omega)
    rw [e]
    simp only [cond_true]
    exact early
  have e3 : decide ((remark.length : Int) > 100) = false := decide_eq_false (by omega)
  rw [e3]
  simp only [cond_false]
  rw [join_eq]
  refine loop_rule _ (fun k x s2 => ∃ i : Nat, x = [.str (lineOf more (ws.take i)), .int .i64 i] ∧ i ≤ ws.length ∧ ws.length - i ≤ k ∧ Pre s s2 ∧ (∀ w ∈ ws.take i, IsWord w) ∧ (∀ w ∈ ws.take i, w.length ≤ 100))
    ?_ ws.length 9999 _ _ ⟨0, rfl, Nat.zero_le _, by omega, hp1, by simp, by simp⟩ (by omega)
  rintro k _ s2 ⟨i, rfl, hi, hk, hp2, hw, hwl⟩ rec hrec
  have hlen := lineOf_len more 30 (by omega) 100 (ws.take i) hwl
  have htl : (ws.take i).length = i := by rw [List.length_take]; omega
  rw [htl] at hlen
  have hll : (lineOf more (ws.take i)).length ≤ 4000 := by omega
  simp only [J_i, J_s, D_nil]
  by_cases hlt : i < ws.length
  · have e : decide ((i : Int) < (ws.length : Int)) = true := decide_eq_true (by omega)
    have hg : ws[i]? = some ws[i] := List.getElem?_eq_getElem hlt
    obtain ⟨p, o, rfl⟩ := hsl.some_of (by simp; omega)
    have ld : ∀ (K : DV → M (List DV)) (s' : St), Pre s s' → M.load1 p (i * 1 + o) K s' = K (.str ws[i]) s' := fun K s' hp => (hsl.mono hp).get1 (d := .str ws[i]) (by simp [hg]) K
    simp only [e, cond_true, nn_some', chk_of (inB_of hlt), Int.toNat_natCast]
    rw [join_eq, ld _ _ hp2]
    simp only [D_str]
    rw [join_eq]
    by_cases hw1 : ws[i].length > 100
    · have e : decide ((ws[i].length : Int) > 100) = true := decide_eq_true (by omega)
      simp only [e, cond_true, J_b, D_nil, ret_eq]
      exact .mk ⟨s2, rfl⟩
    have e5 : decide ((ws[i].length : Int) > 100) = false := decide_eq_false (by omega)
    simp only [e5, cond_false]
    rw [ld _ _ hp2]
    simp only [D_str]
    refine Ok.call (ev_ref31_Plain h.ref31_Plain 9999 ws[i] (by omega) (by omega) s2) ?_
    rintro _ ⟨s3, rfl, hp3⟩
    refine ⟨_, s3, rfl, ?_⟩
    simp only [J_b, D_nil]
    have hp3' := hp2.trans hp3
    by_cases hpl : IsWord ws[i]
    · simp only [decide_eq_true hpl, Bool.not_true, cond_false]
      rw [chk_of (Nat.ble_eq_true_of_le (by show _ + 1 ≤ _; omega)), join_eq]
      refine loop_rule _ (fun k' x s4 => ∃ j : Nat, x = [.str (lineOf more (ws.take i) ++ (32 :: blanksOf (more.take j))), .int .i64 j] ∧ j ≤ more.length ∧ more.length - j ≤ k' ∧ s4 = s3)
        ?_ more.length 9999 _ _ ⟨0, rfl, Nat.zero_le _, by omega, rfl⟩ (by omega)
      rintro k' _ s4 ⟨j, rfl, hj, hk', rfl⟩ rec2 hrec2
      simp only [J_i, J_s, D_nil]
      have hbl : (blanksOf (more.take j)).length = j := by simp [blanksOf]; omega
      by_cases hjl : j < more.length
      · have e : decide ((j : Int) < (more.length : Int)) = true := decide_eq_true (by omega)
        simp only [e, cond_true, chk_of (inB_of hjl), bit_oc more j hjl, join_eq]
        have hsn : ∀ c : UInt8, (if (more[j]).toNat % 2 = 0 then (9 : UInt8) else 32) = c → lineOf more (ws.take i) ++ (32 :: blanksOf (more.take j)) ++ [c] = lineOf more (ws.take i) ++ (32 :: blanksOf (more.take (j + 1))) := by
          rintro c rfl
          have hb : blanksOf (more.take (j + 1)) = blanksOf (more.take j) ++ [if (more[j]).toNat % 2 = 0 then (9 : UInt8) else 32] := by
            rw [List.take_succ_eq_append_getElem hjl]
            unfold blanksOf
            rw [List.map_append]; rfl
          rw [hb, List.append_assoc, List.cons_append]
        have fin : ∀ c : UInt8, (if (more[j]).toNat % 2 = 0 then (9 : UInt8) else 32) = c → Ok (fun o => ∃ s', o = (.val [.bool true], s')) (M.chk (Nat.ble ((lineOf more (ws.take i) ++ (32 :: blanksOf (more.take j))).length + (bs [c]).length) 4611686018427387904) (rec2 [.str ((lineOf more (ws.take i) ++ (32 :: blanksOf (more.take j))) ++ (bs [c])), .int .i64 (wr64 ((j : Int) + 1))]) s4) := by
          intro c hc
          rw [chk_of (Nat.ble_eq_true_of_le (by show _ + 1 ≤ _; simp only [List.length_append, List.length_cons]; omega)), wr64_of (by omega) (by omega)]
          have : (bs [c] : List UInt8) = [c] := rfl
          rw [this, hsn c hc]
          exact hrec2 (more.length - (j + 1)) _ _ (by omega) ⟨j + 1, rfl, by omega, by omega, rfl⟩
        by_cases hev : (more[j]).toNat % 2 = 0
        · simp only [decide_eq_true hev, cond_true, J_s, D_nil]
          exact fin 9 (if_pos hev)
        · simp only [decide_eq_false hev, cond_false, J_s, D_nil]
          exact fin 32 (if_neg hev)
      · have e : decide ((j : Int) < (more.length : Int)) = false := decide_eq_false (by omega)
        have hjm : j = more.length := by omega
        subst hjm
        simp only [e, cond_false]
        rw [ld _ _ hp3']
        simp only [D_str]
        rw [chk_of (Nat.ble_eq_true_of_le (by simp only [List.length_append, List.length_cons]; omega)), wr64_of (by omega) (by omega)]
        have hts : ws.take (i + 1) = ws.take i ++ [ws[i]] := List.take_succ_eq_append_getElem hlt
        refine hrec (ws.length - (i + 1)) _ _ (by omega) ⟨i + 1, ?_, by omega, by omega, hp3', fun w hw' => ?_, fun w hw' => ?_⟩
        · rw [hts, lineOf_snoc, List.take_length]
          simp
        · rw [hts] at hw'
          rcases List.mem_append.1 hw' with h | h
          · exact hw w h
          · rw [List.mem_singleton.1 h]; exact hpl
        · rw [hts] at hw'
          rcases List.mem_append.1 hw' with h | h
          · exact hwl w h
          · rw [List.mem_singleton.1 h]; omega
    · simp only [decide_eq_false hpl, Bool.not_false, cond_true, ret_eq]
      exact .mk ⟨s3, rfl⟩
  · have e : decide ((i : Int) < (ws.length : Int)) = false := decide_eq_false (by omega)
    have hin : i = ws.length := by omega
    subst hin
    rw [List.take_length] at *
    simp only [e, cond_false]
    generalize hL : lineOf more ws = L at *
    have hL0 : wordsOf L = (0, ws) := by
      have h1 := lineOf_wrong more [] ws hw
      have h2 := lineOf_split more ws [] hw (.inl rfl) []
      rw [List.append_nil, hL] at h1 h2
      have h3 : flush ([] : List UInt8) = [] := rfl
      rw [h3, List.nil_append] at h2
      unfold wordsOf
      rw [h1, rns_nil, h2]
      simp only [List.any_nil, Bool.false_eq_true, if_false]
      rw [if_neg (by omega)]
    refine Ok.call (ev_lex_Words h.lex_Words 9999 L (by omega) (by omega) s2) ?_
    rintro _ ⟨z1, a1, s3, rfl, hz1, hp3, hsl1⟩
    refine ⟨_, s3, rfl, ?_⟩
    rw [hL0] at hsl1 ⊢
    simp only [J_l_any 1 z1 a1 _ hz1, J_i, D_nil]
    have b35 : (bs [35] : List UInt8) = [35] := rfl
    have b32 : (bs [32] : List UInt8) = [32] := rfl
    rw [chk_of (Nat.ble_eq_true_of_le (by show _ + 1 ≤ _; omega)), chk_of (Nat.ble_eq_true_of_le (by rw [b35]; simp only [List.length_append, List.length_cons, List.length_nil]; omega)), b35]
    have hR : wordsOf (L ++ [35] ++ remark) = (if (rns remark).any wrongN then (41, []) else (0, ws)) := by
      have h1 := lineOf_wrong more (35 :: remark) ws hw
      have h2 := lineOf_split more ws (35 :: remark) hw (.inr ⟨_, rfl⟩) []
      rw [hL] at h1 h2
      have h3 : flush ([] : List UInt8) = [] := rfl
      rw [h3, List.nil_append] at h2
      have e : L ++ [35] ++ remark = L ++ 35 :: remark := by simp
      rw [e]
      unfold wordsOf
      rw [h1, rns_ascii (by decide), h2, List.any_cons]
      have : wrongN (35 : UInt8).toNat = false := by decide
      rw [this, Bool.false_or, if_neg (show ¬ ws.length > 40 by omega)]
    refine Ok.call (ev_lex_Words h.lex_Words 9999 (L ++ [35] ++ remark) (by simp; omega) (by simp; omega) s3) ?_
    rintro _ ⟨z2, a2, s4, rfl, hz2, hp4, hsl2⟩
    refine ⟨_, s4, rfl, ?_⟩
    simp only [J_l_any 1 z2 a2 _ hz2, J_i, D_nil]
    rw [join_eq]
    have e0 : ((0 : Int) == 0) = true := rfl
    simp only [e0, Bool.not_true, cond_false]
    have hp4' : Pre s s4 := (hp2.trans hp3).trans hp4
    refine Ok.call (ev_ref31_Same h.ref31_Same 9999 ws ws a1 a s4 (hsl1.mono hp4) (hsl.mono hp4') (by omega) (by omega)) ?_
    rintro _ rfl
    refine ⟨_, s4, rfl, ?_⟩
    simp only [J_b, D_nil, decide_true, Bool.not_true, cond_false]
    rw [chk_of (Nat.ble_eq_true_of_le (by show _ + 1 ≤ _; omega)), chk_of (Nat.ble_eq_true_of_le (by rw [b32]; simp only [List.length_append, List.length_cons, List.length_nil]; omega)), b32]
    refine Ok.call (ev_ref31_Words h.ref31_Words 9999 (L ++ [32] ++ remark) (by simp; omega) (by simp; omega) s4) ?_
    rintro _ ⟨z3, a3, s5, rfl, hz3, hp5, hsl3⟩
    refine ⟨_, s5, rfl, ?_⟩
    simp only [J_l_any 1 z3 a3 _ hz3, J_i, D_nil]
    rw [join_eq]
    rw [hR] at hsl2 ⊢
    cases hrw : (rns remark).any wrongN with
    | true =>
      have h41 : (wordsOf (L ++ [32] ++ remark)).1 = 41 := by
        have h1 := lineOf_wrong more (32 :: remark) ws hw
        rw [hL, rns_ascii (by decide), List.any_cons] at h1
        have : wrongN (32 : UInt8).toNat = false := by decide
        rw [this, Bool.false_or, hrw] at h1
        have e : L ++ [32] ++ remark = L ++ 32 :: remark := by simp
        rw [e]
        unfold wordsOf
        rw [h1]; rfl
      rw [h41]
      have e41 : ((41 : Int) == 0) = false := rfl
      have e41' : ((41 : Int) == 41) = true := rfl
      simp only [if_true, e41, e41', cond_false, cond_true, J_b, D_nil, join_eq, ret_eq]
      exact .mk ⟨s5, rfl⟩
    | false =>
      rw [hrw] at hsl2
      simp only [Bool.false_eq_true, if_false] at hsl2 ⊢
      simp only [e0, cond_true]
      refine Ok.call (ev_ref31_Same h.ref31_Same 9999 ws ws a2 a s5 (hsl2.mono hp5) (hsl.mono (hp4'.trans hp5)) (by omega) (by omega)) ?_
      rintro _ rfl
      refine ⟨_, s5, rfl, ?_⟩
      simp only [J_b, D_nil, decide_true, cond_true, join_eq, ret_eq]
      exact .mk ⟨s5, rfl⟩
end Go.Gv.F
