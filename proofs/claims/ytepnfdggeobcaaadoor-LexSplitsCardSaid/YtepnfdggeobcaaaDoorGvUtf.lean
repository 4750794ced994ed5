/- Runes. -/
import Derived.Test.YtepnfdggeobcaaaDoorGvLib
namespace Go.Gv.F

/-- The octet at a place. -/
def oc (s : List UInt8) (i : Nat) : Nat := (s.getD i 0).toNat
theorem oc_lt (s : List UInt8) (i : Nat) : oc s i < 256 := (s.getD i 0).toNat_lt
theorem byteAt_eq (s : List UInt8) (i : Nat) : byteAt s (i : Int) = (oc s i : Int) := by unfold byteAt oc; simp
theorem oc_drop (s : List UInt8) (p i : Nat) : oc (s.drop p) i = oc s (p + i) := by
  unfold oc; simp [List.getD_eq_getElem?_getD, List.getElem?_drop]
theorem oc_out {s : List UInt8} {i : Nat} (h : s.length ≤ i) : oc s i = 0 := by
  unfold oc; rw [List.getD_eq_getElem?_getD, List.getElem?_eq_none h]; rfl

/-- A rune's tests, written with octets. -/
theorem dec_eq (s : List UInt8) (i : Nat) : dec s i =
    if oc s i < 128 then (oc s i, 1)
    else if (194 ≤ oc s i ∧ oc s i ≤ 223) ∧ (128 ≤ oc s (i + 1) ∧ oc s (i + 1) ≤ 191) then ((oc s i - 192) * 64 + (oc s (i + 1) - 128), 2)
    else if (224 ≤ oc s i ∧ oc s i ≤ 239) ∧ ((if oc s i = 224 then 160 else 128) ≤ oc s (i + 1) ∧ oc s (i + 1) ≤ (if oc s i = 237 then 159 else 191)) ∧ (128 ≤ oc s (i + 2) ∧ oc s (i + 2) ≤ 191) then
      ((oc s i - 224) * 4096 + (oc s (i + 1) - 128) * 64 + (oc s (i + 2) - 128), 3)
    else if (240 ≤ oc s i ∧ oc s i ≤ 244) ∧ ((if oc s i = 240 then 144 else 128) ≤ oc s (i + 1) ∧ oc s (i + 1) ≤ (if oc s i = 244 then 143 else 191)) ∧ (128 ≤ oc s (i + 2) ∧ oc s (i + 2) ≤ 191) ∧ (128 ≤ oc s (i + 3) ∧ oc s (i + 3) ≤ 191) then
      ((oc s i - 240) * 262144 + (oc s (i + 1) - 128) * 4096 + (oc s (i + 2) - 128) * 64 + (oc s (i + 3) - 128), 4)
    else (65533, 1) := by
  have cont : ∀ k, (decide (i + k < s.length) && oc s (i + k) / 64 == 2) = decide (128 ≤ oc s (i + k) ∧ oc s (i + k) ≤ 191) := by
    intro k
    rw [Bool.eq_iff_iff]
    simp only [Bool.and_eq_true, decide_eq_true_eq, beq_iff_eq]
    constructor
    · rintro ⟨_, h⟩; omega
    · intro h
      refine ⟨?_, by omega⟩
      rcases Nat.lt_or_ge (i + k) s.length with h' | h'
      · exact h'
      · rw [oc_out h'] at h; omega
  have h0 := oc_lt s i
  have h1 := oc_lt s (i + 1)
  have h2 := oc_lt s (i + 2)
  have h3 := oc_lt s (i + 3)
  have e : dec s i = (if oc s i < 0x80 then (oc s i, 1)
    else if (oc s i / 32 == 6 && (decide (i + 1 < s.length) && oc s (i + 1) / 64 == 2)) = true then
      (if (oc s i % 32) * 64 + oc s (i + 1) % 64 ≥ 0x80 then ((oc s i % 32) * 64 + oc s (i + 1) % 64, 2) else (Utf8.runeError, 1))
    else if (oc s i / 16 == 14 && (decide (i + 1 < s.length) && oc s (i + 1) / 64 == 2) && (decide (i + 2 < s.length) && oc s (i + 2) / 64 == 2)) = true then
      (if ((oc s i % 16) * 4096 + (oc s (i + 1) % 64) * 64 + oc s (i + 2) % 64 ≥ 0x800 && Utf8.valid (((oc s i % 16) * 4096 + (oc s (i + 1) % 64) * 64 + oc s (i + 2) % 64 : Nat) : Int)) = true then ((oc s i % 16) * 4096 + (oc s (i + 1) % 64) * 64 + oc s (i + 2) % 64, 3) else (Utf8.runeError, 1))
    else if (oc s i / 8 == 30 && (decide (i + 1 < s.length) && oc s (i + 1) / 64 == 2) && (decide (i + 2 < s.length) && oc s (i + 2) / 64 == 2) && (decide (i + 3 < s.length) && oc s (i + 3) / 64 == 2)) = true then
      (if ((oc s i % 8) * 262144 + (oc s (i + 1) % 64) * 4096 + (oc s (i + 2) % 64) * 64 + oc s (i + 3) % 64 ≥ 0x10000 && Utf8.valid (((oc s i % 8) * 262144 + (oc s (i + 1) % 64) * 4096 + (oc s (i + 2) % 64) * 64 + oc s (i + 3) % 64 : Nat) : Int)) = true then
        ((oc s i % 8) * 262144 + (oc s (i + 1) % 64) * 4096 + (oc s (i + 2) % 64) * 64 + oc s (i + 3) % 64, 4) else (Utf8.runeError, 1))
    else (Utf8.runeError, 1)) := rfl
  rw [e, cont 1, cont 2, cont 3]
  generalize oc s i = a at *
  generalize oc s (i + 1) = b at *
  generalize oc s (i + 2) = c at *
  generalize oc s (i + 3) = d at *
  have e1 : (a / 32 == 6) = decide (192 ≤ a ∧ a ≤ 223) := by rw [Bool.eq_iff_iff]; simp only [beq_iff_eq, decide_eq_true_eq]; omega
  have e2 : (a / 16 == 14) = decide (224 ≤ a ∧ a ≤ 239) := by rw [Bool.eq_iff_iff]; simp only [beq_iff_eq, decide_eq_true_eq]; omega
  have e3 : (a / 8 == 30) = decide (240 ≤ a ∧ a ≤ 247) := by rw [Bool.eq_iff_iff]; simp only [beq_iff_eq, decide_eq_true_eq]; omega
  rw [e1, e2, e3]
  have v : ∀ n : Nat, Utf8.valid (n : Int) = decide (n < 55296 ∨ (57344 ≤ n ∧ n ≤ 1114111)) := by
    intro n
    unfold Utf8.valid
    rw [Bool.eq_iff_iff]
    simp only [Bool.or_eq_true, Bool.and_eq_true, decide_eq_true_eq]
    omega
  rw [v, v]
  simp only [Utf8.runeError, Bool.and_eq_true, decide_eq_true_eq, ge_iff_le]
  by_cases c0 : a < 128
  · rw [if_pos c0, if_pos c0]
  rw [if_neg c0, if_neg c0]
  by_cases r1 : 192 ≤ a ∧ a ≤ 223
  · have n1 : ¬ (224 ≤ a ∧ a ≤ 239) := by omega
    have n2 : ¬ (240 ≤ a ∧ a ≤ 244) := by omega
    have n3 : ¬ (240 ≤ a ∧ a ≤ 247) := by omega
    simp only [r1, n1, n2, n3, false_and, if_false, true_and, and_true]
    by_cases cb : 128 ≤ b ∧ b ≤ 191
    · simp only [cb, and_true, if_true, and_self]
      by_cases c2 : 194 ≤ a
      · rw [if_pos (by omega), if_pos (by omega), Prod.mk.injEq]
        exact ⟨by omega, rfl⟩
      · rw [if_neg (by omega), if_neg (by omega)]
    · rw [if_neg cb, if_neg (by rintro ⟨_, h⟩; exact cb h)]
  · by_cases r2 : 224 ≤ a ∧ a ≤ 239
    · have n1 : ¬ (194 ≤ a ∧ a ≤ 223) := by omega
      have n2 : ¬ (240 ≤ a ∧ a ≤ 244) := by omega
      have n3 : ¬ (240 ≤ a ∧ a ≤ 247) := by omega
      simp only [r1, r2, n1, n2, n3, false_and, if_false, true_and]
      by_cases k : (128 ≤ b ∧ b ≤ 191) ∧ 128 ≤ c ∧ c ≤ 191
      · rw [if_pos k]
        by_cases k2 : ((if a = 224 then 160 else 128) ≤ b ∧ b ≤ if a = 237 then 159 else 191) ∧ 128 ≤ c ∧ c ≤ 191
        · rw [if_pos k2]
          split at k2 <;> split at k2 <;> (rw [if_pos (by omega), Prod.mk.injEq]; exact ⟨by omega, rfl⟩)
        · rw [if_neg k2]
          split at k2 <;> split at k2 <;> (first | omega | rw [if_neg (by omega)])
      · rw [if_neg k, if_neg]
        intro k2
        split at k2 <;> split at k2 <;> omega
    · have n1 : ¬ (194 ≤ a ∧ a ≤ 223) := by omega
      simp only [r1, r2, n1, false_and, if_false]
      by_cases k : (240 ≤ a ∧ a ≤ 247) ∧ (128 ≤ b ∧ b ≤ 191) ∧ (128 ≤ c ∧ c ≤ 191) ∧ 128 ≤ d ∧ d ≤ 191
      · rw [if_pos (by omega)]
        by_cases k2 : (240 ≤ a ∧ a ≤ 244) ∧ ((if a = 240 then 144 else 128) ≤ b ∧ b ≤ if a = 244 then 143 else 191) ∧ (128 ≤ c ∧ c ≤ 191) ∧ 128 ≤ d ∧ d ≤ 191
        · rw [if_pos k2]
          split at k2 <;> split at k2 <;> (rw [if_pos (by omega), Prod.mk.injEq]; exact ⟨by omega, rfl⟩)
        · rw [if_neg k2]
          split at k2 <;> split at k2 <;> (first | omega | rw [if_neg (by omega)])
      · rw [if_neg (by omega), if_neg]
        intro k2
        split at k2 <;> split at k2 <;> omega

theorem dec_pos (s : List UInt8) (i : Nat) : 1 ≤ (dec s i).2 ∧ (dec s i).2 ≤ 4 := by
  rw [dec_eq]
  repeat' split
  all_goals (simp; done)

/-- A rune: an octet below 128, or octets that aren't. -/
theorem dec_cases (s : List UInt8) (i : Nat) (hi : i < s.length) : ((dec s i).1 < 128 ∧ (dec s i).2 = 1 ∧ oc s i = (dec s i).1) ∨
    (128 ≤ (dec s i).1 ∧ i + (dec s i).2 ≤ s.length ∧ ∀ k, k < (dec s i).2 → 128 ≤ oc s (i + k)) := by
  have out : ∀ k, 0 < oc s k → k < s.length := fun k h => by
    rcases Nat.lt_or_ge k s.length with h' | h'
    · exact h'
    · rw [oc_out h'] at h; omega
  rw [dec_eq]
  by_cases c0 : oc s i < 128
  · rw [if_pos c0]; exact .inl ⟨c0, rfl, rfl⟩
  rw [if_neg c0]
  refine .inr ?_
  by_cases c2 : (194 ≤ oc s i ∧ oc s i ≤ 223) ∧ (128 ≤ oc s (i + 1) ∧ oc s (i + 1) ≤ 191)
  · rw [if_pos c2]
    refine ⟨by simp only; omega, by have := out (i + 1) (by omega); simp only; omega, fun k hk => ?_⟩
    simp only at hk
    rcases (show k = 0 ∨ k = 1 by omega) with rfl | rfl
    · rw [Nat.add_zero]; omega
    · omega
  rw [if_neg c2]
  by_cases c3 : (224 ≤ oc s i ∧ oc s i ≤ 239) ∧ ((if oc s i = 224 then 160 else 128) ≤ oc s (i + 1) ∧ oc s (i + 1) ≤ (if oc s i = 237 then 159 else 191)) ∧ (128 ≤ oc s (i + 2) ∧ oc s (i + 2) ≤ 191)
  · rw [if_pos c3]
    have h1 : 128 ≤ oc s (i + 1) := by have := c3.2.1.1; split at this <;> omega
    refine ⟨?_, by have := out (i + 2) (by omega); simp only; omega, fun k hk => ?_⟩
    · simp only
      by_cases e : oc s i = 224
      · have := c3.2.1.1; rw [if_pos e] at this; omega
      · omega
    · simp only at hk
      rcases (show k = 0 ∨ k = 1 ∨ k = 2 by omega) with rfl | rfl | rfl
      · rw [Nat.add_zero]; omega
      · exact h1
      · omega
  rw [if_neg c3]
  by_cases c4 : (240 ≤ oc s i ∧ oc s i ≤ 244) ∧ ((if oc s i = 240 then 144 else 128) ≤ oc s (i + 1) ∧ oc s (i + 1) ≤ (if oc s i = 244 then 143 else 191)) ∧ (128 ≤ oc s (i + 2) ∧ oc s (i + 2) ≤ 191) ∧ (128 ≤ oc s (i + 3) ∧ oc s (i + 3) ≤ 191)
  · rw [if_pos c4]
    have h1 : 128 ≤ oc s (i + 1) := by have := c4.2.1.1; split at this <;> omega
    refine ⟨?_, by have := out (i + 3) (by omega); simp only; omega, fun k hk => ?_⟩
    · simp only
      by_cases e : oc s i = 240
      · have := c4.2.1.1; rw [if_pos e] at this; omega
      · omega
    · simp only at hk
      rcases (show k = 0 ∨ k = 1 ∨ k = 2 ∨ k = 3 by omega) with rfl | rfl | rfl | rfl
      · rw [Nat.add_zero]; omega
      · exact h1
      · omega
      · omega
  rw [if_neg c4]
  refine ⟨by simp only; omega, by simp only; omega, fun k hk => ?_⟩
  simp only at hk
  rw [show k = 0 by omega, Nat.add_zero]; omega

theorem dec_le (s : List UInt8) (i : Nat) (hi : i < s.length) : i + (dec s i).2 ≤ s.length := by
  rcases dec_cases s i hi with ⟨_, h, _⟩ | ⟨_, h, _⟩ <;> omega

theorem dec_drop (s : List UInt8) (p i : Nat) : dec (s.drop p) i = dec s (p + i) := by
  rw [dec_eq, dec_eq]
  simp only [oc_drop, Nat.add_assoc]

/-- A text's runes. -/
def rns (s : List UInt8) : List Nat := if _h : s.length = 0 then [] else (dec s 0).1 :: rns (s.drop (dec s 0).2)
termination_by s.length
decreasing_by
  have := dec_pos s 0
  simp only [List.length_drop]
  omega
theorem rns_nil : rns [] = [] := by rw [rns]; rfl
theorem rns_cons {s : List UInt8} (h : 0 < s.length) : rns s = (dec s 0).1 :: rns (s.drop (dec s 0).2) := by rw [rns, dif_neg (by omega)]
theorem rns_len (s : List UInt8) : (rns s).length ≤ s.length := by
  by_cases h : s.length = 0
  · rw [rns, dif_pos h]; exact Nat.zero_le _
  · have := dec_pos s 0
    have ih := rns_len (s.drop (dec s 0).2)
    rw [rns_cons (by omega)]
    simp only [List.length_cons, List.length_drop] at ih ⊢
    omega
termination_by s.length
decreasing_by
  have := dec_pos s 0
  simp only [List.length_drop]
  omega

/-- The same, by a number of rounds: to be run. -/
def rnsF : Nat → List UInt8 → List Nat
  | 0, _ => []
  | n + 1, s => if s.length = 0 then [] else (dec s 0).1 :: rnsF n (s.drop (dec s 0).2)
theorem rns_F : ∀ (n : Nat) (s : List UInt8), s.length ≤ n → rns s = rnsF n s
  | 0, s, h => by rw [rns, dif_pos (by omega)]; rfl
  | n + 1, s, h => by
    rw [rnsF]
    by_cases h0 : s.length = 0
    · rw [rns, dif_pos h0, if_pos h0]
    · have := dec_pos s 0
      rw [rns, dif_neg h0, if_neg h0, rns_F n _ (by simp only [List.length_drop]; omega)]

theorem oc_app {w s : List UInt8} {i : Nat} (h : i < w.length) : oc (w ++ s) i = oc w i := by
  unfold oc; simp [List.getD_eq_getElem?_getD, List.getElem?_append_left h]

/-- A rune that is none in error is one whatever follows. -/
theorem dec_app {w s : List UInt8} (hw : 0 < w.length) (h : (dec w 0).1 ≠ 65533) : dec (w ++ s) 0 = dec w 0 := by
  have pos : ∀ k, 0 < oc w k → oc (w ++ s) k = oc w k := fun k hk => oc_app (by
    rcases Nat.lt_or_ge k w.length with h' | h'
    · exact h'
    · rw [oc_out h'] at hk; omega)
  have h0 := oc_app (s := s) hw
  rw [dec_eq] at h
  rw [dec_eq (w ++ s), dec_eq w]
  simp only [Nat.zero_add] at *
  rw [h0]
  by_cases c0 : oc w 0 < 128
  · rw [if_pos c0, if_pos c0]
  rw [if_neg c0] at h
  rw [if_neg c0, if_neg c0]
  by_cases c2 : (194 ≤ oc w 0 ∧ oc w 0 ≤ 223) ∧ (128 ≤ oc w 1 ∧ oc w 1 ≤ 191)
  · rw [pos 1 (by omega), if_pos c2, if_pos c2]
  rw [if_neg c2] at h
  by_cases c3 : (224 ≤ oc w 0 ∧ oc w 0 ≤ 239) ∧ ((if oc w 0 = 224 then 160 else 128) ≤ oc w 1 ∧ oc w 1 ≤ (if oc w 0 = 237 then 159 else 191)) ∧ (128 ≤ oc w 2 ∧ oc w 2 ≤ 191)
  · have h1 : 128 ≤ oc w 1 := by have := c3.2.1.1; split at this <;> omega
    rw [pos 1 (by omega), pos 2 (by omega), if_neg c2, if_neg c2, if_pos c3, if_pos c3]
  rw [if_neg c3] at h
  by_cases c4 : (240 ≤ oc w 0 ∧ oc w 0 ≤ 244) ∧ ((if oc w 0 = 240 then 144 else 128) ≤ oc w 1 ∧ oc w 1 ≤ (if oc w 0 = 244 then 143 else 191)) ∧ (128 ≤ oc w 2 ∧ oc w 2 ≤ 191) ∧ (128 ≤ oc w 3 ∧ oc w 3 ≤ 191)
  · have h1 : 128 ≤ oc w 1 := by have := c4.2.1.1; split at this <;> omega
    rw [pos 1 (by omega), pos 2 (by omega), pos 3 (by omega)]
  rw [if_neg c4] at h
  exact absurd rfl h

theorem rns_app {w : List UInt8} (s : List UInt8) (h : ∀ r ∈ rns w, r ≠ 65533) : rns (w ++ s) = rns w ++ rns s := by
  by_cases h0 : w.length = 0
  · have : w = [] := List.eq_nil_of_length_eq_zero h0
    subst this
    rw [rns_nil]; rfl
  · have hw : 0 < w.length := by omega
    have hc := rns_cons hw
    have hd := dec_pos w 0
    have hle := dec_le w 0 hw
    have he := dec_app (s := s) hw (h _ (by rw [hc]; simp))
    rw [rns_cons (by simp; omega), he, List.drop_append_of_le_length (by omega), rns_app s (fun r hr => h r (by rw [hc]; simp [hr])), hc]
    rfl
termination_by w.length
decreasing_by
  have := dec_pos w 0
  simp only [List.length_drop]
  omega

theorem rns_ascii {c : UInt8} {s : List UInt8} (h : c.toNat < 128) : rns (c :: s) = c.toNat :: rns s := by
  have e : dec (c :: s) 0 = (c.toNat, 1) := by
    rw [dec_eq]
    have : oc (c :: s) 0 = c.toNat := rfl
    rw [this, if_pos h]
  rw [rns_cons (by simp), e]
  rfl
end Go.Gv.F
