/- Words, joined, are the words again: plain facts. -/
import Derived.Test.YtanmddhmkphilaaDoorGvPLex
import Derived.Lib.Join
namespace Go.Gv.F
open Go.Gv

theorem rns_oct {c : Nat} (hc : c < 128) (s : List UInt8) : (c ∈ rns s) ↔ ∃ j, j < s.length ∧ oc s j = c := by
  by_cases h : s.length = 0
  · rw [rns, dif_pos h]
    exact ⟨fun h => (by cases h), fun ⟨j, hj, _⟩ => (by omega)⟩
  · have ih := rns_oct hc (s.drop (dec s 0).2)
    have hp := dec_pos s 0
    rw [rns_cons (by omega), List.mem_cons, ih]
    rcases dec_cases s 0 (by omega) with ⟨h1, h2, h3⟩ | ⟨h1, h2, h3⟩
    · constructor
      · rintro (e | ⟨j, hj, e⟩)
        · exact ⟨0, by omega, by rw [h3, e]⟩
        · rw [oc_drop] at e
          rw [List.length_drop] at hj
          exact ⟨_, by omega, e⟩
      · rintro ⟨j, hj, e⟩
        by_cases h0 : j = 0
        · subst h0; exact .inl (by rw [← e, h3])
        · exact .inr ⟨j - 1, by rw [List.length_drop]; omega, by rw [oc_drop, h2, show 1 + (j - 1) = j by omega]; exact e⟩
    · constructor
      · rintro (e | ⟨j, hj, e⟩)
        · omega
        · rw [oc_drop] at e
          rw [List.length_drop] at hj
          exact ⟨_, by omega, e⟩
      · rintro ⟨j, hj, e⟩
        by_cases h0 : j < (dec s 0).2
        · have := h3 j h0
          rw [Nat.zero_add] at this
          omega
        · exact .inr ⟨j - (dec s 0).2, by rw [List.length_drop]; omega, by rw [oc_drop, show (dec s 0).2 + (j - (dec s 0).2) = j by omega]; exact e⟩
termination_by s.length
decreasing_by
  have := dec_pos s 0
  simp only [List.length_drop]
  omega

theorem rns_mem {c : UInt8} (hc : c.toNat < 128) (s : List UInt8) : c.toNat ∈ rns s ↔ c ∈ s := by
  rw [rns_oct hc]
  constructor
  · rintro ⟨j, hj, e⟩
    rw [oc_get hj] at e
    rw [← UInt8.toNat_inj.1 e]
    exact List.getElem_mem hj
  · intro h
    obtain ⟨j, hj, e⟩ := List.getElem_of_mem h
    exact ⟨j, hj, by rw [oc_get hj, e]⟩

theorem wsplit_word {w : List UInt8} (h : ∀ c ∈ w, c ≠ 35 ∧ c ≠ 32 ∧ c ≠ 9) : wsplit w [] = flush w := by
  have := wsplit_run w [] [] h
  rw [List.append_nil, List.nil_append] at this
  rw [this]; rfl

theorem plainOf_iff (w : List UInt8) : plainOf w = true ↔ IsWord w := by
  unfold plainOf
  rw [Bool.and_eq_true, Bool.not_eq_true', Bool.not_eq_true', beq_eq_false_iff_ne]
  constructor
  · rintro ⟨h1, h2⟩
    rw [List.any_eq_false] at h1
    have hsep : ∀ c ∈ w, c ≠ 35 ∧ c ≠ 32 ∧ c ≠ 9 := by
      intro c hc
      have key : ∀ d : UInt8, d.toNat < 128 → badN d.toNat = true → c ≠ d := by
        rintro d hd hb rfl
        exact h1 _ ((rns_mem hd w).2 hc) hb
      exact ⟨key 35 (by decide) (by decide), key 32 (by decide) (by decide), key 9 (by decide) (by decide)⟩
    have hwr : (rns w).any wrongN = false := by
      rw [List.any_eq_false]
      intro r hr hw
      exact h1 r hr (by unfold badN; rw [hw]; rfl)
    unfold IsWord wordsOf
    rw [hwr, wsplit_word hsep]
    have : flush w = [w] := by unfold flush; rw [if_neg h2]
    rw [this]; rfl
  · intro h
    refine ⟨?_, h.ne⟩
    rw [List.any_eq_false]
    intro r hr hb
    unfold badN blankN at hb
    rw [Bool.or_eq_true, Bool.or_eq_true, Bool.or_eq_true] at hb
    have key : ∀ d : UInt8, d.toNat < 128 → r = d.toNat → d ∈ w := by
      rintro d hd rfl
      exact (rns_mem hd w).1 hr
    rcases hb with (hb | hb | hb) | hb
    · have := List.any_eq_false.1 h.wrong r hr
      exact this hb
    · exact (h.sep 32 (key 32 (by decide) (eq_of_beq hb))).2.1 rfl
    · exact (h.sep 9 (key 9 (by decide) (eq_of_beq hb))).2.2 rfl
    · exact (h.sep 35 (key 35 (by decide) (eq_of_beq hb))).1 rfl

theorem plainOf_eq (w : List UInt8) : plainOf w = decide (IsWord w) := by
  rw [Bool.eq_iff_iff, plainOf_iff, decide_eq_true_eq]

theorem lineOf_nil : ∀ ws, lineOf [] ws = Lib.joinTail [32] ws
  | [] => rfl
  | w :: ws => by
    have : lineOf [] (w :: ws) = 32 :: (w ++ lineOf [] ws) := rfl
    rw [this, lineOf_nil ws]; rfl

theorem lineOf_join (w : List UInt8) (ws : List (List UInt8)) : lineOf [] (w :: ws) = 32 :: Lib.join (w :: ws) [32] := by
  rw [Lib.join_cons, ← lineOf_nil]; rfl

theorem wordsOf_blank (l : List UInt8) : wordsOf (32 :: l) = wordsOf l := by
  unfold wordsOf
  rw [rns_ascii (by decide), List.any_cons]
  have h1 : wrongN (32 : UInt8).toNat = false := by decide
  have h2 : wsplit (32 :: l) [] = wsplit l [] := wsplit_blanks l [0x21 - 1]
  rw [h1, h2]; rfl

theorem wordsOf_line {ws : List (List UInt8)} (h : ∀ w ∈ ws, IsWord w) (hl : ws.length ≤ 40) : wordsOf (lineOf [] ws) = (0, ws) := by
  have h1 := lineOf_wrong [] [] ws h
  have h2 := lineOf_split [] ws [] h (.inl rfl) []
  rw [List.append_nil] at h1 h2
  have h3 : flush ([] : List UInt8) = [] := rfl
  rw [h3, List.nil_append] at h2
  unfold wordsOf
  rw [h1, rns_nil, h2]
  simp only [List.any_nil, Bool.false_eq_true, if_false]
  rw [if_neg (by omega)]

theorem wordsOf_join {ws : List (List UInt8)} (h : ∀ w ∈ ws, IsWord w) (hl : ws.length ≤ 40) : wordsOf (Lib.join ws [32]) = (0, ws) := by
  cases ws with
  | nil => exact wordsOf_line h hl
  | cons w ws => rw [← wordsOf_blank, ← lineOf_join]; exact wordsOf_line h hl

theorem join_len {ws : List (List UInt8)} (k : Nat) (h : ∀ w ∈ ws, w.length ≤ k) : (Lib.join ws [32]).length ≤ ws.length * (1 + k) := by
  cases ws with
  | nil => exact Nat.zero_le _
  | cons w r =>
    have := lineOf_len [] 0 (Nat.le_refl _) k (w :: r) h
    rw [lineOf_join] at this
    simp only [List.length_cons, Nat.add_zero] at this ⊢
    omega
end Go.Gv.F
