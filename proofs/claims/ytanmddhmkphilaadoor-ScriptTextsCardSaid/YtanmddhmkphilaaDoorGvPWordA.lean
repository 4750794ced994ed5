/- Words of a line are words; a line of words is just a joined one. Plain facts. -/
import Derived.Test.YtanmddhmkphilaaDoorGvPJoinA
namespace Go.Gv.F
open Go.Gv

/-! ### Runes ahead of an octet below 128 -/
def dec4 (a b c d : Nat) : Nat × Nat :=
    if a < 128 then (a, 1)
    else if (194 ≤ a ∧ a ≤ 223) ∧ (128 ≤ b ∧ b ≤ 191) then ((a - 192) * 64 + (b - 128), 2)
    else if (224 ≤ a ∧ a ≤ 239) ∧ ((if a = 224 then 160 else 128) ≤ b ∧ b ≤ (if a = 237 then 159 else 191)) ∧ (128 ≤ c ∧ c ≤ 191) then
      ((a - 224) * 4096 + (b - 128) * 64 + (c - 128), 3)
    else if (240 ≤ a ∧ a ≤ 244) ∧ ((if a = 240 then 144 else 128) ≤ b ∧ b ≤ (if a = 244 then 143 else 191)) ∧ (128 ≤ c ∧ c ≤ 191) ∧ (128 ≤ d ∧ d ≤ 191) then
      ((a - 240) * 262144 + (b - 128) * 4096 + (c - 128) * 64 + (d - 128), 4)
    else (65533, 1)
theorem dec_dec4 (s : List UInt8) : dec s 0 = dec4 (oc s 0) (oc s 1) (oc s 2) (oc s 3) := by
  rw [dec_eq]
  simp only [Nat.zero_add]
  rfl
theorem dec4_b {a b c d b' c' d' : Nat} (h : b < 128) (h' : b' < 128) : dec4 a b c d = dec4 a b' c' d' := by
  have n2 : ∀ x, x < 128 → ¬ ((194 ≤ a ∧ a ≤ 223) ∧ (128 ≤ x ∧ x ≤ 191)) := fun x hx => by omega
  have n3 : ∀ x z, x < 128 → ¬ ((224 ≤ a ∧ a ≤ 239) ∧ ((if a = 224 then 160 else 128) ≤ x ∧ x ≤ (if a = 237 then 159 else 191)) ∧ (128 ≤ z ∧ z ≤ 191)) := by
    rintro x z hx ⟨_, ⟨h, _⟩, _⟩
    split at h <;> omega
  have n4 : ∀ x z t, x < 128 → ¬ ((240 ≤ a ∧ a ≤ 244) ∧ ((if a = 240 then 144 else 128) ≤ x ∧ x ≤ (if a = 244 then 143 else 191)) ∧ (128 ≤ z ∧ z ≤ 191) ∧ (128 ≤ t ∧ t ≤ 191)) := by
    rintro x z t hx ⟨_, ⟨h, _⟩, _⟩
    split at h <;> omega
  unfold dec4
  rw [if_neg (n2 b h), if_neg (n3 b c h), if_neg (n4 b c d h), if_neg (n2 b' h'), if_neg (n3 b' c' h'), if_neg (n4 b' c' d' h')]
theorem dec4_c {a b c d c' d' : Nat} (h : c < 128) (h' : c' < 128) : dec4 a b c d = dec4 a b c' d' := by
  have n3 : ∀ z, z < 128 → ¬ ((224 ≤ a ∧ a ≤ 239) ∧ ((if a = 224 then 160 else 128) ≤ b ∧ b ≤ (if a = 237 then 159 else 191)) ∧ (128 ≤ z ∧ z ≤ 191)) := by
    rintro z hz ⟨_, _, h⟩
    omega
  have n4 : ∀ z t, z < 128 → ¬ ((240 ≤ a ∧ a ≤ 244) ∧ ((if a = 240 then 144 else 128) ≤ b ∧ b ≤ (if a = 244 then 143 else 191)) ∧ (128 ≤ z ∧ z ≤ 191) ∧ (128 ≤ t ∧ t ≤ 191)) := by
    rintro z t hz ⟨_, _, h, _⟩
    omega
  unfold dec4
  rw [if_neg (n3 c h), if_neg (n4 c d h), if_neg (n3 c' h'), if_neg (n4 c' d' h')]
theorem dec4_d {a b c d d' : Nat} (h : d < 128) (h' : d' < 128) : dec4 a b c d = dec4 a b c d' := by
  have n4 : ∀ t, t < 128 → ¬ ((240 ≤ a ∧ a ≤ 244) ∧ ((if a = 240 then 144 else 128) ≤ b ∧ b ≤ (if a = 244 then 143 else 191)) ∧ (128 ≤ c ∧ c ≤ 191) ∧ (128 ≤ t ∧ t ≤ 191)) := by
    rintro t ht ⟨_, _, _, h⟩
    omega
  unfold dec4
  rw [if_neg (n4 d h), if_neg (n4 d' h')]

theorem dec_asc {w : List UInt8} {c : UInt8} (y : List UInt8) (hw : 0 < w.length) (hc : c.toNat < 128) : dec (w ++ c :: y) 0 = dec w 0 := by
  have inn : ∀ k, k < w.length → oc (w ++ c :: y) k = oc w k := fun k hk => oc_app hk
  have at' : oc (w ++ c :: y) w.length < 128 := by
    unfold oc
    simp [List.getD_eq_getElem?_getD, hc]
  rw [dec_dec4, dec_dec4]
  have z : ∀ k, w.length ≤ k → oc w k < 128 := fun k hk => by rw [oc_out hk]; omega
  rw [inn 0 hw]
  by_cases h1 : w.length = 1
  · rw [h1] at at'
    exact dec4_b at' (z 1 (by omega))
  · rw [inn 1 (by omega)]
    by_cases h2 : w.length = 2
    · rw [h2] at at'
      exact dec4_c at' (z 2 (by omega))
    · rw [inn 2 (by omega)]
      by_cases h3 : w.length = 3
      · rw [h3] at at'
        exact dec4_d at' (z 3 (by omega))
      · rw [inn 3 (by omega)]

theorem rns_asc (w : List UInt8) {c : UInt8} (y : List UInt8) (hc : c.toNat < 128) : rns (w ++ c :: y) = rns w ++ c.toNat :: rns y := by
  by_cases h0 : w.length = 0
  · have : w = [] := List.eq_nil_of_length_eq_zero h0
    subst this
    rw [rns_nil]; exact rns_ascii hc
  · have hw : 0 < w.length := by omega
    have hd := dec_pos w 0
    have hle := dec_le w 0 hw
    rw [rns_cons (by simp; omega), dec_asc y hw hc, List.drop_append_of_le_length (by omega), rns_asc (w.drop (dec w 0).2) y hc, rns_cons hw]
    rfl
termination_by w.length
decreasing_by
  have := dec_pos w 0
  simp only [List.length_drop]
  omega

/-! ### Words of a line -/
theorem flush_mem {acc w : List UInt8} (h : w ∈ flush acc) : w = acc ∧ acc ≠ [] := by
  unfold flush at h
  split at h
  · cases h
  · rename_i hne
    exact ⟨List.mem_singleton.1 h, hne⟩

theorem wsplit_words : ∀ (l acc : List UInt8), (∀ c ∈ acc, c ≠ 35 ∧ c ≠ 32 ∧ c ≠ 9) → (rns (acc ++ l)).any wrongN = false → ∀ w ∈ wsplit l acc, IsWord w
  | [], acc, ha, hr, w, hw => by
    obtain ⟨rfl, hne⟩ := flush_mem hw
    rw [List.append_nil] at hr
    unfold IsWord wordsOf
    rw [hr, wsplit_word ha]
    have : flush w = [w] := by unfold flush; rw [if_neg hne]
    rw [this]; rfl
  | c :: r, acc, ha, hr, w, hw => by
    have fl : ∀ (hc : c.toNat < 128), w ∈ flush acc → IsWord w := by
      intro hc h
      obtain ⟨rfl, hne⟩ := flush_mem h
      rw [rns_asc w r hc, List.any_append, Bool.or_eq_false_iff] at hr
      unfold IsWord wordsOf
      rw [hr.1, wsplit_word ha]
      have : flush w = [w] := by unfold flush; rw [if_neg hne]
      rw [this]; rfl
    rw [wsplit] at hw
    by_cases h35 : c = 35
    · rw [if_pos h35] at hw
      exact fl (by rw [h35]; decide) hw
    · rw [if_neg h35] at hw
      by_cases hb : c = 32 ∨ c = 9
      · rw [if_pos hb] at hw
        have hc : c.toNat < 128 := by rcases hb with h | h <;> rw [h] <;> decide
        rcases List.mem_append.1 hw with h | h
        · exact fl hc h
        · rw [rns_asc acc r hc, List.any_append, List.any_cons, Bool.or_eq_false_iff, Bool.or_eq_false_iff] at hr
          exact wsplit_words r [] (fun c h => by cases h) hr.2.2 w h
      · rw [if_neg hb] at hw
        refine wsplit_words r (acc ++ [c]) (fun d hd => ?_) (by rw [List.append_assoc]; exact hr) w hw
        rcases List.mem_append.1 hd with h | h
        · exact ha d h
        · rw [List.mem_singleton.1 h]
          exact ⟨h35, fun e => hb (.inl e), fun e => hb (.inr e)⟩

theorem wordsOf_zero {l : List UInt8} {W : List (List UInt8)} (h : wordsOf l = (0, W)) : W.length ≤ 40 ∧ (∀ w ∈ W, IsWord w) ∧ (rns l).any wrongN = false ∧ W = wsplit l [] := by
  unfold wordsOf at h
  split at h
  · cases h
  · rename_i hr
    have hr : (rns l).any wrongN = false := by simpa using hr
    split at h
    · cases h
    · rename_i h40
      cases h
      exact ⟨by omega, wsplit_words l [] (fun c h => by cases h) hr, hr, rfl⟩

theorem line_iff (W : List (List UInt8)) : wordsOf (Lib.join W [32]) = (0, W) ↔ W.length ≤ 40 ∧ ∀ w ∈ W, IsWord w :=
  ⟨fun h => ⟨(wordsOf_zero h).1, (wordsOf_zero h).2.1⟩, fun h => wordsOf_join h.2 h.1⟩

theorem words_len (l : List UInt8) : ∀ w ∈ (wordsOf l).2, w.length ≤ l.length := by
  intro w hw
  have hs : w ∈ wsplit l [] := by
    unfold wordsOf at hw
    split at hw
    · cases hw
    · split at hw
      · cases hw
      · exact hw
  have h1 := (wsplit_len l []).1
  have h2 : w.length ≤ (wsplit l []).flatten.length := by
    obtain ⟨a, b, e⟩ := List.append_of_mem hs
    rw [e]
    simp
    omega
  simp at h1 h2
  omega
end Go.Gv.F
