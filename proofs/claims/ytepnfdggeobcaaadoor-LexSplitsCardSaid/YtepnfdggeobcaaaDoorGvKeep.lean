/- What is frozen stays: slices whose blocks nobody writes any more. -/
import Derived.Test.YtepnfdggeobcaaaDoorGvLib
namespace Go.Gv.F
open Go.Gv
variable {β : Type}

/-- All that is frozen is as it was. -/
def Kp (s s' : St) : Prop := ∀ (i : Nat) (all : List DV), s[i]? = some (some ⟨true, all⟩) → s'[i]? = some (some ⟨true, all⟩)
theorem Kp.refl (s : St) : Kp s s := fun _ _ h => h
theorem Kp.trans {a b c : St} (h : Kp a b) (k : Kp b c) : Kp a c := fun i all e => k i all (h i all e)
theorem Pre.kp {s s' : St} (h : Pre s s') : Kp s s' := fun _ _ e => h.get e
theorem Kp.set {s : St} {i : Nat} {cs : List DV} (h : s[i]? = some (some ⟨false, cs⟩)) (b : Option Blk) : Kp s (s.set i b) := by
  intro j all e
  have : i ≠ j := by rintro rfl; rw [h] at e; cases e
  rw [List.getElem?_set_ne this]; exact e
theorem frz_kp (k : Nat) (s : St) : Kp s (frzFrom k s) := by
  intro i all h
  unfold frzFrom
  have hi : i < s.length := (List.getElem?_eq_some_iff.1 h).1
  by_cases hk : i < k
  · rw [List.getElem?_append_left (by simp; omega), List.getElem?_take, if_pos hk]; exact h
  · rw [List.getElem?_append_right (by simp; omega), List.getElem?_map, List.getElem?_drop, List.length_take, Nat.min_eq_left (by omega), show k + (i - k) = i by omega, h]
    rfl

/-- The slice's block is frozen. -/
def Fr (s : St) (a : Option (Nat × Nat)) : Prop := ∀ i o, a = some (i, o) → ∃ all, s[i]? = some (some ⟨true, all⟩)
theorem Fr.none (s : St) : Fr s none := fun _ _ h => by cases h
/-- A slice that stays as it is. -/
def Fz (s : St) (a : Option (Nat × Nat)) (cs : List DV) : Prop := Sl s a cs ∧ Fr s a
theorem Fz.nil (s : St) : Fz s none [] := ⟨Sl.nil s, Fr.none s⟩
theorem Fz.kp {s s' : St} {a : Option (Nat × Nat)} {cs : List DV} (h : Fz s a cs) (k : Kp s s') : Fz s' a cs := by
  obtain ⟨h, f⟩ := h
  cases a with
  | none => exact ⟨h, Fr.none _⟩
  | some p =>
    obtain ⟨i, o⟩ := p
    obtain ⟨all, e⟩ := f i o rfl
    obtain ⟨f', all', h1, h2⟩ := h
    rw [e] at h1
    cases h1
    exact ⟨⟨true, all, k i all e, h2⟩, fun i' o' e' => by cases e'; exact ⟨all, k i all e⟩⟩
theorem Fz.pre {s s' : St} {a : Option (Nat × Nat)} {cs : List DV} (h : Fz s a cs) (k : Pre s s') : Fz s' a cs := h.kp k.kp
theorem Own.fr {s0 s : St} {a : Option (Nat × Nat)} {cs : List DV} (h : Own s0 s a cs) : Fr (frzFrom s0.length s) a := by
  rcases h.2 with ⟨rfl, _⟩ | ⟨i, rfl, hi, hs⟩
  · exact Fr.none _
  · intro i' o' e
    cases e
    refine ⟨cs, ?_⟩
    have hl : i < s.length := (List.getElem?_eq_some_iff.1 hs).1
    unfold frzFrom
    rw [List.getElem?_append_right (by simp; omega), List.getElem?_map, List.getElem?_drop, List.length_take, Nat.min_eq_left (by omega), show s0.length + (i - s0.length) = i by omega, hs]
    rfl
theorem Own.fz {s0 s : St} {a : Option (Nat × Nat)} {cs : List DV} (h : Own s0 s a cs) : Fz (frzFrom s0.length s) a cs := ⟨h.sl.frz _, h.fr⟩
/-- An argument's slice, all old blocks being frozen. -/
theorem Sl.fz {s : St} {a : Option (Nat × Nat)} {cs : List DV} (h : Sl s a cs) (hf : ∀ (i : Nat) (b : Option Blk), s[i]? = some b → ∃ cs, b = some ⟨true, cs⟩) : Fz s a cs := by
  refine ⟨h, ?_⟩
  intro i o e
  subst e
  obtain ⟨f, all, h1, _⟩ := h
  obtain ⟨cs', h2⟩ := hf _ _ h1
  cases h2
  exact ⟨_, h1⟩

/-- append, to a slice of the function's own: what is frozen stays. -/
theorem Own.app2 {s0 s : St} {a : Option (Nat × Nat)} {cs : List DV} (h : Own s0 s a cs) {sz n m lim : Nat} {ds : List DV} (hz : 0 < sz) (hn : cs.length = n * sz) (hm : 0 < m) (hl : n + m ≤ lim) :
    ∃ p s', Own s0 s' p (cs ++ ds) ∧ Kp s s' ∧ ∀ K : Option (Nat × Nat) → M β, M.app sz a n ds m lim K s = K p s' := by
  have hb : Nat.beq m 0 = false := by cases m with | zero => cases hm | succ m => rfl
  rcases h.2 with ⟨rfl, rfl⟩ | ⟨i, rfl, hi, hs⟩
  · have h0 : n = 0 := by
      rcases Nat.mul_eq_zero.1 (show n * sz = 0 by simpa using hn.symm) with h | h
      · exact h
      · omega
    subst h0
    refine ⟨some (s.length, 0), s ++ [some ⟨false, ds⟩], ⟨h.1.trans (.new _ _), .inr ⟨s.length, rfl, h.1.len, by simp⟩⟩, (Pre.new _ _).kp, fun K => ?_⟩
    unfold M.app
    simp only [hb, Nat.ble_eq_true_of_le hl, cond_true, cond_false]
    rfl
  · have hop : s.open? i = some cs := by unfold St.open?; rw [hs]
    refine ⟨some (s.length, 0), s.set i none ++ [some ⟨false, cs ++ ds⟩], ⟨(set_pre h.1 hi none).trans (.new _ _), .inr ⟨s.length, rfl, h.1.len, by simp⟩⟩, (Kp.set hs none).trans (Pre.new _ _).kp, fun K => ?_⟩
    unfold M.app
    simp only [hb, Nat.ble_eq_true_of_le hl, cond_true, cond_false, hop]
    rw [Nat.zero_add, Nat.ble_eq_true_of_le (by omega)]
    simp only [cond_true, List.drop_zero]
    rw [List.take_of_length_le (by omega)]

theorem Own.push2 {s0 s : St} {a : Option (Nat × Nat)} {cs : List DV} (h : Own s0 s a cs) {sz n lim : Nat} (ds : List DV) (hz : 0 < sz) (hn : cs.length = n * sz) (hd : ds.length = sz) (hl : n + 1 ≤ lim) :
    ∃ p s', Own s0 s' p (cs ++ ds) ∧ Kp s s' ∧ ∀ K : Option (Nat × Nat) → M β, (M.new ds fun i => M.load i 0 sz fun cs' => M.app sz a n cs' 1 lim K) s = K p s' := by
  obtain ⟨p, s', h1, h3, h2⟩ := (h.mono (.new s (some ⟨false, ds⟩))).app2 (β := β) (ds := ds) hz hn (Nat.succ_pos 0) hl
  refine ⟨p, s', h1, (Pre.new _ _).kp.trans h3, fun K => ?_⟩
  rw [new_eq, load_eq (f := false) (all := ds) (by simp) (by omega), List.drop_zero, List.take_of_length_le (by omega)]
  exact h2 K

/-- Lists of lists: a slice of slices. -/
def Rows (s : St) (ds : List DV) (xs : List (List DV)) : Prop := ds.length = xs.length ∧ ∀ (j : Nat) (cs : List DV), xs[j]? = some cs → ∃ a, ds[j]? = some (.slice 1 a cs.length) ∧ Fz s a cs
theorem Rows.nil (s : St) : Rows s [] [] := ⟨rfl, fun _ _ h => by simp at h⟩
theorem Rows.kp {s s' : St} {ds : List DV} {xs : List (List DV)} (h : Rows s ds xs) (k : Kp s s') : Rows s' ds xs :=
  ⟨h.1, fun j cs e => let ⟨a, h1, h2⟩ := h.2 j cs e; ⟨a, h1, h2.kp k⟩⟩
theorem Rows.push {s : St} {ds : List DV} {xs : List (List DV)} (h : Rows s ds xs) {a : Option (Nat × Nat)} {cs : List DV} {n : Nat} (hn : n = cs.length) (hf : Fz s a cs) : Rows s (ds ++ [.slice 1 a n]) (xs ++ [cs]) := by
  subst hn
  refine ⟨by simp [h.1], fun j cs' e => ?_⟩
  rcases Nat.lt_trichotomy j xs.length with hj | hj | hj
  · rw [List.getElem?_append_left hj] at e
    obtain ⟨a', h1, h2⟩ := h.2 j cs' e
    exact ⟨a', by rw [List.getElem?_append_left (by rw [h.1]; exact hj)]; exact h1, h2⟩
  · subst hj
    rw [List.getElem?_append_right (Nat.le_refl _), Nat.sub_self] at e
    cases e
    exact ⟨a, by rw [List.getElem?_append_right (by rw [h.1]; exact Nat.le_refl _), ← h.1, Nat.sub_self]; rfl, hf⟩
  · rw [List.getElem?_eq_none (by simp; omega)] at e; cases e
end Go.Gv.F
