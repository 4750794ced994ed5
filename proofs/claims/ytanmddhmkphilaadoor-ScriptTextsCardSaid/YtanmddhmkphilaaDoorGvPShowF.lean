/- Which line an act has; it is read as the act. Plain facts. -/
import Derived.Test.YtanmddhmkphilaaDoorGvPActs
namespace Go.Gv.F
open Go.Gv

theorem sameF_eq {a b : ActV} (h : sameF a b = true) : a = b := by
  obtain ⟨a1, a2, a3, a4, a5, a6, a7, a8⟩ := a
  obtain ⟨b1, b2, b3, b4, b5, b6, b7, b8⟩ := b
  unfold sameF at h
  simp only [Bool.and_eq_true, beq_iff_eq, decide_eq_true_eq, and_true] at h
  obtain ⟨rfl, rfl, rfl, ⟨rfl, rfl⟩, rfl, rfl, rfl⟩ := h
  rfl

def giveW (a : ActV) (c : Nat) : List (List UInt8) :=
  if c = 110 then [a.name] else if c = 111 then [a.other] else if c = 107 then [showI a.key] else if c = 118 then [showI a.value] else if c = 104 then [showH a.h1 a.h2] else a.list.map showI
def wordsA (a : ActV) (c : Cmd) : List (List UInt8) := c.1 :: (c.2.1.map fun b => giveW a b.toNat).flatten
def okW (a : ActV) (W : List (List UInt8)) : Bool := decide (W.length ≤ 40 ∧ ∀ w ∈ W, IsWord w) && ((parseF W).2 == 0 && sameF a (parseF W).1)
def showF (a : ActV) : List UInt8 × Bool :=
  if sameF a zeroA then ([], true) else match cmds.find? fun c => c.2.2 == a.dn with
  | none => ([], false)
  | some c => if okW a (wordsA a c) then (Lib.join (wordsA a c) [32], true) else ([], false)

theorem cutB_none (c : UInt8) : ∀ (s w : List UInt8), c ∉ s → cutB c s w = [w ++ s]
  | [], w, _ => by rw [cutB, List.append_nil]
  | x :: r, w, h => by
    rw [cutB, if_neg (fun e => h (by rw [e]; simp)), cutB_none c r _ (fun e => h (by simp [e]))]
    simp
theorem cutB_line (c : UInt8) : ∀ (s w r : List UInt8), c ∉ s → cutB c (s ++ c :: r) w = (w ++ s) :: cutB c r []
  | [], w, r, _ => by rw [List.nil_append, cutB, if_pos rfl, List.append_nil]
  | x :: s, w, r, h => by
    rw [List.cons_append, cutB, if_neg (fun e => h (by rw [e]; simp)), cutB_line c s _ r (fun e => h (by simp [e]))]
    simp
def textL (ls : List (List UInt8)) : List UInt8 := (ls.map (· ++ [10])).flatten
theorem cutB_text : ∀ (ls : List (List UInt8)), (∀ l ∈ ls, (10 : UInt8) ∉ l) → cutB 10 (textL ls) [] = ls ++ [[]]
  | [], _ => rfl
  | l :: ls, h => by
    have e : textL (l :: ls) = l ++ 10 :: textL ls := by
      unfold textL
      rw [List.map_cons, List.flatten_cons, List.append_assoc]; rfl
    rw [e, cutB_line 10 l [] _ (h l (by simp)), cutB_text ls fun x hx => h x (by simp [hx])]
    rfl

/-- A line and its act. -/
theorem showF_line {a : ActV} {s : List UInt8} (h : showF a = (s, true)) : (wordsOf s).1 = 0 ∧ parseF (wordsOf s).2 = (a, 0) ∧ (10 : UInt8) ∉ s := by
  unfold showF at h
  split at h
  · rename_i h0
    cases h
    have e := sameF_eq h0
    subst e
    have hw : wordsOf [] = (0, []) := wordsOf_line (ws := []) (fun w h => by cases h) (Nat.zero_le _)
    rw [hw]
    exact ⟨rfl, rfl, fun h => by cases h⟩
  · split at h
    · cases h
    · rename_i c _
      split at h
      · rename_i hok
        cases h
        unfold okW at hok
        simp only [Bool.and_eq_true, decide_eq_true_eq, beq_iff_eq] at hok
        obtain ⟨h1, h2, h3⟩ := hok
        have hw := wordsOf_join h1.2 h1.1
        rw [hw]
        refine ⟨rfl, Prod.ext (sameF_eq h3).symm h2, fun h10 => ?_⟩
        have hr := (wordsOf_zero hw).2.2.1
        rw [List.any_eq_false] at hr
        exact hr _ ((rns_mem (c := 10) (by decide) _).2 h10) (by decide)
      · cases h

theorem goW_all : ∀ (L : List (List UInt8)) (i : Nat) (acc : List (List (List UInt8))), (∀ l ∈ L, (wordsOf l).1 = 0) → goW L i acc = (acc ++ L.map fun l => (wordsOf l).2, 0, 0)
  | [], i, acc, h => by rw [goW]; simp
  | l :: L, i, acc, h => by
    rw [goW, if_pos (h l (by simp)), goW_all L (i + 1) _ fun x hx => h x (by simp [hx])]
    simp

theorem readT_lines {s : List UInt8} {L : List (List UInt8)} (hs : s.length ≤ 4000) (hc : cutB 10 s [] = L) (hw : ∀ l ∈ L, (wordsOf l).1 = 0) (hp : ∀ l ∈ L, (parseF (wordsOf l).2).2 = 0) :
    readT s = (L.map fun l => (parseF (wordsOf l).2).1, 0, 0) := by
  have h1 : splitOf s = (L.map fun l => (wordsOf l).2, 0, 0) := by
    unfold splitOf
    rw [if_neg (by omega), hc, goW_all L 0 [] hw]
    rfl
  unfold readT
  rw [h1, if_pos rfl, goR_spec _ 0 [] ?_]
  · simp
  · intro l hl
    obtain ⟨x, hx, rfl⟩ := List.mem_map.1 hl
    exact hp x hx

theorem read_line {a : ActV} {s : List UInt8} (h : showF a = (s, true)) (hs : s.length ≤ 4000) : readT s = ([a], 0, 0) := by
  obtain ⟨h1, h2, h3⟩ := showF_line h
  rw [readT_lines hs (cutB_none 10 s [] h3) (fun l hl => by rw [List.mem_singleton.1 hl]; exact h1) (fun l hl => by rw [List.mem_singleton.1 hl, List.nil_append, h2])]
  simp [h2]

theorem read_text {xs : List ActV} (hx : ∀ x ∈ xs, (showF x).2 = true) (hs : (textL (xs.map fun x => (showF x).1)).length ≤ 4000) : readT (textL (xs.map fun x => (showF x).1)) = (xs ++ [zeroA], 0, 0) := by
  have key : ∀ x ∈ xs, (wordsOf (showF x).1).1 = 0 ∧ parseF (wordsOf (showF x).1).2 = (x, 0) ∧ (10 : UInt8) ∉ (showF x).1 := fun x h => showF_line (Prod.ext rfl (hx x h))
  have hw0 : wordsOf [] = (0, []) := wordsOf_line (ws := []) (fun w h => by cases h) (Nat.zero_le _)
  rw [readT_lines hs (cutB_text _ fun l hl => by
    obtain ⟨x, hx', rfl⟩ := List.mem_map.1 hl
    exact (key x hx').2.2) ?_ ?_]
  · rw [List.map_append, List.map_map]
    have e1 : (List.map ((fun l => (parseF (wordsOf l).2).1) ∘ fun x => (showF x).1) xs) = xs := by
      conv => rhs; rw [← List.map_id xs]
      refine List.map_congr_left fun x hx' => ?_
      simp only [Function.comp, id_eq]
      rw [(key x hx').2.1]
    rw [e1]
    simp only [List.map_cons, List.map_nil, hw0]
    rfl
  · intro l hl
    rcases List.mem_append.1 hl with h | h
    · obtain ⟨x, hx', rfl⟩ := List.mem_map.1 h
      exact (key x hx').1
    · rw [List.mem_singleton.1 h, hw0]
  · intro l hl
    rcases List.mem_append.1 hl with h | h
    · obtain ⟨x, hx', rfl⟩ := List.mem_map.1 h
      rw [(key x hx').2.1]
    · rw [List.mem_singleton.1 h, hw0]; rfl
end Go.Gv.F
