/- Words of a line are words; a line of words is just a joined one. Plain facts. -/
import Derived.Test.YtanmddhmkphilaaGreatDoorGvZPc
import Derived.Test.YtanmddhmkphilaaGreatDoorGvZPd
import Derived.Test.YtanmddhmkphilaaGreatDoorGvZBod
namespace Go.Gv.F
open Go.Gv
end Go.Gv.F

/- Lists of acts in memory; the acts of a text. -/
namespace Go.Gv.F
open Go.Gv
def Acts (s : St) : List DV → List ActV → Prop
  | ds, [] => ds = []
  | ds, x :: r => ∃ p t, ds = actC x 1 p ++ t ∧ Fz s p (ints x.list) ∧ Acts s t r
theorem actC_len (x : ActV) (z : Nat) (p : Option (Nat × Nat)) : (actC x z p).length = 8 := rfl
theorem Acts.len {s : St} : ∀ {ds : List DV} {xs : List ActV}, Acts s ds xs → ds.length = xs.length * 8
  | ds, [], h => by rw [show ds = [] from h]; rfl
  | ds, x :: r, ⟨p, t, h1, _, h3⟩ => by rw [h1, List.length_append, h3.len, actC_len, List.length_cons]; omega
theorem Acts.kp {s s' : St} (k : Kp s s') : ∀ {ds : List DV} {xs : List ActV}, Acts s ds xs → Acts s' ds xs
  | _, [], h => h
  | _, _ :: _, ⟨p, t, h1, h2, h3⟩ => ⟨p, t, h1, h2.kp k, h3.kp k⟩
theorem Acts.push {s : St} {x : ActV} {p : Option (Nat × Nat)} (hf : Fz s p (ints x.list)) : ∀ {ds : List DV} {xs : List ActV}, Acts s ds xs → Acts s (ds ++ actC x 1 p) (xs ++ [x])
  | ds, [], h => by
    rw [show ds = [] from h]
    exact ⟨p, [], by simp, hf, rfl⟩
  | ds, y :: r, ⟨q, t, h1, h2, h3⟩ => ⟨q, t ++ actC x 1 p, by rw [h1, List.append_assoc], h2, h3.push hf⟩
theorem Acts.get {s : St} : ∀ {ds : List DV} {xs : List ActV}, Acts s ds xs → ∀ {j : Nat} {x : ActV}, xs[j]? = some x → ∃ p, (ds.drop (j * 8)).take 8 = actC x 1 p ∧ Fz s p (ints x.list)
  | _, [], _, j, x, e => by simp at e
  | ds, y :: r, ⟨q, t, h1, h2, h3⟩, 0, x, e => by
    simp only [List.getElem?_cons_zero, Option.some.injEq] at e
    subst e
    exact ⟨q, by rw [h1, Nat.zero_mul, List.drop_zero, ← actC_len y 1 q, List.take_left], h2⟩
  | ds, y :: r, ⟨q, t, h1, h2, h3⟩, j + 1, x, e => by
    obtain ⟨p, g1, g2⟩ := h3.get (j := j) (x := x) (by simpa using e)
    refine ⟨p, ?_, g2⟩
    rw [h1, show (j + 1) * 8 = (actC y 1 q).length + j * 8 by rw [actC_len]; omega, ← List.drop_drop, List.drop_left]
    exact g1
/-- A slice's cells from a place on. -/
theorem Sl.gets {β : Type} {s : St} {i o : Nat} {cs : List DV} (h : Sl s (some (i, o)) cs) {k n : Nat} (hk : k + n ≤ cs.length) (K : List DV → M β) : M.load i (k + o) n K s = K ((cs.drop k).take n) s := by
  obtain ⟨f, all, h1, h2, h3⟩ := h
  rw [load_eq h1 (by omega)]
  congr 1
  rw [← h3, List.drop_take, List.take_take, Nat.min_eq_left (by omega), List.drop_drop, Nat.add_comm o k]
end Go.Gv.F

/- The acts of a text: the program's reader and the document's; the law ScriptReads answers true. -/
namespace Go.Gv.F
open Go.Gv
end Go.Gv.F

/- Which line an act has; it is read as the act. Plain facts. -/
namespace Go.Gv.F
open Go.Gv
theorem cutB_none (c : UInt8) : ∀ (s w : List UInt8), c ∉ s → cutB c s w = [w ++ s]
  | [], w, _ => by rw [cutB, List.append_nil]
  | x :: r, w, h => by
    rw [cutB, if_neg (fun e => h (by rw [e]; simp)), cutB_none c r _ (fun e => h (by simp [e]))]
    simp
theorem cutB_line (c : UInt8) : ∀ (s w r : List UInt8), c ∉ s → cutB c (s ++ c :: r) w = (w ++ s) :: cutB c r []
  | [], w, r, _ => by rw [List.nil_append, cutB, if_pos rfl, List.append_nil]
  | x :: s, w, r, h => by
    rw [List.cons_append, cutB, if_neg (fun e => h (by rw [e]; simp)), cutB_line c s _ r (fun e => h (by simp [e]))]
    simp
def textL (ls : List (List UInt8)) : List UInt8 := (ls.map (· ++ [10])).flatten
theorem cutB_text : ∀ (ls : List (List UInt8)), (∀ l ∈ ls, (10 : UInt8) ∉ l) → cutB 10 (textL ls) [] = ls ++ [[]]
  | [], _ => rfl
  | l :: ls, h => by
    have e : textL (l :: ls) = l ++ 10 :: textL ls := by
      unfold textL
      rw [List.map_cons, List.flatten_cons, List.append_assoc]; rfl
    rw [e, cutB_line 10 l [] _ (h l (by simp)), cutB_text ls fun x hx => h x (by simp [hx])]
    rfl
end Go.Gv.F

/- The line of an act: the program's and the document's. -/
namespace Go.Gv.F
open Go.Gv
theorem app_zero {β : Type} (sz : Nat) (a : Option (Nat × Nat)) (n : Nat) (ds : List DV) (lim : Nat) (K : Option (Nat × Nat) → M β) (s : St) : M.app sz a n ds 0 lim K s = K a s := rfl
end Go.Gv.F

/- The line of an act: the document's. -/
namespace Go.Gv.F
open Go.Gv
end Go.Gv.F

/- The laws of lines: an act's, and a script's. -/
namespace Go.Gv.F
open Go.Gv
theorem textL_app (ls ms : List (List UInt8)) : textL (ls ++ ms) = textL ls ++ textL ms := by
  unfold textL
  rw [List.map_append, List.flatten_append]
end Go.Gv.F
