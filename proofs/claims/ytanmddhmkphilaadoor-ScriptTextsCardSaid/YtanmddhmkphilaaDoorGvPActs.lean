/- Lists of acts in memory; the acts of a text. -/
import Derived.Test.YtanmddhmkphilaaDoorGvPLaw32
import Derived.Test.YtanmddhmkphilaaDoorGvPLines
import Derived.Test.YtanmddhmkphilaaDoorGvPWordA
namespace Go.Gv.F
open Go.Gv

def Acts (s : St) : List DV → List ActV → Prop
  | ds, [] => ds = []
  | ds, x :: r => ∃ p t, ds = actC x 1 p ++ t ∧ Fz s p (ints x.list) ∧ Acts s t r
theorem actC_len (x : ActV) (z : Nat) (p : Option (Nat × Nat)) : (actC x z p).length = 8 := rfl
theorem Acts.len {s : St} : ∀ {ds : List DV} {xs : List ActV}, Acts s ds xs → ds.length = xs.length * 8
  | ds, [], h => by rw [show ds = [] from h]; rfl
  | ds, x :: r, ⟨p, t, h1, _, h3⟩ => by rw [h1, List.length_append, h3.len, actC_len, List.length_cons]; omega
theorem Acts.kp {s s' : St} (k : Kp s s') : ∀ {ds : List DV} {xs : List ActV}, Acts s ds xs → Acts s' ds xs
  | _, [], h => h
  | _, _ :: _, ⟨p, t, h1, h2, h3⟩ => ⟨p, t, h1, h2.kp k, h3.kp k⟩
theorem Acts.push {s : St} {x : ActV} {p : Option (Nat × Nat)} (hf : Fz s p (ints x.list)) : ∀ {ds : List DV} {xs : List ActV}, Acts s ds xs → Acts s (ds ++ actC x 1 p) (xs ++ [x])
  | ds, [], h => by
    rw [show ds = [] from h]
    exact ⟨p, [], by simp, hf, rfl⟩
  | ds, y :: r, ⟨q, t, h1, h2, h3⟩ => ⟨q, t ++ actC x 1 p, by rw [h1, List.append_assoc], h2, h3.push hf⟩
theorem Acts.get {s : St} : ∀ {ds : List DV} {xs : List ActV}, Acts s ds xs → ∀ {j : Nat} {x : ActV}, xs[j]? = some x → ∃ p, (ds.drop (j * 8)).take 8 = actC x 1 p ∧ Fz s p (ints x.list)
  | _, [], _, j, x, e => by simp at e
  | ds, y :: r, ⟨q, t, h1, h2, h3⟩, 0, x, e => by
    simp only [List.getElem?_cons_zero, Option.some.injEq] at e
    subst e
    exact ⟨q, by rw [h1, Nat.zero_mul, List.drop_zero, ← actC_len y 1 q, List.take_left], h2⟩
  | ds, y :: r, ⟨q, t, h1, h2, h3⟩, j + 1, x, e => by
    obtain ⟨p, g1, g2⟩ := h3.get (j := j) (x := x) (by simpa using e)
    refine ⟨p, ?_, g2⟩
    rw [h1, show (j + 1) * 8 = (actC y 1 q).length + j * 8 by rw [actC_len]; omega, ← List.drop_drop, List.drop_left]
    exact g1

/-- A slice's cells from a place on. -/
theorem Sl.gets {β : Type} {s : St} {i o : Nat} {cs : List DV} (h : Sl s (some (i, o)) cs) {k n : Nat} (hk : k + n ≤ cs.length) (K : List DV → M β) : M.load i (k + o) n K s = K ((cs.drop k).take n) s := by
  obtain ⟨f, all, h1, h2, h3⟩ := h
  rw [load_eq h1 (by omega)]
  congr 1
  rw [← h3, List.drop_take, List.take_take, Nat.min_eq_left (by omega), List.drop_drop, Nat.add_comm o k]

/-! ### The acts of a text -/
def goR : List (List (List UInt8)) → Nat → List ActV → List ActV × Nat × Int
  | [], _, acc => (acc, 0, 0)
  | l :: r, i, acc => if (parseF l).2 = 0 then goR r (i + 1) (acc ++ [(parseF l).1]) else ([], i + 1, (parseF l).2)
def readT (s : List UInt8) : List ActV × Nat × Int := if (splitOf s).2.2 = 0 then goR (splitOf s).1 0 [] else ([], (splitOf s).2.1, (splitOf s).2.2)

theorem goR_spec : ∀ (L : List (List (List UInt8))) (i : Nat) (acc : List ActV), (∀ l ∈ L, (parseF l).2 = 0) → goR L i acc = (acc ++ L.map fun l => (parseF l).1, 0, 0)
  | [], i, acc, h => by rw [goR]; simp
  | l :: L, i, acc, h => by
    rw [goR, if_pos (h l (by simp)), goR_spec L (i + 1) _ fun x hx => h x (by simp [hx])]
    simp
theorem goR_len : ∀ (L : List (List (List UInt8))) (i : Nat) (acc : List ActV), (goR L i acc).1.length ≤ acc.length + L.length ∧ ∀ x ∈ (goR L i acc).1, x ∈ acc ∨ ∃ l ∈ L, x = (parseF l).1
  | [], i, acc => ⟨by rw [goR]; simp, fun x hx => .inl hx⟩
  | l :: L, i, acc => by
    rw [goR]
    split
    · obtain ⟨h1, h2⟩ := goR_len L (i + 1) (acc ++ [(parseF l).1])
      refine ⟨by simp at h1 ⊢; omega, fun x hx => ?_⟩
      rcases h2 x hx with h | ⟨l', hl', e⟩
      · rcases List.mem_append.1 h with h | h
        · exact .inl h
        · exact .inr ⟨l, by simp, List.mem_singleton.1 h⟩
      · exact .inr ⟨l', by simp [hl'], e⟩
    · exact ⟨Nat.zero_le _, fun x hx => by cases hx⟩

theorem splitOf_small (s : List UInt8) : (splitOf s).1.length ≤ 4001 ∧ ∀ l ∈ (splitOf s).1, l.length ≤ 40 ∧ ∀ w ∈ l, w.length ≤ 4000 := by
  unfold splitOf
  split
  · exact ⟨Nat.zero_le _, fun l hl => by cases hl⟩
  · rename_i h4
    rcases goW_spec _ _ _ _ rfl with ⟨_, h2, _, h4⟩ | ⟨_, h2, _⟩
    · have hc := cutB_len 10 s []
      have hcl := count_le 10 s
      have hm := cutB_mem 10 s []
      rw [h4]
      refine ⟨by simp; omega, fun l hl => ?_⟩
      simp only [List.nil_append, List.mem_map] at hl
      obtain ⟨x, hx, rfl⟩ := hl
      have h0 := h2 x hx
      have hx4 := hm x hx
      simp only [List.length_nil] at hx4
      refine ⟨(wordsOf_zero (Prod.ext h0 rfl)).1, fun w hw => ?_⟩
      have := words_len x w hw
      omega
    · rw [h2]
      exact ⟨Nat.zero_le _, fun l hl => by cases hl⟩
theorem readT_small (s : List UInt8) : (readT s).1.length ≤ 4001 ∧ ∀ x ∈ (readT s).1, x.list.length ≤ 40 := by
  have hs := splitOf_small s
  unfold readT
  split
  · have h := goR_len (splitOf s).1 0 []
    refine ⟨by have := h.1; simp at this; omega, fun x hx => ?_⟩
    rcases h.2 x hx with h | ⟨l, hl, rfl⟩
    · cases h
    · have := parseF_len l
      have := (hs.2 l hl).1
      omega
  · exact ⟨Nat.zero_le _, fun x hx => by cases hx⟩

/-- What a reader of a text answers. -/
def ReadAns (s : List UInt8) (st : St) (o : Out (List DV) × St) : Prop :=
  ∃ z a ds s', o = (.val [.slice z a (readT s).1.length, .int .i64 (readT s).2.1, .int .i64 (readT s).2.2], s') ∧ (z = 8 ∨ a = none) ∧ Pre st s' ∧ Fz s' a ds ∧ Acts s' ds (readT s).1
end Go.Gv.F
