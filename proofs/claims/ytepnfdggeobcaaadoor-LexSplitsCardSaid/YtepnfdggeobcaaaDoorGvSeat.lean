/- A seat: its numbers, its functions. -/
import Derived.Test.YtepnfdggeobcaaaDoorGvFun
import Derived.Test.YtepnfdggeobcaaaDoorGvEq
import Derived.Test.YtepnfdggeobcaaaDoorGvNat
namespace Go.Gv

/-- A table of numbers. -/
def lkN : List (Nat × Nat) → Nat → Nat
  | [], _ => 0
  | (k, v) :: r, x => bif Nat.beq k x then v else lkN r x

/-- Types' numbers: those of a table, and others. -/
def tyN (l : List (Nat × Nat)) (t : Nat) : Nat := bif has (l.map (·.1)) t then lkN l t else t + 1000

abbrev Body := Oracle → Nat → List DV → M (List DV)
def lkB : List (Nat × Body) → Nat → Option Body
  | [], _ => none
  | (k, b) :: r, g => bif Nat.beq k g then some b else lkB r g
def bdOf (l : List (Nat × Body)) : Bodies := fun g => match lkB l g with | some b => b | none => fun _ _ _ _ => none

theorem lkB_mem : ∀ {l : List (Nat × Body)} {g : Nat} {b : Body}, lkB l g = some b → g ∈ l.map (·.1)
  | [], _, _, h => by cases h
  | (k, x) :: r, g, b, h => by
    simp only [lkB] at h
    cases hk : Nat.beq k g with
    | true => simp [Nat.eq_of_beq_eq_true hk]
    | false => rw [hk] at h; simp only [cond_false] at h; exact List.mem_cons_of_mem _ (lkB_mem h)

theorem tae_of {P : Program} {e : TypeId} (h : P.underlying P.rt.typeAssertionError = some (.pointer e)) (hs : (P.underlying e).isSome = true) : ∃ e d, P.underlying P.rt.typeAssertionError = some (.pointer e) ∧ P.underlying e = some d :=
  ⟨e, _, h, (Option.some_get hs).symm⟩

/-- All functions of a seat. -/
theorem seat_ok {C : Cfg} {cov : List Nat} (hcov : C.cov = has cov) {l : List (Nat × Body)} (hk : l.map (·.1) = cov.map C.fn) (hB : ∀ f ∈ cov, BodyOK C (bdOf l (C.fn f)) f) : ∀ n, OracleOK C (run (bdOf l) n) := by
  refine run_ok (fun f hf => hB f (by rw [hcov] at hf; exact (has_iff cov f).1 hf)) fun g hg c n args s => ?_
  unfold bdOf
  cases hb : lkB l g with
  | none => rfl
  | some b =>
    have := lkB_mem hb
    rw [hk] at this
    obtain ⟨f, hf, rfl⟩ := List.mem_map.1 this
    exact absurd rfl (hg f (by rw [hcov]; exact (has_iff cov f).2 hf))

/-- Do a table's numbers stand for one another, one for one? -/
def okTy (l : List (Nat × Nat)) : Bool := decide ((l.map (·.2)).Nodup) && l.all fun x => Nat.blt x.2 1000

theorem lkN_mem : ∀ {l : List (Nat × Nat)} {t : Nat}, has (l.map (·.1)) t = true → (t, lkN l t) ∈ l
  | [], t, h => by cases h
  | (k, v) :: r, t, h => by
    simp only [List.map_cons, has, Bool.or_eq_true] at h
    cases hk : Nat.beq k t with
    | true =>
      have := Nat.eq_of_beq_eq_true hk
      subst this
      simp [lkN]
    | false =>
      simp only [lkN, hk, cond_false]
      exact List.mem_cons_of_mem _ (lkN_mem (h.resolve_left (by rw [hk]; simp)))

theorem tyN_inj {l : List (Nat × Nat)} (h : okTy l = true) (t t' : Nat) (e : tyN l t = tyN l t') : t = t' := by
  unfold okTy at h
  rw [Bool.and_eq_true, decide_eq_true_eq, List.all_eq_true] at h
  obtain ⟨h1, h2⟩ := h
  have lt : ∀ {t}, has (l.map (·.1)) t = true → lkN l t < 1000 := fun {t} ht => by
    have := h2 _ (lkN_mem ht)
    rwa [Nat.blt_eq] at this
  unfold tyN at e
  cases ht : has (l.map (·.1)) t with
  | true =>
    have m := lkN_mem ht
    have l1 := lt ht
    cases ht' : has (l.map (·.1)) t' with
    | true =>
      have m' := lkN_mem ht'
      rw [ht, ht'] at e
      simp only [cond_true] at e
      rw [e] at m
      have inj : ∀ {l : List (Nat × Nat)}, (l.map (·.2)).Nodup → ∀ {a b c : Nat}, (a, c) ∈ l → (b, c) ∈ l → a = b := by
        intro l
        induction l with
        | nil => intro _ a b c h; cases h
        | cons x r ih =>
          intro hn a b c ha hb
          simp only [List.map_cons, List.nodup_cons] at hn
          rcases List.mem_cons.1 ha with ha | ha <;> rcases List.mem_cons.1 hb with hb | hb
          · rw [← ha] at hb; cases hb; rfl
          · exact absurd (List.mem_map.2 ⟨_, hb, by rw [← ha]⟩) hn.1
          · exact absurd (List.mem_map.2 ⟨_, ha, by rw [← hb]⟩) hn.1
          · exact ih hn.2 ha hb
      exact inj h1 m m'
    | false => rw [ht, ht'] at e; simp only [cond_true, cond_false] at e; omega
  | false =>
    cases ht' : has (l.map (·.1)) t' with
    | true => have := lt ht'; rw [ht, ht'] at e; simp only [cond_true, cond_false] at e; omega
    | false => rw [ht, ht'] at e; simp only [cond_false] at e; omega
end Go.Gv
