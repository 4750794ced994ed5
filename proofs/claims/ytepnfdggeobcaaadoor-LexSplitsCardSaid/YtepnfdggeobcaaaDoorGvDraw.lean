/- Regions that draw: any order does. -/
import Derived.Test.YtepnfdggeobcaaaDoorGvSeq
namespace Go.Gv

theorem Weak.refl (E : Env) : Weak E E := ⟨rfl, fun _ => .inl rfl⟩
theorem Weak.trans {E E' E'' : Env} (h : Weak E E') (k : Weak E' E'') : Weak E E'' := by
  refine ⟨k.nxt.trans h.nxt, fun t => ?_⟩
  rcases k.get t with e | e
  · rcases h.get t with e' | e'
    · exact .inl (e.trans e')
    · exact .inr (e.trans e')
  · exact .inr e

section
variable {C : Cfg} {dst : Nat → Option Nat} {pr ms : List Nat}

/-- A trace, step by step. -/
theorem Tr.fn {l : List (Oper × Md)} {E E2 : Env} {s s2 : St} (h : Tr C dst pr ms l E s E2 s2) :
    ∃ (A B : Nat → Env) (ss : Nat → St), A 0 = E ∧ ss 0 = s ∧ ss l.length = s2 ∧ Weak (A l.length) E2 ∧
      ∀ k p, l[k]? = some p → Weak (A k) (B k) ∧ Step C dst pr ms p (B k) (ss k) (A (k + 1)) (ss (k + 1)) := by
  induction h with
  | nil E s => exact ⟨fun _ => E, fun _ => E, fun _ => s, rfl, rfl, rfl, .refl E, fun k p h => by simp at h⟩
  | @weak l E E1 s E2 s2 k _ ih =>
    obtain ⟨A, B, ss, h1, h2, h3, h4, h5⟩ := ih
    cases l with
    | nil =>
      refine ⟨fun _ => E, B, ss, rfl, h2, h3, ?_, fun k p h => by simp at h⟩
      simp only [List.length_nil] at h4
      rw [h1] at h4
      exact k.trans h4
    | cons p l =>
      refine ⟨fun i => if i = 0 then E else A i, B, ss, rfl, h2, h3, by simpa using h4, fun i q hq => ?_⟩
      obtain ⟨a, b⟩ := h5 i q hq
      refine ⟨?_, by simpa using b⟩
      by_cases hi : i = 0
      · subst hi
        simp only [if_true]
        rw [h1] at a
        exact k.trans a
      · simp only [hi, if_false]; exact a
  | @cons p l E s E1 s1 E2 s2 st _ ih =>
    obtain ⟨A, B, ss, h1, h2, h3, h4, h5⟩ := ih
    refine ⟨fun i => match i with | 0 => E | i + 1 => A i, fun i => match i with | 0 => E | i + 1 => B i, fun i => match i with | 0 => s | i + 1 => ss i, rfl, rfl, h3, h4, fun i q hq => ?_⟩
    cases i with
    | zero =>
      simp only [List.getElem?_cons_zero, Option.some.injEq] at hq
      subst hq
      refine ⟨.refl E, ?_⟩
      simp only [h1, h2]
      exact st
    | succ i => exact h5 i q (by simpa using hq)
end

/-! ### What stands ahead of what -/
theorem befM_bit {o : Oper} {acc : List Nat} {j : Nat} (h : (befM o acc).testBit j = true) : ∃ e ∈ o.after, Region.binds .any e = true ∧ (j = e.on ∨ (acc.getD e.on 0).testBit j = true) := by
  unfold befM at h
  have key : ∀ (l : List Edge) (m : Nat), (l.foldl (fun m e => bif Region.binds .any e then m ||| 2 ^ e.on ||| acc.getD e.on 0 else m) m).testBit j = true →
      m.testBit j = true ∨ ∃ e ∈ l, Region.binds .any e = true ∧ (j = e.on ∨ (acc.getD e.on 0).testBit j = true) := by
    intro l
    induction l with
    | nil => exact fun m h => .inl h
    | cons e l ih =>
      intro m h
      simp only [List.foldl_cons] at h
      rcases ih _ h with h | ⟨e', he, h⟩
      · cases hb : Region.binds .any e with
        | false => rw [hb] at h; exact .inl h
        | true =>
          rw [hb] at h
          simp only [cond_true, Nat.testBit_or, Bool.or_eq_true, Nat.testBit_two_pow, decide_eq_true_eq] at h
          rcases h with (h | h) | h
          · exact .inl h
          · exact .inr ⟨e, by simp, hb, .inl h.symm⟩
          · exact .inr ⟨e, by simp, hb, .inr h⟩
      · exact .inr ⟨e', by simp [he], h⟩
  rcases key _ 0 h with h | ⟨e, he, h⟩
  · simp at h
  · exact ⟨e, by simpa using he, h⟩

theorem prep_get (P : Program) (pr : List Nat) (ops : List Oper) : ∀ (r : List Oper) (acc : List Nat) (k : Nat) (p : OpI), (prep P pr ops r acc)[k]? = some p →
    ∃ o, r[k]? = some o ∧ p.bf = befM o (acc ++ ((prep P pr ops r acc).take k).map (·.bf)) ∧ p.k = cls P pr ops o ∧ p.dst = o.dst ∧ p.lk = lookM pr ops o
  | [], acc, k, p, h => by simp [prep] at h
  | o :: r, acc, 0, p, h => by
    simp only [prep, List.getElem?_cons_zero, Option.some.injEq] at h
    subst h
    exact ⟨o, rfl, by simp, rfl, rfl, rfl⟩
  | o :: r, acc, k + 1, p, h => by
    simp only [prep, List.getElem?_cons_succ] at h
    obtain ⟨o', h1, h2, h3⟩ := prep_get P pr ops r _ k p h
    refine ⟨o', by simpa using h1, ?_, h3⟩
    rw [h2]
    simp [prep]

theorem prep_length (P : Program) (pr : List Nat) (ops : List Oper) : ∀ (r : List Oper) (acc : List Nat), (prep P pr ops r acc).length = r.length
  | [], _ => rfl
  | o :: r, acc => by simp [prep, prep_length P pr ops r]

/-- Two operations that may come up in either order. -/
def Apart (p q : OpI) : Prop := clash p.k q.k = false ∧ dstIn p.dst q.lk = false ∧ dstIn q.dst p.lk = false ∧ dstEq p.dst q.dst = false

theorem okTail_get {i : Nat} {p : OpI} : ∀ {l : List OpI}, okTail i p l = true → ∀ (k : Nat) (q : OpI), l[k]? = some q → q.bf.testBit i = true ∨ Apart p q
  | [], _, k, q, h => by simp at h
  | x :: l, h, k, q, hq => by
    simp only [okTail, Bool.and_eq_true] at h
    cases k with
    | zero =>
      simp only [List.getElem?_cons_zero, Option.some.injEq] at hq
      subst hq
      have h1 := h.1
      rw [Bool.or_eq_true] at h1
      refine h1.imp id fun h1 => ?_
      simp only [Bool.and_eq_true, Bool.not_eq_true'] at h1
      exact ⟨h1.1.1.1, h1.1.1.2, h1.1.2, h1.2⟩
    | succ k => exact okTail_get h.2 k q (by simpa using hq)

theorem okAll_get : ∀ {i : Nat} {l : List OpI} {os : List Oper}, okAll i l os = true → ∀ (k : Nat) (p : OpI), l[k]? = some p →
    p.bf < 2 ^ (i + k) ∧ (∃ o, os[k]? = some o ∧ ∀ j w, o.guard = some (j, w) → p.bf.testBit j = true) ∧ ∀ (m : Nat) (q : OpI), k < m → l[m]? = some q → q.bf.testBit (i + k) = true ∨ Apart p q
  | i, [], os, _, k, p, hp => by simp at hp
  | i, _ :: _, [], h, k, p, hp => by cases h
  | i, x :: l, o :: os, h, k, p, hp => by
    simp only [okAll, Bool.and_eq_true] at h
    obtain ⟨⟨⟨h1, h2⟩, h3⟩, h4⟩ := h
    cases k with
    | zero =>
      simp only [List.getElem?_cons_zero, Option.some.injEq] at hp
      subst hp
      refine ⟨by rw [Nat.blt_eq] at h1; exact h1, ⟨o, rfl, fun j w hg => by rw [hg] at h2; exact h2⟩, fun m q hm hq => ?_⟩
      obtain ⟨m', rfl⟩ : ∃ m', m = m' + 1 := ⟨m - 1, by omega⟩
      exact okTail_get h3 m' q (by simpa using hq)
    | succ k =>
      obtain ⟨a, ⟨o', b1, b2⟩, c⟩ := okAll_get h4 k p (by simpa using hp)
      refine ⟨by rw [show i + (k + 1) = i + 1 + k by omega]; exact a, ⟨o', by simpa using b1, b2⟩, fun m q hm hq => ?_⟩
      obtain ⟨m', rfl⟩ : ∃ m', m = m' + 1 := ⟨m - 1, by omega⟩
      rw [show i + (k + 1) = i + 1 + k by omega]
      exact c m' q (by omega) (by simpa using hq)

theorem befM_of {o : Oper} {acc : List Nat} {e : Edge} (he : e ∈ o.after) (hb : Region.binds .any e = true) : (befM o acc).testBit e.on = true := by
  unfold befM
  have mono : ∀ (l : List Edge) (m : Nat), m.testBit e.on = true → (l.foldl (fun m e => bif Region.binds .any e then m ||| 2 ^ e.on ||| acc.getD e.on 0 else m) m).testBit e.on = true := by
    intro l
    induction l with
    | nil => exact fun m h => h
    | cons x l ih =>
      intro m h
      simp only [List.foldl_cons]
      refine ih _ ?_
      cases Region.binds .any x with
      | false => exact h
      | true => simp only [cond_true, Nat.testBit_or, h, Bool.true_or]
  have key : ∀ (l : List Edge) (m : Nat), e ∈ l → (l.foldl (fun m e => bif Region.binds .any e then m ||| 2 ^ e.on ||| acc.getD e.on 0 else m) m).testBit e.on = true := by
    intro l
    induction l with
    | nil => intro m h; cases h
    | cons x l ih =>
      intro m h
      simp only [List.foldl_cons]
      cases h with
      | head =>
        refine mono l _ ?_
        rw [hb]
        simp [Nat.testBit_or]
      | tail _ h => exact ih _ h
  exact key _ 0 (by simpa using he)


theorem flags_get : ∀ (all : List OpI) (i : Nat) (is : List OpI) (os : List Oper) (k : Nat) (p : Oper × Md), (flags all i is os)[k]? = some p →
    ∃ q o, is[k]? = some q ∧ os[k]? = some o ∧
      p = (o, .d q.k (bif beside (i + k) q.bf (fun _ => true) 0 all then (match q.k with | .call => (bif beside (i + k) q.bf isHp 0 all then 2 else 1) | _ => 1) else 0))
  | all, i, [], os, k, p, h => by cases os <;> simp [flags] at h
  | all, i, _ :: _, [], k, p, h => by simp [flags] at h
  | all, i, q :: r, o :: os, 0, p, h => by
    simp only [flags, List.getElem?_cons_zero, Option.some.injEq] at h
    exact ⟨q, o, rfl, rfl, h.symm⟩
  | all, i, q :: r, o :: os, k + 1, p, h => by
    simp only [flags, List.getElem?_cons_succ] at h
    obtain ⟨q', o', h1, h2, h3⟩ := flags_get all (i + 1) r os k p h
    refine ⟨q', o', by simpa using h1, by simpa using h2, ?_⟩
    rw [h3, show i + 1 + k = i + (k + 1) by omega]

theorem flags_length : ∀ (all : List OpI) (i : Nat) (is : List OpI) (os : List Oper), is.length = os.length → (flags all i is os).length = os.length
  | _, _, [], [], _ => rfl
  | all, i, _ :: r, _ :: os, h => by simp only [flags, List.length_cons]; rw [flags_length all (i + 1) r os (by simpa using h)]
  | _, _, [], _ :: _, h => by simp at h
  | _, _, _ :: _, [], h => by simp at h

theorem beside_of {i bi : Nat} {f : Cls → Bool} : ∀ {r : List OpI} {j0 j : Nat} {q : OpI}, r[j]? = some q → i ≠ j0 + j → q.bf.testBit i = false → bi.testBit (j0 + j) = false → f q.k = true → beside i bi f j0 r = true
  | [], j0, j, q, h, _, _, _, _ => by simp at h
  | x :: r, j0, 0, q, h, h1, h2, h3, h4 => by
    simp only [List.getElem?_cons_zero, Option.some.injEq] at h
    subst h
    simp only [Nat.add_zero] at h1 h3
    have : Nat.beq i j0 = false := by
      cases e : Nat.beq i j0 with
      | false => rfl
      | true => exact absurd (Nat.eq_of_beq_eq_true e) h1
    simp only [beside, this, h2, h3, h4]; rfl
  | x :: r, j0, j + 1, q, h, h1, h2, h3, h4 => by
    simp only [List.getElem?_cons_succ] at h
    simp only [beside, Bool.or_eq_true]
    exact .inr (beside_of (j0 := j0 + 1) h (by omega) h2 (by rw [show j0 + 1 + j = j0 + (j + 1) by omega]; exact h3) h4)

/-- Does operation i stand ahead of operation k? -/
def bef (is : List OpI) (i k : Nat) : Prop := ∃ q, is[k]? = some q ∧ q.bf.testBit i = true

/-! ### At what registers an operation looks -/
theorem fold_bit : ∀ (l : List Operand) (m t : Nat), (m.testBit t = true ∨ Operand.tmp t ∈ l) → (l.foldl (fun m x => match x with | .tmp t => m ||| 2 ^ t | _ => m) m).testBit t = true
  | [], m, t, h => by
    rcases h with h | h
    · exact h
    · cases h
  | x :: l, m, t, h => by
    simp only [List.foldl_cons]
    refine fold_bit l _ t ?_
    rcases h with h | h
    · refine .inl ?_
      cases x with
      | tmp u => simp only [Nat.testBit_or, h, Bool.true_or]
      | _ => exact h
    · cases h with
      | head => exact .inl (by simp [Nat.testBit_or])
      | tail _ h => exact .inr h

theorem bit_or (m r t : Nat) (h : m.testBit t = true ∨ r = t) : (m ||| 2 ^ r).testBit t = true := by
  rcases h with h | rfl
  · simp [Nat.testBit_or, h]
  · simp [Nat.testBit_or]

theorem lookM_tail (pr : List Nat) (ops : List Oper) (o : Oper) (m : Nat) (t : Nat) (h : m.testBit t = true) :
    (match o.op with
      | .load _ (.tmp a) => (match rootT pr ops 12 a with | some r => m ||| 2 ^ r | none => m)
      | .store _ (.tmp a) _ => (match rootT pr ops 12 a with | some r => m ||| 2 ^ r | none => m)
      | _ => m).testBit t = true := by
  split
  · split
    · exact bit_or _ _ _ (.inl h)
    · exact h
  · split
    · exact bit_or _ _ _ (.inl h)
    · exact h
  · exact h

theorem look_opnd {pr : List Nat} {ops : List Oper} {o : Oper} {t : Nat} (h : Operand.tmp t ∈ o.op.operands) : (lookM pr ops o).testBit t = true := by
  unfold lookM
  refine lookM_tail _ _ _ _ _ ?_
  have h1 := fold_bit o.op.operands.toList 0 t (.inr (by simpa using h))
  split
  · split
    · split
      · exact bit_or _ _ _ (.inl h1)
      · exact h1
    · exact h1
  · exact h1

theorem look_guard {pr : List Nat} {ops : List Oper} {o g : Oper} {j r : Nat} {w : Bool} (h : o.guard = some (j, w)) (hj : ops[j]? = some g) (hr : g.dst = some r) : (lookM pr ops o).testBit r = true := by
  unfold lookM
  refine lookM_tail _ _ _ _ _ ?_
  simp only [h, hj, hr]
  exact bit_or _ _ _ (.inr rfl)

theorem look_root {P : Program} {pr : List Nat} {ops : List Oper} {o : Oper} {r : Nat} (h : cls P pr ops o = .rdL r ∨ cls P pr ops o = .wrL r) : (lookM pr ops o).testBit r = true := by
  cases ho : o.op with
  | load t a =>
    cases a with
    | tmp a =>
      cases hr : rootT pr ops 12 a with
      | none => simp [cls, ho, hr] at h
      | some q =>
        simp [cls, ho, hr] at h
        subst h
        simp only [lookM, ho, hr]
        exact bit_or _ _ _ (.inr rfl)
    | _ => simp [cls, ho] at h
  | store t a y =>
    cases a with
    | tmp a =>
      cases hr : rootT pr ops 12 a with
      | none => simp [cls, ho, hr] at h
      | some q =>
        simp [cls, ho, hr] at h
        subst h
        simp only [lookM, ho, hr]
        exact bit_or _ _ _ (.inr rfl)
    | _ => simp [cls, ho] at h
  | next it b =>
    cases it with
    | tmp t =>
      simp [cls, ho] at h
      subst h
      exact look_opnd (by simp [Op.operands, ho])
    | _ => simp [cls, ho] at h
  | slice t y lo hi mx =>
    simp only [cls, ho] at h
    split at h <;> simp at h
  | call q =>
    simp only [cls, ho] at h
    split at h <;> simp at h
  | _ => simp [cls, ho] at h

/-! ### A region's trace and its order -/
structure Su (C : Cfg) (pr ms : List Nat) (ops : Array Oper) (l : List (Oper × Md)) (is : List OpI) (m : Nat) (A B : Nat → Env) (ss : Nat → St) : Prop where
  his : is = prep C.P pr ops.toList ops.toList []
  hl : l = flags is 0 is ops.toList
  ok : okAll 0 is ops.toList = true
  hm : m ≤ ops.size
  w : ∀ k, k ≤ m → Weak (A k) (B k)
  st : ∀ k p, k < m → l[k]? = some p → Step C (dstOf ops) pr ms p (B k) (ss k) (A (k + 1)) (ss (k + 1))
  e0 : EOK (A 0)

theorem Step.opF {C : Cfg} {dst : Nat → Option Nat} {pr ms : List Nat} {p : Oper × Md} {E E' : Env} {s s' : St} (h : Step C dst pr ms p E s E' s') : OpF (Wof p.2 E) pr ms p.1 E s E' s' := by
  cases h with
  | act _ hF _ => exact hF
  | skip _ => exact OpF.putS pr ms .un rfl fun _ _ _ _ h => by cases h

section
variable {C : Cfg} {pr ms : List Nat} {ops : Array Oper} {l : List (Oper × Md)} {is : List OpI} {m : Nat} {A B : Nat → Env} {ss : Nat → St}

theorem Su.isLen (S : Su C pr ms ops l is m A B ss) : is.length = ops.size := by rw [S.his, prep_length]; simp
theorem Su.lLen (S : Su C pr ms ops l is m A B ss) : l.length = ops.size := by rw [S.hl, flags_length _ _ _ _ (by rw [S.isLen]; simp)]; simp

/-- All that is told of an operation. -/
structure OpT (C : Cfg) (pr : List Nat) (ops : Array Oper) (is : List OpI) (k : Nat) (p : Oper × Md) (q : OpI) (x : Nat) : Prop where
  iq : is[k]? = some q
  op : ops[k]? = some p.1
  md : p.2 = .d q.k x
  kc : q.k = cls C.P pr ops.toList p.1
  dst : q.dst = p.1.dst
  lk : q.lk = lookM pr ops.toList p.1
  lt : ∀ j, q.bf.testBit j = true → j < k
  gd : ∀ j w, p.1.guard = some (j, w) → q.bf.testBit j = true
  on : ∀ e ∈ p.1.after, Region.binds .any e = true → q.bf.testBit e.on = true
  edge : ∀ j, q.bf.testBit j = true → ∃ e ∈ p.1.after, Region.binds .any e = true ∧ (j = e.on ∨ bef is j e.on)
  zero : x = 0 → ∀ j q', is[j]? = some q' → k ≠ j → q'.bf.testBit k = true ∨ q.bf.testBit j = true
  two : q.k = .call → ∀ j q', is[j]? = some q' → k ≠ j → q'.k = .hp → q'.bf.testBit k = true ∨ q.bf.testBit j = true ∨ 2 ≤ x

theorem Su.get (S : Su C pr ms ops l is m A B ss) {k : Nat} {p : Oper × Md} (hp : l[k]? = some p) : ∃ q x, OpT C pr ops is k p q x := by
  rw [S.hl] at hp
  obtain ⟨q, o, h1, h2, h3⟩ := flags_get _ _ _ _ _ _ hp
  rw [Nat.zero_add] at h3
  have h1' := h1
  rw [S.his] at h1'
  obtain ⟨o', g1, g2, g3, g4, g5⟩ := prep_get _ _ _ _ _ _ _ h1'
  rw [h2] at g1; cases g1
  obtain ⟨k1, ⟨o', k2, k3⟩, _⟩ := okAll_get S.ok k q h1
  rw [h2] at k2; cases k2
  rw [Nat.zero_add] at k1
  have hlt : ∀ j, q.bf.testBit j = true → j < k := by
    intro j hj
    rcases Nat.lt_or_ge j k with h | h
    · exact h
    · have : q.bf < 2 ^ j := Nat.lt_of_lt_of_le k1 (Nat.pow_le_pow_right (by omega) h)
      rw [Nat.testBit_lt_two_pow this] at hj; cases hj
  have bs : ∀ f : Cls → Bool, ∀ j q', is[j]? = some q' → k ≠ j → f q'.k = true → beside k q.bf f 0 is = false → q'.bf.testBit k = true ∨ q.bf.testBit j = true := by
    intro f j q' hq hne hf hb
    cases e1 : q'.bf.testBit k with
    | true => exact .inl rfl
    | false =>
      cases e2 : q.bf.testBit j with
      | true => exact .inr rfl
      | false => rw [beside_of (i := k) (bi := q.bf) (f := f) (j0 := 0) hq (by omega) e1 (by rw [Nat.zero_add]; exact e2) hf] at hb; cases hb
  refine ⟨q, _, h1, ?_, by rw [h3], by rw [h3]; exact g3, by rw [h3]; exact g4, by rw [h3]; exact g5, hlt, fun j w hg => k3 j w (by rw [h3] at hg; exact hg), fun e he hb => by rw [g2]; exact befM_of (by rw [h3] at he; exact he) hb, fun j hj => ?_, fun hx j q' hq hne => ?_, fun hc j q' hq hne hh => ?_⟩
  · rw [h3, ← Array.getElem?_toList]; exact h2
  · rw [g2] at hj
    obtain ⟨e, he, hb, hj⟩ := befM_bit hj
    rw [h3]
    refine ⟨e, he, hb, hj.imp id fun hj => ?_⟩
    simp only [List.nil_append, List.getD_eq_getElem?_getD] at hj
    have hj' : ((((is.take k).map fun x : OpI => x.bf)[e.on]?).getD 0).testBit j = true := by rw [S.his]; exact hj
    cases hx : ((is.take k).map fun x : OpI => x.bf)[e.on]? with
    | none => rw [hx] at hj'; simp at hj'
    | some b =>
      rw [hx] at hj'
      rw [List.getElem?_map] at hx
      cases hy : (is.take k)[e.on]? with
      | none => rw [hy] at hx; cases hx
      | some q' =>
        rw [hy] at hx
        simp only [Option.map_some, Option.some.injEq] at hx
        rw [List.getElem?_take] at hy
        split at hy
        · exact ⟨q', hy, by rw [hx]; exact hj'⟩
        · cases hy
  · cases hb : beside k q.bf (fun _ => true) 0 is with
    | false => exact bs _ j q' hq hne rfl hb
    | true =>
      rw [hb] at hx
      simp only [cond_true] at hx
      split at hx
      · cases hc : beside k q.bf isHp 0 is <;> rw [hc] at hx <;> cases hx
      · cases hx
  · cases hb : beside k q.bf isHp 0 is with
    | false => exact (bs _ j q' hq hne (by rw [hh]; rfl) hb).imp id .inl
    | true =>
      cases hb2 : beside k q.bf (fun _ => true) 0 is with
      | false => exact (bs _ j q' hq hne rfl hb2).imp id .inl
      | true => exact .inr (.inr (by simp [hc]))

theorem Su.F (S : Su C pr ms ops l is m A B ss) {k : Nat} {p : Oper × Md} (hk : k < m) (hp : l[k]? = some p) : OpF (Wof p.2 (B k)) pr ms p.1 (B k) (ss k) (A (k + 1)) (ss (k + 1)) := (S.st k p hk hp).opF

theorem Su.opAt (S : Su C pr ms ops l is m A B ss) {k : Nat} (hk : k < m) : ∃ p, l[k]? = some p := by
  have := S.lLen
  have := S.hm
  exact ⟨l[k]'(by omega), List.getElem?_eq_getElem _⟩

theorem Su.eokB (S : Su C pr ms ops l is m A B ss) : ∀ k, k ≤ m → EOK (B k)
  | 0, h => S.e0.weak (S.w 0 h)
  | k + 1, h => by
    obtain ⟨p, hp⟩ := S.opAt (k := k) (by omega)
    exact ((S.F (by omega) hp).eok (S.eokB k (by omega))).weak (S.w (k + 1) h)

theorem Dom_weak {E E' : Env} {s : St} (h : Weak E E') (x : HId) : Dom E' s x ↔ Dom E s x := by
  cases x with
  | inl i => exact Iff.rfl
  | inr v => simp only [Dom, h.nxt]

theorem Su.domS (S : Su C pr ms ops l is m A B ss) {k : Nat} (hk : k < m) {h : HId} (hd : Dom (B k) (ss k) h) : Dom (A (k + 1)) (ss (k + 1)) h := by
  obtain ⟨p, hp⟩ := S.opAt hk
  have hF := S.F hk hp
  cases h with
  | inl i => exact Nat.lt_of_lt_of_le hd hF.len
  | inr v => exact Nat.lt_of_lt_of_le hd hF.nxt

theorem Su.dom (S : Su C pr ms ops l is m A B ss) {h : HId} {j : Nat} : ∀ (d : Nat), j + d ≤ m → Dom (B j) (ss j) h → Dom (B (j + d)) (ss (j + d)) h
  | 0, _, hd => hd
  | d + 1, hk, hd => (Dom_weak (S.w (j + d + 1) hk) h).2 (S.domS (k := j + d) (by omega) (S.dom d (by omega) hd))

theorem Su.dom' (S : Su C pr ms ops l is m A B ss) {h : HId} {j k : Nat} (hjk : j ≤ k) (hk : k ≤ m) (hd : Dom (B j) (ss j) h) : Dom (B k) (ss k) h := by
  have := S.dom (j := j) (k - j) (by omega) hd
  rwa [show j + (k - j) = k by omega] at this

/-- Does an operation write there? -/
def Wr (l : List (Oper × Md)) (B : Nat → Env) (i : Nat) (h : HId) : Prop := ∃ p, l[i]? = some p ∧ Wof p.2 (B i) h

theorem Su.back (S : Su C pr ms ops l is m A B ss) {h : HId} {ab : AB} {j : Nat} : ∀ (d : Nat), j + d ≤ m → (∀ i, j ≤ i → i < j + d → ¬ Wr l B i h) → Dom (B j) (ss j) h → CR (B (j + d)) (ss (j + d)) h ab → CR (B j) (ss j) h ab
  | 0, _, _, _, c => c
  | d + 1, hk, hw, hd, c => by
    obtain ⟨p, hp⟩ := S.opAt (k := j + d) (by omega)
    rcases (S.F (by omega) hp).back h ab (c.weak (S.w _ hk)) with x | x | x
    · exact absurd ⟨p, hp, x⟩ (hw (j + d) (by omega) (by omega))
    · exact absurd (S.dom d (by omega) hd) x.1
    · exact S.back d (by omega) (fun i h1 h2 => hw i h1 (by omega)) hd x
theorem Su.back' (S : Su C pr ms ops l is m A B ss) {h : HId} {ab : AB} {j k : Nat} (hjk : j ≤ k) (hk : k ≤ m) (hw : ∀ i, j ≤ i → i < k → ¬ Wr l B i h) (hd : Dom (B j) (ss j) h) (c : CR (B k) (ss k) h ab) : CR (B j) (ss j) h ab := by
  have := S.back (j := j) (ab := ab) (k - j) (by omega) (fun i h1 h2 => hw i h1 (by omega)) hd
  rw [show j + (k - j) = k by omega] at this
  exact this c

theorem Wof_inl {md : Md} {E E' : Env} {i j : Nat} (h : Wof md E (.inl i)) : Wof md E' (.inl j) := by
  cases md with
  | s => trivial
  | d k x =>
    cases k with
    | wr => exact ⟨j, rfl⟩
    | call => exact ⟨h.1, j, rfl⟩
    | wrL r => obtain ⟨v, e, _⟩ := h; cases e
    | _ => exact h.elim

theorem Su.fix (S : Su C pr ms ops l is m A B ss) {x : Nat} {j : Nat} : ∀ (d : Nat), j + d ≤ m → (∀ i, j ≤ i → i < j + d → ¬ Wr l B i (.inl x)) → x < (ss j).length → (ss (j + d))[x]? = (ss j)[x]?
  | 0, _, _, _ => rfl
  | d + 1, hk, hw, hx => by
    obtain ⟨p, hp⟩ := S.opAt (k := j + d) (by omega)
    have hd : x < (ss (j + d)).length := S.dom (h := .inl x) d (by omega) hx
    have := (S.F (by omega) hp).sfix (fun i hi => hw (j + d) (by omega) (by omega) ⟨p, hp, Wof_inl hi⟩) x hd
    rw [show j + (d + 1) = j + d + 1 by omega, this, S.fix d (by omega) (fun i h1 h2 => hw i h1 (by omega)) hx]

theorem Su.ent (S : Su C pr ms ops l is m A B ss) {ψ : Ps} {x : Value} {t : Nat} {j : Nat} : ∀ (d : Nat), j + d ≤ m → (∀ i p, j ≤ i → i < j + d → l[i]? = some p → p.1.dst ≠ some t) → EntR C ψ ((B j).get t) x → EntR C ψ ((B (j + d)).get t) x
  | 0, _, _, r => r
  | d + 1, hk, hw, r => by
    obtain ⟨p, hp⟩ := S.opAt (k := j + d) (by omega)
    have := (S.F (by omega) hp).ent t (hw _ p (by omega) (by omega) hp) C ψ x (S.ent d (by omega) (fun i p h1 h2 => hw i p h1 (by omega)) r)
    rcases (S.w _ hk).get t with e | e
    · rw [e]; exact this
    · rw [e]; trivial

theorem ver_weak {E E' : Env} (h : Weak E E') {t v : Nat} (e : (E'.get t).ver = some v) : (E.get t).ver = some v := by
  rcases h.get t with e' | e'
  · rw [← e']; exact e
  · rw [e'] at e; cases e

theorem OpF.ver {W : HId → Prop} {o : Oper} {E E' : Env} {s s' : St} (hF : OpF W pr ms o E s E' s') {t v : Nat} (e : (E'.get t).ver = some v) : (E.get t).ver = some v ∨ (E.nxt ≤ v ∧ o.dst = some t) := by
  cases he : E'.get t with
  | loc v' n cs =>
    rw [he] at e
    simp only [Ent.ver, Option.some.injEq] at e
    subst e
    exact (hF.verL t _ n cs he).imp (fun ⟨c, h⟩ => by rw [h]; rfl) id
  | it v' s p =>
    rw [he] at e
    simp only [Ent.ver, Option.some.injEq] at e
    subst e
    exact (hF.verI t _ s p he).imp (fun ⟨c, h⟩ => by rw [h]; rfl) id
  | _ => rw [he] at e; cases e

theorem Su.ver (S : Su C pr ms ops l is m A B ss) {t v j : Nat} : ∀ (d : Nat), j + d ≤ m → v < (B j).nxt → ((B (j + d)).get t).ver = some v → ((B j).get t).ver = some v
  | 0, _, _, e => e
  | d + 1, hk, hv, e => by
    obtain ⟨p, hp⟩ := S.opAt (k := j + d) (by omega)
    have hd : v < (B (j + d)).nxt := S.dom (h := .inr v) d (by omega) hv
    rcases (S.F (by omega) hp).ver (ver_weak (S.w _ hk) e) with h | h
    · exact S.ver d (by omega) hv h
    · omega
theorem Su.ver' (S : Su C pr ms ops l is m A B ss) {t v j k : Nat} (hjk : j ≤ k) (hk : k ≤ m) (hv : v < (B j).nxt) (e : ((B k).get t).ver = some v) : ((B j).get t).ver = some v :=
  S.ver (j := j) (k - j) (by omega) hv (by rwa [show j + (k - j) = k by omega])
end

/-! ### What may be turned round -/
theorem clash_comm (k k' : Cls) : clash k k' = clash k' k := by
  cases k <;> cases k' <;> simp only [clash] <;> (rw [Bool.eq_iff_iff]; simp only [Nat.beq_eq]; exact eq_comm)

theorem WD_clash {k k' : Cls} {x x' : Nat} {E E' : Env} (c : clash k k' = false) (h2 : k = .call → k' = .hp → 2 ≤ x) (hv : ∀ r q v, (E.get r).ver = some v → (E'.get q).ver = some v → r = q) :
    ∀ h, Wof (.d k x) E h → ¬ Dof (.d k' x') E' h := by
  intro h hw hd
  cases k <;> cases k' <;> first
    | exact hw.elim
    | exact hd.elim
    | (simp [clash] at c; done)
    | (have h3 := h2 rfl rfl; have h4 := hw.1; omega)
    | (obtain ⟨i, rfl⟩ := hw; obtain ⟨v, e, _⟩ := hd; cases e; done)
    | (obtain ⟨_, i, rfl⟩ := hw; obtain ⟨v, e, _⟩ := hd; cases e; done)
    | (obtain ⟨v, rfl, _⟩ := hw; obtain ⟨i, e⟩ := hd; cases e; done)
    | (obtain ⟨v, rfl, e1⟩ := hw
       obtain ⟨v', e, e2⟩ := hd
       cases e
       have := hv _ _ _ e1 e2
       subst this
       simp [clash] at c)

theorem NewOp_cls {P : Program} {pr : List Nat} {ops : List Oper} {o : Oper} (h : NewOp o) : cls P pr ops o = .hp ∨ cls P pr ops o = .call ∨ cls P pr ops o = .wr := by
  unfold NewOp at h
  cases ho : o.op <;> rw [ho] at h <;> simp only at h
  case call q =>
    split at h
    · rename_i hq; exact .inr (.inl (by simp [cls, ho, hq]))
    · rename_i hq; exact .inr (.inr (by simp [cls, ho, hq]))
    · exact h.elim
  all_goals exact .inl (by simp [cls, ho])

theorem Dof_inl {k : Cls} {x : Nat} {E : Env} (h : k = .hp ∨ k = .call ∨ k = .wr) (i : Nat) : Dof (.d k x) E (.inl i) := by
  rcases h with rfl | rfl | rfl <;> exact ⟨i, rfl⟩

section
variable {C : Cfg} {pr ms : List Nat} {ops : Array Oper} {l : List (Oper × Md)} {is : List OpI} {m : Nat} {A B : Nat → Env} {ss : Nat → St}

abbrev NewAt (A B : Nat → Env) (ss : Nat → St) (i : Nat) (h : HId) : Prop := New (B i) (ss i) (A (i + 1)) (ss (i + 1)) h

/-- Two operations that are not bound to each other. -/
structure Free (pr ms : List Nat) (ops : Array Oper) (l : List (Oper × Md)) (A B : Nat → Env) (ss : Nat → St) (i k : Nat) (p p' : Oper × Md) : Prop where
  d1 : ∀ t, p.1.dst = some t → (lookM pr ops.toList p'.1).testBit t = false
  d2 : ∀ t, p'.1.dst = some t → (lookM pr ops.toList p.1).testBit t = false
  d3 : ∀ t, p.1.dst = some t → p'.1.dst ≠ some t
  w1 : ∀ h, Wof p.2 (B i) h → ¬ Dof p'.2 (B k) h
  w2 : ∀ h, Wof p'.2 (B k) h → ¬ Dof p.2 (B i) h
  n1 : ∀ h, NewAt A B ss i h → ¬ Wof p'.2 (B k) h
  n2 : ∀ h, NewAt A B ss k h → ¬ Wof p.2 (B i) h

theorem Su.conf (S : Su C pr ms ops l is m A B ss) {i k : Nat} (hik : i < k) (hk : k < m) {p p' : Oper × Md} (hp : l[i]? = some p) (hp' : l[k]? = some p') (hn : ¬ bef is i k) : Free pr ms ops l A B ss i k p p' := by
  obtain ⟨q, x, T⟩ := S.get hp
  obtain ⟨q', x', T'⟩ := S.get hp'
  have hap : Apart q q' := by
    obtain ⟨_, _, h⟩ := okAll_get S.ok i q T.iq
    rcases h k q' hik T'.iq with h | h
    · rw [Nat.zero_add] at h; exact absurd ⟨q', T'.iq, h⟩ hn
    · exact h
  obtain ⟨c, e1, e2, e3⟩ := hap
  rw [T.dst, T'.lk] at e1
  rw [T'.dst, T.lk] at e2
  rw [T.dst, T'.dst] at e3
  have hv : ∀ r t v, ((B i).get r).ver = some v → ((B k).get t).ver = some v → r = t := fun r t v h1 h2 =>
    (S.eokB i (by omega)).uniq r t v h1 (S.ver' (by omega) (by omega) ((S.eokB i (by omega)).lt r v h1) h2)
  have w1 : ∀ h, Wof p.2 (B i) h → ¬ Dof p'.2 (B k) h := by
    rw [T.md, T'.md]
    refine WD_clash c (fun h1 h2 => ?_) hv
    rcases T.two h1 k q' T'.iq (by omega) h2 with h | h | h
    · exact absurd ⟨q', T'.iq, h⟩ hn
    · have := T.lt k h; omega
    · exact h
  have w2 : ∀ h, Wof p'.2 (B k) h → ¬ Dof p.2 (B i) h := by
    rw [T.md, T'.md]
    refine WD_clash (by rw [clash_comm]; exact c) (fun h1 h2 => ?_) fun r t v h1 h2 => (hv t r v h2 h1).symm
    rcases T'.two h1 i q T.iq (by omega) h2 with h | h | h
    · have := T.lt k h; omega
    · exact absurd ⟨q', T'.iq, h⟩ hn
    · exact h
  have d1 : ∀ t, p.1.dst = some t → (lookM pr ops.toList p'.1).testBit t = false := fun t h => by rw [h] at e1; exact e1
  refine ⟨d1, fun t h => by rw [h] at e2; exact e2, fun t h h' => ?_, w1, w2, fun h hnew hw => ?_, fun h hnew hw => ?_⟩
  · rw [h, h'] at e3
    simp only [dstEq, Nat.beq_refl] at e3
    cases e3
  · cases h with
    | inl y =>
      have hF := S.F (by omega) hp
      rcases hF.grow with hg | hg
      · have h1 := hnew.1; have h2 := hnew.2
        simp only [Dom] at h1 h2
        omega
      · refine w2 _ hw ?_
        rw [T.md, T.kc]
        exact Dof_inl (NewOp_cls hg) y
    | inr v =>
      rw [T'.md] at hw
      cases hq : q'.k <;> rw [hq] at hw <;> first | exact hw.elim | skip
      · obtain ⟨y, e⟩ := hw; cases e
      · obtain ⟨_, y, e⟩ := hw; cases e
      · rename_i r
        obtain ⟨v', e, hv'⟩ := hw
        cases e
        have hlt : v < (B (i + 1)).nxt := by rw [(S.w (i + 1) (by omega)).nxt]; exact hnew.2
        have h1 := ver_weak (S.w (i + 1) (by omega)) (S.ver' (by omega) (by omega) hlt hv')
        rcases (S.F (by omega) hp).ver h1 with h2 | ⟨_, h2⟩
        · exact hnew.1 ((S.eokB i (by omega)).lt r v h2)
        · have h3 := d1 r h2
          have h4 := look_root (P := C.P) (pr := pr) (ops := ops.toList) (o := p'.1) (r := r) (.inr (by rw [← T'.kc, hq]))
          rw [h3] at h4; cases h4
  · cases h with
    | inl y =>
      have hF := S.F hk hp'
      rcases hF.grow with hg | hg
      · have h1 := hnew.1; have h2 := hnew.2
        simp only [Dom] at h1 h2
        omega
      · refine w1 _ hw ?_
        rw [T'.md, T'.kc]
        exact Dof_inl (NewOp_cls hg) y
    | inr v =>
      rw [T.md] at hw
      cases hq : q.k <;> rw [hq] at hw <;> first | exact hw.elim | skip
      · obtain ⟨y, e⟩ := hw; cases e
      · obtain ⟨_, y, e⟩ := hw; cases e
      · rename_i r
        obtain ⟨v', e, hv'⟩ := hw
        cases e
        have : Dom (B i) (ss i) (.inr v) := (S.eokB i (by omega)).lt r v hv'
        exact hnew.1 (S.dom' (by omega) (by omega) this)

/-! ### The guard, the operation -/
theorem wanted_of' {ops : Array Oper} {o : Oper} {E : Env} {ψ : Ps} {a : Act} (R : ∀ j w r, o.guard = some (j, w) → dstOf ops j = some r → EntR C ψ (E.get r) (a.tmps.getD r undef)) (h : GW (dstOf ops) E o) : Region.wanted o (yielded ops a.tmps) = true := by
  unfold Region.wanted
  rcases h with h | ⟨j, w, r, h1, h2, h3⟩
  · rw [h]
  · have hr := R j w r h1 h2
    rw [h1]
    rw [dstOf_eq] at h2
    rw [h3] at hr
    have : a.tmps.getD r undef = .bool w := by generalize a.tmps.getD r undef = x at hr; cases hr; rfl
    simp [yielded, h2, tmps_get a r w this]
theorem unwanted_of' {ops : Array Oper} {o : Oper} {E : Env} {ψ : Ps} {a : Act} (R : ∀ j w r, o.guard = some (j, w) → dstOf ops j = some r → EntR C ψ (E.get r) (a.tmps.getD r undef)) (h : GU (dstOf ops) E o) : Region.wanted o (yielded ops a.tmps) = false := by
  unfold Region.wanted
  obtain ⟨j, w, r, h1, h2, h3⟩ := h
  have hr := R j w r h1 h2
  rw [h1]
  rw [dstOf_eq] at h2
  rcases h3 with ⟨b, h3, hb⟩ | h3
  · rw [h3] at hr
    have : a.tmps.getD r undef = .bool b := by generalize a.tmps.getD r undef = x at hr; cases hr; rfl
    simp [yielded, h2, tmps_get a r b this, hb]
  · rw [h3] at hr
    have hr : a.tmps.getD r undef = undef := hr
    have : a.tmps[r]? = none ∨ a.tmps[r]? = some undef := by
      rw [Array.getD_eq_getD_getElem?] at hr
      cases e : a.tmps[r]? with
      | none => exact .inl rfl
      | some v => rw [e] at hr; simp only [Option.getD_some] at hr; rw [hr]; exact .inr rfl
    have hy : yielded ops a.tmps j = none := by
      unfold yielded
      rw [h2]
      rcases this with e | e <;> simp [e, undef]
    simp [hy]

theorem step_exec {QQ : Exit → Act → World → Prop} {p : Oper × Md} {E E' : Env} {s s' : St} (st : Step C (dstOf ops) pr ms p E s E' s') {ψ : Ps} {Q : Kn} {a : Act} {w : World} (pre : Pre C p.1 (Dof p.2 E) E s ψ Q a w) (room : Room E s E' s' ψ)
    (hg : ∀ j w r, p.1.guard = some (j, w) → dstOf ops j = some r → EntR C ψ (E.get r) (a.tmps.getD r undef)) {i : Nat} (hi : ops[i]? = some p.1) {K : Act → World → Prop}
    (h : ∀ ψ' Q' v w', Post C (Dof p.2 E) (Wof p.2 E) E s E' s' ψ Q w ψ' Q' w' → (∀ d, p.1.dst = some d → EntR C ψ' (E'.get d) v) → K (a.put p.1.dst v) w') : wpOp C.P ops QQ i K a w := by
  unfold wpOp
  simp only [hi]
  cases st with
  | act g hF hO =>
    rw [if_pos (wanted_of' hg g)]
    exact .inl (hO ψ Q a w K QQ pre room h)
  | skip g =>
    rw [if_neg (by rw [unwanted_of' hg g]; simp)]
    refine h ψ Q undef w ⟨pre.sim, .refl _ _ _, fun h cb e => .inl e, fun h ab cb c hw e => ?_, fun h ab cb e q _ _ => q⟩ fun d hd => ?_
    · rcases hw with hw | ⟨n1, n2⟩
      · exact pre.know h ab cb (Wof_Dof _ _ _ hw) (c.putO rfl) e
      · exact absurd (by cases h <;> simpa [Dom] using n2) n1
    · rw [Env.get_putO, if_pos hd]; rfl

/-! ### What holds in the middle of a region -/
structure Inv (C : Cfg) (f : Fr) (l : List (Oper × Md)) (is : List OpI) (m : Nat) (A B : Nat → Env) (ss : Nat → St) (ψi : Ps) (L : Nat → Prop) (a : Act) (w : World) (ψ : Ps) (Q : Kn) : Prop where
  sim : Sim C ψ Q w
  blks : Blks ψ w
  glob : Glob C ψ
  reg : ∀ t j, j ≤ m → (∀ i p, i < j → l[i]? = some p → ¬ L i → p.1.dst ≠ some t) → (∀ i p, j ≤ i → l[i]? = some p → L i → p.1.dst ≠ some t) → EntR C ψ ((B j).get t) (a.tmps.getD t undef)
  know : ∀ h j ab cb, j ≤ m → (∀ i, i < j → ¬ L i → ¬ Wr l B i h) → (∀ i, j ≤ i → L i → ¬ Wr l B i h) → CR (B j) (ss j) h ab → ψ h = some cb → Q h ab
  free : ∀ i h, i < m → ¬ L i → NewAt A B ss i h → ψ h = none
  news : ∀ h cb, ψ h = some cb → ψi h = some cb ∨ (¬ Dom (B 0) (ss 0) h ∧ Dom (B m) (ss m) h)
  ext : Ext f.ψ0 (CS f.s0) f.w0 ψ Q w
  tsz : a.tmps.size = f.nt
  defs : a.defers = []
  sub : ∀ i, L i → i < m
  down : ∀ i k, L k → bef is i k → L i

theorem CR_fun {E : Env} (hE : EOK E) {s : St} {h : HId} {ab ab' : AB} (c : CR E s h ab) (c' : CR E s h ab') : ab = ab' := by
  cases h with
  | inl i =>
    have h1 : stAB s i = some ab := c
    have h2 : stAB s i = some ab' := c'
    rw [h1] at h2; exact Option.some.inj h2
  | inr v =>
    rcases c with ⟨t, n, cs, e, rfl⟩ | ⟨t, l, p, e, rfl⟩ <;> rcases c' with ⟨t', n', cs', e', rfl⟩ | ⟨t', l', p', e', rfl⟩ <;>
      (have := hE.uniq t t' v (by rw [e]; rfl) (by rw [e']; rfl); subst this; rw [e] at e'; cases e'; try rfl)

theorem Su.born (S : Su C pr ms ops l is m A B ss) {h : HId} {j : Nat} : ∀ (d : Nat), j + d ≤ m → ¬ Dom (B j) (ss j) h → Dom (B (j + d)) (ss (j + d)) h → ∃ k, j ≤ k ∧ k < j + d ∧ NewAt A B ss k h
  | 0, _, hn, hd => absurd hd hn
  | d + 1, hk, hn, hd => by
    have hd' : Dom (A (j + d + 1)) (ss (j + d + 1)) h := (Dom_weak (S.w _ hk) h).1 hd
    by_cases e : Dom (B (j + d)) (ss (j + d)) h
    · obtain ⟨k, h1, h2, h3⟩ := S.born d (by omega) hn e
      exact ⟨k, h1, by omega, h3⟩
    · exact ⟨j + d, by omega, by omega, e, hd'⟩

theorem ver_CR {E : Env} {s : St} {t v : Nat} (h : (E.get t).ver = some v) : ∃ ab, CR E s (.inr v) ab := by
  cases he : E.get t with
  | loc v' n cs =>
    rw [he] at h
    simp only [Ent.ver, Option.some.injEq] at h
    subst h
    exact ⟨_, .inl ⟨t, n, cs, he, rfl⟩⟩
  | it v' x p =>
    rw [he] at h
    simp only [Ent.ver, Option.some.injEq] at h
    subst h
    exact ⟨_, .inr ⟨t, x, p, he, rfl⟩⟩
  | _ => rw [he] at h; cases h

variable {f : Fr} {ψi : Ps} {L : Nat → Prop} {a : Act} {w : World} {ψ : Ps} {Q : Kn}

/-- What an operation whose turn it may be can lean on. -/
theorem Inv.pre (S : Su C pr ms ops l is m A B ss) (I : Inv C f l is m A B ss ψi L a w ψ Q) {i : Nat} {p : Oper × Md} (hi : i ≤ m) (_hp : l[i]? = some p) (hL : ¬ L i) (_hpre : ∀ j, bef is j i → L j)
    (hc1 : ∀ k p', k < i → l[k]? = some p' → ¬ L k → Free pr ms ops l A B ss k i p' p) (hc2 : ∀ k p', i < k → l[k]? = some p' → L k → Free pr ms ops l A B ss i k p p') :
    Pre C p.1 (Dof p.2 (B i)) (B i) (ss i) ψ Q a w ∧ ∀ j w r, p.1.guard = some (j, w) → dstOf ops j = some r → EntR C ψ ((B i).get r) (a.tmps.getD r undef) := by
  have reg : ∀ t, (lookM pr ops.toList p.1).testBit t = true → EntR C ψ ((B i).get t) (a.tmps.getD t undef) := by
    intro t ht
    refine I.reg t i hi (fun k p' hk hp' hl e => ?_) (fun k p' hk hp' hl e => ?_)
    · have := (hc1 k p' hk hp' hl).d1 t e
      rw [ht] at this; cases this
    · rcases Nat.eq_or_lt_of_le hk with h | h
      · subst h; exact hL hl
      · have := (hc2 k p' h hp' hl).d2 t e
        rw [ht] at this; cases this
  refine ⟨⟨I.sim, I.blks, I.glob, S.eokB i hi, fun h ab cb hD c e => I.know h i ab cb hi (fun k hk hl => ?_) (fun k hk hl => ?_) c e, fun t ht => reg t (look_opnd ht)⟩, fun j w r hg hr => reg r ?_⟩
  · rintro ⟨p', hp', hw⟩
    exact (hc1 k p' hk hp' hl).w1 h hw hD
  · rintro ⟨p', hp', hw⟩
    rcases Nat.eq_or_lt_of_le hk with e | e
    · subst e; exact hL hl
    · exact (hc2 k p' e hp' hl).w2 h hw hD
  · unfold dstOf at hr
    split at hr
    · rename_i o ho; exact look_guard hg ho hr
    · cases hr

theorem Inv.step (S : Su C pr ms ops l is m A B ss) (I : Inv C f l is m A B ss ψi L a w ψ Q) {i : Nat} {p : Oper × Md} (hi : i < m) (hp : l[i]? = some p) (hL : ¬ L i) (hpre : ∀ j, bef is j i → L j)
    (hd : ∀ x, p.1.dst = some x → x < f.nt) {QQ : Exit → Act → World → Prop} {K : Act → World → Prop}
    (h : ∀ a' w' ψ' Q', Inv C f l is m A B ss ψi (fun j => L j ∨ j = i) a' w' ψ' Q' → K a' w') : wpOp C.P ops QQ i K a w := by
  have hc1 : ∀ k p', k < i → l[k]? = some p' → ¬ L k → Free pr ms ops l A B ss k i p' p := fun k p' hk hp' hl => S.conf hk hi hp' hp fun hb => hl (hpre k hb)
  have hc2 : ∀ k p', i < k → l[k]? = some p' → L k → Free pr ms ops l A B ss i k p p' := fun k p' hk hp' hl => S.conf hk (I.sub k hl) hp hp' fun hb => hL (I.down i k hl hb)
  obtain ⟨pre, hg⟩ := I.pre S (Nat.le_of_lt hi) hp hL hpre hc1 hc2
  obtain ⟨q, x, T⟩ := S.get hp
  refine step_exec (S.st i p hi hp) pre (fun k hk => I.free i k hi hL hk) hg T.op fun ψ' Q' v w' P he => h _ _ ψ' Q' ?_
  have hfree : ∀ k h, k < m → ¬ (L k ∨ k = i) → NewAt A B ss k h → ψ' h = none := by
    intro k h hk hl hnew
    cases e : ψ' h with
    | none => rfl
    | some cb =>
      rcases P.news h cb e with e | e
      · rw [I.free k h hk (fun x => hl (.inl x)) hnew] at e; cases e
      · rcases Nat.lt_trichotomy i k with hik | hik | hik
        · exact absurd (S.dom' (j := i + 1) (by omega) (by omega) ((Dom_weak (S.w (i + 1) (by omega)) h).2 e.2)) hnew.1
        · exact absurd (.inr hik.symm) hl
        · exact absurd (S.dom' (j := k + 1) (by omega) (by omega) ((Dom_weak (S.w (k + 1) (by omega)) h).2 hnew.2)) e.1
  refine ⟨P.sim, P.ext.blks I.blks, P.ext.glob I.glob, fun t j hj c1 c2 => ?_, fun h j ab cb hj c1 c2 c e => ?_, hfree, fun h cb e => ?_, I.ext.trans P.ext, by rw [put_tmps_size]; exact I.tsz, by rw [put_defers]; exact I.defs, fun k hk => ?_, fun j k hk hb => ?_⟩
  · rw [put_get fun x hx => by rw [I.tsz]; exact hd x hx]
    by_cases hdt : p.1.dst = some t
    · rw [if_pos hdt]
      have hij : i < j := by
        rcases Nat.lt_or_ge i j with h | h
        · exact h
        · exact absurd hdt (c2 i p h hp (.inr rfl))
      have h1 : EntR C ψ' ((B (i + 1)).get t) v := by
        rcases (S.w (i + 1) (by omega)).get t with e | e
        · rw [e]; exact he t hdt
        · rw [e]; trivial
      have := S.ent (j := i + 1) (ψ := ψ') (x := v) (t := t) (j - (i + 1)) (by omega) (fun k p' h1 h2 hp' => ?_) h1
      · rwa [show i + 1 + (j - (i + 1)) = j by omega] at this
      · by_cases hl : L k
        · exact (hc2 k p' (by omega) hp' hl).d3 t hdt
        · exact c1 k p' (by omega) hp' (by rintro (h | h); exact hl h; omega)
    · rw [if_neg hdt]
      refine (I.reg t j hj (fun k p' hk hp' hl => ?_) (fun k p' hk hp' hl => c2 k p' hk hp' (.inl hl))).mono P.ext.mono
      by_cases e : k = i
      · subst e; rw [hp] at hp'; cases hp'; exact hdt
      · exact c1 k p' hk hp' (by rintro (h | h); exact hl h; exact e h)
  · by_cases hw : Wof p.2 (B i) h ∨ NewAt A B ss i h
    · have hij : i < j := by
        rcases Nat.lt_or_ge i j with h' | h'
        · exact h'
        · rcases hw with hw | hw
          · exact absurd ⟨p, hp, hw⟩ (c2 i h' (.inr rfl))
          · exact absurd (S.dom' h' (by omega) (c.dom (S.eokB j hj))) hw.1
      have hnw : ∀ k, i + 1 ≤ k → k < j → ¬ Wr l B k h := by
        rintro k h1 h2 ⟨p', hp', hw'⟩
        by_cases hl : L k
        · rcases hw with hw | hw
          · exact (hc2 k p' (by omega) hp' hl).w2 h hw' (Wof_Dof _ _ _ hw)
          · exact (hc2 k p' (by omega) hp' hl).n1 h hw hw'
        · exact c1 k (by omega) (by rintro (h | h); exact hl h; omega) ⟨p', hp', hw'⟩
      have hdom : Dom (B (i + 1)) (ss (i + 1)) h := by
        rcases hw with hw | hw
        · by_cases e0 : Dom (B (i + 1)) (ss (i + 1)) h
          · exact e0
          · obtain ⟨k, k1, k2, k3⟩ := S.born (j := i + 1) (j - (i + 1)) (by omega) e0 (by rw [show i + 1 + (j - (i + 1)) = j by omega]; exact c.dom (S.eokB j hj))
            obtain ⟨p', hp'⟩ := S.opAt (k := k) (by omega)
            by_cases hl : L k
            · exact absurd hw ((hc2 k p' (by omega) hp' hl).n2 h k3)
            · have := hfree k h (by omega) (by rintro (h | h); exact hl h; omega) k3
              rw [this] at e; cases e
        · exact (Dom_weak (S.w (i + 1) (by omega)) h).2 hw.2
      exact P.p1 h ab cb ((S.back' (by omega) hj hnw hdom c).weak (S.w (i + 1) (by omega))) hw e
    · have e0 : ψ h = some cb := by
        rcases P.news h cb e with e | e
        · exact e
        · exact absurd (.inr e) hw
      have hnwi : ¬ Wr l B i h := by
        rintro ⟨p', hp', hw'⟩
        rw [hp] at hp'; cases hp'
        exact hw (.inl hw')
      have hQ := I.know h j ab cb hj (fun k hk hl => by
        by_cases e : k = i
        · subst e; exact hnwi
        · exact c1 k hk (by rintro (h | h); exact hl h; exact e h)) (fun k hk hl => c2 k hk (.inl hl)) c e0
      refine P.p2 h ab cb e0 hQ (fun x => hw (.inl x)) fun hD hDom => ?_
      rcases Nat.lt_or_ge j i with hji | hji
      · have hnw : ∀ k, j ≤ k → k < i → ¬ Wr l B k h := by
          rintro k h1 h2 ⟨p', hp', hw'⟩
          by_cases hl : L k
          · exact c2 k h1 (.inl hl) ⟨p', hp', hw'⟩
          · exact (hc1 k p' h2 hp' hl).w1 h hw' hD
        cases h with
        | inl y =>
          have c' : stAB (ss j) y = some ab := c
          have := S.fix (x := y) (j := j) (i - j) (by omega) (fun k h1 h2 => hnw k h1 (by omega)) (stAB_lt c')
          rw [show j + (i - j) = i by omega] at this
          show stAB (ss i) y = some ab
          unfold stAB at c' ⊢
          rw [this]; exact c'
        | inr v =>
          have hver : ∃ r, ((B i).get r).ver = some v := by
            rw [T.md] at hD
            cases hq : q.k <;> rw [hq] at hD <;> first | exact hD.elim | (obtain ⟨y, e⟩ := hD; cases e; done) | (obtain ⟨v', e, hv⟩ := hD; cases e; exact ⟨_, hv⟩)
          obtain ⟨r, hr⟩ := hver
          obtain ⟨ab', c'⟩ := ver_CR (s := ss i) hr
          have c2' := S.back' (Nat.le_of_lt hji) (Nat.le_of_lt hi) hnw (c.dom (S.eokB j hj)) c'
          rw [CR_fun (S.eokB j hj) c c2']
          exact c'
      · refine S.back' hji hj (fun k h1 h2 => ?_) hDom c
        rintro ⟨p', hp', hw'⟩
        rcases Nat.eq_or_lt_of_le h1 with e | e
        · subst e; exact hnwi ⟨p', hp', hw'⟩
        · by_cases hl : L k
          · exact (hc2 k p' e hp' hl).w2 h hw' hD
          · exact c1 k h2 (by rintro (h | h); exact hl h; omega) ⟨p', hp', hw'⟩
  · rcases P.news h cb e with e | e
    · exact I.news h cb e
    · exact .inr ⟨fun x => e.1 (S.dom' (Nat.zero_le _) (by omega) x), S.dom' (j := i + 1) (by omega) (Nat.le_refl _) ((Dom_weak (S.w (i + 1) (by omega)) h).2 e.2)⟩
  · rcases hk with hk | hk
    · exact I.sub k hk
    · omega
  · rcases hk with hk | hk
    · exact .inl (I.down j k hk hb)
    · subst hk; exact .inl (hpre j hb)
end

/-! ### Any order -/
theorem cnt_set : ∀ (l : List Bool) (i : Nat), l[i]? = some false → (l.set i true).count false + 1 = l.count false
  | [], i, h => by simp at h
  | b :: l, 0, h => by
    simp only [List.getElem?_cons_zero, Option.some.injEq] at h
    subst h
    simp
  | b :: l, i + 1, h => by
    simp only [List.getElem?_cons_succ] at h
    have := cnt_set l i h
    simp only [List.set_cons_succ, List.count_cons]
    omega

def Lof (listed : Array Bool) (i : Nat) : Prop := listed[i]? = some true

theorem Lof_set {listed : Array Bool} {i : Nat} (hi : i < listed.size) (j : Nat) : Lof (listed.setIfInBounds i true) j ↔ Lof listed j ∨ j = i := by
  unfold Lof
  by_cases e : i = j
  · subst e
    rw [Array.getElem?_setIfInBounds_self_of_lt hi]
    simp
  · rw [Array.getElem?_setIfInBounds_ne e]
    constructor
    · exact .inl
    · rintro (h | h)
      · exact h
      · exact absurd h.symm e

theorem not_Lof {listed : Array Bool} {i : Nat} (hi : i < listed.size) (h : ¬ Lof listed i) : listed[i]? = some false := by
  unfold Lof at h
  rw [Array.getElem?_eq_getElem hi] at h ⊢
  cases hb : listed[i] with
  | false => rfl
  | true => rw [hb] at h; exact absurd rfl h

theorem ready_mem {ops : Array Oper} {listed : Array Bool} {i : Nat} (h : i ∈ Region.ready .any ops listed) : i < ops.size ∧ ¬ Lof listed i ∧ ∀ o, ops[i]? = some o → ∀ e ∈ o.after, Region.binds .any e = true → Lof listed e.on := by
  unfold Region.ready at h
  obtain ⟨h1, h2⟩ := List.mem_filter.1 h
  rw [List.mem_range] at h1
  simp only [Bool.and_eq_true, Bool.not_eq_true'] at h2
  refine ⟨h1, fun hl => ?_, fun o ho e he hb => ?_⟩
  · unfold Lof at hl
    have := h2.1
    rw [Array.getD_eq_getD_getElem?, hl] at this
    cases this
  · have h3 := h2.2
    rw [ho] at h3
    simp only [Option.map_some, Option.getD_some] at h3
    rw [Array.all_eq_true'] at h3
    have := h3 e he
    rw [hb] at this
    simp only [Bool.not_true, Bool.false_or] at this
    unfold Lof
    rw [Array.getD_eq_getD_getElem?] at this
    cases hx : listed[e.on]? with
    | none => rw [hx] at this; cases this
    | some b => rw [hx] at this; simp only [Option.getD_some] at this; rw [this]

theorem mem_ready {ops : Array Oper} {listed : Array Bool} {i : Nat} {o : Oper} (ho : ops[i]? = some o) (hl : listed[i]? = some false) (h : ∀ e ∈ o.after, Region.binds .any e = true → Lof listed e.on) : i ∈ Region.ready .any ops listed := by
  unfold Region.ready
  refine List.mem_filter.2 ⟨List.mem_range.2 (lt_of_get ho), ?_⟩
  simp only [Bool.and_eq_true, Bool.not_eq_true']
  refine ⟨by rw [Array.getD_eq_getD_getElem?, hl]; rfl, ?_⟩
  rw [ho]
  simp only [Option.map_some, Option.getD_some]
  rw [Array.all_eq_true']
  intro e he
  cases hb : Region.binds .any e with
  | false => rfl
  | true =>
    have := h e he hb
    unfold Lof at this
    simp [Array.getD_eq_getD_getElem?, this]

section
variable {C : Cfg} {pr ms : List Nat} {ops : Array Oper} {l : List (Oper × Md)} {is : List OpI} {m : Nat} {A B : Nat → Env} {ss : Nat → St}
variable {f : Fr} {ψi : Ps} {L : Nat → Prop} {a : Act} {w : World} {ψ : Ps} {Q : Kn}

theorem Su.ready_some (S : Su C pr ms ops l is m A B ss) {listed : Array Bool} (hsz : listed.size = ops.size) : ∀ (n i : Nat), i < n → i < ops.size → ¬ Lof listed i → Region.ready .any ops listed ≠ []
  | 0, i, h, _, _ => absurd h (Nat.not_lt_zero i)
  | n + 1, i, hn, hi, hl => by
    have hp : l[i]? = some (l[i]'(by rw [S.lLen]; exact hi)) := List.getElem?_eq_getElem _
    obtain ⟨q, x, T⟩ := S.get hp
    by_cases h : ∀ e ∈ (l[i]'(by rw [S.lLen]; exact hi)).1.after, Region.binds .any e = true → Lof listed e.on
    · intro e
      have := mem_ready T.op (not_Lof (by omega) hl) h
      rw [e] at this
      cases this
    · simp only [Classical.not_forall] at h
      obtain ⟨e, he, hb, hle⟩ := h
      have := T.lt _ (T.on e he hb)
      exact S.ready_some hsz n e.on (by omega) (by omega) hle

theorem Inv.congr {L' : Nat → Prop} (I : Inv C f l is m A B ss ψi L a w ψ Q) (h : ∀ i, L i ↔ L' i) : Inv C f l is m A B ss ψi L' a w ψ Q := by
  have : L = L' := funext fun i => propext (h i)
  rw [← this]; exact I

theorem any_loop (S : Su C pr ms ops l is m A B ss) (hd : ∀ p ∈ l, ∀ x, p.1.dst = some x → x < f.nt) {QQ : Exit → Act → World → Prop}
    (bar : m < ops.size → (∀ k, m < k → k < ops.size → bef is m k) ∧ ∀ i, i < m → bef is i m)
    (fin : m = ops.size → ∀ a w ψ Q L, (∀ i, i < m → L i) → Inv C f l is m A B ss ψi L a w ψ Q → QQ .normal a w)
    (pan : m < ops.size → ∀ K a w ψ Q L, (∀ i, i < m → L i) → Inv C f l is m A B ss ψi L a w ψ Q → wpOp C.P ops QQ m K a w) :
    ∀ (n : Nat) (listed : Array Bool) (a : Act) (w : World) (ψ : Ps) (Q : Kn), listed.size = ops.size → listed.toList.count false ≤ n → Inv C f l is m A B ss ψi (Lof listed) a w ψ Q → wpAny C.P .any ops QQ n listed a w := by
  have all : ∀ (listed : Array Bool) (a : Act) (w : World) (ψ : Ps) (Q : Kn), listed.size = ops.size → Region.ready .any ops listed = [] → Inv C f l is m A B ss ψi (Lof listed) a w ψ Q → QQ .normal a w := by
    intro listed a w ψ Q hsz hr I
    have hall : ∀ i, i < ops.size → Lof listed i := fun i hi => Classical.byContradiction fun hn => S.ready_some hsz (i + 1) i (by omega) hi hn hr
    have hm : m = ops.size := by
      rcases Nat.lt_or_ge m ops.size with h | h
      · have := I.sub m (hall m h); omega
      · exact Nat.le_antisymm S.hm h
    exact fin hm a w ψ Q _ (fun i hi => hall i (by omega)) I
  intro n
  induction n with
  | zero =>
    intro listed a w ψ Q hsz hc I
    have hr : Region.ready .any ops listed = [] := by
      cases hr : Region.ready .any ops listed with
      | nil => rfl
      | cons i r =>
        obtain ⟨h1, h2, _⟩ := ready_mem (i := i) (ops := ops) (listed := listed) (by rw [hr]; exact List.mem_cons_self)
        have := cnt_set listed.toList i (by rw [Array.getElem?_toList]; exact not_Lof (by omega) h2)
        omega
    exact ⟨hr, all listed a w ψ Q hsz hr I⟩
  | succ n ih =>
    intro listed a w ψ Q hsz hc I
    refine ⟨fun hr => all listed a w ψ Q hsz hr I, fun i hi => ?_⟩
    obtain ⟨h1, h2, h3⟩ := ready_mem hi
    have hp : l[i]? = some (l[i]'(by rw [S.lLen]; exact h1)) := List.getElem?_eq_getElem _
    obtain ⟨q, x, T⟩ := S.get hp
    have hpre : ∀ j, bef is j i → Lof listed j := by
      rintro j ⟨q', hq, hb⟩
      rw [T.iq] at hq; cases hq
      obtain ⟨e, he, hbi, hj⟩ := T.edge j hb
      have hl := h3 _ T.op e he hbi
      rcases hj with rfl | hj
      · exact hl
      · exact I.down _ _ hl hj
    have hcnt := cnt_set listed.toList i (by rw [Array.getElem?_toList]; exact not_Lof (by omega) h2)
    rcases Nat.lt_trichotomy i m with him | him | him
    · refine I.step S him hp h2 hpre (hd _ (List.getElem_mem _)) fun a' w' ψ' Q' I' => ?_
      exact ih _ _ _ ψ' Q' (by simpa using hsz) (by rw [Array.toList_setIfInBounds]; omega) (I'.congr fun j => (Lof_set (by omega) j).symm)
    · subst him
      exact pan h1 _ a w ψ Q _ (fun k hk => hpre k ((bar h1).2 k hk)) I
    · have := I.sub m (hpre m ((bar (by omega)).1 i him h1))
      omega

theorem Rel.drew {E : Env} {s : St} (R : Rel C f ψ E s a w) : Rel C f ψ E s a { w with drawn := w.drawn + 1 } where
  sim := R.sim.more R.blks (More.drew w)
  eok := R.eok
  blks := R.blks
  glob := R.glob
  reg := R.reg
  tsz := R.tsz
  defs := R.defs
  win := R.win
  vin := R.vin
  ext := R.ext.trans (Ext.more (More.drew w))
  news := R.news
  len := R.len
  fin := R.fin

/-- As a region begins. -/
theorem Su.start (S : Su C pr ms ops l is m A B ss) (R : Rel C f ψ (A 0) (ss 0) a w) (hN : (ss m).length ≤ f.N) : Inv C f l is m A B ss ψ (fun _ => False) a w ψ (CR (B 0) (ss 0)) := by
  have R0 := R.weak (S.w 0 (Nat.zero_le _))
  have dom0 : ∀ h cb, ψ h = some cb → Dom (B m) (ss m) h → Dom (B 0) (ss 0) h := by
    intro h cb e hd
    cases h with
    | inl i =>
      rcases Nat.lt_or_ge i (ss 0).length with h | h
      · exact h
      · rw [R0.win i h (Nat.lt_of_lt_of_le hd hN)] at e; cases e
    | inr v =>
      rcases Nat.lt_or_ge v (B 0).nxt with h | h
      · exact h
      · rw [R0.vin v h] at e; cases e
  refine ⟨R0.sim, R0.blks, R0.glob, fun t j hj c1 _ => ?_, fun h j ab cb hj c1 _ c e => ?_, fun i h hi _ hn => ?_, fun h cb e => .inl e, R0.ext, R0.tsz, R0.defs, fun _ h => h.elim, fun _ _ h => h.elim⟩
  · have := S.ent (j := 0) (ψ := ψ) (x := a.tmps.getD t undef) (t := t) j (by omega) (fun i p _ h hp => c1 i p (by omega) hp (fun h => h)) (R0.reg t)
    rwa [Nat.zero_add] at this
  · exact S.back' (Nat.zero_le _) hj (fun i _ hi => c1 i hi (fun h => h)) (dom0 h cb e (S.dom' hj (Nat.le_refl _) (c.dom (S.eokB j hj)))) c
  · cases e : ψ h with
    | none => rfl
    | some cb =>
      have h1 : Dom (B m) (ss m) h := S.dom' (j := i + 1) (by omega) (Nat.le_refl _) ((Dom_weak (S.w (i + 1) (by omega)) h).2 hn.2)
      exact absurd (S.dom' (Nat.zero_le _) (Nat.le_of_lt hi) (dom0 h cb e h1)) hn.1

/-- As it ends. -/
theorem Inv.done (S : Su C pr ms ops l is m A B ss) {w0 : World} {a0 : Act} (R : Rel C f ψi (A 0) (ss 0) a0 w0) (I : Inv C f l is m A B ss ψi L a w ψ Q) (hL : ∀ i, i < m → L i) : Rel C f ψ (B m) (ss m) a w := by
  have hnxt : (B 0).nxt = (A 0).nxt := (S.w 0 (Nat.zero_le _)).nxt
  have hlen : (ss 0).length ≤ (ss m).length := by
    rcases Nat.eq_zero_or_pos (ss 0).length with h | h
    · omega
    · have := S.dom' (h := .inl ((ss 0).length - 1)) (Nat.zero_le m) (Nat.le_refl m) (by simp only [Dom]; omega)
      simp only [Dom] at this
      omega
  have know : ∀ h ab cb, ψ h = some cb → CR (B m) (ss m) h ab → Q h ab := fun h ab cb e c => I.know h m ab cb (Nat.le_refl _) (fun i hi hl => absurd (hL i hi) hl) (fun i hi hl => by have := I.sub i hl; omega) c e
  refine ⟨I.sim.weaken know, S.eokB m (Nat.le_refl _), I.blks, I.glob, fun t => I.reg t m (Nat.le_refl _) (fun i p hi _ hl => absurd (hL i hi) hl) (fun i p hi _ hl => by have := I.sub i hl; omega), I.tsz, I.defs, fun i h1 h2 => ?_, fun v hv => ?_, I.ext.weaken know, fun i cb e => ?_, Nat.le_trans R.len hlen, R.fin⟩
  · cases e : ψ (.inl i) with
    | none => rfl
    | some cb =>
      rcases I.news _ cb e with e | ⟨_, e⟩
      · rw [R.win i (by omega) h2] at e; cases e
      · simp only [Dom] at e; omega
  · cases e : ψ (.inr v) with
    | none => rfl
    | some cb =>
      rcases I.news _ cb e with e | ⟨_, e⟩
      · refine absurd e ?_
        have : v < (B m).nxt ∨ (A 0).nxt ≤ v := .inr (by
          rcases Nat.lt_or_ge v (A 0).nxt with h | h
          · have := S.dom' (h := .inr v) (Nat.zero_le m) (Nat.le_refl m) (by simp only [Dom]; omega)
            simp only [Dom] at this
            omega
          · exact h)
        rw [R.vin v (by omega)]; simp
      · simp only [Dom] at e; omega
  · rcases I.news _ cb e with e | ⟨h1, h2⟩
    · rcases R.news i cb e with h | ⟨h1, h2⟩
      · exact .inl h
      · exact .inr ⟨h1, by omega⟩
    · simp only [Dom] at h1 h2
      exact .inr ⟨by have := R.len; omega, h2⟩
end

section
variable {C : Cfg} {f : Fr} {ψ : Ps} {E E2 : Env} {s s2 : St} {a : Act} {w : World} {pr ms : List Nat}

theorem TrP.fn {dst : Nat → Option Nat} {l : List (Oper × Md)} (h : TrP C dst pr ms l E s s2) :
    ∃ (m : Nat) (p : Oper × Md) (A B : Nat → Env) (ss : Nat → St), l[m]? = some p ∧ A 0 = E ∧ ss 0 = s ∧ GW dst (B m) p.1 ∧ p.2.x = 0 ∧ OpPan C p.1 (Dof p.2 (B m)) (B m) (ss m) s2 ∧ (∀ k, k ≤ m → Weak (A k) (B k)) ∧
      ∀ k p, k < m → l[k]? = some p → Step C dst pr ms p (B k) (ss k) (A (k + 1)) (ss (k + 1)) := by
  induction h with
  | @weak l E E1 s s2 k _ ih =>
    obtain ⟨m, p, A, B, ss, h1, h2, h3, h4, h5, h6, h7, h8⟩ := ih
    refine ⟨m, p, fun i => if i = 0 then E else A i, B, ss, h1, rfl, h3, h4, h5, h6, fun i hi => ?_, fun i q hi hq => by simpa using h8 i q hi hq⟩
    have := h7 i hi
    by_cases e : i = 0
    · subst e
      simp only [if_true]
      rw [h2] at this
      exact k.trans this
    · simp only [e, if_false]; exact this
  | @here p l E s s' g hx hp =>
    exact ⟨0, p, fun _ => E, fun _ => E, fun _ => s, rfl, rfl, rfl, g, hx, hp, fun _ _ => .refl E, fun k _ hk => by omega⟩
  | @next p l E s E1 s1 s2 st _ ih =>
    obtain ⟨m, p', A, B, ss, h1, h2, h3, h4, h5, h6, h7, h8⟩ := ih
    refine ⟨m + 1, p', fun i => match i with | 0 => E | i + 1 => A i, fun i => match i with | 0 => E | i + 1 => B i, fun i => match i with | 0 => s | i + 1 => ss i, by simpa using h1, rfl, rfl, h4, h5, h6, fun i hi => ?_, fun i q hi hq => ?_⟩
    · cases i with
      | zero => exact .refl E
      | succ i => exact h7 i (by omega)
    · cases i with
      | zero =>
        simp only [List.getElem?_cons_zero, Option.some.injEq] at hq
        subst hq
        simp only [h2, h3]
        exact st
      | succ i => exact h8 i q (by omega) (by simpa using hq)

theorem Lof_none (n : Nat) (i : Nat) : ¬ Lof (Array.replicate n false) i := by
  unfold Lof
  rw [Array.getElem?_replicate]
  split <;> simp

theorem tr_any {ops : Array Oper} {QQ : Exit → Act → World → Prop} {l : List (Oper × Md)} {is : List OpI} (his : is = prep C.P pr ops.toList ops.toList []) (hl : l = flags is 0 is ops.toList) (hok : okAll 0 is ops.toList = true)
    (t : Tr C (dstOf ops) pr ms l E s E2 s2) (R : Rel C f ψ E s a w) (hN : s2.length ≤ f.N) (hd : ∀ p ∈ l, ∀ x, p.1.dst = some x → x < f.nt)
    (h : ∀ ψ' a' w', Rel C f ψ' E2 s2 a' w' → QQ .normal a' w') : wpAny C.P .any ops QQ ops.size (Array.replicate ops.size false) a w := by
  have hlen : l.length = ops.size := by rw [hl, flags_length _ _ _ _ (by rw [his, prep_length])]; simp
  obtain ⟨A, B, ss, h1, h2, h3, h4, h5⟩ := t.fn
  have S : Su C pr ms ops l is ops.size A (fun k => if k = ops.size then E2 else B k) ss := by
    refine ⟨his, hl, hok, Nat.le_refl _, fun k hk => ?_, fun k p hk hp => ?_, by rw [h1]; exact R.eok⟩
    · by_cases e : k = ops.size
      · simp only [e, if_true]; rw [← hlen]; exact h4
      · simp only [e, if_false]
        exact (h5 k _ (List.getElem?_eq_getElem (by omega))).1
    · simp only [show ¬ k = ops.size by omega, if_false]
      exact (h5 k p hp).2
  rw [← h1, ← h2] at R
  refine any_loop (f := f) S hd (fun h => absurd h (Nat.lt_irrefl _)) (fun _ a' w' ψ' Q' L hL I => ?_) (fun h => absurd h (Nat.lt_irrefl _)) _ _ _ _ _ _ (by simp) (by rw [Array.toList_replicate, List.count_replicate_self]; exact Nat.le_refl _)
    ((S.start R (by rw [← hlen, h3]; exact hN)).congr fun i => ⟨False.elim, Lof_none _ i⟩)
  have := I.done S R hL
  simp only [if_true] at this
  rw [← hlen, h3] at this
  exact h _ _ _ this

theorem trP_any {ops : Array Oper} {QQ : Exit → Act → World → Prop} {l : List (Oper × Md)} {is : List OpI} (his : is = prep C.P pr ops.toList ops.toList []) (hl : l = flags is 0 is ops.toList) (hok : okAll 0 is ops.toList = true)
    (t : TrP C (dstOf ops) pr ms l E s s2) (R : Rel C f ψ E s a w) (hN : s2.length ≤ f.N) (hd : ∀ p ∈ l, ∀ x, p.1.dst = some x → x < f.nt)
    (h : ∀ ch a' w', PanR C f s2 a' w' → QQ (.panic ch) a' w') : wpAny C.P .any ops QQ ops.size (Array.replicate ops.size false) a w := by
  have hlen : l.length = ops.size := by rw [hl, flags_length _ _ _ _ (by rw [his, prep_length])]; simp
  obtain ⟨m, p, A, B, ss, hp, h1, h2, hg, hx, hpan, hw, hst⟩ := t.fn
  have hm : m < ops.size := by
    rcases Nat.lt_or_ge m l.length with h | h
    · omega
    · rw [List.getElem?_eq_none h] at hp; cases hp
  have S : Su C pr ms ops l is m A B ss := ⟨his, hl, hok, by omega, hw, hst, by rw [h1]; exact R.eok⟩
  have hmN : (ss m).length ≤ f.N := Nat.le_trans hpan.1 hN
  rw [← h1, ← h2] at R
  obtain ⟨q, x, T⟩ := S.get hp
  have hx0 : x = 0 := by rw [T.md] at hx; exact hx
  have hz := T.zero hx0
  refine any_loop (f := f) (ψi := ψ) S hd (fun _ => ⟨fun k h1 h2 => ?_, fun i hi => ?_⟩) (fun e => by omega) (fun _ K a' w' ψ' Q' L hL I => ?_) _ _ _ _ _ _ (by simp) (by rw [Array.toList_replicate, List.count_replicate_self]; exact Nat.le_refl _)
    ((S.start R hmN).congr fun i => ⟨False.elim, Lof_none _ i⟩)
  · have hq : is[k]? = some (is[k]'(by rw [S.isLen]; exact h2)) := List.getElem?_eq_getElem _
    rcases hz k _ hq (by omega) with h | h
    · exact ⟨_, hq, h⟩
    · have := T.lt k h; omega
  · have hq : is[i]? = some (is[i]'(by rw [S.isLen]; omega)) := List.getElem?_eq_getElem _
    rcases hz i _ hq (by omega) with h | h
    · have hpi : l[i]? = some (l[i]'(by omega)) := List.getElem?_eq_getElem _
      obtain ⟨q', x', T'⟩ := S.get hpi
      have e := T'.iq
      rw [hq] at e
      cases e
      have := T'.lt m h; omega
    · exact ⟨q, T.iq, h⟩
  · have hLm : ¬ L m := fun h => by have := I.sub m h; omega
    obtain ⟨pre, hgd⟩ := I.pre S (Nat.le_refl m) hp hLm (fun j hb => by
      obtain ⟨q', e, hb⟩ := hb
      rw [T.iq] at e; cases e
      exact hL j (T.lt j hb)) (fun k p' hk _ hl => absurd (hL k hk) hl) (fun k p' hk _ hl => by have := I.sub k hl; omega)
    have Rm := I.done S R hL
    unfold wpOp
    simp only [T.op]
    rw [if_pos (wanted_of' hgd hg)]
    refine .inl (hpan.2 ψ' Q' a' w' K QQ pre (fun k hk => ?_) fun ψ'' Q'' ch w'' g1 g2 g3 g4 => h ch a' w'' ⟨I.defs, _, Go.Gv.callPost (s' := s2) R.fin g1 (I.ext.trans g2) g4 fun i cb e => ?_⟩)
    · cases k with
      | inl i =>
        have h1 := hk.1; have h2 := hk.2
        simp only [Dom] at h1 h2
        exact Rm.win i (by omega) (by omega)
      | inr v =>
        have h1 := hk.1; have h2 := hk.2
        exact absurd h2 h1
    · rcases g3 _ cb e with e | ⟨n1, n2⟩
      · rcases Rm.news i cb e with h | ⟨h1, h2⟩
        · exact .inl h
        · exact .inr ⟨h1, Nat.lt_of_lt_of_le h2 hpan.1⟩
      · simp only [Dom] at n1 n2
        exact .inr ⟨by have := Rm.len; omega, n2⟩
end
end Go.Gv
