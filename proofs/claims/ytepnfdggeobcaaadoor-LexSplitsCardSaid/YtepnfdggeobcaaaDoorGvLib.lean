/- Words for proofs over the machine's functions. -/
import Derived.Test.YtepnfdggeobcaaaDoorGvDef
import Derived.IntWalk
namespace Go.Gv.F
variable {β : Type}

/-! ### Taking apart what is written out -/
@[simp] theorem J_b (b : Bool) (r : List DV) (K : Bool → List DV → M β) : J.b (.bool b :: r) K = K b r := rfl
@[simp] theorem ikEq_self (k : IntKind) : ikEq k k = true := by cases k <;> rfl
@[simp] theorem D_int (k : IntKind) (n : Int) (K : Int → M β) : D.int k (.int k n) K = K n := by unfold D.int; simp only [ikEq_self, cond_true]
@[simp] theorem J_i (k : IntKind) (n : Int) (r : List DV) (K : Int → List DV → M β) : J.i k (.int k n :: r) K = K n r := by unfold J.i; simp only [D.cons, D_int]
@[simp] theorem J_s (l : List UInt8) (r : List DV) (K : List UInt8 → List DV → M β) : J.s (.str l :: r) K = K l r := rfl
@[simp] theorem J_p (a : Option (Nat × Nat)) (r : List DV) (K : Option (Nat × Nat) → List DV → M β) : J.p (.ptr a :: r) K = K a r := rfl
@[simp] theorem J_a (cs r : List DV) (K : List DV → List DV → M β) : J.a (.agg cs :: r) K = K cs r := rfl
@[simp] theorem J_n (n : Nat) (r : List DV) (K : Nat → List DV → M β) : J.n (.nat n :: r) K = K n r := rfl
@[simp] theorem J_d (d : DV) (r : List DV) (K : DV → List DV → M β) : J.d (d :: r) K = K d r := rfl
@[simp] theorem D_slice (sz : Nat) (a : Option (Nat × Nat)) (n : Nat) (K : Option (Nat × Nat) → Nat → M β) : D.slice sz (.slice sz a n) K = K a n := by
  unfold D.slice; simp
@[simp] theorem D_slice_nil (sz z n : Nat) (K : Option (Nat × Nat) → Nat → M β) : D.slice sz (.slice z none n) K = K none n := by
  unfold D.slice; simp
@[simp] theorem J_l (sz : Nat) (a : Option (Nat × Nat)) (n : Nat) (r : List DV) (K : Option (Nat × Nat) → Nat → List DV → M β) : J.l sz (.slice sz a n :: r) K = K a n r := by
  unfold J.l; simp only [D.cons, D_slice]
@[simp] theorem J_l_nil (sz z n : Nat) (r : List DV) (K : Option (Nat × Nat) → Nat → List DV → M β) : J.l sz (.slice z none n :: r) K = K none n r := by
  unfold J.l; simp only [D.cons, D_slice_nil]
@[simp] theorem D_nil (K : M β) : D.nil [] K = K := rfl
@[simp] theorem D_str (l : List UInt8) (K : List UInt8 → M β) : D.str (.str l) K = K l := rfl
@[simp] theorem D_bool (b : Bool) (K : Bool → M β) : D.bool (.bool b) K = K b := rfl
@[simp] theorem D_cons (d : DV) (r : List DV) (K : DV → List DV → M β) : D.cons (d :: r) K = K d r := rfl
@[simp] theorem chk_true (K : M β) : M.chk true K = K := rfl
theorem chk_of {b : Bool} (h : b = true) (K : M β) : M.chk b K = K := by rw [h]; rfl
@[simp] theorem nn_some' (i o : Nat) (K : Nat → Nat → M β) : M.nn (some (i, o)) K = K i o := rfl
theorem join_eq (f : List DV → M β) (g : (List DV → M β) → M β) : M.join f g = g f := rfl
theorem join_bool (c x y : Bool) (f : List DV → M β) : (M.join f fun jk => bif c then jk [.bool x] else jk [.bool y]) = f [.bool (bif c then x else y)] := by cases c <;> rfl
theorem ret_eq (ds : β) (s : St) : M.ret ds s = some (.val ds, s) := rfl
theorem retF_eq (b : Nat) (ds : β) (s : St) : M.retF b ds s = some (.val ds, frzFrom b s) := rfl
theorem base_eq (f : Nat → M β) (s : St) : M.base f s = f s.length s := rfl
theorem call_eq {α : Type} {m : M α} {K : α → M β} {s s' : St} {ds : α} (h : m s = some (.val ds, s')) : M.call m K s = K ds s' := by unfold M.call; rw [h]
theorem run_succ (Bd : Bodies) (n g : Nat) (args : List DV) : run Bd (n + 1) g args = Bd g (run Bd n) n args := rfl

/-- It answers, and the answer is so. -/
def Ok (P : Out β × St → Prop) (x : Option (Out β × St)) : Prop := ∃ o, x = some o ∧ P o
theorem Ok.mk {P : Out β × St → Prop} {o : Out β × St} (h : P o) : Ok P (some o) := ⟨o, rfl, h⟩
theorem Ok.mono {P Q : Out β × St → Prop} {x : Option (Out β × St)} (h : Ok P x) (k : ∀ o, P o → Q o) : Ok Q x := by
  obtain ⟨o, e, p⟩ := h
  exact ⟨o, e, k o p⟩
theorem Ok.call {α : Type} {P : Out α × St → Prop} {Q : Out β × St → Prop} {m : M α} {K : α → M β} {s : St} (h : Ok P (m s)) (k : ∀ o, P o → ∃ ds s', o = (.val ds, s') ∧ Ok Q (K ds s')) : Ok Q (M.call m K s) := by
  obtain ⟨o, e, p⟩ := h
  obtain ⟨ds, s', rfl, hq⟩ := k o p
  rw [call_eq e]; exact hq
theorem Ok.callN {α : Type} {P : Out α × St → Prop} {Q : Out β × St → Prop} {m : M α} {K : α → M β} {s : St} (h : Ok P (m s)) (k : ∀ o, P o → ∃ ds s', o = (.val ds, s') ∧ Ok Q (K ds s')) : Ok Q (M.callN m K s) := by
  obtain ⟨o, e, p⟩ := h
  obtain ⟨ds, s', rfl, hq⟩ := k o p
  unfold M.callN; rw [e]; exact hq
theorem J_l_any (sz z : Nat) (a : Option (Nat × Nat)) (n : Nat) (h : z = sz ∨ a = none) (r : List DV) (K : Option (Nat × Nat) → Nat → List DV → M β) : J.l sz (.slice z a n :: r) K = K a n r := by
  rcases h with rfl | rfl
  · unfold J.l; simp only [D.cons]; unfold D.slice; simp
  · unfold J.l; simp only [D.cons]; unfold D.slice; simp

/-- A loop: a relation that bears a number, which every round lowers. -/
theorem loop_rule {F : (List DV → M β) → List DV → M β} (Q : Out β × St → Prop) (I : Nat → List DV → St → Prop)
    (hstep : ∀ k st s, I k st s → ∀ rec : List DV → M β, (∀ k' st' s', k' < k → I k' st' s' → Ok Q (rec st' s')) → Ok Q (F rec st s)) :
    ∀ (k m : Nat) (st : List DV) (s : St), I k st s → k < m → Ok Q (M.loop F m st s)
  | k, 0, st, s, _, hm => absurd hm (Nat.not_lt_zero k)
  | k, m + 1, st, s, hI, hm => hstep k st s hI _ fun k' st' s' hk hI' => loop_rule Q I hstep k' m st' s' hI' (by omega)

/-! ### Heaps -/
/-- A heap that goes on as another one. -/
def Pre (s s' : St) : Prop := ∃ r, s' = s ++ r
theorem Pre.refl (s : St) : Pre s s := ⟨[], by simp⟩
theorem Pre.trans {a b c : St} (h : Pre a b) (k : Pre b c) : Pre a c := by
  obtain ⟨r, rfl⟩ := h
  obtain ⟨r', rfl⟩ := k
  exact ⟨r ++ r', by simp⟩
theorem Pre.len {s s' : St} (h : Pre s s') : s.length ≤ s'.length := by obtain ⟨r, rfl⟩ := h; simp
theorem Pre.get {s s' : St} (h : Pre s s') {i : Nat} {b : Option Blk} (e : s[i]? = some b) : s'[i]? = some b := by
  obtain ⟨r, rfl⟩ := h
  have : i < s.length := (List.getElem?_eq_some_iff.1 e).1
  rw [List.getElem?_append_left this]; exact e
theorem Pre.begins {s s' : St} (h : Pre s s') : St.begins s s' := h
theorem callX_eq {α : Type} {m : M α} {K : α → M β} {s s' : St} {ds : α} (h : m s = some (.val ds, s')) (hp : Pre s s') : M.callX m K s = K ds s' := by
  unfold M.callX; rw [h]; simp only; exact if_pos hp
theorem callN_eq {α : Type} {m : M α} {K : α → M β} {s s' : St} {ds : α} (h : m s = some (.val ds, s')) : M.callN m K s = K ds s' := by
  unfold M.callN; rw [h]
theorem Pre.new (s : St) (b : Option Blk) : Pre s (s ++ [b]) := ⟨[b], rfl⟩

theorem new_eq (cells : List DV) (K : Nat → M β) (s : St) : M.new cells K s = K s.length (s ++ [some ⟨false, cells⟩]) := rfl

/-- What a slice's cells are, as it is read. -/
def Sl (s : St) (a : Option (Nat × Nat)) (cs : List DV) : Prop :=
  match a with
  | none => cs = []
  | some (i, o) => ∃ f all, s[i]? = some (some ⟨f, all⟩) ∧ o + cs.length ≤ all.length ∧ (all.drop o).take cs.length = cs
theorem Sl.nil (s : St) : Sl s none [] := rfl
theorem Sl.mono {s s' : St} (h : Pre s s') {a : Option (Nat × Nat)} {cs : List DV} (k : Sl s a cs) : Sl s' a cs := by
  cases a with
  | none => exact k
  | some p => obtain ⟨f, all, h1, h2⟩ := k; exact ⟨f, all, h.get h1, h2⟩

theorem Sl.get {s : St} {i o : Nat} {cs : List DV} (h : Sl s (some (i, o)) cs) {j : Nat} {d : DV} (hd : cs[j]? = some d) (K : DV → M β) : M.load1 i (j + o) K s = K d s := by
  obtain ⟨f, all, h1, h2, h3⟩ := h
  have hj : j < cs.length := (List.getElem?_eq_some_iff.1 hd).1
  have : all[j + o]? = some d := by
    have := congrArg (fun l : List DV => l[j]?) h3
    simp only [List.getElem?_take, hj, if_true, List.getElem?_drop] at this
    rw [Nat.add_comm]; rw [this]; exact hd
  unfold M.load1 St.cells
  rw [h1]
  simp only [this]
theorem Sl.get1 {s : St} {i o : Nat} {cs : List DV} (h : Sl s (some (i, o)) cs) {j : Nat} {d : DV} (hd : cs[j]? = some d) (K : DV → M β) : M.load1 i (j * 1 + o) K s = K d s := by
  rw [Nat.mul_one]; exact h.get hd K
theorem Sl.some_of {s : St} {a : Option (Nat × Nat)} {cs : List DV} (h : Sl s a cs) (hn : 0 < cs.length) : ∃ i o, a = some (i, o) := by
  cases a with
  | none => rw [show cs = [] from h] at hn; cases hn
  | some p => exact ⟨p.1, p.2, rfl⟩

theorem load_eq {s : St} {i o n : Nat} {f : Bool} {all : List DV} (h : s[i]? = some (some ⟨f, all⟩)) (hn : o + n ≤ all.length) (K : List DV → M β) : M.load i o n K s = K ((all.drop o).take n) s := by
  unfold M.load St.cells
  rw [h]
  simp only [Nat.ble_eq_true_of_le hn, cond_true]
theorem load1_eq {s : St} {i o : Nat} {f : Bool} {all : List DV} {d : DV} (h : s[i]? = some (some ⟨f, all⟩)) (hd : all[o]? = some d) (K : DV → M β) : M.load1 i o K s = K d s := by
  unfold M.load1 St.cells
  rw [h]
  simp only [hd]

theorem rd_eq {s : St} {a : Option (Nat × Nat)} {cs : List DV} (h : Sl s a cs) (K : List DV → M β) : M.rd a cs.length K s = K cs s := by
  cases a with
  | none => rw [show cs = [] from h]; rfl
  | some p =>
    obtain ⟨f, all, h1, h2, h3⟩ := h
    show M.load p.1 p.2 _ K s = _
    rw [load_eq h1 h2, h3]

/-- A slice of a function's own: all its block. -/
def Own (s0 s : St) (a : Option (Nat × Nat)) (cs : List DV) : Prop :=
  Pre s0 s ∧ ((a = none ∧ cs = []) ∨ ∃ i, a = some (i, 0) ∧ s0.length ≤ i ∧ s[i]? = some (some ⟨false, cs⟩))
theorem Own.nil {s0 s : St} (h : Pre s0 s) : Own s0 s none [] := ⟨h, .inl ⟨rfl, rfl⟩⟩
theorem Own.sl {s0 s : St} {a : Option (Nat × Nat)} {cs : List DV} (h : Own s0 s a cs) : Sl s a cs := by
  rcases h.2 with ⟨rfl, rfl⟩ | ⟨i, rfl, _, h⟩
  · rfl
  · exact ⟨false, cs, h, by simp, by simp⟩
theorem Own.mono {s0 s s' : St} {a : Option (Nat × Nat)} {cs : List DV} (h : Own s0 s a cs) (k : Pre s s') : Own s0 s' a cs :=
  ⟨h.1.trans k, h.2.imp id fun ⟨i, h1, h2, h3⟩ => ⟨i, h1, h2, k.get h3⟩⟩

theorem set_pre {s0 s : St} (h : Pre s0 s) {i : Nat} (hi : s0.length ≤ i) (b : Option Blk) : Pre s0 (s.set i b) := by
  obtain ⟨r, rfl⟩ := h
  exact ⟨r.set (i - s0.length) b, by rw [List.set_append_right _ _ hi]⟩

/-- append, to a slice of the function's own. -/
theorem Own.app {s0 s : St} {a : Option (Nat × Nat)} {cs : List DV} (h : Own s0 s a cs) {sz n m lim : Nat} {ds : List DV} (hz : 0 < sz) (hn : cs.length = n * sz) (hm : 0 < m) (hl : n + m ≤ lim) :
    ∃ p s', Own s0 s' p (cs ++ ds) ∧ ∀ K : Option (Nat × Nat) → M β, M.app sz a n ds m lim K s = K p s' := by
  have hb : Nat.beq m 0 = false := by cases m with | zero => cases hm | succ m => rfl
  rcases h.2 with ⟨rfl, rfl⟩ | ⟨i, rfl, hi, hs⟩
  · have h0 : n = 0 := by
      rcases Nat.mul_eq_zero.1 (show n * sz = 0 by simpa using hn.symm) with h | h
      · exact h
      · omega
    subst h0
    refine ⟨some (s.length, 0), s ++ [some ⟨false, ds⟩], ⟨h.1.trans (.new _ _), .inr ⟨s.length, rfl, h.1.len, by simp⟩⟩, fun K => ?_⟩
    unfold M.app
    simp only [hb, Nat.ble_eq_true_of_le hl, cond_true, cond_false]
    rfl
  · have hop : s.open? i = some cs := by unfold St.open?; rw [hs]
    refine ⟨some (s.length, 0), s.set i none ++ [some ⟨false, cs ++ ds⟩], ⟨(set_pre h.1 hi none).trans (.new _ _), .inr ⟨s.length, rfl, h.1.len, by simp⟩⟩, fun K => ?_⟩
    unfold M.app
    simp only [hb, Nat.ble_eq_true_of_le hl, cond_true, cond_false, hop]
    rw [Nat.zero_add, Nat.ble_eq_true_of_le (by omega)]
    simp only [cond_true, List.drop_zero]
    rw [List.take_of_length_le (by omega)]

/-- append of one element, by way of a variable. -/
theorem Own.push {s0 s : St} {a : Option (Nat × Nat)} {cs : List DV} (h : Own s0 s a cs) {sz n lim : Nat} (ds : List DV) (hz : 0 < sz) (hn : cs.length = n * sz) (hd : ds.length = sz) (hl : n + 1 ≤ lim) :
    ∃ p s', Own s0 s' p (cs ++ ds) ∧ ∀ K : Option (Nat × Nat) → M β, (M.new ds fun i => M.load i 0 sz fun cs' => M.app sz a n cs' 1 lim K) s = K p s' := by
  obtain ⟨p, s', h1, h2⟩ := (h.mono (.new s (some ⟨false, ds⟩))).app (β := β) (ds := ds) hz hn (Nat.succ_pos 0) hl
  refine ⟨p, s', h1, fun K => ?_⟩
  rw [new_eq, load_eq (f := false) (all := ds) (by simp) (by omega), List.drop_zero, List.take_of_length_le (by omega)]
  exact h2 K

/-! ### What is frozen -/
theorem frz_get (k : Nat) {s : St} {i : Nat} {f : Bool} {cs : List DV} (h : s[i]? = some (some ⟨f, cs⟩)) : ∃ f', (frzFrom k s)[i]? = some (some ⟨f', cs⟩) := by
  unfold frzFrom
  have hi : i < s.length := (List.getElem?_eq_some_iff.1 h).1
  by_cases hk : i < k
  · exact ⟨f, by rw [List.getElem?_append_left (by simp; omega), List.getElem?_take, if_pos hk]; exact h⟩
  · refine ⟨true, ?_⟩
    rw [List.getElem?_append_right (by simp; omega), List.getElem?_map, List.getElem?_drop, List.length_take, Nat.min_eq_left (by omega), show k + (i - k) = i by omega, h]
    rfl
theorem Sl.frz {s : St} {a : Option (Nat × Nat)} {cs : List DV} (h : Sl s a cs) (k : Nat) : Sl (frzFrom k s) a cs := by
  cases a with
  | none => exact h
  | some p =>
    obtain ⟨f, all, h1, h2⟩ := h
    obtain ⟨f', h1⟩ := frz_get k h1
    exact ⟨f', all, h1, h2⟩
theorem frz_pre {s0 s : St} (h : Pre s0 s) : Pre s0 (frzFrom s0.length s) := by
  obtain ⟨r, rfl⟩ := h
  exact ⟨_, by unfold frzFrom; rw [List.take_left, List.drop_left]⟩
end Go.Gv.F
