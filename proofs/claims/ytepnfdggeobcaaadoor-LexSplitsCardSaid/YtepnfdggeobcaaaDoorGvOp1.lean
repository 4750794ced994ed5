/- Single operations: values, registers, new variables. -/
import Derived.Test.YtepnfdggeobcaaaDoorGvOp0
namespace Go.Gv
variable {β : Type}

/-! ### What a computation that answers tells -/
theorem valK_some {C : Cfg} {E : Env} {x : Operand} {K : DV → M β} {s : St} {r : Out β × St} (h : valK C E x K s = some r) : ∃ d, E.src C x = .v d ∧ K d s = some r := by
  unfold valK at h
  cases he : E.src C x <;> rw [he] at h <;> first | exact ⟨_, rfl, h⟩ | cases h
theorem intK_some {C : Cfg} {E : Env} {x : Operand} {K : Int → M β} {s : St} {r : Out β × St} (h : intK C E x K s = some r) : ∃ k n, E.src C x = .v (.int k n) ∧ K n s = some r := by
  obtain ⟨d, h1, h2⟩ := valK_some h
  split at h2
  · exact ⟨_, _, h1, h2⟩
  · cases h2
theorem boolK_some {C : Cfg} {E : Env} {x : Operand} {K : Bool → M β} {s : St} {r : Out β × St} (h : boolK C E x K s = some r) : ∃ b, E.src C x = .v (.bool b) ∧ K b s = some r := by
  obtain ⟨d, h1, h2⟩ := valK_some h
  split at h2
  · exact ⟨_, h1, h2⟩
  · cases h2
theorem nn_some {a : Option (Nat × Nat)} {K : Nat → Nat → M β} {s : St} {r : Out β × St} (h : M.nn a K s = some r) : ∃ i o, a = some (i, o) ∧ K i o s = some r := by
  unfold M.nn at h
  split at h
  · exact ⟨_, _, rfl, h⟩
  · cases h
theorem addrK_some {C : Cfg} {E : Env} {x : Operand} {KL : Nat → Nat → Nat → M β} {KH : Nat → Nat → M β} {s : St} {r : Out β × St} (h : addrK C E x KL KH s = some r) :
    (∃ t v o, E.src C x = .pl t v o ∧ KL t v o s = some r) ∨ (∃ i o, E.src C x = .v (.ptr (some (i, o))) ∧ KH i o s = some r) := by
  unfold addrK at h
  cases he : E.src C x with
  | pl t v o => rw [he] at h; exact .inl ⟨_, _, _, rfl, h⟩
  | v d =>
    rw [he] at h
    cases d with
    | ptr a =>
      obtain ⟨i, o, rfl, h⟩ := nn_some h
      exact .inr ⟨i, o, rfl, h⟩
    | _ => cases h
  | _ => rw [he] at h; cases h
theorem chk_some {b : Bool} {K : M β} {s : St} {r : Out β × St} (h : M.chk b K s = some r) : b = true ∧ K s = some r := by
  cases b with
  | true => exact ⟨rfl, h⟩
  | false => cases h
theorem cond_some {b : Bool} {x : M β} {s : St} {r : Out β × St} (h : (bif b then x else fail) s = some r) : b = true ∧ x s = some r := by
  cases b with
  | true => exact ⟨rfl, h⟩
  | false => cases h
theorem cond_some' {b : Bool} {x : M β} {s : St} {r : Out β × St} (h : (bif b then fail else x) s = some r) : b = false ∧ x s = some r := by
  cases b with
  | false => exact ⟨rfl, h⟩
  | true => cases h
theorem tyK_some {P : Program} {t : TypeId} {K : M β} {s : St} {r : Out β × St} (h : tyK P t K s = some r) : ∃ d, P.underlying t = some d ∧ K s = some r := by
  unfold tyK at h
  cases he : P.underlying t <;> rw [he] at h <;> first | exact ⟨_, rfl, h⟩ | cases h
theorem nth_some {cs : List DV} {i : Nat} {K : DV → M β} {s : St} {r : Out β × St} (h : D.nth cs i K s = some r) : ∃ d, cs[i]? = some d ∧ K d s = some r := by
  unfold D.nth at h
  cases he : cs[i]? <;> rw [he] at h <;> first | exact ⟨_, rfl, h⟩ | cases h
theorem len_some {cs : List DV} {n : Nat} {K : M β} {s : St} {r : Out β × St} (h : D.len cs n K s = some r) : cs.length = n ∧ K s = some r := by
  unfold D.len at h
  obtain ⟨h1, h2⟩ := cond_some h
  exact ⟨Nat.eq_of_beq_eq_true h1, h2⟩
theorem getLoc_some {E : Env} {t v : Nat} {K : Nat → List DV → M β} {s : St} {r : Out β × St} (h : getLoc E t v K s = some r) : ∃ n cs, E.get t = .loc v n cs ∧ K n cs s = some r := by
  unfold getLoc at h
  cases he : E.get t with
  | loc v' n cs =>
    rw [he] at h
    obtain ⟨h1, h2⟩ := cond_some h
    have := Nat.eq_of_beq_eq_true h1; subst this
    exact ⟨n, cs, rfl, h2⟩
  | _ => rw [he] at h; cases h

theorem ikEq_eq {k k' : IntKind} (h : ikEq k k' = true) : k = k' := by cases k <;> cases k' <;> first | rfl | (simp [ikEq] at h)

/-- A value seen through a shape: it stands for what it stood for. -/
theorem d1_some {x : B} {d : DV} {K : DV → M β} {s : St} {r : Out β × St} (h : d1 x d K s = some r) :
    ∃ d', K d' s = some r ∧ (∀ (C : Cfg) ψ v, VR C ψ d v → VR C ψ d' v) ∧ (one d = true → one d' = true) := by
  unfold d1 at h
  split at h
  · unfold D.bool at h; split at h
    · exact ⟨_, h, fun _ _ _ h => h, fun h => h⟩
    · cases h
  · unfold D.int at h; split at h
    · obtain ⟨h1, h2⟩ := cond_some h
      have := ikEq_eq h1; subst this
      exact ⟨_, h2, fun _ _ _ h => h, fun h => h⟩
    · cases h
  · unfold D.str at h; split at h
    · exact ⟨_, h, fun _ _ _ h => h, fun h => h⟩
    · cases h
  · unfold D.ptr at h; split at h
    · exact ⟨_, h, fun _ _ _ h => h, fun h => h⟩
    · cases h
  · unfold D.slice at h; split at h
    · rename_i z a n
      obtain ⟨h1, h2⟩ := cond_some h
      refine ⟨_, h2, fun C ψ v hv => ?_, fun _ => rfl⟩
      simp only [Bool.or_eq_true] at h1
      rcases h1 with h1 | h1
      · have := Nat.eq_of_beq_eq_true h1; subst this; exact hv
      · cases a with
        | none => cases hv; exact .sliceN _
        | some _ => cases h1
    · cases h
  · unfold D.func at h; split at h
    · exact ⟨_, h, fun _ _ _ h => h, fun h => h⟩
    · cases h
  · exact ⟨_, h, fun _ _ _ h => h, fun h => h⟩
  · cases h

theorem dcells_some : ∀ {l : List B} {cs : List DV} {K : List DV → M β} {s : St} {r : Out β × St}, dcells l cs K s = some r →
    ∃ ds, K ds s = some r ∧ ds.length = cs.length ∧ (∀ (C : Cfg) ψ vs, VRs C ψ cs vs → VRs C ψ ds vs) ∧ (cs.all one = true → ds.all one = true)
  | [], cs, K, s, r, h => by
    simp only [dcells] at h
    cases cs with
    | nil => exact ⟨[], h, rfl, fun _ _ _ h => h, fun h => h⟩
    | cons _ _ => cases h
  | x :: l, cs, K, s, r, h => by
    have gen : ∀ {x : B}, (D.cons cs fun d rest => d1 x d fun d' => dcells l rest fun ds => K (d' :: ds)) s = some r →
        ∃ ds, K ds s = some r ∧ ds.length = cs.length ∧ (∀ (C : Cfg) ψ vs, VRs C ψ cs vs → VRs C ψ ds vs) ∧ (cs.all one = true → ds.all one = true) := by
      intro x h
      cases cs with
      | nil => cases h
      | cons d rest =>
        simp only [D.cons] at h
        obtain ⟨d', h, hd, h1⟩ := d1_some h
        obtain ⟨ds, h, hl, hr, h2⟩ := dcells_some h
        refine ⟨_, h, by simp [hl], fun C ψ vs hv => ?_, fun ho => ?_⟩
        · cases hv with
          | cons _ v _ vs a b => exact .cons _ _ _ _ (hd C ψ v a) (hr C ψ vs b)
        · simp only [List.all_cons, Bool.and_eq_true] at ho ⊢
          exact ⟨h1 ho.1, h2 ho.2⟩
    have blob : ∀ {n : Nat} , (D.blob n cs fun xs rest => dcells l rest fun ds => K (xs ++ ds)) s = some r →
        ∃ ds, K ds s = some r ∧ ds.length = cs.length ∧ (∀ (C : Cfg) ψ vs, VRs C ψ cs vs → VRs C ψ ds vs) ∧ (cs.all one = true → ds.all one = true) := by
      intro n h
      unfold D.blob at h
      obtain ⟨h1, h⟩ := cond_some h
      have h1 := Nat.le_of_ble_eq_true h1
      obtain ⟨ds, h, hl, hr, h2⟩ := dcells_some h
      refine ⟨_, h, by simp [hl]; omega, fun C ψ vs hv => ?_, fun ho => ?_⟩
      · have e : vs = vs.take n ++ vs.drop n := (List.take_append_drop n vs).symm
        rw [e]
        exact (hv.take n).append (hr C ψ _ (hv.drop n))
      · rw [List.all_append, Bool.and_eq_true]
        have ho' : ∀ x ∈ cs, one x = true := List.all_eq_true.1 ho
        exact ⟨List.all_eq_true.2 fun x hx => ho' x (List.mem_of_mem_take hx), h2 (List.all_eq_true.2 fun x hx => ho' x (List.mem_of_mem_drop hx))⟩
    cases x with
    | blob n =>
      cases l with
      | nil =>
        simp only [dcells] at h
        obtain ⟨hl, h⟩ := len_some h
        exact ⟨cs, h, rfl, fun _ _ _ h => h, fun h => h⟩
      | cons y l => simp only [dcells] at h; exact blob h
    | bool => simp only [dcells] at h; exact gen h
    | int k => simp only [dcells] at h; exact gen h
    | str => simp only [dcells] at h; exact gen h
    | ptr => simp only [dcells] at h; exact gen h
    | slice sz => simp only [dcells] at h; exact gen h
    | func => simp only [dcells] at h; exact gen h
    | any => simp only [dcells] at h; exact gen h

theorem dsh_some {x : Sh} {d : DV} {K : DV → M β} {s : St} {r : Out β × St} (h : dsh x d K s = some r) :
    ∃ d', K d' s = some r ∧ (∀ (C : Cfg) ψ v, VR C ψ d v → VR C ψ d' v) ∧ (one d = true → one d' = true) := by
  cases x with
  | b x => exact d1_some h
  | agg l =>
    simp only [dsh, D.agg] at h
    split at h
    · obtain ⟨ds, h, hl, hr, h2⟩ := dcells_some h
      refine ⟨_, h, fun C ψ v hv => ?_, fun h => by cases h⟩
      cases hv with
      | agg _ vs a b => exact .agg _ _ (hr C ψ _ a) (h2 b)
    · cases h

theorem dlist_some : ∀ {l : List Sh} {cs : List DV} {K : List DV → M β} {s : St} {r : Out β × St}, dlist l cs K s = some r →
    ∃ ds, K ds s = some r ∧ ds.length = cs.length ∧ ds.length = l.length ∧ (∀ (C : Cfg) ψ vs, VRs C ψ cs vs → VRs C ψ ds vs)
  | [], cs, K, s, r, h => by
    simp only [dlist] at h
    cases cs with
    | nil => exact ⟨[], h, rfl, rfl, fun _ _ _ h => h⟩
    | cons _ _ => cases h
  | x :: l, cs, K, s, r, h => by
    simp only [dlist] at h
    cases cs with
    | nil => cases h
    | cons d rest =>
      simp only [D.cons] at h
      obtain ⟨d', h, hd, _⟩ := dsh_some h
      obtain ⟨ds, h, hl, hl2, hr⟩ := dlist_some h
      refine ⟨_, h, by simp [hl], by simp [hl2], fun C ψ vs hv => ?_⟩
      cases hv with
      | cons _ v _ vs a b => exact .cons _ _ _ _ (hd C ψ v a) (hr C ψ vs b)

/-- Operands that are values. -/
inductive SV (C : Cfg) (E : Env) : List Operand → List DV → Prop
  | nil : SV C E [] []
  | cons {x : Operand} {d : DV} {l : List Operand} {ds : List DV} : E.src C x = .v d → SV C E l ds → SV C E (x :: l) (d :: ds)

theorem valsK_some {C : Cfg} {E : Env} : ∀ {l : List Operand} {K : List DV → M β} {s : St} {r : Out β × St}, valsK C E l K s = some r →
    ∃ ds, K ds s = some r ∧ SV C E l ds
  | [], K, s, r, h => ⟨[], h, .nil⟩
  | x :: l, K, s, r, h => by
    simp only [valsK] at h
    obtain ⟨d, h1, h⟩ := valK_some h
    obtain ⟨ds, h, h2⟩ := valsK_some h
    exact ⟨_, h, .cons h1 h2⟩

theorem vals_rel {C : Cfg} {o : Oper} {D : HId → Prop} {E : Env} {s : St} {ψ : Ps} {Q : Kn} {a : Act} {w : World} (p : Pre C o D E s ψ Q a w) :
    ∀ {l : List Operand} {ds : List DV}, (∀ x ∈ l, x ∈ o.op.operands) → SV C E l ds → VRs C ψ ds (l.map a.eval)
  | [], _, _, .nil => .nil
  | x :: l, _, hm, .cons h1 h2 => .cons _ _ _ _ (p.val (hm x (by simp)) h1) (vals_rel p (fun y hy => hm y (by simp [hy])) h2)

/-! ### Types -/
theorem info_of_underlying {P : Program} {t : TypeId} {d : TypeDesc} (h : P.underlying t = some d) : ∃ i, P.info? t = some i ∧ i.size = P.cellsOf t := by
  unfold Program.underlying at h
  unfold Program.cellsOf
  cases hi : P.info? t with
  | none => rw [hi] at h; cases h
  | some i => exact ⟨i, rfl, by simp⟩
theorem run_underlying' {P : Program} {t : TypeId} {d : TypeDesc} (w : World) (h : P.underlying t = some d) : (underlying t).run P w = .ok d w := by
  simp [underlying, h]
theorem run_sizeOf' {P : Program} {t : TypeId} {d : TypeDesc} (w : World) (h : P.underlying t = some d) : (sizeOf t).run P w = .ok (P.cellsOf t) w := by
  obtain ⟨i, h1, h2⟩ := info_of_underlying h
  simp [sizeOf, typeInfo, h1, h2]
theorem run_isAgg' {P : Program} {t : TypeId} {d : TypeDesc} (w : World) (h : P.underlying t = some d) : (isAgg t).run P w = .ok (isAgg' P t) w := by
  simp only [isAgg, Sem.run_bind, run_underlying' w h, Result.andThen_ok, isAgg', h]
  cases d <;> rfl
theorem zeroOf_run {P : Program} {t : TypeId} {z : List DV} (w : World) (h : zeroOf P t = some z) : ∃ v, (zeroValue t).run P w = .ok v w ∧ (∀ (C : Cfg) ψ, VRs C ψ z v.cells.toList) ∧ z.all one = true := by
  unfold zeroOf at h
  split at h
  · rename_i i hi
    split at h
    · rename_i v hv
      refine ⟨v, by simp [zeroValue, typeInfo, hi, hv], fun C ψ => (ofVals_rel h).1, ?_⟩
      exact (ofVals_rel (C := ⟨P, id, fun _ => true, id, id, fun _ => true, fun _ => []⟩) (ψ := fun _ => none) h).2
    · cases h
  · cases h

/-- What a new row holds. -/
theorem holds_new {C : Cfg} {ψ : Ps} {w : World} {b : Nat} {c : Array Value} {ty : TypeId} {fr : Nat × Nat} {cells : List DV} (hb : w.heap[b]? = some (.cells c ty fr)) (hf : fr = (0, 0) ∨ c.size ≤ fr.1)
    (hr : VRs C ψ cells (c.toList.take cells.length)) (ho : cells.all one = true) : Holds C ψ w ⟨b, 0, c.size⟩ (.cells false cells) := by
  have hl : cells.length ≤ c.size := by
    have := hr.len
    simp only [List.length_take, Array.length_toList] at this
    omega
  refine ⟨hl, ho, fun j d hd => ?_, fun _ => ⟨c, ty, fr, hb, by simp, fun j hj => ?_⟩⟩
  · obtain ⟨v, hv, hr'⟩ := hr.get hd
    refine ⟨v, ?_, hr'⟩
    rw [List.getElem?_take] at hv
    split at hv
    · rw [cell_of_row w b _ c ty fr hb]; simpa using hv
    · cases hv
  · rcases hf with hf | hf
    · subst hf; simp
    · simp only at hj
      have : decide (fr.1 ≤ 0 + j) = false := by simp; omega
      rw [this]; rfl

theorem eval_tmp (a : Act) (t : Nat) : a.eval (.tmp t) = a.tmps.getD t undef := rfl
end Go.Gv
