/- Single operations: the built-in ones that write; calls; all of them. -/
import Derived.Test.YtepnfdggeobcaaaDoorGvOp9
namespace Go.Gv
variable {β : Type}

section
variable {C : Cfg} {o : Oper} {D W : HId → Prop} {E : Env} {s : St} {md : Md} {pr ms : List Nat}

theorem args2 {q : Call} {y z : Operand} (h : q.args.toList = [y, z]) : q.args = #[y, z] := by rw [← Array.toArray_toList (xs := q.args), h]
theorem or_beq {x y : Nat} {a : Option (Nat × Nat)} (h : (Nat.beq x y || a.isNone) = true) : x = y ∨ a = none := by
  rw [Bool.or_eq_true] at h
  rcases h with h | h
  · exact .inl (Nat.eq_of_beq_eq_true h)
  · exact .inr (by simpa using h)

theorem run_lenOf_slice (P : Program) (a : Option Addr) (n c : Nat) (w : World) : (Builtin.lenOf (.slice a n c)).run P w = .ok n w := rfl
theorem run_lenOf_str (P : Program) (x : ByteArray) (w : World) : (Builtin.lenOf (.string x)).run P w = .ok x.size w := rfl

/-- A text's octets, as cells. -/
theorem str_cells {ψ : Ps} {P : Program} (x : ByteArray) (n : Nat) (w : World) :
    ∃ vs, (Builtin.firstCells 1 n (.string x)).run P w = .ok vs w ∧ VRs C ψ (byteCells (x.data.toList.take n)) vs.toList := by
  refine ⟨_, rfl, ?_⟩
  have : ((x.extract 0 n).data.map fun b => Value.int .u8 b.toNat).toList = (x.data.toList.take n).map fun b => Value.int .u8 b.toNat := by
    rw [Array.toList_map, ByteArray.data_extract, Array.toList_extract, List.extract_eq_take_drop]
    simp
  rw [this]
  exact byteCells_rel _

theorem opAppend_res {q : Call} (hq : q.callee = .builtin .append) (ho : o.op = .call q) (hWD : ∀ h, W h → D h) (hW : ∀ i, W (.inl i)) {K : Env → M β} {r : Out β × St} (h : opAppend C E o K q.argTypes q.args s = some r) : Res C md pr ms o D W E s K r := by
  unfold opAppend at h
  generalize ha : q.args.toList = l at h
  generalize h0 : q.argTypes[0]? = t0 at h
  split at h
  · rename_i y z t
    unfold elemOf' at h
    cases ht : C.P.underlying t with
    | none => rw [ht] at h; cases h
    | some td =>
      rw [ht] at h
      cases td with
      | slice e =>
        simp only at h
        obtain ⟨ed, he, h⟩ := tyK_some h
        obtain ⟨hn, h⟩ := noNum_some h
        cases hz : zeroOf C.P e with
        | none => rw [hz] at h; cases h
        | some zv =>
          rw [hz] at h
          simp only at h
          obtain ⟨hzl, h⟩ := cond_some' h
          have hzl : zv.length = C.P.cellsOf e := Nat.eq_of_beq_eq_true (by simpa using hzl)
          obtain ⟨a, hda, h⟩ := valK_some h
          obtain ⟨b, hdb, h⟩ := valK_some h
          have hargs := args2 ha
          have mz : z ∈ o.op.operands := by rw [ho]; simp [Op.operands, Call.operands, hq, hargs]
          cases a with
          | slice w1 p1 n =>
            cases b with
            | slice w2 p2 m =>
              simp only at h
              obtain ⟨hw, h⟩ := cond_some h
              rw [Bool.and_eq_true] at hw
              obtain ⟨ds, h, hdl, hds⟩ := rd_some h
              refine app_res hq ho hargs h0 ht he hz hzl hn hWD hW hda (or_beq hw.1) hdl (fun ψ Q A w p => ?_) h
              obtain ⟨base, cap, vs, e1, e2, e3, e4⟩ := rd_rel p (fun i => hWD _ (hW i)) (p.val mz hdb) (or_beq hw.2) (k := m) rfl (Nat.le_refl _) hds
              exact ⟨fun w => by rw [e1]; rfl, vs, e3, e4, e2⟩
            | str l =>
              simp only at h
              obtain ⟨hw, h⟩ := cond_some h
              rw [Bool.and_eq_true] at hw
              have hsz := Nat.eq_of_beq_eq_true hw.2
              rw [← hsz] at h
              refine app_res hq ho hargs h0 ht he hz hzl hn hWD hW hda (by rw [hsz]; exact or_beq hw.1) (by rw [hsz]; simp) (fun ψ Q A w p => ?_) h
              have hv := p.val mz hdb
              generalize A.eval z = v at hv
              cases hv with
              | str x =>
                have hx : x.data.toList.length = x.size := by rw [Array.length_toList]; rfl
                obtain ⟨vs, e1, e2⟩ := str_cells (C := C) (ψ := ψ) (P := C.P) x x.size w
                rw [← hx, List.take_of_length_le (Nat.le_refl _)] at e2
                refine ⟨fun w => by rw [hx]; rfl, vs, e2, byteCells_one _, fun w' hw' => ?_⟩
                rw [hsz, hx]
                cases e1
                rfl
            | _ => cases h
          | _ => cases b <;> cases h
      | _ => cases h
  · cases h

theorem spl_nil (cs : List DV) (p : Nat) : spl cs p [] = cs := by
  induction cs generalizing p with
  | nil => cases p <;> rfl
  | cons c cs ih => cases p with
    | zero => rfl
    | succ p => simp [spl, ih]

theorem wr_some {p : Option (Nat × Nat)} {ds : List DV} {K : M β} {r : Out β × St} (h : M.wr p ds K s = some r) :
    (p = none ∧ ds = [] ∧ K s = some r) ∨ ∃ i q cs, p = some (i, q) ∧ s.open? i = some cs ∧ q + ds.length ≤ cs.length ∧ K (s.set i (some ⟨false, spl cs q ds⟩)) = some r := by
  cases p with
  | none =>
    simp only [M.wr] at h
    obtain ⟨h1, h⟩ := cond_some h
    exact .inl ⟨rfl, List.length_eq_zero_iff.1 (Nat.eq_of_beq_eq_true h1), h⟩
  | some iq =>
    obtain ⟨i, q⟩ := iq
    simp only [M.wr] at h
    obtain ⟨cs, h1, h2, h3⟩ := store_some h
    exact .inr ⟨i, q, cs, rfl, h1, h2, h3⟩

/-- A write through a slice. -/
theorem holds_through {ψ : Ps} {w : World} {cb : CB} {ad : Addr} {q cap n k sz : Nat} {cs ds : List DV} {vs : List Value} (hb : 0 < cap → ad = ⟨cb.b, cb.o + q, none⟩ ∧ q + cap * sz ≤ cb.m) (hc : n ≤ cap) (hk : k ≤ n)
    (h : Holds C ψ w cb (.cells false cs)) (hr : VRs C ψ ds vs) (h1 : ds.all one = true) (hl : ds.length = k * sz) (hle : q + ds.length ≤ cs.length) :
    ∃ w', (storeCells ad vs).run C.P w = .ok () w' ∧ SetW w w' cb.b ∧ Holds C ψ w' cb (.cells false (spl cs q ds)) := by
  by_cases h0 : ds.length = 0
  · have hd := List.length_eq_zero_iff.1 h0
    subst hd
    cases hr
    exact ⟨w, rfl, ⟨fun _ _ => rfl, rfl, rfl, rfl, rfl⟩, by rw [spl_nil]; exact h⟩
  · have hk0 : 0 < k := by
      rcases Nat.eq_zero_or_pos k with h | h
      · subst h; simp at hl; rw [hl] at h0; exact absurd rfl h0
      · exact h
    obtain ⟨e1, _⟩ := hb (by omega)
    rw [e1]
    exact holds_spl h hr h1 hle

theorem run_copy {P : Program} {ts : Array TypeId} {t e : TypeId} {ed : TypeDesc} (h0 : ts[0]? = some t) (ht : P.underlying t = some (.slice e)) (he : P.underlying e = some ed) (ty : TypeId)
    (base : Option Addr) (n m cap : Nat) (X : Value) (w w' : World) (new : Array Value) (hX : (Builtin.lenOf X).run P w = .ok m w)
    (hf : (Builtin.firstCells (P.cellsOf e) (min m n) X).run P w = .ok new w) (hs : ∀ a, base = some a → (storeCells a new.toList).run P w = .ok () w') (hb : base = none → w' = w) :
    (Builtin.copy_ ts ty #[.slice base n cap, X]).run P w = .ok (.int .i64 (min (m : Int) n)) w' := by
  have hmin : ((Nat.min m n : Nat) : Int) = min (m : Int) n := by show ((min m n : Nat) : Int) = _; omega
  have hf' : (Builtin.firstCells (P.cellsOf e) (Nat.min m n) X).run P w = .ok new w := hf
  unfold Builtin.copy_
  simp only [h0, List.getElem?_toArray, List.getElem?_cons_zero, List.getElem?_cons_succ, Sem.run_bind, run_underlying' w ht, Result.andThen_ok, run_sizeOf' w he, hX, hf']
  cases base with
  | none => have := hb rfl; subst this; simp [goInt]; exact hmin
  | some a => simp [hs a rfl, goInt]; exact hmin

theorem opCopy_res {q : Call} (hq : q.callee = .builtin .copy) (ho : o.op = .call q) (hWD : ∀ h, W h → D h) (hW : ∀ i, W (.inl i)) {K : Env → M β} {r : Out β × St} (h : opCopy C E o K q.argTypes q.args s = some r) : Res C md pr ms o D W E s K r := by
  unfold opCopy at h
  generalize ha : q.args.toList = l at h
  generalize h0 : q.argTypes[0]? = t0 at h
  split at h
  · rename_i y z t
    unfold elemOf' at h
    cases ht : C.P.underlying t with
    | none => rw [ht] at h; cases h
    | some td =>
      rw [ht] at h
      cases td with
      | slice e =>
        simp only at h
        obtain ⟨ed, he, h⟩ := tyK_some h
        obtain ⟨a, hda, h⟩ := valK_some h
        obtain ⟨b, hdb, h⟩ := valK_some h
        have hargs := args2 ha
        have my : y ∈ o.op.operands := by rw [ho]; simp [Op.operands, Call.operands, hq, hargs]
        have mz : z ∈ o.op.operands := by rw [ho]; simp [Op.operands, Call.operands, hq, hargs]
        have hex : ∀ (A : Act) (w w' : World) v, (Builtin.copy_ q.argTypes o.type #[A.eval y, A.eval z]).run C.P w = .ok v w' → (execOp A.eval o).run C.P w = .ok (.value v) w' := by
          intro A w w' v hv
          simp [execOp, ho, resolve, hq, invoke, builtin, hargs, hv]
        cases a with
        | slice w1 p1 n =>
          have core : ∀ (m : Nat) (ds : List DV), (w1 = C.P.cellsOf e ∨ p1 = none) → ds.length = min m n * C.P.cellsOf e → M.wr p1 ds (putK E o K (.int .i64 (min (m : Int) n))) s = some r →
              (∀ ψ Q A w, Pre C o D E s ψ Q A w → (Builtin.lenOf (A.eval z)).run C.P w = .ok m w ∧ ∃ vs, VRs C ψ ds vs.toList ∧ ds.all one = true ∧ (Builtin.firstCells (C.P.cellsOf e) (min m n) (A.eval z)).run C.P w = .ok vs w) →
              Res C md pr ms o D W E s K r := by
            intro m ds hw1 hdl h hX
            rcases wr_some h with ⟨rfl, rfl, h⟩ | ⟨i, q0, cs, rfl, hi, hle, h'⟩
            · refine Res.val hWD _ h fun ψ Q A w p => ?_
              obtain ⟨hl, vs, h1, h2, h3⟩ := hX ψ Q A w p
              have hv := p.val my hda
              generalize hy : A.eval y = v at hv
              cases hv
              exact ⟨_, w, hex A w w _ (by rw [hy]; exact run_copy h0 ht he o.type none 0 m 0 (A.eval z) w w vs hl h3 (fun _ h => by cases h) (fun _ => rfl)), .refl w, .int _ _⟩
            · have hw1 : w1 = C.P.cellsOf e := by rcases hw1 with h | h; exact h; cases h
              subst hw1
              refine Res.setH hWD hW (.v (.int .i64 (min (m : Int) n))) rfl (fun _ _ _ _ h => by cases h) hi h' fun ψ Q A w p => ?_
              have hv := p.val my hda
              generalize hy : A.eval y = v at hv
              cases hv with
              | slice _ _ _ _ cb ad cap hcb hcap hb =>
                refine ⟨cb, hcb, fun hh => ?_⟩
                obtain ⟨hl, vs, h1, h2, h3⟩ := hX ψ Q A w p
                obtain ⟨w', e1, e2, e3⟩ := holds_through hb hcap (Nat.min_le_right m n) hh h1 h2 hdl hle
                exact ⟨_, w', .inl (hex A w w' _ (by rw [hy]; exact run_copy h0 ht he o.type (some ad) n m cap (A.eval z) w w' vs hl h3 (fun _ h => by cases h; exact e1) (fun h => by cases h))), e2, e3, .int _ _⟩
          cases b with
          | slice w2 p2 m =>
            simp only at h
            obtain ⟨hw, h⟩ := cond_some h
            rw [Bool.and_eq_true] at hw
            obtain ⟨ds, h, hdl, hds⟩ := rd_some h
            refine core m ds (or_beq hw.1) hdl h fun ψ Q A w p => ?_
            obtain ⟨base, cap, vs, e1, e2, e3, e4⟩ := rd_rel p (fun i => hWD _ (hW i)) (p.val mz hdb) (or_beq hw.2) (k := min m n) rfl (Nat.min_le_left _ _) hds
            exact ⟨by rw [e1]; rfl, vs, e3, e4, e2 w rfl⟩
          | str l =>
            simp only at h
            obtain ⟨hw, h⟩ := cond_some h
            rw [Bool.and_eq_true] at hw
            have hsz := Nat.eq_of_beq_eq_true hw.2
            refine core l.length (byteCells (l.take n)) (by rw [hsz]; exact or_beq hw.1) (by rw [hsz]; simp [Nat.min_comm]) h fun ψ Q A w p => ?_
            have hv := p.val mz hdb
            generalize A.eval z = v at hv
            cases hv with
            | str x =>
              have hx : x.data.toList.length = x.size := by rw [Array.length_toList]; rfl
              obtain ⟨vs, e1, e2⟩ := str_cells (C := C) (ψ := ψ) (P := C.P) x (min x.data.toList.length n) w
              refine ⟨by rw [hx]; rfl, vs, ?_, byteCells_one _, by rw [hsz]; exact e1⟩
              have : x.data.toList.take (min x.data.toList.length n) = x.data.toList.take n := by
                rw [Nat.min_comm, ← List.take_take, List.take_of_length_le (Nat.le_refl _)]
              rw [this] at e2
              exact e2
          | _ => cases h
        | _ => cases b <;> cases h
      | _ => cases h
  · cases h

theorem opClear_res {q : Call} (hq : q.callee = .builtin .clear) (ho : o.op = .call q) (hWD : ∀ h, W h → D h) (hW : ∀ i, W (.inl i)) {K : Env → M β} {r : Out β × St} (h : opClear C E o K q.argTypes q.args s = some r) : Res C md pr ms o D W E s K r := by
  unfold opClear at h
  generalize ha : q.args.toList = l at h
  generalize h0 : q.argTypes[0]? = t0 at h
  split at h
  · rename_i y t
    unfold elemOf' at h
    cases ht : C.P.underlying t with
    | none => rw [ht] at h; cases h
    | some td =>
      rw [ht] at h
      cases td with
      | slice e =>
        simp only at h
        obtain ⟨a, hda, h⟩ := valK_some h
        have hargs : q.args = #[y] := by rw [← Array.toArray_toList (xs := q.args), ha]
        have my : y ∈ o.op.operands := by rw [ho]; simp [Op.operands, Call.operands, hq, hargs]
        have hex : ∀ (A : Act) (w w' : World), (Builtin.clear_ q.argTypes o.type #[A.eval y]).run C.P w = .ok (.tuple #[]) w' → (execOp A.eval o).run C.P w = .ok (.value (.tuple #[])) w' := by
          intro A w w' hv
          simp [execOp, ho, resolve, hq, invoke, builtin, hargs, hv]
        cases a with
        | slice w1 p1 n =>
          cases hz : zeroOf C.P e with
          | none => rw [hz] at h; cases h
          | some z =>
            rw [hz] at h
            simp only at h
            obtain ⟨hw, h⟩ := cond_some h
            rw [Bool.and_eq_true] at hw
            have hzl := Nat.eq_of_beq_eq_true hw.2
            rcases wr_some h with ⟨rfl, hnil, h⟩ | ⟨i, q0, cs, rfl, hi, hle, h'⟩
            · refine Res.pure hWD (.tup []) rfl (fun _ _ _ _ h => by cases h) h fun ψ Q A w p => ?_
              have hv := p.val my hda
              generalize hy : A.eval y = v at hv
              cases hv
              exact ⟨.tuple #[], w, hex A w w (by rw [hy]; simp [Builtin.clear_, h0, run_underlying' w ht]), .refl w, _, rfl, .nil⟩
            · have hw1 : w1 = C.P.cellsOf e := by rcases or_beq hw.1 with h | h; exact h; cases h
              subst hw1
              refine Res.setH hWD hW (.tup []) rfl (fun _ _ _ _ h => by cases h) hi h' fun ψ Q A w p => ?_
              have hv := p.val my hda
              generalize hy : A.eval y = v at hv
              cases hv with
              | slice _ _ _ _ cb ad cap hcb hcap hb =>
                refine ⟨cb, hcb, fun hh => ?_⟩
                obtain ⟨zv, hzr, hzv, hz1⟩ := zeroOf_run (P := C.P) w hz
                have hzs := (hzv C ψ).lenA
                have hmade := made_rel (hzv C ψ) n (n * zv.cells.size) (by rw [hzs]; exact Nat.le_refl _)
                rw [take_len (by simp [size_madeCells, rep_length, hzs])] at hmade
                obtain ⟨w', e1, e2, e3⟩ := holds_through hb hcap (Nat.le_refl n) hh hmade (rep_one hz1) (by rw [rep_length, hzl]) hle
                refine ⟨.tuple #[], w', .inl (hex A w w' ?_), e2, e3, _, rfl, .nil⟩
                rw [hy]
                have e1' : (storeCells ad (Builtin.zeroCells zv.cells n).toList).run C.P w = .ok () w' := e1
                cases n with
                | zero =>
                  have : w' = w := by
                    have e4 : (madeCells zv.cells (0 * zv.cells.size)).toList = [] := by simp [madeCells, Array.range_zero']
                    rw [e4] at e1
                    cases e1; rfl
                  subst this
                  simp [Builtin.clear_, h0, run_underlying' _ ht]
                | succ n =>
                  simp [Builtin.clear_, h0, run_underlying' _ ht, hzr, e1']
        | _ => cases h
      | _ => cases h
  · cases h
end
end Go.Gv
