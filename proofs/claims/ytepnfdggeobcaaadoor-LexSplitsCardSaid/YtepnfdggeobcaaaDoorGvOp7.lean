/- Single operations: what is built; conversions; lengths. -/
import Derived.Test.YtepnfdggeobcaaaDoorGvOp6
import Derived.Laws.Tables
import Derived.Laws.MakeOwn
namespace Go.Gv
variable {β : Type}

section
variable {C : Cfg} {o : Oper} {D W : HId → Prop} {E : Env} {s : St} {md : Md} {pr ms : List Nat}

/-! ### Parts laid over a zero value -/
theorem zip_ovA : ∀ (l : List Value) (k off : Nat) (c : Array Value), (l.zipIdx k).foldl (fun cs (x : Value × Nat) => cs.setIfInBounds (off + x.2) x.1) c = ovA c (off + k) l
  | [], _, _, _ => rfl
  | v :: l, k, off, c => by
    simp only [List.zipIdx_cons, List.foldl_cons, ovA]
    rw [zip_ovA l (k + 1) off]
    rfl

theorem fill_step (place : Nat → Option (Nat × Nat)) (cells : Array Value) (i : Nat) (v : Value) (rest : List (Nat × Value)) {off size : Nat} (hp : place i = some (off, size)) (h1 : v.cells.size = size) (h2 : off + size ≤ cells.size) :
    Instr.fill place cells ((i, v) :: rest) = Instr.fill place (ovA cells off v.cells.toList) rest := by
  subst h1
  have e : v.cells.zipIdx.foldl (fun cs (x : Value × Nat) => cs.setIfInBounds (off + x.2) x.1) cells = ovA cells off v.cells.toList := by
    rw [← Array.foldl_toList, Array.toList_zipIdx]
    exact zip_ovA v.cells.toList 0 off cells
  have hn : ¬ (off + v.cells.size > cells.size) := by omega
  simp only [Instr.fill, hp, ne_eq, not_true_eq_false, decide_false, Bool.false_or, hn, Bool.false_eq_true, if_false]
  exact congrArg (fun x => Instr.fill place x rest) e

theorem VRs.lenA {ψ : Ps} {ds : List DV} {vs : Array Value} (h : VRs C ψ ds vs.toList) : ds.length = vs.size := by have := h.len; simpa using this

theorem spl_rel {ψ : Ps} {cs ds : List DV} {vs : Array Value} {us : List Value} {off : Nat} (h : VRs C ψ cs vs.toList) (h' : VRs C ψ ds us) (hl : off + ds.length ≤ cs.length) : VRs C ψ (spl cs off ds) (ovA vs off us).toList := by
  have e1 := h.lenA
  have e2 := h'.len
  refine VRs.of _ _ (by simp [spl_length, e1]) fun j d v hd hv => ?_
  rw [spl_get cs off ds j hl] at hd
  rw [Array.getElem?_toList, ovA_get _ _ _ _ (by omega)] at hv
  split at hd
  · rw [if_pos (by omega)] at hv
    obtain ⟨v', hv', hr⟩ := h'.get hd
    rw [hv] at hv'; cases hv'; exact hr
  · rw [if_neg (by omega)] at hv
    obtain ⟨v', hv', hr⟩ := h.get hd
    rw [Array.getElem?_toList, hv] at hv'; cases hv'; exact hr

theorem layK_some {N : Nat} {place : Nat → Option (Nat × Nat)} {r : Out β × St} : ∀ {l : List (Nat × Operand)} {cs : List DV} {K : List DV → M β}, layK E C N place l cs K s = some r → cs.length = N →
    ∃ cs', K cs' s = some r ∧ cs'.length = N ∧ ∀ ψ Q a w, Pre C o D E s ψ Q a w → (∀ x ∈ l, x.2 ∈ o.op.operands) → ∀ vs : Array Value, VRs C ψ cs vs.toList → cs.all one = true →
      ∃ vs', Instr.fill place vs (l.map fun x => (x.1, a.eval x.2)) = some vs' ∧ VRs C ψ cs' vs'.toList ∧ cs'.all one = true
  | [], cs, K, h, hl => ⟨cs, h, hl, fun ψ Q a w _ _ vs hr h1 => ⟨vs, rfl, hr, h1⟩⟩
  | (i, x) :: l, cs, K, h, hl => by
    simp only [layK] at h
    cases hp : place i with
    | none => rw [hp] at h; cases h
    | some on =>
      obtain ⟨off, n⟩ := on
      rw [hp] at h
      simp only at h
      obtain ⟨hb, h⟩ := cond_some h
      have hb := Nat.le_of_ble_eq_true hb
      obtain ⟨d, hd, h⟩ := valK_some h
      have go : ∀ ds, layK E C N place l (spl cs off ds) K s = some r → ds.length = n → (∀ (ψ : Ps) v, VR C ψ d v → VRs C ψ ds v.cells.toList ∧ ds.all one = true) →
          ∃ cs', K cs' s = some r ∧ cs'.length = N ∧ ∀ ψ Q a w, Pre C o D E s ψ Q a w → (∀ y ∈ (i, x) :: l, y.2 ∈ o.op.operands) → ∀ vs : Array Value, VRs C ψ cs vs.toList → cs.all one = true →
            ∃ vs', Instr.fill place vs (((i, x) :: l).map fun x => (x.1, a.eval x.2)) = some vs' ∧ VRs C ψ cs' vs'.toList ∧ cs'.all one = true := by
        intro ds h hdl hr
        obtain ⟨cs', h, hl', hrest⟩ := layK_some h (by rw [spl_length]; exact hl)
        refine ⟨cs', h, hl', fun ψ Q a w p hm vs hv h1 => ?_⟩
        obtain ⟨h3, h4⟩ := hr ψ _ (p.val (hm (i, x) (by simp)) hd)
        have hsz : (a.eval x).cells.size = n := by rw [← hdl, h3.lenA]
        have hvl := hv.lenA
        obtain ⟨vs', e1, e2, e3⟩ := hrest ψ Q a w p (fun y hy => hm y (by simp [hy])) _ (spl_rel (off := off) hv h3 (by omega)) (spl_one h1 h4 (by omega))
        refine ⟨vs', ?_, e2, e3⟩
        rw [List.map_cons, fill_step place vs i _ _ hp hsz (by omega)]
        exact e1
      have plain : (∀ cs, d ≠ .agg cs) → (bif Nat.beq n 1 then M.chk (one d) (layK E C N place l (spl cs off [d]) K) else fail) s = some r → _ := fun hna h => by
        obtain ⟨h1, h⟩ := cond_some h
        obtain ⟨h2, h⟩ := chk_some h
        exact go [d] h (by simpa using (Nat.eq_of_beq_eq_true h1).symm) (fun ψ v hv => by rw [hv.cells1 h2]; exact ⟨.cons _ _ _ _ hv .nil, by simp [h2]⟩)
      cases d with
      | agg ds =>
        simp only at h
        obtain ⟨h1, h⟩ := len_some h
        exact go ds h h1 (fun ψ v hv => by cases hv with | agg _ vs a b => exact ⟨a, b⟩)
      | _ => exact plain (by simp) h

theorem run_places_eq {P : Program} : ∀ (fs : List Field), (fs.all fun f => (P.info? f.type).isSome) = true → fs.mapM (fun f => (P.info? f.type).map fun i => (f.offset, i.size)) = some (fs.map fun f => (f.offset, P.cellsOf f.type))
  | [], _ => rfl
  | f :: fs, h => by
    simp only [List.all_cons, Bool.and_eq_true] at h
    obtain ⟨i, hi⟩ := Option.isSome_iff_exists.1 h.1
    simp [List.mapM_cons, hi, run_places_eq fs h.2, Program.cellsOf]

theorem opBuild_res {t : TypeId} {ps : Array (Nat × Operand)} (ho : o.op = .build t ps) (hWD : ∀ h, W h → D h) {K : Env → M β} {r : Out β × St} (h : opBuild C E o K t ps s = some r) : Res C md pr ms o D W E s K r := by
  unfold opBuild at h
  cases hz : zeroOf C.P t with
  | none => rw [hz] at h; cases h
  | some z =>
    rw [hz] at h
    simp only at h
    obtain ⟨hpl, h⟩ := cond_some h
    obtain ⟨cs', h, hl, hr⟩ := layK_some (o := o) (D := D) h rfl
    refine Res.val hWD _ h fun ψ Q a w p => ?_
    unfold zeroOf at hz
    cases hi : C.P.info? t with
    | none => rw [hi] at hz; cases hz
    | some it =>
      rw [hi] at hz
      simp only at hz
      cases hzz : it.zero with
      | none => rw [hzz] at hz; cases hz
      | some zv =>
        rw [hzz] at hz
        obtain ⟨hz1, hz2⟩ := ofVals_rel (C := C) (ψ := ψ) hz
        obtain ⟨vs', e1, e2, e3⟩ := hr ψ Q a w p (fun x hx => by simp only [Op.operands, ho, List.mem_toArray, List.mem_map]; exact ⟨x, hx, rfl⟩) _ hz1 hz2
        refine ⟨.agg vs', w, ?_, .refl w, .agg _ _ e2 e3⟩
        have hb : C.P.built t (ps.map fun (i, x) => (i, a.eval x)).toList = some vs' := by
          have e1' : Instr.fill (placeOf C.P t) zv.cells (ps.map fun (i, x) => (i, a.eval x)).toList = some vs' := by rw [Array.toList_map]; exact e1
          unfold Program.built placesOk at *
          unfold placeOf at e1'
          cases hu : C.P.underlying t with
          | none => rw [hu] at hpl; cases hpl
          | some td =>
            rw [hu] at hpl e1'
            rw [hi]
            cases td with
            | struct fs =>
              simp only at hpl ⊢
              rw [hzz, run_places_eq _ hpl]
              simp only at e1' ⊢
              rw [← e1']
              congr 1
              funext i
              rw [List.getElem?_toArray, List.getElem?_map, Array.getElem?_toList]
              cases fs[i]? <;> rfl
            | array m e =>
              simp only at hpl ⊢
              obtain ⟨ie, hie⟩ := Option.isSome_iff_exists.1 hpl
              rw [hzz, hie]
              simp only at e1' ⊢
              rw [← e1']
              simp [Program.cellsOf, hie]
            | _ => cases hpl
        simp only [execOp, ho, Sem.run_bind, run_build w t _ _ hb, Result.andThen_ok, Sem.run_pure]

theorem rep_length (n : Nat) (z : List DV) : (rep n z).length = n * z.length := by
  induction n with
  | zero => simp [rep]
  | succ n ih =>
    have : rep (n + 1) z = z ++ rep n z := by simp [rep, List.replicate_succ]
    rw [this, List.length_append, ih, Nat.succ_mul, Nat.add_comm]
theorem rep_one {n : Nat} {z : List DV} (h : z.all one = true) : (rep n z).all one = true := by
  induction n with
  | zero => rfl
  | succ n ih =>
    have : rep (n + 1) z = z ++ rep n z := by simp [rep, List.replicate_succ]
    rw [this, List.all_append, h, ih]; rfl
theorem rep_get (n : Nat) (z : List DV) (j : Nat) (h : j < n * z.length) : (rep n z)[j]? = z[j % z.length]? := by
  induction n generalizing j with
  | zero => simp at h
  | succ n ih =>
    have e : rep (n + 1) z = z ++ rep n z := by simp [rep, List.replicate_succ]
    rw [e]
    by_cases hj : j < z.length
    · rw [List.getElem?_append_left hj, Nat.mod_eq_of_lt hj]
    · rw [List.getElem?_append_right (by omega), ih (j - z.length) (by rw [Nat.succ_mul] at h; omega)]
      rw [show j % z.length = (j - z.length) % z.length from by rw [Nat.mod_eq_sub_mod (by omega)]]

theorem made_rel {ψ : Ps} {z : List DV} {zv : Array Value} (h : VRs C ψ z zv.toList) (n m : Nat) (hm : n * z.length ≤ m) : VRs C ψ (rep n z) ((madeCells zv m).toList.take (rep n z).length) := by
  have hl := h.lenA
  refine VRs.of _ _ (by simp [size_madeCells, rep_length]; omega) fun j d v hd hv => ?_
  rw [rep_length] at hv
  rw [List.getElem?_take] at hv
  split at hv
  · rename_i hj
    rw [rep_get n z j hj] at hd
    obtain ⟨v', hv', hr⟩ := h.get hd
    rw [Array.getElem?_toList] at hv hv'
    unfold madeCells at hv
    rw [Array.getElem?_map, Array.getElem?_range] at hv
    rw [if_pos (by omega)] at hv
    simp only [Option.map_some, Option.some.injEq] at hv
    rw [← hl] at hv
    rw [← hv, getElem!_def, hv']
    exact hr
  · cases hv

theorem opBuildSlice_res {t : TypeId} {len : Nat} {ps : Array (Nat × Operand)} (ho : o.op = .buildSlice t len ps) (hWD : ∀ h, W h → D h) {K : Env → M β} {r : Out β × St} (h : opBuildSlice C E o K t len ps s = some r) : Res C md pr ms o D W E s K r := by
  unfold opBuildSlice at h
  unfold elemOf' at h
  cases ht : C.P.underlying t with
  | none => rw [ht] at h; cases h
  | some td =>
    rw [ht] at h
    cases td with
    | slice e =>
      simp only at h
      cases hz : zeroOf C.P e with
      | none => rw [hz] at h; cases h
      | some z =>
        rw [hz] at h
        simp only at h
        obtain ⟨hb, h⟩ := cond_some h
        rw [Bool.and_eq_true] at hb
        have hb1 := Nat.le_of_ble_eq_true hb.1
        have hb2 := Nat.eq_of_beq_eq_true hb.2
        obtain ⟨cs', h, hl, hr⟩ := layK_some (o := o) (D := D) h (by rw [rep_length, hb2])
        refine Res.newH (by unfold NewOp; rw [ho]; trivial) hWD (.slice (C.P.cellsOf e) (some (s.length, 0)) len) cs' h fun ψ Q a w p => ?_
        obtain ⟨zv, hzr, hzv, hz1⟩ := zeroOf_run (P := C.P) w hz
        have hzv := hzv C ψ
        have hzl := hzv.lenA
        have hie : ∃ ie, C.P.info? e = some ie ∧ ie.size = C.P.cellsOf e := by
          unfold zeroOf at hz
          cases hi : C.P.info? e with
          | none => rw [hi] at hz; cases hz
          | some ie => exact ⟨ie, rfl, by simp [Program.cellsOf, hi]⟩
        obtain ⟨ie, hie, hies⟩ := hie
        have hmade := made_rel hzv len (len * C.P.cellsOf e) (by rw [hb2]; exact Nat.le_refl _)
        rw [rep_length, hb2, take_len (by simp [size_madeCells])] at hmade
        obtain ⟨vs', e1, e2, e3⟩ := hr ψ Q a w p (fun x hx => by simp only [Op.operands, ho, List.mem_toArray, List.mem_map]; exact ⟨x, hx, rfl⟩) _ hmade (rep_one hz1)
        have hvl := e2.lenA
        rw [hl] at hvl
        refine ⟨.slice (some ⟨w.heap.size, 0, none⟩) len len, w.alloc (.cells vs' e), ⟨w.heap.size, 0, vs'.size⟩, ?_, .alloc w _, Nat.le_refl _, by simp, holds_alloc (by rw [take_len (by simp [hl, hvl])]; exact e2) e3, fun ψ' _ hψ => ?_⟩
        · have hn : ¬ (len * C.P.cellsOf e > 2 ^ 24) := by omega
          by_cases h0 : len * C.P.cellsOf e = 0
          · have e0 : madeCells zv.cells (len * C.P.cellsOf e) = #[] := by rw [h0]; simp [madeCells, Array.range_zero']
            rw [e0] at e1
            simp only [execOp, ho, Instr.buildSlice, Sem.run_bind, run_underlying' w ht, Result.andThen_ok, sizeOf, typeInfo, run_program, hie, Sem.run_pure, hies, h0, if_true, Array.range_zero', Array.map_empty]
            simp [e1, newRow]
          · simp only [execOp, ho, Instr.buildSlice, Sem.run_bind, run_underlying' w ht, Result.andThen_ok, sizeOf, typeInfo, run_program, hie, Sem.run_pure, hies, hn, if_false, h0, hzr]
            unfold madeCells at e1
            simp [e1, newRow]
        · have := VR.slice (C := C) (ψ := ψ') (C.P.cellsOf e) s.length 0 len ⟨w.heap.size, 0, vs'.size⟩ ⟨w.heap.size, 0, none⟩ len hψ (Nat.le_refl _) (fun _ => ⟨rfl, by simp only; omega⟩)
          exact this
    | _ => cases h

theorem opMakeSlice_res {t : TypeId} {l c : Operand} (ho : o.op = .makeSlice t l c) (hWD : ∀ h, W h → D h) {K : Env → M β} {r : Out β × St} (h : opMakeSlice C E o K t l c s = some r) : Res C md pr ms o D W E s K r := by
  unfold opMakeSlice elemOf' at h
  cases ht : C.P.underlying t with
  | none => rw [ht] at h; cases h
  | some td =>
    rw [ht] at h
    cases td with
    | slice e =>
      simp only at h
      cases hz : zeroOf C.P e with
      | none => rw [hz] at h; cases h
      | some z =>
        rw [hz] at h
        simp only at h
        obtain ⟨hb2, h⟩ := cond_some h
        have hb2 := Nat.eq_of_beq_eq_true hb2
        obtain ⟨k1, n, hn, h⟩ := intK_some h
        obtain ⟨k2, m, hm, h⟩ := intK_some h
        obtain ⟨hb, h⟩ := chk_some h
        simp only [Bool.and_eq_true, decide_eq_true_eq] at hb
        obtain ⟨⟨h0, h1⟩, h2⟩ := hb
        refine Res.newH (by unfold NewOp; rw [ho]; trivial) hWD (.slice (C.P.cellsOf e) (some (s.length, 0)) n.toNat) (rep n.toNat z) h fun ψ Q a w p => ?_
        unfold zeroOf at hz
        cases hi : C.P.info? e with
        | none => rw [hi] at hz; cases hz
        | some ie =>
          rw [hi] at hz
          simp only at hz
          cases hzz : ie.zero with
          | none => rw [hzz] at hz; cases hz
          | some zv =>
            rw [hzz] at hz
            obtain ⟨hz1, hz2⟩ := ofVals_rel (C := C) (ψ := ψ) hz
            have hsz : ie.size = C.P.cellsOf e := by simp [Program.cellsOf, hi]
            have hbytes : (ie.bytes : Int) * m ≤ 281474976710656 := by
              unfold limOf bytesOf' at h2
              rw [hi] at h2
              simp only at h2
              have h3 : m.toNat ≤ 70368744177664 / ie.bytes := by omega
              rcases Nat.eq_zero_or_pos ie.bytes with hz | hp
              · rw [hz]; simp
              · have := (Nat.le_div_iff_mul_le hp).1 h3
                have e : m = (m.toNat : Int) := by omega
                rw [e, ← Int.natCast_mul, Nat.mul_comm]
                omega
            have h63 : m ≤ 9223372036854775807 := by
              unfold limOf at h2
              have := Nat.div_le_self 70368744177664 (bytesOf' C.P e)
              omega
            have hr := run_make (P := C.P) w t e ie zv ht hi hzz k1 k2 n m h0 h1 hbytes h63
            have hle : n.toNat * C.P.cellsOf e ≤ m.toNat * ie.size := by rw [hsz]; exact Nat.mul_le_mul_right _ (by omega)
            refine ⟨.slice (some ⟨w.heap.size, 0, none⟩) n.toNat m.toNat, w.alloc (.cells (madeCells zv.cells (m.toNat * ie.size)) e), ⟨w.heap.size, 0, (madeCells zv.cells (m.toNat * ie.size)).size⟩, ?_, .alloc w _, Nat.le_refl _, by simp, holds_alloc (made_rel hz1 n.toNat (m.toNat * ie.size) (by rw [hb2]; exact hle)) (rep_one hz2), fun ψ' _ hψ => ?_⟩
            · have e1 := p.int (x := l) (by simp [Op.operands, ho]) hn
              have e2 := p.int (x := c) (by simp [Op.operands, ho]) hm
              simp only [execOp, ho, e1, e2, Sem.run_bind, hr, Result.andThen_ok, Sem.run_pure]
            · exact VR.slice _ _ 0 _ _ _ _ hψ (by omega) (fun _ => ⟨rfl, by simp only [size_madeCells, hsz]; omega⟩)
    | _ => cases h

/-! ### Lengths -/
theorem opLen_res {q : Call} {b : Builtin} (hq : q.callee = .builtin b) (hb : b = .len) (ho : o.op = .call q) (hWD : ∀ h, W h → D h) {K : Env → M β} {r : Out β × St} (h : opLen C E o K q.argTypes q.args s = some r) : Res C md pr ms o D W E s K r := by
  subst hb
  unfold opLen at h
  cases ha : q.args.toList with
  | nil => rw [ha] at h; cases h
  | cons y rest =>
    cases rest with
    | cons _ _ => rw [ha] at h; cases h
    | nil =>
      cases ht : q.argTypes[0]? with
      | none => rw [ha, ht] at h; cases h
      | some t =>
        rw [ha, ht] at h
        simp only at h
        have hargs : q.args = #[y] := by rw [← Array.toArray_toList (xs := q.args), ha]
        have mem : y ∈ o.op.operands := by rw [ho]; simp [Op.operands, Call.operands, hq, hargs]
        have run : ∀ (a : Act) (w : World) v, (Builtin.len_ q.argTypes o.type #[a.eval y]).run C.P w = .ok v w → (execOp a.eval o).run C.P w = .ok (.value v) w := by
          intro a w v hv
          simp [execOp, ho, resolve, hq, invoke, builtin, hargs, hv]
        cases hu : C.P.underlying t with
        | none => rw [hu] at h; cases h
        | some td =>
          rw [hu] at h
          cases td with
          | array m e =>
            refine Res.val hWD _ h fun ψ Q a w p => ⟨.int .i64 m, w, run a w _ ?_, .refl w, .int _ _⟩
            simp [Builtin.len_, ht, run_underlying' w hu, goInt]
          | string =>
            simp only at h
            obtain ⟨d, hd, h⟩ := valK_some h
            cases d with
            | str l =>
              refine Res.val hWD _ h fun ψ Q a w p => ?_
              have hv := p.val mem hd
              generalize hy : a.eval y = v at hv
              cases hv with
              | str x =>
                refine ⟨.int .i64 x.size, w, run a w _ ?_, .refl w, ?_⟩
                · simp [Builtin.len_, ht, run_underlying' w hu, goInt, hy]
                · have : x.data.toList.length = x.size := by rw [Array.length_toList]; rfl
                  rw [this]; exact .int _ _
            | _ => cases h
          | slice e =>
            simp only at h
            obtain ⟨d, hd, h⟩ := valK_some h
            cases d with
            | slice z a' n =>
              refine Res.val hWD _ h fun ψ Q a w p => ?_
              have hv := p.val mem hd
              generalize hy : a.eval y = v at hv
              cases hv with
              | sliceN => exact ⟨.int .i64 (0 : Nat), w, run a w _ (by simp [Builtin.len_, ht, run_underlying' w hu, goInt, hy]), .refl w, .int _ _⟩
              | slice _ i off _ cb base cap => exact ⟨.int .i64 n, w, run a w _ (by simp [Builtin.len_, ht, run_underlying' w hu, goInt, hy]), .refl w, .int _ _⟩
            | _ => cases h
          | _ => cases h

theorem opMin_res {q : Call} {b : Builtin} {mx : Bool} (hq : q.callee = .builtin b) (hb : b = if mx then .max else .min) (ho : o.op = .call q) (hWD : ∀ h, W h → D h) {K : Env → M β} {r : Out β × St} (h : opMin C E o K mx q.args s = some r) : Res C md pr ms o D W E s K r := by
  unfold opMin at h
  cases ha : q.args.toList with
  | nil => rw [ha] at h; cases h
  | cons y rest =>
    cases rest with
    | nil => rw [ha] at h; cases h
    | cons z rest =>
      cases rest with
      | cons _ _ => rw [ha] at h; cases h
      | nil =>
        rw [ha] at h
        simp only at h
        have hargs : q.args = #[y, z] := by rw [← Array.toArray_toList (xs := q.args), ha]
        have my : y ∈ o.op.operands := by rw [ho]; simp [Op.operands, Call.operands, hq, hargs]
        have mz : z ∈ o.op.operands := by rw [ho]; simp [Op.operands, Call.operands, hq, hargs]
        obtain ⟨d, hd, h⟩ := valK_some h
        obtain ⟨e, he, h⟩ := valK_some h
        cases d with
        | int k n =>
          cases e with
          | int k' m =>
            simp only at h
            obtain ⟨hk, h⟩ := cond_some h
            refine Res.val hWD _ h fun ψ Q a w p => ?_
            have e1 := p.int my hd
            have e2 := p.int mz he
            cases mx with
            | true =>
              simp only [if_true] at hb
              subst hb
              exact ⟨.int k (if n < m then m else n), w, by simp [execOp, ho, resolve, hq, invoke, builtin, hargs, e1, e2, Builtin.max_, Builtin.max2], .refl w, .int _ _⟩
            | false =>
              simp only [Bool.false_eq_true, if_false] at hb
              subst hb
              exact ⟨.int k (if m < n then m else n), w, by simp [execOp, ho, resolve, hq, invoke, builtin, hargs, e1, e2, Builtin.min_, Builtin.min2], .refl w, .int _ _⟩
          | _ => cases h
        | _ => cases h
end
end Go.Gv
