/- Single operations: loads, stores. -/
import Derived.Test.YtepnfdggeobcaaaDoorGvOp3
namespace Go.Gv
variable {β : Type}

/-! ### Reading -/
theorem shOf_b {P : Program} {t : TypeId} {y : B} (h : shOf P t = .b y) : isAgg' P t = false := by
  unfold shOf at h
  cases ha : isAgg' P t with
  | false => rfl
  | true => rw [ha] at h; cases h
theorem shOf_agg {P : Program} {t : TypeId} {l : List B} (h : shOf P t = .agg l) : isAgg' P t = true := by
  unfold shOf at h
  cases ha : isAgg' P t with
  | true => rfl
  | false => rw [ha] at h; simp only [cond_false] at h; split at h <;> cases h

theorem holds_one {C : Cfg} {ψ : Ps} {w : World} {cb : CB} {f : Bool} {cs : List DV} {p : Nat} {d : DV} {P : Program} (h : Holds C ψ w cb (.cells f cs)) (hd : cs[p]? = some d) :
    ∃ v, (load ⟨cb.b, cb.o + p, none⟩).run P w = .ok v w ∧ VR C ψ d v ∧ one d = true := by
  obtain ⟨v, hv, hr⟩ := h.2.2.1 p d hd
  exact ⟨v, by rw [run_load, hv], hr, List.all_eq_true.1 h.2.1 _ (List.mem_of_getElem? hd)⟩

theorem holds_cells' {C : Cfg} {ψ : Ps} {w : World} {cb : CB} {f : Bool} {cs : List DV} {p n : Nat} {P : Program} (h : Holds C ψ w cb (.cells f cs)) (hn : p + n ≤ cs.length) :
    ∃ vs, (∀ w', w'.heap = w.heap → (loadCells ⟨cb.b, cb.o + p, none⟩ n).run P w' = .ok vs w') ∧ vs.size = n ∧ VRs C ψ ((cs.drop p).take n) vs.toList ∧ ((cs.drop p).take n).all one = true := by
  have hc : ∀ j, j < n → ∃ v, w.cell? ⟨cb.b, cb.o + p + j, none⟩ = some v ∧ ∀ d, cs[p + j]? = some d → VR C ψ d v := by
    intro j hj
    obtain ⟨v, hv, hr⟩ := h.2.2.1 (p + j) cs[p + j] (List.getElem?_eq_getElem (by omega))
    exact ⟨v, by rw [Nat.add_assoc]; exact hv, fun d hd => by rw [List.getElem?_eq_getElem (by omega)] at hd; cases hd; exact hr⟩
  let f : Nat → Value := fun j => (w.cell? ⟨cb.b, cb.o + p + j, none⟩).getD undef
  have hf : ∀ w' : World, w'.heap = w.heap → ∀ j, j < n → w'.cell? ((⟨cb.b, cb.o + p, none⟩ : Addr).add j) = some (f j) := by
    intro w' hw j hj
    obtain ⟨v, hv, _⟩ := hc j hj
    have e : w'.cell? ((⟨cb.b, cb.o + p, none⟩ : Addr).add j) = w.cell? ((⟨cb.b, cb.o + p, none⟩ : Addr).add j) := by simp only [World.cell?, hw]
    rw [e, addr_add, hv]
    simp [f, hv]
  refine ⟨_, fun w' hw => run_loadCells w' _ n f (hf w' hw), by simp, VRs.of _ _ ?_ ?_, all_sub h.2.1⟩
  · simp; omega
  · intro j d v h1 h2
    rw [List.getElem?_take] at h1
    split at h1
    · rename_i hj
      rw [List.getElem?_drop] at h1
      obtain ⟨v', hv', hr⟩ := hc j hj
      simp only [List.getElem?_map, List.getElem?_range, hj, Option.map_some, Option.some.injEq] at h2
      rw [← h2]
      simp only [f, hv', Option.getD_some]
      exact hr d h1
    · cases h1

theorem holds_cells {C : Cfg} {ψ : Ps} {w : World} {cb : CB} {f : Bool} {cs : List DV} {p n : Nat} {P : Program} (h : Holds C ψ w cb (.cells f cs)) (hn : p + n ≤ cs.length) :
    ∃ vs, (loadCells ⟨cb.b, cb.o + p, none⟩ n).run P w = .ok vs w ∧ vs.size = n ∧ VRs C ψ ((cs.drop p).take n) vs.toList ∧ ((cs.drop p).take n).all one = true :=
  let ⟨vs, a, b⟩ := holds_cells' (P := P) h hn
  ⟨vs, a w rfl, b⟩

section
variable {C : Cfg} {o : Oper} {D W : HId → Prop} {E : Env} {s : St} {md : Md} {pr ms : List Nat}

theorem run_loadVar_agg {P : Program} {t : TypeId} {td : TypeDesc} (ht : P.underlying t = some td) (ha : isAgg' P t = true) (a : Addr) (w : World) {vs : Array Value} (h : (loadCells a (P.cellsOf t)).run P w = .ok vs w) :
    (loadVar t a).run P w = .ok (.agg vs) w := by
  simp [loadVar, run_isAgg' w ht, ha, run_sizeOf' w ht, h]
theorem run_loadVar_one {P : Program} {t : TypeId} {td : TypeDesc} (ht : P.underlying t = some td) (ha : isAgg' P t = false) (a : Addr) (w : World) {v : Value} (h : (load a).run P w = .ok v w) :
    (loadVar t a).run P w = .ok v w := by
  rw [loadVar, Sem.run_bind, run_isAgg' w ht, ha]
  simpa using h

theorem part_eq {n : Nat} {cs : List DV} {p m : Nat} (hn : cs.length = n) : part n cs p m = (cs.drop p).take m := by
  unfold part
  cases h : Nat.beq m n && Nat.beq p 0 with
  | false => rfl
  | true =>
    simp only [Bool.and_eq_true] at h
    have h1 := Nat.eq_of_beq_eq_true h.2
    have h2 := Nat.eq_of_beq_eq_true h.1
    subst h1; subst h2; subst hn
    simp
theorem splV_eq {n m : Nat} {cs : List DV} {p : Nat} {ds : List DV} (hn : cs.length = n) (hd : ds.length = m) (hp : p + m ≤ n) : splV n m cs p ds = spl cs p ds := by
  unfold splV
  cases h : Nat.beq m n && Nat.beq p 0 with
  | false => rfl
  | true =>
    simp only [Bool.and_eq_true] at h
    have h1 := Nat.eq_of_beq_eq_true h.2
    have h2 := Nat.eq_of_beq_eq_true h.1
    subst h1; subst h2; subst hn
    simp only [cond_true]
    apply List.ext_getElem?
    intro j
    rw [spl_get cs 0 ds j (by omega)]
    by_cases hj : j < ds.length
    · rw [if_pos (by omega)]; simp
    · rw [if_neg (by omega), List.getElem?_eq_none (by omega), List.getElem?_eq_none (by omega)]

theorem load_some {i p n : Nat} {K : List DV → M β} {s : St} {r : Out β × St} (h : M.load i p n K s = some r) : ∃ f cs, stAB s i = some (.cells f cs) ∧ p + n ≤ cs.length ∧ K ((cs.drop p).take n) s = some r := by
  unfold M.load at h
  unfold St.cells at h
  unfold stAB
  cases hs : s[i]? with
  | none => rw [hs] at h; cases h
  | some x =>
    cases x with
    | none => rw [hs] at h; cases h
    | some b =>
      rw [hs] at h
      simp only at h
      cases hb : Nat.ble (p + n) b.cells.length with
      | false => rw [hb] at h; cases h
      | true => rw [hb] at h; exact ⟨_, _, rfl, Nat.le_of_ble_eq_true hb, h⟩
theorem load1_some {i p : Nat} {K : DV → M β} {s : St} {r : Out β × St} (h : M.load1 i p K s = some r) : ∃ f cs d, stAB s i = some (.cells f cs) ∧ cs[p]? = some d ∧ K d s = some r := by
  unfold M.load1 at h
  unfold St.cells at h
  unfold stAB
  cases hs : s[i]? with
  | none => rw [hs] at h; cases h
  | some x =>
    cases x with
    | none => rw [hs] at h; cases h
    | some b =>
      rw [hs] at h
      simp only at h
      cases hb : b.cells[p]? with
      | none => rw [hb] at h; cases h
      | some d => rw [hb] at h; exact ⟨_, _, _, rfl, hb, h⟩

/-- What stands at a pointer. -/
theorem Pre.at {ψ : Ps} {Q : Kn} {a : Act} {w : World} (p : Pre C o D E s ψ Q a w) {i : Nat} {ab : AB} {cb : CB} (hD : D (.inl i)) (h : stAB s i = some ab) (e : ψ (.inl i) = some cb) : Holds C ψ w cb ab :=
  p.sim.holds _ cb ab e (p.know (.inl i) ab cb hD h e)
theorem Pre.loc {ψ : Ps} {Q : Kn} {a : Act} {w : World} (p : Pre C o D E s ψ Q a w) {t v n : Nat} {cs : List DV} {cb : CB} (hD : D (.inr v)) (h : E.get t = .loc v n cs) (e : ψ (.inr v) = some cb) : Holds C ψ w cb (.cells false cs) :=
  p.sim.holds _ cb _ e (p.know (.inr v) _ cb hD (.inl ⟨t, n, cs, h, rfl⟩) e)

theorem opLoad_res {t : TypeId} {x : Operand} (ho : o.op = .load t x) (hWD : ∀ h, W h → D h) (hDl : ∀ r v, md.loc r = true → (E.get r).ver = some v → D (.inr v)) (hDh : md.far = true → ∀ i, D (.inl i))
    {K : Env → M β} {r : Out β × St} (h : opLoad C E o K md t x s = some r) : Res C md pr ms o D W E s K r := by
  unfold opLoad at h
  obtain ⟨td, ht, h⟩ := tyK_some h
  rcases addrK_some h with ⟨y, v, p0, hx, h⟩ | ⟨i, p0, hx, h⟩
  · obtain ⟨hm, h⟩ := cond_some h
    obtain ⟨n, cs, hl, h⟩ := getLoc_some h
    have hD := hDl y v hm (by rw [hl]; rfl)
    have addr : ∀ ψ Q a w, Pre C o D E s ψ Q a w → ∃ cb, ψ (.inr v) = some cb ∧ cb.o = 0 ∧ a.eval x = .pointer (some ⟨cb.b, p0, none⟩) := fun ψ Q a w p => by
      have := p.src (x := x) (by simp [Op.operands, ho])
      rw [hx] at this
      exact this
    cases hs : shOf C.P t with
    | b y' =>
      rw [hs] at h
      obtain ⟨d, hd, h⟩ := nth_some h
      obtain ⟨d', h, hr, _⟩ := d1_some h
      refine Res.val hWD _ h fun ψ Q a w p => ?_
      obtain ⟨cb, e1, e2, e3⟩ := addr ψ Q a w p
      obtain ⟨v, hv, hvr, _⟩ := holds_one (P := C.P) (p.loc hD hl e1) hd
      rw [e2, Nat.zero_add] at hv
      refine ⟨v, w, ?_, .refl w, hr C ψ v hvr⟩
      simp only [execOp, ho, e3, Instr.loadAt, Sem.run_bind, run_sureAddr, Result.andThen_ok, run_loadVar_one ht (shOf_b hs) _ w hv, Sem.run_pure]
    | agg l =>
      rw [hs] at h
      simp only at h
      obtain ⟨hb, h⟩ := chk_some h
      have hb := Nat.le_of_ble_eq_true hb
      refine Res.val hWD _ h fun ψ Q a w p => ?_
      have hlen := p.eok.len y v n cs hl
      obtain ⟨cb, e1, e2, e3⟩ := addr ψ Q a w p
      obtain ⟨vs, hv, _, hvr, h1⟩ := holds_cells (P := C.P) (p.loc hD hl e1) (p := p0) (n := C.P.cellsOf t) (by omega)
      rw [e2, Nat.zero_add] at hv
      refine ⟨_, w, ?_, .refl w, by rw [part_eq hlen]; exact .agg _ vs hvr h1⟩
      simp only [execOp, ho, e3, Instr.loadAt, Sem.run_bind, run_sureAddr, Result.andThen_ok, run_loadVar_agg ht (shOf_agg hs) _ w hv, Sem.run_pure]
  · obtain ⟨hm, h⟩ := cond_some h
    have hD := hDh hm i
    have addr : ∀ ψ Q a w, Pre C o D E s ψ Q a w → ∃ cb, ψ (.inl i) = some cb ∧ a.eval x = .pointer (some ⟨cb.b, cb.o + p0, none⟩) := fun ψ Q a w p => by
      have := p.val (x := x) (by simp [Op.operands, ho]) hx
      generalize a.eval x = y at this
      cases this with
      | ptr _ _ cb e => exact ⟨cb, e, rfl⟩
    cases hs : shOf C.P t with
    | b y' =>
      rw [hs] at h
      obtain ⟨f, cs, d, hst, hd, h⟩ := load1_some h
      obtain ⟨d', h, hr, _⟩ := d1_some h
      refine Res.val hWD _ h fun ψ Q a w p => ?_
      obtain ⟨cb, e1, e3⟩ := addr ψ Q a w p
      obtain ⟨v, hv, hvr, _⟩ := holds_one (P := C.P) (p.at hD hst e1) hd
      refine ⟨v, w, ?_, .refl w, hr C ψ v hvr⟩
      simp only [execOp, ho, e3, Instr.loadAt, Sem.run_bind, run_sureAddr, Result.andThen_ok, run_loadVar_one ht (shOf_b hs) _ w hv, Sem.run_pure]
    | agg l =>
      rw [hs] at h
      obtain ⟨f, cs, hst, hb, h⟩ := load_some h
      obtain ⟨ds, h, _, hr, h1⟩ := dcells_some h
      refine Res.val hWD _ h fun ψ Q a w p => ?_
      obtain ⟨cb, e1, e3⟩ := addr ψ Q a w p
      obtain ⟨vs, hv, _, hvr, h2⟩ := holds_cells (P := C.P) (p.at hD hst e1) hb
      refine ⟨_, w, ?_, .refl w, .agg _ vs (hr C ψ _ hvr) (h1 h2)⟩
      simp only [execOp, ho, e3, Instr.loadAt, Sem.run_bind, run_sureAddr, Result.andThen_ok, run_loadVar_agg ht (shOf_agg hs) _ w hv, Sem.run_pure]

/-! ### Writing -/
/-- Worlds that differ in one block alone. -/
structure SetW (w w' : World) (b : Nat) : Prop where
  other : ∀ k, k ≠ b → w'.heap[k]? = w.heap[k]?
  size : w'.heap.size = w.heap.size
  tape : w'.tape = w.tape
  os : w'.os = w.os
  output : w'.output = w.output

theorem SetW.setB (w : World) (b : Nat) (ob : Obj) : SetW w (setB w b ob) b :=
  ⟨fun _ h => setB_other h ob, setB_size w b ob, rfl, rfl, rfl⟩

/-- Cells are written into a block that is somebody's alone; what it holds then, from place o' on. -/
theorem holds_write {ψ : Ps} {w : World} {cb : CB} {cs ds cs' : List DV} {vs : List Value} {p o' : Nat} {P : Program} (h : Holds C ψ w cb (.cells false cs)) (hr : VRs C ψ ds vs) (h1 : ds.all one = true)
    (hp : p + ds.length ≤ cb.m) (ho : o' + cs'.length ≤ cb.m) (hc1 : cs'.all one = true)
    (hc : ∀ j d, cs'[j]? = some d → (p ≤ o' + j ∧ o' + j < p + ds.length ∧ ds[o' + j - p]? = some d) ∨ ((o' + j < p ∨ p + ds.length ≤ o' + j) ∧ cs[o' + j]? = some d)) :
    ∃ w', (storeCells ⟨cb.b, cb.o + p, none⟩ vs).run P w = .ok () w' ∧ SetW w w' cb.b ∧ Holds C ψ w' ⟨cb.b, cb.o + o', cb.m - o'⟩ (.cells false cs') := by
  obtain ⟨c, ty, fr, hb, hsz, hfr⟩ := h.2.2.2 rfl
  have hl := hr.len
  have hrun := run_storeCells P cb.b (cb.o + p) ty fr vs 0 w c hb (hr.oneCells h1) (by omega) (fun j _ hj => by
    have := hfr (p + j) (by omega)
    rw [← Nat.add_assoc] at this; exact this)
  simp only [Nat.add_zero] at hrun
  refine ⟨_, hrun, SetW.setB w _ _, by simp only; omega, hc1, fun j d hd => ?_, fun _ => ⟨_, ty, fr, setB_same (lt_of_get hb) _, by simp; omega, fun j hj => ?_⟩⟩
  · dsimp only
    rw [cell_of_row _ _ _ _ ty fr (setB_same (lt_of_get hb) _), ovA_get _ _ _ _ (by omega)]
    rcases hc j d hd with ⟨a1, a2, a3⟩ | ⟨a1, a2⟩
    · rw [if_pos ⟨by omega, by omega⟩]
      obtain ⟨v, hv, hvr⟩ := hr.get a3
      exact ⟨v, by rw [show cb.o + o' + j - (cb.o + p) = o' + j - p by omega]; exact hv, hvr⟩
    · rw [if_neg (by omega)]
      obtain ⟨v, hv, hvr⟩ := h.2.2.1 _ _ a2
      rw [cell_of_row _ _ _ _ ty fr hb] at hv
      exact ⟨v, by rw [Nat.add_assoc]; exact hv, hvr⟩
  · have := hfr (o' + j) (by simp only at hj; omega)
    rw [← Nat.add_assoc] at this; exact this

theorem spl_one {cs ds : List DV} {p : Nat} (h : cs.all one = true) (h' : ds.all one = true) (hp : p + ds.length ≤ cs.length) : (spl cs p ds).all one = true := by
  refine List.all_eq_true.2 fun x hx => ?_
  obtain ⟨j, hj⟩ := List.getElem?_of_mem hx
  rw [spl_get cs p ds j hp] at hj
  split at hj
  · exact List.all_eq_true.1 h' _ (List.mem_of_getElem? hj)
  · exact List.all_eq_true.1 h _ (List.mem_of_getElem? hj)

/-- The same, for a write into what is there. -/
theorem holds_spl {ψ : Ps} {w : World} {cb : CB} {cs ds : List DV} {vs : List Value} {p : Nat} {P : Program} (h : Holds C ψ w cb (.cells false cs)) (hr : VRs C ψ ds vs) (h1 : ds.all one = true)
    (hp : p + ds.length ≤ cs.length) :
    ∃ w', (storeCells ⟨cb.b, cb.o + p, none⟩ vs).run P w = .ok () w' ∧ SetW w w' cb.b ∧ Holds C ψ w' cb (.cells false (spl cs p ds)) := by
  have hm := h.1
  have e1 : p + ds.length ≤ cb.m := by omega
  have e2 : 0 + (spl cs p ds).length ≤ cb.m := by rw [spl_length]; omega
  obtain ⟨w', a, b, c⟩ := holds_write (P := P) (cs' := spl cs p ds) (o' := 0) h hr h1 e1 e2 (spl_one h.2.1 h1 hp) (fun j d hd => by
    rw [spl_get cs p ds j hp] at hd
    split at hd
    · exact .inl ⟨by omega, by omega, by simpa using hd⟩
    · exact .inr ⟨by omega, by simpa using hd⟩)
  exact ⟨w', a, b, by simpa using c⟩

theorem open_some {s : St} {i : Nat} {cs : List DV} (h : s.open? i = some cs) : stAB s i = some (.cells false cs) ∧ i < s.length := by
  unfold St.open? at h
  unfold stAB
  cases hs : s[i]? with
  | none => rw [hs] at h; cases h
  | some x =>
    rw [hs] at h
    have hi : i < s.length := by
      rcases Nat.lt_or_ge i s.length with h' | h'
      · exact h'
      · rw [List.getElem?_eq_none h'] at hs; cases hs
    cases x with
    | none => cases h
    | some b =>
      obtain ⟨f, c⟩ := b
      cases f with
      | true => cases h
      | false => simp only [Option.some.injEq] at h; subst h; exact ⟨rfl, hi⟩

theorem stAB_set_same {s : St} {i : Nat} (h : i < s.length) (b : Blk) : stAB (s.set i (some b)) i = some (.cells b.frz b.cells) := by simp [stAB, h]
theorem stAB_set_ne {s : St} {i j : Nat} (h : i ≠ j) (b : Option Blk) : stAB (s.set i b) j = stAB s j := by simp [stAB, List.getElem?_set_ne h]

/-- A block of the heap is written. -/
theorem Res.setH (hWD : ∀ h, W h → D h) (hW : ∀ i, W (.inl i)) {K : Env → M β} {r : Out β × St} (e : Ent) (hv : e.ver = none) (hp : EOK E → ∀ r v n, e = .pl r v n → v < E.nxt) {i : Nat} {cs cs' : List DV}
    (hi : s.open? i = some cs) (hk : K (E.putO o.dst e) (s.set i (some ⟨false, cs'⟩)) = some r)
    (hrun : ∀ ψ Q a w, Pre C o D E s ψ Q a w → ∃ cb, ψ (.inl i) = some cb ∧ (Holds C ψ w cb (.cells false cs) → ∃ v w', ((execOp a.eval o).run C.P w = .ok (.value v) w' ∨ (execOp a.eval o).run C.P w = .ok .skip w' ∧ v = undef) ∧
      SetW w w' cb.b ∧ Holds C ψ w' cb (.cells false cs') ∧ EntR C ψ e v)) : Res C md pr ms o D W E s K r := by
  obtain ⟨hst, hlt⟩ := open_some hi
  refine .inl ⟨_, _, hk, OpF.put pr ms e hv hp (by simp) (fun j ab h => .inl (hW j)) (fun h => absurd (hW 0) (h 0)) (.inl (by simp)), ?_⟩
  intro ψ Q a w next QQ p room hn
  obtain ⟨cb, hcb, hh⟩ := hrun ψ Q a w p
  have hq : Q (.inl i) (.cells false cs) := p.know (.inl i) _ cb (hWD _ (hW i)) hst hcb
  obtain ⟨v, w', hr, hset, hh', hv'⟩ := hh (p.sim.holds _ cb _ hcb hq)
  have post : Post C D W E s (E.putO o.dst e) (s.set i (some ⟨false, cs'⟩)) ψ Q w ψ (upQ Q (.inl i) (.cells false cs')) w' := by
    refine ⟨Sim.set p.sim hcb hq rfl hset.other hh', Ext.set hcb hq rfl hset.other hset.size hset.tape hset.os hset.output, fun _ _ e => .inl e, fun h ab c cr hw e' => ?_, fun h ab c e' q nw _ => ?_⟩
    · by_cases eh : h = .inl i
      · subst eh
        have cr' : stAB (s.set i (some ⟨false, cs'⟩)) i = some ab := cr
        rw [stAB_set_same hlt] at cr'; cases cr'
        exact .inl ⟨rfl, rfl⟩
      · refine .inr ⟨eh, ?_⟩
        have old : CR E s h ab := by
          cases h with
          | inl j =>
            have cr' : stAB (s.set i (some ⟨false, cs'⟩)) j = some ab := cr
            rw [stAB_set_ne (fun e => eh (by rw [e]))] at cr'; exact cr'
          | inr x => exact CR.putO (t := o.dst) (e := e) (s := s) hv cr
        rcases hw with hw | ⟨n1, n2⟩
        · exact p.know h ab c (hWD h hw) old e'
        · exact absurd (old.dom p.eok) n1
    · exact .inr ⟨fun eh => nw (by subst eh; exact hW i), q⟩
  have ent : ∀ d, o.dst = some d → EntR C ψ ((E.putO o.dst e).get d) v := fun d hd => by rw [Env.get_putO, if_pos hd]; exact hv'
  unfold Oper.wp
  rcases hr with hr | ⟨hr, rfl⟩
  · rw [hr]; exact hn ψ _ v w' post ent
  · rw [hr]; exact hn ψ _ _ w' post ent

theorem store_some {i p : Nat} {ds : List DV} {K : M β} {s : St} {r : Out β × St} (h : M.store i p ds K s = some r) :
    ∃ cs, s.open? i = some cs ∧ p + ds.length ≤ cs.length ∧ K (s.set i (some ⟨false, spl cs p ds⟩)) = some r := by
  unfold M.store at h
  cases hs : s.open? i with
  | none => rw [hs] at h; cases h
  | some cs =>
    rw [hs] at h
    simp only at h
    cases hb : Nat.ble (p + ds.length) cs.length with
    | false => rw [hb] at h; cases h
    | true => rw [hb] at h; exact ⟨_, rfl, Nat.le_of_ble_eq_true hb, h⟩

theorem run_storeVar {P : Program} {t : TypeId} {td : TypeDesc} (ht : P.underlying t = some td) (a : Addr) (v : Value) (w : World) (hs : v.cells.size = P.cellsOf t) :
    (storeVar t a v).run P w = (storeCells a v.cells.toList).run P w := by
  simp [storeVar, run_sizeOf' w ht, hs]

theorem opStore_res {t : TypeId} {x y : Operand} (ho : o.op = .store t x y) (hdst : o.dst = none) (hWD : ∀ h, W h → D h) (hWl : ∀ r v, md.loc r = true → (E.get r).ver = some v → W (.inr v)) (hWh : md.far = true → ∀ i, W (.inl i))
    {K : Env → M β} {r : Out β × St} (h : opStore C E K md ms t x y s = some r) : Res C md pr ms o D W E s K r := by
  unfold opStore at h
  obtain ⟨d, hd, h⟩ := valK_some h
  obtain ⟨ds, td, ht, h, hdl, hv⟩ := cellsK_some h
  rcases addrK_some h with ⟨u, v, p0, hx, h⟩ | ⟨i, p0, hx, h⟩
  · obtain ⟨hm, h⟩ := cond_some h
    rw [Bool.and_eq_true] at hm
    obtain ⟨n, cs, hl, h⟩ := getLoc_some h
    obtain ⟨hb, h⟩ := chk_some h
    have hb := Nat.le_of_ble_eq_true hb
    have hW := hWl u v hm.2 (by rw [hl]; rfl)
    have get : ∀ k, (E.put u (.loc v n (splV n (C.P.cellsOf t) cs p0 ds))).get k = if u = k then .loc v n (splV n (C.P.cellsOf t) cs p0 ds) else E.get k := fun k => Env.get_put _ _ _ _
    have ver : ∀ k, ((E.put u (.loc v n (splV n (C.P.cellsOf t) cs p0 ds))).get k).ver = (E.get k).ver := fun k => by
      rw [get]; split
      · rename_i e; subst e; rw [hl]; rfl
      · rfl
    have crb : ∀ h ab, EOK E → CR (E.put u (.loc v n (splV n (C.P.cellsOf t) cs p0 ds))) s h ab → (h = .inr v ∧ ab = .cells false (splV n (C.P.cellsOf t) cs p0 ds)) ∨ (h ≠ .inr v ∧ CR E s h ab) := by
      intro h ab hE c
      cases h with
      | inl i => exact .inr ⟨by simp, c⟩
      | inr k =>
        rcases c with ⟨q, n', cs', hq, hab⟩ | ⟨q, l, p, hq, hab⟩
        · rw [get] at hq
          split at hq
          · cases hq; exact .inl ⟨rfl, hab⟩
          · rename_i hne
            refine .inr ⟨fun e => ?_, .inl ⟨q, n', cs', hq, hab⟩⟩
            cases e
            exact hne (hE.uniq u q v (by rw [hl]; rfl) (by rw [hq]; rfl))
        · rw [get] at hq
          split at hq
          · cases hq
          · rename_i hne
            refine .inr ⟨fun e => ?_, .inr ⟨q, l, p, hq, hab⟩⟩
            cases e
            exact hne (hE.uniq u q v (by rw [hl]; rfl) (by rw [hq]; rfl))
    refine .inl ⟨_, _, h, ⟨Nat.le_refl _, Nat.le_refl _, fun hE => ⟨?_, ?_, ?_, ?_⟩, ?_, ?_, ?_, ?_, ?_, fun _ _ _ => rfl, .inr (by unfold Spec; rw [ho]; trivial), .inl rfl⟩, ?_⟩
    · intro k v' h'; rw [ver] at h'; exact hE.lt k v' h'
    · intro k a b c h'
      rw [get] at h'; split at h'
      · cases h'
      · exact hE.pl k a b c h'
    · intro k a b c h'
      rw [get] at h'; split at h'
      · cases h'
        have := hE.len u v n cs hl
        rw [splV_eq this hdl hb, spl_length]; exact this
      · exact hE.len k a b c h'
    · intro k k' v' h' h''; rw [ver] at h' h''; exact hE.uniq k k' v' h' h''
    · intro k _ hms
      rw [get, if_neg]
      rintro rfl
      rw [hm.1] at hms; cases hms
    · intro k _ C' ψ x' hr
      rw [get]; split
      · rename_i e; subst e; rw [hl] at hr; exact hr
      · exact hr
    · intro h' ab c
      cases h' with
      | inl i => exact .inr (.inr c)
      | inr k =>
        rcases c with ⟨q, n', cs', hq, hab⟩ | ⟨q, l, p, hq, hab⟩
        · rw [get] at hq
          split at hq
          · cases hq; exact .inl hW
          · exact .inr (.inr (.inl ⟨q, n', cs', hq, hab⟩))
        · rw [get] at hq
          split at hq
          · cases hq
          · exact .inr (.inr (.inr ⟨q, l, p, hq, hab⟩))
    · intro k v' n' cs' h'
      rw [get] at h'; split at h'
      · rename_i e; subst e; cases h'; exact .inl ⟨cs, hl⟩
      · exact .inl ⟨cs', h'⟩
    · intro k v' l p h'
      rw [get] at h'; split at h'
      · cases h'
      · exact .inl ⟨p, h'⟩
    · intro ψ Q a w next QQ p room hn
      have := p.src (x := x) (by simp [Op.operands, ho])
      rw [hx] at this
      obtain ⟨cb, e1, e2, e3⟩ := this
      obtain ⟨h1, h2, h3⟩ := hv C ψ _ (p.val (x := y) (by simp [Op.operands, ho]) hd)
      have hq : Q (.inr v) (.cells false cs) := p.know (.inr v) _ cb (hWD _ hW) (.inl ⟨u, n, cs, hl, rfl⟩) e1
      have hlen := p.eok.len u v n cs hl
      obtain ⟨w', hr, hset, hh⟩ := holds_spl (P := C.P) (p := p0) (p.sim.holds _ cb _ e1 hq) h1 h2 (by omega)
      rw [e2, Nat.zero_add] at hr
      have hex : (execOp a.eval o).run C.P w = .ok .skip w' := by
        simp only [execOp, ho, e3, Instr.storeAt, Sem.run_bind, run_sureAddr, Result.andThen_ok, run_storeVar ht _ _ w h3, hr, Sem.run_pure]
      unfold Oper.wp
      rw [hex]
      refine hn ψ (upQ Q (.inr v) (.cells false (splV n (C.P.cellsOf t) cs p0 ds))) _ w' ⟨Sim.set p.sim e1 hq rfl hset.other (by rw [splV_eq hlen hdl hb]; exact hh), Ext.set e1 hq rfl hset.other hset.size hset.tape hset.os hset.output,
        fun _ _ e => .inl e, fun h' ab c cr hw e' => ?_, fun h' ab c e' q nw _ => ?_⟩ (fun d' hd' => by rw [hdst] at hd'; cases hd')
      · rcases crb h' ab p.eok cr with ⟨rfl, rfl⟩ | ⟨hne, cr⟩
        · exact .inl ⟨rfl, rfl⟩
        · refine .inr ⟨hne, ?_⟩
          rcases hw with hw | ⟨n1, n2⟩
          · exact p.know h' ab c (hWD h' hw) cr e'
          · exact absurd (cr.dom p.eok) n1
      · exact .inr ⟨fun e => nw (by rw [e]; exact hW), q⟩
  · obtain ⟨hm, h⟩ := cond_some h
    obtain ⟨cs, hi, hb, h⟩ := store_some h
    refine Res.setH hWD (hWh hm) .u rfl (fun _ _ _ _ e => by cases e) hi (by rw [hdst]; exact h) fun ψ Q a w p => ?_
    have := p.val (x := x) (by simp [Op.operands, ho]) hx
    generalize hxe : a.eval x = xv at this
    cases this with
    | ptr _ _ cb e =>
      refine ⟨cb, e, fun hh => ?_⟩
      obtain ⟨h1, h2, h3⟩ := hv C ψ _ (p.val (x := y) (by simp [Op.operands, ho]) hd)
      obtain ⟨w', hr, hset, hh'⟩ := holds_spl (P := C.P) (p := p0) hh h1 h2 hb
      refine ⟨undef, w', .inr ⟨?_, rfl⟩, hset, hh', trivial⟩
      simp only [execOp, ho, hxe, Instr.storeAt, Sem.run_bind, run_sureAddr, Result.andThen_ok, run_storeVar ht _ _ w h3, hr, Sem.run_pure]
end
end Go.Gv
