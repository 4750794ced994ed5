/- Single operations: conversions, append, copy, clear. -/
import Derived.Test.YtepnfdggeobcaaaDoorGvOp7
namespace Go.Gv
variable {β : Type}

section
variable {C : Cfg} {o : Oper} {D W : HId → Prop} {E : Env} {s : St} {md : Md} {pr ms : List Nat}

/-! ### Cells of a slice -/
theorem rd_some {a : Option (Nat × Nat)} {n : Nat} {K : List DV → M β} {r : Out β × St} (h : M.rd a n K s = some r) :
    ∃ ds, K ds s = some r ∧ ds.length = n ∧ ((a = none ∧ n = 0 ∧ ds = []) ∨ ∃ i q f cs, a = some (i, q) ∧ stAB s i = some (.cells f cs) ∧ q + n ≤ cs.length ∧ ds = (cs.drop q).take n) := by
  cases a with
  | none =>
    simp only [M.rd] at h
    obtain ⟨h1, h⟩ := cond_some h
    have := Nat.eq_of_beq_eq_true h1
    exact ⟨[], h, this.symm, .inl ⟨rfl, this, rfl⟩⟩
  | some iq =>
    obtain ⟨i, q⟩ := iq
    simp only [M.rd] at h
    obtain ⟨f, cs, h1, h2, h⟩ := load_some h
    exact ⟨_, h, by simp; omega, .inr ⟨i, q, f, cs, rfl, h1, h2, rfl⟩⟩

/-- What the model reads where the machine reads the first k elements of a slice. -/
theorem rd_rel {ψ : Ps} {Q : Kn} {A : Act} {w : World} (p : Pre C o D E s ψ Q A w) (hD : ∀ i, D (.inl i)) {z sz m k n : Nat} {a : Option (Nat × Nat)} {v : Value} {ds : List DV} (hv : VR C ψ (.slice z a m) v)
    (hz : z = sz ∨ a = none) (hn : n = k * sz) (hk : k ≤ m)
    (hds : (a = none ∧ n = 0 ∧ ds = []) ∨ ∃ i q f cs, a = some (i, q) ∧ stAB s i = some (.cells f cs) ∧ q + n ≤ cs.length ∧ ds = (cs.drop q).take n) :
    ∃ base cap vs, v = .slice base m cap ∧ (∀ w', w'.heap = w.heap → (Builtin.firstCells sz k v).run C.P w' = .ok vs w') ∧ VRs C ψ ds vs.toList ∧ ds.all one = true := by
  subst hn
  cases hv with
  | sliceN =>
    rcases hds with ⟨_, _, rfl⟩ | ⟨i, q, f, cs, h, _⟩
    · exact ⟨none, 0, #[], rfl, fun w' _ => by simp [Builtin.firstCells], .nil, rfl⟩
    · cases h
  | slice _ i q _ cb ad cap hcb hcap hb =>
    rcases hds with ⟨h, _⟩ | ⟨i', q', f, cs, h, h1, h2, rfl⟩
    · cases h
    · cases h
      have hz : z = sz := by rcases hz with h | h; exact h; cases h
      subst hz
      have hh := p.at (hD i) h1 hcb
      by_cases h0 : k * z = 0
      · refine ⟨some ad, cap, #[], rfl, fun w' _ => ?_, ?_, ?_⟩
        · simp [Builtin.firstCells, h0, loadCells, loadCellsFrom]
        · rw [h0]; simp only [List.take_zero]; exact .nil
        · rw [h0]; simp
      · have hc : 0 < cap := by
          rcases Nat.eq_zero_or_pos k with h | h
          · subst h; simp at h0
          · omega
        obtain ⟨e1, e2⟩ := hb hc
        obtain ⟨vs, e3, e4, e5, e6⟩ := holds_cells' (P := C.P) hh h2
        exact ⟨some ad, cap, vs, rfl, fun w' hw => by simp only [Builtin.firstCells, e1, e3 w' hw], e5, e6⟩

theorem octets_rel {ψ : Ps} : ∀ {ds : List DV} {l : List UInt8} {vs : List Value}, octets ds = some l → VRs C ψ ds vs → ∃ ns : List Int, vs = ns.map (Value.int .u8) ∧ ns.map (fun n => UInt8.ofNat n.toNat) = l
  | [], l, vs, h, hv => by
    simp only [octets, Option.some.injEq] at h
    cases hv
    exact ⟨[], rfl, h⟩
  | d :: ds, l, vs, h, hv => by
    cases hv with
    | cons _ v _ vs h1 h2 =>
      cases h1 with
      | int k n =>
        cases k with
        | u8 =>
          simp only [octets, Option.map_eq_some_iff] at h
          obtain ⟨l', h3, h4⟩ := h
          obtain ⟨ns, e1, e2⟩ := octets_rel h3 h2
          exact ⟨n :: ns, by simp [e1], by simp [e2, h4]⟩
        | _ => simp [octets] at h
      | _ => simp [octets] at h

theorem oct_some {cs : List DV} {K : List UInt8 → M β} {r : Out β × St} (h : Go.Gv.D.oct cs K s = some r) : ∃ l, octets cs = some l ∧ K l s = some r := by
  unfold Go.Gv.D.oct at h
  cases he : octets cs with
  | none => rw [he] at h; cases h
  | some l => rw [he] at h; exact ⟨l, rfl, h⟩
end

section
variable {C : Cfg} {o : Oper} {D W : HId → Prop} {E : Env} {s : St} {md : Md} {pr ms : List Nat}

theorem byteCells_rel {ψ : Ps} (l : List UInt8) : VRs C ψ (byteCells l) (l.map fun b => Value.int .u8 b.toNat) := by
  induction l with
  | nil => exact .nil
  | cons b l ih => exact .cons _ _ _ _ (.int _ _) ih
theorem byteCells_one (l : List UInt8) : (byteCells l).all one = true := by simp [byteCells, one]
@[simp] theorem byteCells_length (l : List UInt8) : (byteCells l).length = l.length := by simp [byteCells]

/-- A row that no one may write behind its end. -/
def frozeEnd (w : World) (c : Array Value) (e : TypeId) : World := { w with heap := w.heap.push (.cells c e (c.size, c.size + 1)) }
theorem frozeEnd_more (w : World) (c : Array Value) (e : TypeId) : More w (frozeEnd w c e) := More.alloc w (.cells c e (c.size, c.size + 1))
theorem run_markNew {P : Program} (w : World) (c : Array Value) (e : TypeId) : (markStringish ⟨w.heap.size, 0, none⟩).run P (w.alloc (.cells c e)) = .ok () (frozeEnd w c e) := by
  have h1 : (w.alloc (.cells c e)).shape? w.heap.size = some (e, c.size) := by simp only [World.shape?, heap_alloc_new]
  unfold markStringish
  simp only [Sem.run_bind, run_shape, h1, Result.andThen_ok, run_freeze]
  congr 1
  unfold World.freeze frozeEnd World.alloc
  simp only [Nat.one_ne_zero, if_false]
  congr 1
  apply Array.ext_getElem?
  intro k
  rw [Array.getElem?_modify, Array.getElem?_push, Array.getElem?_push]
  by_cases hk : k = w.heap.size
  · subst hk; simp
  · simp only [hk, if_false]
    rw [if_neg (fun e => hk e.symm)]

theorem isU8_eq {P : Program} {e : TypeId} (h : isU8 P e = true) : P.underlying e = some (.int .u8) := by
  unfold isU8 at h
  cases he : P.underlying e with
  | none => rw [he] at h; cases h
  | some ed =>
    rw [he] at h
    cases ed with
    | int k => cases k <;> first | rfl | cases h
    | _ => cases h

theorem opConvert_res {t u : TypeId} {y : Operand} (ho : o.op = .convert t u y) (hWD : ∀ h, W h → D h) (hD : ∀ i, D (.inl i)) {K : Env → M β} {r : Out β × St} (h : opConvert C E o K t u y s = some r) : Res C md pr ms o D W E s K r := by
  have my : y ∈ o.op.operands := by rw [ho]; simp [Op.operands]
  unfold opConvert at h
  obtain ⟨td, ht, h⟩ := tyK_some h
  have run : ∀ (a : Act) (w w' : World) v, (convert t u (a.eval y)).run C.P w = .ok v w' → (execOp a.eval o).run C.P w = .ok (.value v) w' := by
    intro a w w' v hv
    simp [execOp, ho, hv]
  cases hu : C.P.underlying u with
  | none => rw [hu] at h; cases h
  | some ud =>
    rw [hu] at h
    cases ud with
    | int k =>
      simp only at h
      obtain ⟨d, hd, h⟩ := valK_some h
      cases d with
      | int k' n =>
        refine Res.val hWD _ h fun ψ Q a w p => ⟨.int k (k.wrap n), w, run a w w _ ?_, .refl w, .int _ _⟩
        rw [p.int my hd]
        simp [convert, run_underlying' w ht, run_underlying' w hu, Conv.intToInt]
      | _ => cases h
    | string =>
      simp only at h
      rw [ht] at h
      cases td with
      | int k0 =>
        simp only at h
        obtain ⟨d, hd, h⟩ := valK_some h
        cases d with
        | int k' n =>
          refine Res.val hWD _ h fun ψ Q a w p => ⟨.string (Utf8.encode n), w, run a w w _ ?_, .refl w, .str _⟩
          rw [p.int my hd]
          simp [convert, run_underlying' w ht, run_underlying' w hu, Conv.intToString]
        | _ => cases h
      | string =>
        simp only at h
        obtain ⟨d, hd, h⟩ := valK_some h
        cases d with
        | str l =>
          refine Res.val hWD _ h fun ψ Q a w p => ?_
          have hv := p.val my hd
          generalize hy : a.eval y = v at hv
          cases hv with
          | str x => exact ⟨.string x, w, run a w w _ (by rw [hy]; simp [convert, run_underlying' w ht, run_underlying' w hu]), .refl w, .str _⟩
        | _ => cases h
      | slice e =>
        simp only at h
        obtain ⟨h8, h⟩ := cond_some h
        have he := isU8_eq h8
        obtain ⟨d, hd, h⟩ := valK_some h
        cases d with
        | slice z a' n =>
          simp only at h
          obtain ⟨hz, h⟩ := cond_some h
          obtain ⟨ds, h, _, hds⟩ := rd_some h
          obtain ⟨l, hl, h⟩ := oct_some h
          refine Res.val hWD _ h fun ψ Q A w p => ?_
          have hz' : z = 1 ∨ a' = none := by
            rw [Bool.or_eq_true] at hz
            rcases hz with h | h
            · exact .inl (Nat.eq_of_beq_eq_true h)
            · exact .inr (by simpa using h)
          obtain ⟨base, cap, vs, hv, hrun, hr, _⟩ := rd_rel p hD (p.val my hd) hz' (k := n) (by simp) (Nat.le_refl _) hds
          obtain ⟨ns, e1, e2⟩ := octets_rel hl hr
          cases base with
          | none =>
            have : ds = [] := by
              have hv' := p.val my hd
              rw [hv] at hv'
              cases hv'
              rcases hds with ⟨_, _, h⟩ | ⟨_, _, _, _, h, _⟩
              · exact h
              · cases h
            subst this
            simp only [octets, Option.some.injEq] at hl
            subst hl
            refine ⟨.string .empty, w, run A w w _ ?_, .refl w, .str .empty⟩
            rw [hv]
            simp [convert, run_underlying' w ht, run_underlying' w hu, run_underlying' w he, Conv.bytesToString]
          | some b =>
            have hrun' : (loadCells b n).run C.P w = .ok (ns.map (Value.int .u8)).toArray w := by
              have hrun := hrun w rfl
              rw [hv] at hrun
              simp only [Builtin.firstCells, Nat.mul_one] at hrun
              rw [hrun, ← e1]
            refine ⟨.string (ns.foldl (fun r n => r.push (UInt8.ofNat n.toNat)) ByteArray.empty), w, run A w w _ ?_, .refl w, ?_⟩
            · rw [hv, run_convert_bytes_string w t u e (some b) n cap ht he hu]
              exact run_bytesToString w b n cap ns hrun'
            · have : (ns.foldl (fun r n => r.push (UInt8.ofNat n.toNat)) ByteArray.empty).data.toList = l := by
                rw [foldl_push_bytes, ← e2]
                simp
              rw [← this]
              exact .str _
        | _ => cases h
      | _ => cases h
    | slice e =>
      simp only at h
      obtain ⟨h8, h⟩ := cond_some h
      have he := isU8_eq h8
      obtain ⟨d, hd, h⟩ := valK_some h
      cases d with
      | str l =>
        simp only at h
        refine Res.newH (by unfold NewOp; rw [ho]; trivial) hWD _ _ h fun ψ Q a w p => ?_
        have hv := p.val my hd
        generalize hy : a.eval y = v at hv
        cases hv with
        | str x =>
          have hx : x.data.toList.length = x.size := by rw [Array.length_toList]; rfl
          let cap := (Question.appendCap x.size 0 e).cut (w.tape w.drawn (.appendCap x.size 0 e))
          have hcap : x.size ≤ cap := by simp only [cap, Question.cut]; omega
          let c : Array Value := (x.data.map fun b => Value.int .u8 b.toNat) ++ Array.replicate (cap - x.size) (.int .u8 0)
          have hc : c.size = cap := by
            have : x.data.size = x.size := rfl
            simp [c, this]; omega
          refine ⟨.slice (some ⟨w.heap.size, 0, none⟩) x.size cap, frozeEnd w.drew c e, ⟨w.heap.size, 0, c.size⟩, run a w _ _ ?_, (More.drew w).trans (frozeEnd_more w.drew c e), Nat.le_refl _, (by show w.heap.size < (w.heap.push _).size; simp), ?_, fun ψ' _ hψ => ?_⟩
          · rw [hy]
            have hm := run_markNew (P := C.P) w.drew c e
            simp only [convert, Sem.run_bind, run_underlying' w ht, run_underlying' w hu, Result.andThen_ok, run_underlying' w he]
            have hq : (Question.appendCap x.size 0 e).forced = false := rfl
            simp only [Conv.stringToBytes, Sem.run_bind, run_choose, hq, Bool.false_eq_true, if_false, Result.andThen_ok, newRow, run_newObj, Sem.run_pure]
            exact (congrArg (fun r => Result.andThen r fun _ w' => Result.ok (Value.slice (some ⟨w.heap.size, 0, none⟩) x.size cap) w') hm)
          · refine holds_new (ty := e) (fr := (c.size, c.size + 1)) (by show (w.heap.push _)[w.heap.size]? = _; simp) (.inr (Nat.le_refl _)) ?_ (byteCells_one _)
            have : c.toList.take (byteCells x.data.toList).length = x.data.toList.map fun b => Value.int .u8 b.toNat := by
              rw [byteCells_length]
              simp only [c, Array.toList_append, Array.toList_map]
              rw [List.take_append_of_le_length (by simp), List.take_of_length_le (by simp)]
            rw [this]
            exact byteCells_rel _
          · rw [hx]
            have := VR.slice (C := C) (ψ := ψ') 1 s.length 0 x.size ⟨w.heap.size, 0, c.size⟩ ⟨w.heap.size, 0, none⟩ cap hψ hcap (fun _ => ⟨rfl, by simp only [hc]; omega⟩)
            exact this
      | _ => cases h
    | _ => cases h
end
end Go.Gv
