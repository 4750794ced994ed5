/- Single operations: append, copy, clear. -/
import Derived.Test.YtepnfdggeobcaaaDoorGvOp8
import Derived.Laws.Append
namespace Go.Gv
variable {β : Type}

section
variable {C : Cfg} {o : Oper} {D W : HId → Prop} {E : Env} {s : St} {md : Md} {pr ms : List Nat}

theorem app_some {sz : Nat} {a : Option (Nat × Nat)} {len : Nat} {ds : List DV} {m lim : Nat} {K : Option (Nat × Nat) → M β} {r : Out β × St} (h : M.app sz a len ds m lim K s = some r) :
    (m = 0 ∧ K a s = some r) ∨ (0 < m ∧ len + m ≤ lim ∧ ((a = none ∧ len = 0 ∧ K (some (s.length, 0)) (s ++ [some ⟨false, ds⟩]) = some r) ∨
      ∃ i q cs, a = some (i, q) ∧ s.open? i = some cs ∧ q + len * sz ≤ cs.length ∧ K (some (s.length, 0)) (s.set i none ++ [some ⟨false, (cs.drop q).take (len * sz) ++ ds⟩]) = some r)) := by
  unfold M.app at h
  cases h0 : Nat.beq m 0 with
  | true => rw [h0] at h; exact .inl ⟨Nat.eq_of_beq_eq_true h0, h⟩
  | false =>
    rw [h0] at h
    simp only [cond_false] at h
    have hm := Nat.ne_of_beq_eq_false h0
    cases h1 : Nat.ble (len + m) lim with
    | false => rw [h1] at h; cases h
    | true =>
      rw [h1] at h
      simp only [cond_true] at h
      refine .inr ⟨by omega, Nat.le_of_ble_eq_true h1, ?_⟩
      cases a with
      | none =>
        simp only at h
        cases h2 : Nat.beq len 0 with
        | false => rw [h2] at h; cases h
        | true => rw [h2] at h; exact .inl ⟨rfl, Nat.eq_of_beq_eq_true h2, h⟩
      | some iq =>
        obtain ⟨i, q⟩ := iq
        simp only at h
        cases h3 : s.open? i with
        | none => rw [h3] at h; cases h
        | some cs =>
          rw [h3] at h
          simp only at h
          cases h4 : Nat.ble (q + len * sz) cs.length with
          | false => rw [h4] at h; cases h
          | true => rw [h4] at h; exact .inr ⟨i, q, cs, rfl, h3, Nat.le_of_ble_eq_true h4, h⟩

/-- The second argument is no row of zeroes. -/
def NoNum (P : Program) (ts : Array TypeId) : Prop := match ts[1]? with | none => True | some t => ∃ d, P.underlying t = some d ∧ ∀ k, d ≠ .int k
theorem noNum_some {ts : Array TypeId} {K : M β} {r : Out β × St} (h : noNum C.P ts K s = some r) : NoNum C.P ts ∧ K s = some r := by
  unfold noNum at h
  unfold NoNum
  cases ht : ts[1]? with
  | none => rw [ht] at h; exact ⟨trivial, h⟩
  | some t =>
    rw [ht] at h
    simp only at h ⊢
    cases hu : C.P.underlying t with
    | none => rw [hu] at h; cases h
    | some d =>
      rw [hu] at h
      cases d with
      | int k => cases h
      | _ => exact ⟨⟨_, rfl, by simp⟩, h⟩

theorem run_append_fit {P : Program} {ts : Array TypeId} {t e : TypeId} {ed : TypeDesc} (h0 : ts[0]? = some t) (ht : P.underlying t = some (.slice e)) (he : P.underlying e = some ed) (hn : NoNum P ts) (ty : TypeId)
    (base : Option Addr) (n m cap : Nat) (X : Value) (w w' : World) (new : Array Value) (hX : (Builtin.lenOf X).run P w = .ok m w) (hc : n + m ≤ cap)
    (hf : (Builtin.firstCells (P.cellsOf e) m X).run P w = .ok new w) (hs : ∀ a, base = some a → (storeCells (a.add (n * P.cellsOf e)) new.toList).run P w = .ok () w') (hb : base = none → w' = w) :
    (Builtin.append_ ts ty #[.slice base n cap, X]).run P w = .ok (.slice base (n + m) cap) w' := by
  have key : (P.underlying t = some (.slice e)) → (do
      let n' ← Builtin.lenOf X
      let need := n + n'
      if need ≤ cap then
        let new ← Builtin.firstCells (P.cellsOf e) n' X
        if let some a := base then storeCells (a.add (n * P.cellsOf e)) new.toList
        pure (.slice base need cap)
      else stuck "" : Sem Value).run P w = .ok (.slice base (n + m) cap) w' := by
    intro _
    simp only [Sem.run_bind, hX, Result.andThen_ok, hc, if_true, hf]
    cases base with
    | none => have := hb rfl; subst this; simp
    | some a => simp [hs a rfl]
  have key := key ht
  simp only [Sem.run_bind, hX, Result.andThen_ok, hc, if_true, hf] at key
  unfold Builtin.append_
  unfold NoNum at hn
  cases h1 : ts[1]? with
  | none =>
    simp only [h0, List.getElem?_toArray, List.getElem?_cons_zero, List.getElem?_cons_succ, Sem.run_bind, run_underlying' w ht, Result.andThen_ok, run_sizeOf' w he, Sem.run_pure, Bool.false_eq_true, if_false, hX, Bool.not_false, if_true, hc, hf]
    exact key
  | some t1 =>
    rw [h1] at hn
    obtain ⟨d, hd, hnd⟩ := hn
    simp only [h0, List.getElem?_toArray, List.getElem?_cons_zero, List.getElem?_cons_succ, Sem.run_bind, run_underlying' w ht, Result.andThen_ok, run_sizeOf' w he, run_underlying' w hd]
    cases d <;> first | exact absurd rfl (hnd _) | (simp only [Sem.run_pure, Result.andThen_ok, Sem.run_bind, Bool.false_eq_true, if_false, hX, Bool.not_false, if_true, hc, hf]; exact key)

theorem zeroCells_size (z : Array Value) (n : Nat) : (Builtin.zeroCells z n).size = n * z.size := by simp [Builtin.zeroCells]

theorem run_append_grow {P : Program} {ts : Array TypeId} {t e : TypeId} {ed : TypeDesc} {ie : TypeInfo} {z : Value} (h0 : ts[0]? = some t) (ht : P.underlying t = some (.slice e)) (he : P.underlying e = some ed) (hie : P.info? e = some ie)
    (hz0 : ie.zero = some z) (hn : NoNum P ts) (ty : TypeId) (base : Option Addr) (n m cap : Nat) (X : Value) (w : World) (old new : Array Value) (hX : ∀ w, (Builtin.lenOf X).run P w = .ok m w) (hc : cap < n + m)
    (hb : (n + m) * ie.bytes ≤ 70368744177664) (h63 : n + m ≤ 70368744177664) (ho : (Builtin.firstCells (P.cellsOf e) n (.slice base n cap)).run P w.drew = .ok old w.drew) (hf : (Builtin.firstCells (P.cellsOf e) m X).run P w.drew = .ok new w.drew) :
    ∃ k, n + m ≤ k ∧ (Builtin.append_ ts ty #[.slice base n cap, X]).run P w = .ok (.slice (some ⟨w.heap.size, 0, none⟩) (n + m) k) (w.drew.alloc (.cells (old ++ new ++ Builtin.zeroCells z.cells (k - (n + m))) e)) := by
  refine ⟨(Question.appendCap (n + m) cap e).cut (w.tape w.drawn (.appendCap (n + m) cap e)), by simp only [Question.cut]; omega, ?_⟩
  have hq : (Question.appendCap (n + m) cap e).forced = false := rfl
  have g1 : ¬ (n + m ≤ cap) := by omega
  have g2 : ¬ (Builtin.nextslicecap (n + m) cap * ie.bytes > 2 ^ 48) := by
    have := growslice_fits (bytes := ie.bytes) hc (by omega)
    omega
  have g3 : ¬ (((n + m : Nat) : Int) > IntKind.i64.max) := by
    have : IntKind.i64.max = 9223372036854775807 := by decide
    rw [this]; omega
  have g4 : ¬ (((n + m : Nat) : Int) > IntKind.i64.max ∧ (False ∨ ie.bytes = 0)) := fun h => g3 h.1
  have hie' : ∀ w, (typeInfo e).run P w = .ok ie w := fun w => by simp [typeInfo, hie]
  have hz' : ∀ w, (zeroValue e).run P w = .ok z w := fun w => by simp [zeroValue, typeInfo, hie, hz0]
  unfold Builtin.append_
  unfold NoNum at hn
  cases h1 : ts[1]? with
  | none =>
    simp only [h0, List.getElem?_toArray, List.getElem?_cons_zero, List.getElem?_cons_succ, Sem.run_bind, run_underlying' w ht, Result.andThen_ok, run_sizeOf' w he, Sem.run_pure, Bool.false_eq_true, if_false, hX, Bool.not_false, if_true, g1, hie', g4,
      g2, run_choose, hq, run_askRoom, World.drew_eq, ho, hf, hz', newRow, run_newObj, World.alloc_eq]
    rfl
  | some t1 =>
    rw [h1] at hn
    obtain ⟨d, hd, hnd⟩ := hn
    simp only [h0, List.getElem?_toArray, List.getElem?_cons_zero, List.getElem?_cons_succ, Sem.run_bind, run_underlying' w ht, Result.andThen_ok, run_sizeOf' w he, run_underlying' w hd]
    cases d <;> first | exact absurd rfl (hnd _) | (simp only [Sem.run_pure, Result.andThen_ok, Sem.run_bind, Bool.false_eq_true, if_false, hX, Bool.not_false, if_true, g1, hie', g4, g2, run_choose, hq, run_askRoom, World.drew_eq, ho, hf, hz', newRow, run_newObj, World.alloc_eq]; rfl)

/-- More was said ahead. -/
theorem Ext.strong {ψ ψ' : Ps} {Q Q1 Q' : Kn} {w w' : World} (h : Ext ψ Q1 w ψ' Q' w') (hq : ∀ k ab, Q1 k ab → Q k ab) : Ext ψ Q w ψ' Q' w' :=
  have so : ∀ b, Sole ψ Q1 b → Sole ψ Q b := fun _b ⟨k, cb, ab, e, q, hs, hb⟩ => ⟨k, cb, ab, e, hq _ _ q, hs, hb⟩
  { h with
    rng := fun k cb e => (h.rng k cb e).imp id fun ⟨x, y⟩ => ⟨x.imp id (so _), y⟩
    keep := fun b hb hn => h.keep b hb fun e => hn (so b e)
    sole := fun b e => (h.sole b e).imp (so b) id
    live := fun k cb x e q => let ⟨y, hy⟩ := h.live k cb x e q; ⟨y, hq _ _ hy⟩ }

theorem stAB_set_none {s : St} {i : Nat} : stAB (s.set i none) i = none := by
  unfold stAB
  by_cases h : i < s.length
  · rw [List.getElem?_set_self h]
  · rw [List.getElem?_eq_none (by rw [List.length_set]; exact Nat.le_of_not_lt h)]

/-- append, whatever is appended. -/
theorem app_res {q : Call} (hq : q.callee = .builtin .append) (ho : o.op = .call q) {y z : Operand} (ha : q.args = #[y, z]) {t e : TypeId} {ed : TypeDesc} {zv : List DV} (h0 : q.argTypes[0]? = some t)
    (ht : C.P.underlying t = some (.slice e)) (he : C.P.underlying e = some ed) (hz : zeroOf C.P e = some zv) (hzl : zv.length = C.P.cellsOf e) (hn : NoNum C.P q.argTypes) (hWD : ∀ h, W h → D h) (hW : ∀ i, W (.inl i))
    {z0 n m : Nat} {a : Option (Nat × Nat)} {ds : List DV} (hd : E.src C y = .v (.slice z0 a n)) (hz0 : z0 = C.P.cellsOf e ∨ a = none) (hdl : ds.length = m * C.P.cellsOf e)
    (hX : ∀ ψ Q A w, Pre C o D E s ψ Q A w → (∀ w, (Builtin.lenOf (A.eval z)).run C.P w = .ok m w) ∧ ∃ vs, VRs C ψ ds vs.toList ∧ ds.all one = true ∧ ∀ w', w'.heap = w.heap → (Builtin.firstCells (C.P.cellsOf e) m (A.eval z)).run C.P w' = .ok vs w')
    {K : Env → M β} {r : Out β × St} (h : M.app (C.P.cellsOf e) a n ds m (limOf C.P e) (fun p => putK E o K (.slice (C.P.cellsOf e) p (n + m))) s = some r) : Res C md pr ms o D W E s K r := by
  have my : y ∈ o.op.operands := by rw [ho]; simp [Op.operands, Call.operands, hq, ha]
  have hex : ∀ (A : Act) (w w' : World) v, (Builtin.append_ q.argTypes o.type #[A.eval y, A.eval z]).run C.P w = .ok v w' → (execOp A.eval o).run C.P w = .ok (.value v) w' := by
    intro A w w' v hv
    simp [execOp, ho, resolve, hq, invoke, builtin, ha, hv]
  have nosz : ∀ vs : Array Value, ∀ ψ, m = 0 → VRs C ψ ds vs.toList → vs.toList = [] := by
    intro vs ψ hm hr
    have := hr.len
    rw [hdl, hm, Nat.zero_mul] at this
    exact List.length_eq_zero_iff.1 this.symm
  have grow : ∀ ψ Q A w, Pre C o D E s ψ Q A w → ∀ base cap old, A.eval y = .slice base n cap → cap < n + m → n + m ≤ limOf C.P e → (Builtin.firstCells (C.P.cellsOf e) n (.slice base n cap)).run C.P w.drew = .ok old w.drew →
      ∃ k new rest, n + m ≤ k ∧ VRs C ψ ds new.toList ∧ ds.all one = true ∧ rest.size = (k - (n + m)) * C.P.cellsOf e ∧
        (execOp A.eval o).run C.P w = .ok (.value (.slice (some ⟨w.heap.size, 0, none⟩) (n + m) k)) (w.drew.alloc (.cells (old ++ new ++ rest) e)) := by
    intro ψ Q A w p base cap old hy hc hlim hold
    obtain ⟨hl, new, h1, h2, h3⟩ := hX ψ Q A w p
    unfold zeroOf at hz
    cases hi : C.P.info? e with
    | none => rw [hi] at hz; cases hz
    | some ie =>
      rw [hi] at hz
      simp only at hz
      cases hzz : ie.zero with
      | none => rw [hzz] at hz; cases hz
      | some zval =>
        rw [hzz] at hz
        have hzs := (ofVals_rel (C := C) (ψ := ψ) hz).1.lenA
        have hb : (n + m) * ie.bytes ≤ 70368744177664 := by
          unfold limOf bytesOf' at hlim
          rw [hi] at hlim
          simp only at hlim
          rcases Nat.eq_zero_or_pos ie.bytes with hz | hp
          · rw [hz]; simp
          · exact (Nat.le_div_iff_mul_le hp).1 hlim
        have h63 : n + m ≤ 70368744177664 := Nat.le_trans hlim (Nat.div_le_self _ _)
        obtain ⟨k, hk, hrun⟩ := run_append_grow (P := C.P) h0 ht he hi hzz hn o.type base n m cap (A.eval z) w old new hl hc hb h63 hold (h3 _ rfl)
        exact ⟨k, new, _, hk, h1, h2, by rw [zeroCells_size, ← hzs, hzl], hex A w _ _ (by rw [hy]; exact hrun)⟩
  rcases app_some h with ⟨hm, h⟩ | ⟨hm, hlim, h⟩
  · -- nothing is appended
    refine Res.val hWD _ h fun ψ Q A w p => ?_
    obtain ⟨hl, new, h1, h2, h3⟩ := hX ψ Q A w p
    have hnew := nosz new ψ hm h1
    subst hm
    have hv := p.val my hd
    generalize hy : A.eval y = v at hv
    have hfit : ∀ base cap, v = .slice base n cap → n ≤ cap → (execOp A.eval o).run C.P w = .ok (.value (.slice base n cap)) w := by
      intro base cap hv hc
      refine hex A w w _ ?_
      rw [hy, hv]
      have := run_append_fit (P := C.P) h0 ht he hn o.type base n 0 cap (A.eval z) w w new (hl w) hc (h3 w rfl) (fun a _ => by rw [hnew]; rfl) (fun _ => rfl)
      exact this
    cases hv with
    | sliceN => exact ⟨_, w, hfit none 0 rfl (Nat.le_refl _), .refl w, .sliceN _⟩
    | slice _ i q0 _ cb ad cap hcb hcap hb =>
      have : z0 = C.P.cellsOf e := by rcases hz0 with h | h; exact h; cases h
      subst this
      exact ⟨_, w, hfit _ cap rfl hcap, .refl w, .slice _ _ _ _ cb ad cap hcb hcap hb⟩
  · rcases h with ⟨rfl, rfl, h⟩ | ⟨i, q0, cs, rfl, hi, hle, h⟩
    · -- the first block
      refine Res.newH (by unfold NewOp; rw [ho]; simp only [hq]) hWD _ ds h fun ψ Q A w p => ?_
      have hv := p.val my hd
      generalize hy : A.eval y = v at hv
      cases hv
      obtain ⟨k, new, rest, hk, h1, h2, h3, hrun⟩ := grow ψ Q A w p none 0 #[] hy (by omega) hlim (by simp [Builtin.firstCells])
      have hsz := h1.lenA
      refine ⟨_, _, ⟨w.heap.size, 0, (#[] ++ new ++ rest).size⟩, hrun, (More.drew w).trans (More.alloc w.drew _), Nat.le_refl _, by simp, ?_, fun ψ' _ hψ => ?_⟩
      · refine holds_alloc (w := w.drew) ?_ h2
        have : (#[] ++ new ++ rest).toList.take ds.length = new.toList := by
          rw [hsz]; simp
        rw [this]; exact h1
      · refine VR.slice _ _ 0 _ _ _ _ hψ hk (fun _ => ⟨rfl, ?_⟩)
        have : (#[] ++ new ++ rest).size = new.size + rest.size := by simp
        simp only [this]
        rw [← hsz, hdl, h3, Nat.zero_add, Nat.zero_add, ← Nat.add_mul]
        exact Nat.mul_le_mul_right _ (by omega)
    · -- behind what is there
      have hz0 : z0 = C.P.cellsOf e := by rcases hz0 with h | h; exact h; cases h
      subst hz0
      obtain ⟨hst, hlt⟩ := open_some hi
      have hab : ∀ ab, stAB (s.set i none ++ [some ⟨false, (cs.drop q0).take (n * C.P.cellsOf e) ++ ds⟩]) s.length = some ab → ab = .cells false ((cs.drop q0).take (n * C.P.cellsOf e) ++ ds) := by
        intro ab hab
        have := stAB_append_new (s.set i none) ⟨false, (cs.drop q0).take (n * C.P.cellsOf e) ++ ds⟩
        rw [List.length_set] at this
        rw [this] at hab
        cases hab; rfl
      have hold : ∀ j ab, stAB (s.set i none ++ [some ⟨false, (cs.drop q0).take (n * C.P.cellsOf e) ++ ds⟩]) j = some ab → j ≠ s.length → j ≠ i ∧ stAB s j = some ab := by
        intro j ab hj hne
        have hjl := stAB_lt hj
        simp only [List.length_append, List.length_set, List.length_singleton] at hjl
        rw [stAB_append_lt (by rw [List.length_set]; omega)] at hj
        by_cases hji : j = i
        · subst hji; rw [stAB_set_none] at hj; cases hj
        · rw [stAB_set_ne (Ne.symm hji)] at hj; exact ⟨hji, hj⟩
      refine .inl ⟨_, _, h, OpF.put pr ms _ rfl (fun _ _ _ _ h => by cases h) (by simp) (fun j ab _ => .inl (hW j)) (fun h => absurd (hW 0) (h 0)) (.inr (by unfold NewOp; rw [ho]; simp only [hq])), ?_⟩
      intro ψ Q A w next QQ p room hn'
      have hnew : New E s (E.putO o.dst (.v (.slice (C.P.cellsOf e) (some (s.length, 0)) (n + m)))) (s.set i none ++ [some ⟨false, (cs.drop q0).take (n * C.P.cellsOf e) ++ ds⟩]) (.inl s.length) := ⟨by simp [Dom], by simp [Dom]⟩
      have hf := room _ hnew
      have hv := p.val my hd
      generalize hy : A.eval y = v at hv
      cases hv with
      | slice _ _ _ _ cb ad cap hcb hcap hb =>
        have hq' : Q (.inl i) (.cells false cs) := p.know (.inl i) _ cb (hWD _ (hW i)) hst hcb
        have hh := p.sim.holds _ cb _ hcb hq'
        obtain ⟨hl, new, h1, h2, h3⟩ := hX ψ Q A w p
        have hlen : ((cs.drop q0).take (n * C.P.cellsOf e)).length = n * C.P.cellsOf e := by simp; omega
        have hlen' : ((cs.drop q0).take (n * C.P.cellsOf e) ++ ds).length = (n + m) * C.P.cellsOf e := by rw [List.length_append, hlen, hdl, Nat.add_mul]
        have hall : ((cs.drop q0).take (n * C.P.cellsOf e) ++ ds).all one = true := by rw [List.all_append, all_sub hh.2.1, h2]; rfl
        have fin : ∀ v' w' cb', (execOp A.eval o).run C.P w = .ok (.value v') w' → Sim C (upP ψ (.inl s.length) cb') (mvQ Q (.inl i) (.inl s.length) (.cells false ((cs.drop q0).take (n * C.P.cellsOf e) ++ ds))) w' →
            Ext ψ Q w (upP ψ (.inl s.length) cb') (mvQ Q (.inl i) (.inl s.length) (.cells false ((cs.drop q0).take (n * C.P.cellsOf e) ++ ds))) w' →
            VR C (upP ψ (.inl s.length) cb') (.slice (C.P.cellsOf e) (some (s.length, 0)) (n + m)) v' → o.wp C.P A w next QQ := by
          intro v' w' cb' hrun hsim hext hvr
          unfold Oper.wp
          rw [hrun]
          refine hn' _ _ v' w' ⟨hsim, hext, fun h c e' => ?_, fun h ab c cr hw e' => ?_, fun h ab c e' q' nw _ => ?_⟩ (fun d' hd' => ?_)
          · by_cases eh : h = .inl s.length
            · subst eh; exact .inr hnew
            · rw [upP_ne _ _ eh] at e'; exact .inl e'
          · by_cases eh : h = .inl s.length
            · subst eh; exact .inl ⟨rfl, hab ab cr⟩
            · rw [upP_ne _ _ eh] at e'
              have old : h ≠ .inl i ∧ CR E s h ab := by
                cases h with
                | inl j =>
                  obtain ⟨a1, a2⟩ := hold j ab cr (fun e => eh (by rw [e]))
                  exact ⟨fun e => a1 (by cases e; rfl), a2⟩
                | inr x =>
                  have cr' : CR (E.putO o.dst (.v (.slice (C.P.cellsOf e) (some (s.length, 0)) (n + m)))) s (.inr x) ab := cr
                  exact ⟨by simp, cr'.putO rfl⟩
              refine .inr ⟨eh, old.1, ?_⟩
              rcases hw with hw | ⟨n1, n2⟩
              · exact p.know h ab c (hWD h hw) old.2 e'
              · exact absurd (old.2.dom p.eok) n1
          · cases h with
            | inl j => exact absurd (hW j) nw
            | inr x => exact .inr ⟨by simp, by simp, q'⟩
          · rw [Env.get_putO, if_pos hd']; exact hvr
        by_cases hfit : n + m ≤ cap
        · obtain ⟨e1, e2⟩ := hb (by omega)
          have hcapm : (n + m) * C.P.cellsOf e ≤ cap * C.P.cellsOf e := Nat.mul_le_mul_right _ hfit
          rw [Nat.add_mul] at hcapm
          obtain ⟨w', hw, hset, hh'⟩ := holds_write (P := C.P) (p := q0 + n * C.P.cellsOf e) (o' := q0) (cs' := (cs.drop q0).take (n * C.P.cellsOf e) ++ ds) hh h1 h2 (by rw [hdl]; omega) (by rw [hlen', Nat.add_mul]; omega) hall (fun j d hd' => by
            by_cases hj : j < n * C.P.cellsOf e
            · rw [List.getElem?_append_left (by omega), List.getElem?_take, if_pos hj, List.getElem?_drop] at hd'
              exact .inr ⟨by omega, hd'⟩
            · rw [List.getElem?_append_right (by omega), hlen] at hd'
              have hjl : j - n * C.P.cellsOf e < ds.length := by
                rcases Nat.lt_or_ge (j - n * C.P.cellsOf e) ds.length with h' | h'
                · exact h'
                · rw [List.getElem?_eq_none h'] at hd'; cases hd'
              exact .inl ⟨by omega, by omega, by rw [show q0 + j - (q0 + n * C.P.cellsOf e) = j - n * C.P.cellsOf e by omega]; exact hd'⟩)
          have hrun := run_append_fit (P := C.P) h0 ht he hn o.type (some ad) n m cap (A.eval z) w w' new (hl w) hfit (h3 w rfl) (fun a' ha' => by
            cases ha'
            rw [e1, addr_add, Nat.add_assoc]; exact hw) (fun e => by cases e)
          refine fin _ w' ⟨cb.b, cb.o + q0, cb.m - q0⟩ (hex A w _ _ (by rw [hy]; exact hrun)) (Sim.move p.sim hcb hq' rfl hf rfl hset.other (hh'.same (fun _ _ e => upP_mono hf _ _ e) rfl))
            (Ext.move hcb hq' rfl hf rfl (p.blks _ _ hcb) hset.other hset.size hset.tape hset.os hset.output) ?_
          exact VR.slice _ _ 0 _ _ _ _ (upP_same _ _ _) hfit (fun _ => ⟨by rw [e1]; rfl, by simp only; omega⟩)
        · obtain ⟨base, cap', old, hbv, hro, hrr, hra⟩ := rd_rel p (fun i => hWD _ (hW i)) (p.val my hd) (.inl rfl) (k := n) (n := n * C.P.cellsOf e) rfl (Nat.le_refl _) (.inr ⟨i, q0, false, cs, rfl, hst, hle, rfl⟩)
          rw [hy] at hbv
          cases hbv
          have hro := hro w.drew rfl
          rw [hy] at hro
          obtain ⟨k, new, rest, hk, h1, h2, h3, hrun⟩ := grow ψ Q A w p (some ad) cap old hy (by omega) hlim hro
          have hsz := h1.lenA
          have hso := hrr.lenA
          rw [hlen] at hso
          have hm' : More w (w.drew.alloc (.cells (old ++ new ++ rest) e)) := (More.drew w).trans (More.alloc w.drew _)
          refine fin _ _ ⟨w.heap.size, 0, (old ++ new ++ rest).size⟩ hrun ?_ ?_ ?_
          · refine Sim.new (Q := fun k x => k ≠ .inl i ∧ Q k x) (p.sim.weaken fun _ _ _ _ q => q.2) p.blks hm' hf (Nat.le_refl _) ?_
            refine holds_alloc (w := w.drew) ?_ hall
            have : (old ++ new ++ rest).toList.take ((cs.drop q0).take (n * C.P.cellsOf e) ++ ds).length = old.toList ++ new.toList := by
              rw [List.length_append, hlen, hsz, hso]
              simp only [Array.toList_append]
              rw [List.take_append_of_le_length (by simp), List.take_of_length_le (by simp)]
            rw [this]
            exact VRs.append (hrr.mono fun _ _ e => upP_mono hf _ _ e) (h1.mono fun _ _ e => upP_mono hf _ _ e)
          · exact (Ext.new (Q := fun k x => k ≠ .inl i ∧ Q k x) hm' hf (Nat.le_refl _) (by simp)).strong fun _ _ q => q.2
          · refine VR.slice _ _ 0 _ _ _ _ (upP_same _ _ _) hk (fun _ => ⟨rfl, ?_⟩)
            have : (old ++ new ++ rest).size = old.size + new.size + rest.size := by simp [Nat.add_assoc]
            simp only [this]
            rw [← hsz, ← hso, hdl, h3, Nat.zero_add, ← Nat.add_mul, ← Nat.add_mul]
            exact Nat.mul_le_mul_right _ (by omega)
end
end Go.Gv
