/- Single operations: registers, new variables, what is built. -/
import Derived.Test.YtepnfdggeobcaaaDoorGvOp1
namespace Go.Gv
variable {β : Type}

section
variable {C : Cfg} {o : Oper} {D W : HId → Prop} {E : Env} {s : St} {md : Md} {pr ms : List Nat}

/-- A new variable in a register, a new walk through a text. -/
theorem Res.newL (hsp : Spec pr o) (hWD : ∀ h, W h → D h) {K : Env → M β} {r : Out β × St} (t : Nat) (ht : o.dst = some t) (e : Ent) (ab : AB)
    (he : (∃ n cells, e = .loc E.nxt n cells ∧ ab = .cells false cells ∧ cells.length = n) ∨ (∃ l p, e = .it E.nxt l p ∧ ab = .iter l p))
    (hk : K ⟨E.nxt + 1, (t, e) :: E.l⟩ s = some r)
    (hrun : ∀ ψ Q a w, Pre C o D E s ψ Q a w → ∃ w' cb, (execOp a.eval o).run C.P w = .ok (.value (.pointer (some ⟨cb.b, 0, none⟩))) w' ∧ More w w' ∧ w.heap.size ≤ cb.b ∧ cb.b < w'.heap.size ∧
      cb.o = 0 ∧ Holds C ψ w' cb ab) : Res C md pr ms o D W E s K r := by
  have hv : e.ver = some E.nxt := by rcases he with ⟨n, c, rfl, _⟩ | ⟨l, p, rfl, _⟩ <;> rfl
  have get : ∀ u, (⟨E.nxt + 1, (t, e) :: E.l⟩ : Env).get u = if t = u then e else E.get u := fun u => Env.get_mk _ _ _ _ _
  have crn : ∀ ab', CR ⟨E.nxt + 1, (t, e) :: E.l⟩ s (.inr E.nxt) ab' → EOK E → ab' = ab := by
    intro ab' c hE
    rcases c with ⟨u, n, cs, h, hab⟩ | ⟨u, l, p, h, hab⟩ <;> rw [get] at h <;> split at h
    · rcases he with ⟨n', c', rfl, rfl, _⟩ | ⟨l, p, rfl, _⟩
      · cases h; exact hab
      · cases h
    · have := hE.lt u E.nxt (by rw [h]; rfl); omega
    · rcases he with ⟨n', c', rfl, rfl, _⟩ | ⟨l, p, rfl, rfl⟩
      · cases h
      · cases h; exact hab
    · have := hE.lt u E.nxt (by rw [h]; rfl); omega
  have cro : ∀ h ab', CR ⟨E.nxt + 1, (t, e) :: E.l⟩ s h ab' → h ≠ .inr E.nxt → CR E s h ab' := by
    intro h ab' c hne
    cases h with
    | inl i => exact c
    | inr v =>
      rcases c with ⟨u, n, cs, h, hab⟩ | ⟨u, l, p, h, hab⟩ <;> rw [get] at h <;> split at h
      · rw [h] at hv; cases hv; exact absurd rfl hne
      · exact .inl ⟨u, n, cs, h, hab⟩
      · rw [h] at hv; cases hv; exact absurd rfl hne
      · exact .inr ⟨u, l, p, h, hab⟩
  have hnew : New E s ⟨E.nxt + 1, (t, e) :: E.l⟩ s (.inr E.nxt) := ⟨by simp [Dom], by simp [Dom]⟩
  refine .inl ⟨_, _, hk, ⟨Nat.le_refl _, by simp, fun hE => ⟨?_, ?_, ?_, ?_⟩, ?_, ?_, ?_, ?_, ?_, fun _ _ _ => rfl, .inr hsp, .inl rfl⟩, ?_⟩
  · intro u v h
    rw [get] at h
    split at h
    · rw [hv] at h; cases h; simp
    · have := hE.lt u v h; simp only; omega
  · intro u x v n h
    rw [get] at h
    split at h
    · rw [h] at hv; cases hv
    · have := hE.pl u x v n h; simp only; omega
  · intro u v n cs h
    rw [get] at h
    split at h
    · rcases he with ⟨n', c', rfl, _, hl⟩ | ⟨l, p, rfl, _⟩
      · cases h; exact hl
      · cases h
    · exact hE.len u v n cs h
  · intro u u' v h h'
    rw [get] at h h'
    split at h <;> split at h'
    · omega
    · rw [hv] at h; cases h; have := hE.lt u' _ h'; omega
    · rw [hv] at h'; cases h'; have := hE.lt u _ h; omega
    · exact hE.uniq u u' v h h'
  · intro u h _
    rw [get, if_neg (fun e => h (by rw [ht, e]))]
  · intro u h C ψ x hr
    rw [get, if_neg (fun e => h (by rw [ht, e]))]; exact hr
  · intro h ab' c
    by_cases eh : h = .inr E.nxt
    · subst eh; exact .inr (.inl hnew)
    · exact .inr (.inr (cro h ab' c eh))
  · intro u v n cs h
    rw [get] at h
    split at h
    · rename_i hu; rw [h] at hv; simp only [Ent.ver, Option.some.injEq] at hv; exact .inr ⟨by omega, by rw [ht, hu]⟩
    · exact .inl ⟨cs, h⟩
  · intro u v l p h
    rw [get] at h
    split at h
    · rename_i hu; rw [h] at hv; simp only [Ent.ver, Option.some.injEq] at hv; exact .inr ⟨by omega, by rw [ht, hu]⟩
    · exact .inl ⟨p, h⟩
  · intro ψ Q a w next QQ p room hn
    obtain ⟨w', cb, hr, hm, h1, h2, h0, hh⟩ := hrun ψ Q a w p
    have hf := room _ hnew
    unfold Oper.wp
    rw [hr]
    refine hn _ _ _ w' ⟨Sim.new (cb := cb) (ab := ab) p.sim p.blks hm hf h1 (hh.same (fun _ _ e => upP_mono hf _ _ e) rfl), Ext.new hm hf h1 h2, fun h c e => ?_, fun h ab' c cr hw e => ?_, fun h ab' c e q _ _ => ?_⟩ (fun d' hd => ?_)
    · by_cases eh : h = .inr E.nxt
      · subst eh; exact .inr hnew
      · rw [upP_ne _ _ eh] at e; exact .inl e
    · by_cases eh : h = .inr E.nxt
      · subst eh; exact .inl ⟨rfl, crn _ cr p.eok⟩
      · refine .inr ⟨eh, ?_⟩
        rw [upP_ne _ _ eh] at e
        rcases hw with hw | ⟨n1, n2⟩
        · exact p.know h ab' c (hWD h hw) (cro h ab' cr eh) e
        · exact absurd ((cro h ab' cr eh).dom p.eok) n1
    · refine .inr ⟨fun eh => ?_, q⟩
      subst eh; rw [hf] at e; cases e
    · rw [ht] at hd; cases hd
      rw [get, if_pos rfl]
      rcases he with ⟨n', c', rfl, _, hl⟩ | ⟨l, p, rfl, _⟩
      · exact ⟨cb, upP_same _ _ _, h0, rfl⟩
      · exact ⟨cb, upP_same _ _ _, rfl⟩

theorem Res.newVar (hal : (∃ t, o.op = .alloc t) ∨ (∃ t y, o.op = .box t y)) (hWD : ∀ h, W h → D h) {K : Env → M β} {r : Out β × St} {n : Nat} {cells : List DV} (hlen : cells.length = n) (h : newVarK pr o n cells E K s = some r)
    (hrun : ∀ ψ Q a w, Pre C o D E s ψ Q a w → ∃ w' cb, (execOp a.eval o).run C.P w = .ok (.value (.pointer (some ⟨cb.b, 0, none⟩))) w' ∧ More w w' ∧ w.heap.size ≤ cb.b ∧ cb.b < w'.heap.size ∧
      cb.o = 0 ∧ Holds C ψ w' cb (.cells false cells)) : Res C md pr ms o D W E s K r := by
  unfold newVarK at h
  cases ht : o.dst with
  | none => rw [ht] at h; cases h
  | some t =>
    rw [ht] at h
    simp only at h
    cases hp : has pr t with
    | true =>
      rw [hp] at h
      simp only [cond_true] at h
      exact Res.newL (by rcases hal with ⟨t, ho⟩ | ⟨t, y, ho⟩ <;> (unfold Spec; rw [ho]; exact ⟨_, ht, hp⟩)) hWD t ht _ _ (.inl ⟨n, cells, rfl, rfl, hlen⟩) h hrun
    | false =>
      rw [hp] at h
      simp only [cond_false] at h
      refine Res.newH (by rcases hal with ⟨t, ho⟩ | ⟨t, y, ho⟩ <;> (unfold NewOp; rw [ho]; trivial)) hWD (.ptr (some (s.length, 0))) cells (by simpa [putK, Env.putO, ht, M.new] using h) fun ψ Q a w p => ?_
      obtain ⟨w', cb, hr, hm, h1, h2, h0, hh⟩ := hrun ψ Q a w p
      refine ⟨_, w', cb, hr, hm, h1, h2, hh, fun ψ' _ e => ?_⟩
      have := VR.ptr (C := C) (ψ := ψ') s.length 0 cb e
      rwa [h0] at this

theorem newVar_run {P : Program} (t : TypeId) (v : Value) (w : World) : (newVar t v).run P w = .ok ⟨w.heap.size, 0, none⟩ (w.alloc (.cells v.cells t)) := by
  simp [newVar, newRow]

/-! ### Registers -/
theorem opMove_res {y : Operand} (ho : o.op = .move y ∨ o.op = .assign y) (hWD : ∀ h, W h → D h) {K : Env → M β} {r : Out β × St} (h : putE E o K (E.src C y) s = some r) : Res C md pr ms o D W E s K r := by
  refine Res.pure hWD (E.src C y) (Env.src_ver C E y) (fun hE r v n h => Env.src_pl C hE h) h fun ψ Q a w p => ⟨a.eval y, w, ?_, .refl w, p.src ?_⟩
  · rcases ho with ho | ho <;> simp [execOp, ho]
  · rcases ho with ho | ho <;> simp [Op.operands, ho]

theorem opPick_res {b y z : Operand} (ho : o.op = .pick b y z) (hWD : ∀ h, W h → D h) {K : Env → M β} {r : Out β × St} (h : opPick C E o K b y z s = some r) : Res C md pr ms o D W E s K r := by
  unfold opPick at h
  obtain ⟨t, hb, h⟩ := boolK_some h
  have hbv : ∀ ψ Q a w, Pre C o D E s ψ Q a w → a.eval b = .bool t := fun ψ Q a w p => by
    have := p.val (x := b) (by simp [Op.operands, ho]) hb
    generalize a.eval b = v at this
    cases this; rfl
  cases t with
  | true =>
    refine Res.pure hWD (E.src C y) (Env.src_ver C E y) (fun hE r v n h => Env.src_pl C hE h) h fun ψ Q a w p => ⟨a.eval y, w, ?_, .refl w, p.src (by simp [Op.operands, ho])⟩
    simp [execOp, ho, hbv ψ Q a w p, asBool]
  | false =>
    refine Res.pure hWD (E.src C z) (Env.src_ver C E z) (fun hE r v n h => Env.src_pl C hE h) h fun ψ Q a w p => ⟨a.eval z, w, ?_, .refl w, p.src (by simp [Op.operands, ho])⟩
    simp [execOp, ho, hbv ψ Q a w p, asBool]

theorem holds_alloc {ψ : Ps} {w : World} {t : TypeId} {c : Array Value} {cells : List DV} (hr : VRs C ψ cells (c.toList.take cells.length)) (ho : cells.all one = true) :
    Holds C ψ (w.alloc (.cells c t)) ⟨w.heap.size, 0, c.size⟩ (.cells false cells) :=
  holds_new (heap_alloc_new w _) (.inl rfl) hr ho

theorem take_len {α : Type} {l : List α} {n : Nat} (h : n = l.length) : l.take n = l := by subst h; simp

theorem opAlloc_res {t : TypeId} (ho : o.op = .alloc t) (hWD : ∀ h, W h → D h) {K : Env → M β} {r : Out β × St} (h : opAlloc C E o K pr t s = some r) : Res C md pr ms o D W E s K r := by
  unfold opAlloc at h
  cases hz : zeroOf C.P t with
  | none => rw [hz] at h; cases h
  | some z =>
    rw [hz] at h
    simp only at h
    obtain ⟨hl, h⟩ := cond_some h
    refine Res.newVar (.inl ⟨t, ho⟩) hWD (Nat.eq_of_beq_eq_true hl) h fun ψ Q a w p => ?_
    obtain ⟨v, hv, hr, h1⟩ := zeroOf_run w hz
    refine ⟨w.alloc (.cells v.cells t), ⟨w.heap.size, 0, v.cells.size⟩, ?_, .alloc w _, Nat.le_refl _, by simp, rfl, ?_⟩
    · simp [execOp, ho, Instr.alloc, hv, newVar_run]
    · exact holds_alloc (by rw [take_len (by simpa using (hr C ψ).len)]; exact hr C ψ) h1

/-- The cells of a value. -/
theorem cellsK_some {P : Program} {t : TypeId} {d : DV} {K : List DV → M β} {r : Out β × St} (h : cellsK P t d K s = some r) :
    ∃ ds td, P.underlying t = some td ∧ K ds s = some r ∧ ds.length = P.cellsOf t ∧ ∀ (C : Cfg) ψ v, VR C ψ d v → VRs C ψ ds v.cells.toList ∧ ds.all one = true ∧ v.cells.size = P.cellsOf t := by
  unfold cellsK at h
  obtain ⟨td, htd, h⟩ := tyK_some h
  cases ha : isAgg' P t with
  | true =>
    rw [ha] at h
    simp only [cond_true] at h
    cases d with
    | agg cs =>
      obtain ⟨hl, h⟩ := len_some h
      refine ⟨cs, td, htd, h, hl, fun C ψ v hv => ?_⟩
      cases hv with
      | agg _ vs a b => exact ⟨a, b, by rw [← hl, a.len]; simp [Value.cells]⟩
    | _ => cases h
  | false =>
    rw [ha] at h
    simp only [cond_false] at h
    obtain ⟨hc, h⟩ := cond_some h
    obtain ⟨h1, h⟩ := chk_some h
    have hc := Nat.eq_of_beq_eq_true hc
    refine ⟨[d], td, htd, h, by simp [hc], fun C ψ v hv => ?_⟩
    rw [hv.cells1 h1]
    exact ⟨.cons _ _ _ _ hv .nil, by simp [h1], by simp [hc]⟩

theorem opBox_res {t : TypeId} {y : Operand} (ho : o.op = .box t y) (hWD : ∀ h, W h → D h) {K : Env → M β} {r : Out β × St} (h : opBox C E o K pr t y s = some r) : Res C md pr ms o D W E s K r := by
  unfold opBox at h
  obtain ⟨d, hd, h⟩ := valK_some h
  obtain ⟨ds, td, htd, h, hl, hv⟩ := cellsK_some h
  refine Res.newVar (.inr ⟨t, y, ho⟩) hWD hl h fun ψ Q a w p => ?_
  obtain ⟨h1, h2, h3⟩ := hv C ψ _ (p.val (x := y) (by simp [Op.operands, ho]) hd)
  refine ⟨w.alloc (.cells (a.eval y).cells t), ⟨w.heap.size, 0, (a.eval y).cells.size⟩, ?_, .alloc w _, Nat.le_refl _, by simp, rfl, ?_⟩
  · simp [execOp, ho, Instr.box, newVar_run]
  · exact holds_alloc (by rw [take_len (by simpa using h1.len)]; exact h1) h2

theorem opNilCheck_res {y : Operand} (ho : o.op = .nilCheck y) (hWD : ∀ h, W h → D h) {K : Env → M β} {r : Out β × St} (h : opNilCheck C E o K y s = some r) : Res C md pr ms o D W E s K r := by
  unfold opNilCheck at h
  rcases addrK_some h with ⟨t, v, n, he, h⟩ | ⟨i, n, he, h⟩
  · refine Res.pure hWD (.pl t v n) rfl (fun hE r v' n' e => by cases e; exact Env.src_pl C hE he) h fun ψ Q a w p => ⟨a.eval y, w, ?_, .refl w, ?_⟩
    · have := p.src (x := y) (by simp [Op.operands, ho])
      rw [he] at this
      obtain ⟨cb, _, _, h3⟩ := this
      simp [execOp, ho, h3]
    · have := p.src (x := y) (by simp [Op.operands, ho])
      rw [he] at this; exact this
  · refine Res.val hWD (.ptr (some (i, n))) h fun ψ Q a w p => ⟨a.eval y, w, ?_, .refl w, ?_⟩
    · have := p.val (x := y) (by simp [Op.operands, ho]) he
      generalize hx : a.eval y = x at this
      cases this
      simp [execOp, ho, hx]
    · exact p.val (x := y) (by simp [Op.operands, ho]) he

theorem opUn_res {op : UnOp} {t : TypeId} {y : Operand} (ho : o.op = .unOp op t y) (hWD : ∀ h, W h → D h) {K : Env → M β} {r : Out β × St} (h : opUn C E o K op y s = some r) : Res C md pr ms o D W E s K r := by
  unfold opUn at h
  obtain ⟨d, hd, h⟩ := valK_some h
  unfold unK at h
  split at h
  · refine Res.val hWD _ h fun ψ Q a w p => ?_
    have := p.val (x := y) (by simp [Op.operands, ho]) hd
    generalize hx : a.eval y = x at this
    cases this
    exact ⟨_, w, by simp [execOp, ho, hx, Op.unary], .refl w, .bool _⟩
  · refine Res.val hWD _ h fun ψ Q a w p => ?_
    have := p.val (x := y) (by simp [Op.operands, ho]) hd
    generalize hx : a.eval y = x at this
    cases this
    exact ⟨_, w, by simp [execOp, ho, hx, Op.unary, Op.intArith], .refl w, .int _ _⟩
  · cases h

theorem opIface_res {t : TypeId} {y : Operand} (ho : o.op = .makeInterface t y) (hWD : ∀ h, W h → D h) {K : Env → M β} {r : Out β × St} (h : opIface C E o K t y s = some r) : Res C md pr ms o D W E s K r := by
  unfold opIface at h
  cases ht : C.P.underlying t with
  | none => rw [ht] at h; cases h
  | some td =>
    have hni : ∀ m, td ≠ .interface m := by rintro m rfl; rw [ht] at h; cases h
    have h' : valK C E y (fun d => putK E o K (.iface (C.ty t) d)) s = some r := by rw [ht] at h; cases td <;> first | exact h | exact absurd rfl (hni _)
    obtain ⟨d, hd, h'⟩ := valK_some h'
    refine Res.val hWD _ h' fun ψ Q a w p => ⟨.iface t (a.eval y), w, ?_, .refl w, .iface _ _ _ (p.val (x := y) (by simp [Op.operands, ho]) hd)⟩
    simp only [execOp, ho, Instr.makeInterface, Sem.run_bind, run_underlying' w ht, Result.andThen_ok]
    cases td <;> first | rfl | exact absurd rfl (hni _)

theorem opFunc_res {f : Fn} {first cap : Array Operand} (ho : o.op = .makeFunc f first cap) (hWD : ∀ h, W h → D h) {K : Env → M β} {r : Out β × St} (h : opFunc C E o K f first cap s = some r) : Res C md pr ms o D W E s K r := by
  unfold opFunc at h
  cases f with
  | func f =>
    simp only at h
    obtain ⟨hc, h⟩ := cond_some h
    obtain ⟨fs, h, h1⟩ := valsK_some h
    obtain ⟨cs, h, h2⟩ := valsK_some h
    refine Res.val hWD _ h fun ψ Q a w p => ⟨.func (.func f) (first.map a.eval) (cap.map a.eval), w, by simp [execOp, ho, Instr.makeFunc], .refl w, .func _ _ _ _ _ hc ?_ ?_⟩
    · have := vals_rel p (l := first.toList) (fun x hx => by simp only [Op.operands, ho, Array.mem_append]; exact .inl (by simpa using hx)) h1
      simpa using this
    · have := vals_rel p (l := cap.toList) (fun x hx => by simp only [Op.operands, ho, Array.mem_append]; exact .inr (by simpa using hx)) h2
      simpa using this
  | _ => cases h

theorem opExtract_res {t i : Nat} (ho : o.op = .extract (.tmp t) i) (hWD : ∀ h, W h → D h) {K : Env → M β} {r : Out β × St} (h : opExtract E o K t i s = some r) : Res C md pr ms o D W E s K r := by
  unfold opExtract at h
  cases he : E.get t with
  | tup ds =>
    rw [he] at h
    simp only at h
    cases hd : ds[i]? with
    | none => rw [hd] at h; cases h
    | some d =>
      rw [hd] at h
      refine Res.val hWD d h fun ψ Q a w p => ?_
      have := p.args t (by simp [Op.operands, ho])
      rw [he] at this
      obtain ⟨vs, hvs, hr⟩ := this
      obtain ⟨v, hv, hr⟩ := hr.get hd
      refine ⟨v, w, ?_, .refl w, hr⟩
      have hv' : vs[i]? = some v := by simpa using hv
      simp [execOp, ho, eval_tmp, hvs, Instr.extract, hv']
  | _ => rw [he] at h; cases h
end
end Go.Gv
