/- What an operation does, said of the machine and of the model: the frame of the proofs for the single operations. -/
import Derived.Test.YtepnfdggeobcaaaDoorGvRel
namespace Go.Gv

/-! ### Registers -/
theorem look_cons (k : Nat) (e : Ent) (l : List (Nat × Ent)) (t : Nat) : look ((k, e) :: l) t = if k = t then e else look l t := by
  simp only [look]
  cases h : Nat.beq k t with
  | true => rw [if_pos (Nat.eq_of_beq_eq_true h)]; rfl
  | false => rw [if_neg (Nat.ne_of_beq_eq_false h)]; rfl

theorem Env.get_put (E : Env) (t : Nat) (e : Ent) (u : Nat) : (E.put t e).get u = if t = u then e else E.get u := look_cons t e E.l u
theorem Env.get_mk (n : Nat) (t : Nat) (e : Ent) (l : List (Nat × Ent)) (u : Nat) : (⟨n, (t, e) :: l⟩ : Env).get u = if t = u then e else look l u := look_cons t e l u
@[simp] theorem Env.nxt_put (E : Env) (t : Nat) (e : Ent) : (E.put t e).nxt = E.nxt := rfl
@[simp] theorem Env.nxt_putO (E : Env) (t : Option Nat) (e : Ent) : (E.putO t e).nxt = E.nxt := by cases t <;> rfl
theorem Env.get_putO (E : Env) (t : Option Nat) (e : Ent) (u : Nat) : (E.putO t e).get u = if t = some u then e else E.get u := by
  cases t with
  | none => simp [Env.putO]
  | some t => simp only [Env.putO, Env.get_put, Option.some.injEq]

theorem has_iff : ∀ (l : List Nat) (t : Nat), has l t = true ↔ t ∈ l
  | [], t => by simp [has]
  | k :: r, t => by
    simp only [has, Bool.or_eq_true, List.mem_cons, has_iff r t]
    constructor
    · rintro (h | h)
      · exact .inl (Nat.eq_of_beq_eq_true h).symm
      · exact .inr h
    · rintro (h | h)
      · exact .inl (by subst h; exact Nat.beq_refl _)
      · exact .inr h

theorem get_del (E : Env) (ts : List Nat) (t : Nat) : (E.del ts).get t = if has ts t then .u else E.get t := by
  have key : ∀ l : List (Nat × Ent), look (delL l ts) t = if has ts t then .u else look l t := by
    intro l
    induction l with
    | nil => simp [delL, look]
    | cons x r ih =>
      obtain ⟨k, e⟩ := x
      simp only [delL]
      cases hk : has ts k with
      | true =>
        simp only [cond_true, ih, look_cons]
        by_cases h : k = t
        · subst h; simp [hk]
        · simp [h]
      | false =>
        simp only [cond_false, look_cons, ih]
        by_cases h : k = t
        · subst h; simp [hk]
        · simp [h]
  exact key E.l
@[simp] theorem nxt_del (E : Env) (ts : List Nat) : (E.del ts).nxt = E.nxt := rfl

/-! ### What is there -/
def Dom (E : Env) (s : St) : HId → Prop
  | .inl i => i < s.length
  | .inr v => v < E.nxt
/-- What an operation has made. -/
def New (E : Env) (s : St) (E' : Env) (s' : St) (h : HId) : Prop := ¬ Dom E s h ∧ Dom E' s' h

theorem stAB_lt {s : St} {i : Nat} {ab : AB} (h : stAB s i = some ab) : i < s.length := by
  rcases Nat.lt_or_ge i s.length with h' | h'
  · exact h'
  · simp [stAB, List.getElem?_eq_none h'] at h
theorem CR.dom {E : Env} {s : St} (hE : EOK E) {h : HId} {ab : AB} (c : CR E s h ab) : Dom E s h := by
  cases h with
  | inl i => exact stAB_lt c
  | inr v =>
    rcases c with ⟨t, n, cs, e, _⟩ | ⟨t, l, p, e, _⟩
    · exact hE.lt t v (by rw [e]; rfl)
    · exact hE.lt t v (by rw [e]; rfl)

theorem stAB_append_lt {s : St} {x : St} {i : Nat} (h : i < s.length) : stAB (s ++ x) i = stAB s i := by
  simp only [stAB, List.getElem?_append_left h]
theorem stAB_append_new (s : St) (b : Blk) : stAB (s ++ [some b]) s.length = some (.cells b.frz b.cells) := by
  simp [stAB]

/-- An operation that does more to the registers than to write its own. -/
def Spec (pr : List Nat) (o : Oper) : Prop :=
  match o.op with
  | .store .. | .next .. | .range .. => True
  | .alloc _ | .box _ _ => ∃ d, o.dst = some d ∧ has pr d = true
  | _ => False

/-- May an operation make new blocks? -/
def NewOp (o : Oper) : Prop :=
  match o.op with
  | .alloc _ | .box .. | .buildSlice .. | .makeSlice .. | .convert .. => True
  | .call q => match q.callee with
    | .value _ | .builtin .append => True
    | _ => False
  | _ => False

/-- Facts on an operation's registers and heap: the machine's alone. D: what it may look at; W: what it may change. -/
structure OpF (W : HId → Prop) (pr ms : List Nat) (o : Oper) (E : Env) (s : St) (E' : Env) (s' : St) : Prop where
  len : s.length ≤ s'.length
  nxt : E.nxt ≤ E'.nxt
  eok : EOK E → EOK E'
  other : ∀ t, o.dst ≠ some t → has ms t = false → E'.get t = E.get t
  ent : ∀ t, o.dst ≠ some t → ∀ (C : Cfg) ψ x, EntR C ψ (E.get t) x → EntR C ψ (E'.get t) x
  back : ∀ h ab, CR E' s' h ab → W h ∨ New E s E' s' h ∨ CR E s h ab
  verL : ∀ t v n cs, E'.get t = .loc v n cs → (∃ cs0, E.get t = .loc v n cs0) ∨ (E.nxt ≤ v ∧ o.dst = some t)
  verI : ∀ t v l p, E'.get t = .it v l p → (∃ p0, E.get t = .it v l p0) ∨ (E.nxt ≤ v ∧ o.dst = some t)
  sfix : (∀ i, ¬ W (.inl i)) → ∀ i, i < s.length → s'[i]? = s[i]?
  plain : (∃ e : Ent, e.ver = none ∧ E' = E.putO o.dst e) ∨ Spec pr o
  grow : s'.length = s.length ∨ NewOp o

/-- What an operation may lean on. -/
structure Pre (C : Cfg) (o : Oper) (D : HId → Prop) (E : Env) (s : St) (ψ : Ps) (Q : Kn) (a : Act) (w : World) : Prop where
  sim : Sim C ψ Q w
  blks : Blks ψ w
  glob : Glob C ψ
  eok : EOK E
  know : ∀ h ab cb, D h → CR E s h ab → ψ h = some cb → Q h ab
  args : ∀ t, .tmp t ∈ o.op.operands → EntR C ψ (E.get t) (a.tmps.getD t undef)

/-- There is room for the numbers of what is made. -/
def Room (E : Env) (s : St) (E' : Env) (s' : St) (ψ : Ps) : Prop := ∀ h, New E s E' s' h → ψ h = none

/-- What holds behind an operation. -/
structure Post (C : Cfg) (D W : HId → Prop) (E : Env) (s : St) (E' : Env) (s' : St) (ψ : Ps) (Q : Kn) (w : World) (ψ' : Ps) (Q' : Kn) (w' : World) : Prop where
  sim : Sim C ψ' Q' w'
  ext : Ext ψ Q w ψ' Q' w'
  news : ∀ h cb, ψ' h = some cb → ψ h = some cb ∨ New E s E' s' h
  p1 : ∀ h ab cb, CR E' s' h ab → (W h ∨ New E s E' s' h) → ψ' h = some cb → Q' h ab
  p2 : ∀ h ab cb, ψ h = some cb → Q h ab → ¬ W h → (D h → Dom E s h → CR E s h ab) → Q' h ab

def OpOK (C : Cfg) (o : Oper) (D W : HId → Prop) (E : Env) (s : St) (E' : Env) (s' : St) : Prop :=
  ∀ (ψ : Ps) (Q : Kn) (a : Act) (w : World) (next : Act → World → Prop) (QQ : Exit → Act → World → Prop), Pre C o D E s ψ Q a w → Room E s E' s' ψ →
    (∀ ψ' Q' v w', Post C D W E s E' s' ψ Q w ψ' Q' w' → (∀ d, o.dst = some d → EntR C ψ' (E'.get d) v) → next (a.put o.dst v) w') → o.wp C.P a w next QQ

/-- An operation that panics: it has made heap s'. -/
def OpPan (C : Cfg) (o : Oper) (D : HId → Prop) (E : Env) (s s' : St) : Prop :=
  s.length ≤ s'.length ∧
  ∀ (ψ : Ps) (Q : Kn) (a : Act) (w : World) (next : Act → World → Prop) (QQ : Exit → Act → World → Prop), Pre C o D E s ψ Q a w → Room E s E s' ψ →
    (∀ ψ' Q' ch w', Sim C ψ' Q' w' → Ext ψ Q w ψ' Q' w' → (∀ h cb, ψ' h = some cb → ψ h = some cb ∨ New E s E s' h) →
      (∀ i ab cb, stAB s' i = some ab → ψ' (.inl i) = some cb → Q' (.inl i) ab) → QQ (.panic ch) a w') → o.wp C.P a w next QQ

/-- What a run of an operation comes to. -/
def Res {β : Type} (C : Cfg) (md : Md) (pr ms : List Nat) (o : Oper) (D W : HId → Prop) (E : Env) (s : St) (K : Env → M β) (r : Out β × St) : Prop :=
  (∃ E' s', K E' s' = some r ∧ OpF W pr ms o E s E' s' ∧ OpOK C o D W E s E' s') ∨ (md.x = 0 ∧ ∃ s', r = (.pan, s') ∧ OpPan C o D E s s')

/-! ### Operands -/
theorem ofVal_rel {C : Cfg} {ψ : Ps} {v : Value} {d : DV} (h : ofVal v = some d) : VR C ψ d v := by
  unfold ofVal at h
  split at h <;> first | (cases h; done) | (injection h with h; subst h)
  · exact .bool _
  · exact .int _ _
  · exact .str _
  · exact .ptrN
  · exact .sliceN _
  · exact .nilFunc
  · exact .nilIface
theorem ofVal_one {v : Value} {d : DV} (h : ofVal v = some d) : one d = true := by
  unfold ofVal at h
  split at h <;> first | (cases h; done) | (injection h with h; subst h; rfl)
theorem ofVals_rel {C : Cfg} {ψ : Ps} : ∀ {vs : List Value} {ds : List DV}, ofVals vs = some ds → VRs C ψ ds vs ∧ ds.all one = true
  | [], ds, h => by simp only [ofVals, Option.some.injEq] at h; subst h; exact ⟨.nil, rfl⟩
  | v :: vs, ds, h => by
    simp only [ofVals] at h
    split at h
    · rename_i d ds' h1 h2
      injection h with h; subst h
      obtain ⟨a, b⟩ := ofVals_rel (C := C) (ψ := ψ) h2
      exact ⟨.cons _ _ _ _ (ofVal_rel h1) a, by simp [ofVal_one h1, b]⟩
    · cases h

section
variable {C : Cfg} {o : Oper} {D : HId → Prop} {E : Env} {s : St} {ψ : Ps} {Q : Kn} {a : Act} {w : World}

theorem Pre.src (p : Pre C o D E s ψ Q a w) {x : Operand} (hx : x ∈ o.op.operands) : EntR C ψ (E.src C x) (a.eval x) := by
  cases x with
  | tmp t =>
    have h := p.args t hx
    simp only [Env.src, Act.eval]
    cases he : E.get t with
    | loc v n cs =>
      rw [he] at h
      obtain ⟨cb, h1, h2, h3⟩ := h
      exact ⟨cb, h1, h2, h3⟩
    | it v l q => exact trivial
    | u => exact trivial
    | un => rw [he] at h; exact h
    | v d => rw [he] at h; exact h
    | tup ds => rw [he] at h; exact h
    | pl r v n => rw [he] at h; exact h
  | const v =>
    simp only [Env.src, Act.eval]
    split
    · exact ofVal_rel (by assumption)
    · exact trivial
  | global g =>
    simp only [Env.src, Act.eval]
    cases hg : C.glc g with
    | false => exact trivial
    | true =>
      obtain ⟨cb, h1, h2, h3⟩ := p.glob g hg
      have := VR.ptr (C := C) (ψ := ψ) (C.gl g) 0 cb h1
      rw [h2, h3] at this
      exact this
  | func f =>
    simp only [Env.src, Act.eval]
    cases hg : C.cov f with
    | false => exact trivial
    | true => exact VR.func f [] [] #[] #[] hg .nil .nil

theorem Pre.val (p : Pre C o D E s ψ Q a w) {x : Operand} (hx : x ∈ o.op.operands) {d : DV} (h : E.src C x = .v d) : VR C ψ d (a.eval x) := by
  have := p.src hx
  rw [h] at this
  exact this

theorem Env.src_ver (C : Cfg) (E : Env) (x : Operand) : (E.src C x).ver = none := by
  cases x with
  | tmp t => simp only [Env.src]; cases E.get t <;> rfl
  | const v => simp only [Env.src]; cases ofVal v <;> rfl
  | global g => simp only [Env.src]; cases C.glc g <;> rfl
  | func f => simp only [Env.src]; cases C.cov f <;> rfl

theorem Env.src_pl (C : Cfg) {E : Env} (hE : EOK E) {x : Operand} {r v n : Nat} (h : E.src C x = .pl r v n) : v < E.nxt := by
  cases x with
  | tmp t =>
    simp only [Env.src] at h
    cases he : E.get t with
    | loc v' m cs =>
      rw [he] at h
      simp only [Ent.pl.injEq] at h
      obtain ⟨_, rfl, _⟩ := h
      exact hE.lt t v' (by rw [he]; rfl)
    | pl r' v' n' =>
      rw [he] at h
      simp only [Ent.pl.injEq] at h
      obtain ⟨_, rfl, _⟩ := h
      exact hE.pl t _ _ _ he
    | _ => rw [he] at h; cases h
  | const v => simp only [Env.src] at h; cases hv : ofVal v <;> rw [hv] at h <;> cases h
  | global g => simp only [Env.src] at h; cases hv : C.glc g <;> rw [hv] at h <;> cases h
  | func f => simp only [Env.src] at h; cases hv : C.cov f <;> rw [hv] at h <;> cases h
end

/-! ### A register is written -/
theorem EOK.putO {E : Env} (hE : EOK E) {t : Option Nat} {e : Ent} (hv : e.ver = none) (hp : ∀ r v n, e = .pl r v n → v < E.nxt) : EOK (E.putO t e) := by
  constructor
  · intro u v h
    rw [Env.get_putO] at h
    rw [Env.nxt_putO]
    split at h
    · rw [hv] at h; cases h
    · exact hE.lt u v h
  · intro u r v n h
    rw [Env.get_putO] at h
    rw [Env.nxt_putO]
    split at h
    · exact hp r v n h
    · exact hE.pl u r v n h
  · intro u v n cs h
    rw [Env.get_putO] at h
    split at h
    · rw [h] at hv; cases hv
    · exact hE.len u v n cs h
  · intro u u' v h h'
    rw [Env.get_putO] at h h'
    split at h
    · rw [hv] at h; cases h
    · split at h'
      · rw [hv] at h'; cases h'
      · exact hE.uniq u u' v h h'

theorem CR.putO {E : Env} {t : Option Nat} {e : Ent} {s : St} {h : HId} {ab : AB} (hv : e.ver = none) (c : CR (E.putO t e) s h ab) : CR E s h ab := by
  cases h with
  | inl i => exact c
  | inr v =>
    rcases c with ⟨u, n, cs, h, hab⟩ | ⟨u, l, p, h, hab⟩
    · rw [Env.get_putO] at h
      split at h
      · rw [h] at hv; cases hv
      · exact .inl ⟨u, n, cs, h, hab⟩
    · rw [Env.get_putO] at h
      split at h
      · rw [h] at hv; cases hv
      · exact .inr ⟨u, l, p, h, hab⟩

section
variable {C : Cfg} {o : Oper} {D W : HId → Prop} {E : Env} {s : St}

theorem OpF.put (pr ms : List Nat) (e : Ent) (hv : e.ver = none) (hp : EOK E → ∀ r v n, e = .pl r v n → v < E.nxt) {s' : St} (hl : s.length ≤ s'.length)
    (hs : ∀ i ab, stAB s' i = some ab → W (.inl i) ∨ s.length ≤ i ∨ stAB s i = some ab) (hf : (∀ i, ¬ W (.inl i)) → ∀ i, i < s.length → s'[i]? = s[i]?) (hg : s'.length = s.length ∨ NewOp o) : OpF W pr ms o E s (E.putO o.dst e) s' where
  len := hl
  nxt := by simp
  eok := fun hE => hE.putO hv (hp hE)
  other := fun t h _ => by rw [Env.get_putO, if_neg h]
  ent := fun t h C ψ x r => by rw [Env.get_putO, if_neg h]; exact r
  back := fun h ab c => by
    cases h with
    | inl i =>
      have c' : stAB s' i = some ab := c
      rcases hs i ab c' with h | h | h
      · exact .inl h
      · exact .inr (.inl ⟨Nat.not_lt.2 h, stAB_lt c'⟩)
      · exact .inr (.inr h)
    | inr v =>
      have c' : CR (E.putO o.dst e) s (.inr v) ab := c
      exact .inr (.inr (c'.putO hv))
  verL := fun t v n cs h => by
    rw [Env.get_putO] at h
    split at h
    · rw [h] at hv; cases hv
    · exact .inl ⟨cs, h⟩
  verI := fun t v l p h => by
    rw [Env.get_putO] at h
    split at h
    · rw [h] at hv; cases hv
    · exact .inl ⟨p, h⟩
  sfix := hf
  plain := .inl ⟨e, hv, rfl⟩
  grow := hg

theorem OpF.putS (pr ms : List Nat) (e : Ent) (hv : e.ver = none) (hp : EOK E → ∀ r v n, e = .pl r v n → v < E.nxt) : OpF W pr ms o E s (E.putO o.dst e) s :=
  OpF.put pr ms e hv hp (Nat.le_refl _) (fun _ _ h => .inr (.inr h)) (fun _ _ _ => rfl) (.inl rfl)

/-- An operation that yields a value, and leaves the world as it was (but for the tally of draws and what lies behind). -/
theorem OpOK.pure (hWD : ∀ h, W h → D h) (e : Ent) (hv : e.ver = none)
    (hrun : ∀ ψ Q a w, Pre C o D E s ψ Q a w → ∃ v w', (execOp a.eval o).run C.P w = .ok (.value v) w' ∧ More w w' ∧ EntR C ψ e v) : OpOK C o D W E s (E.putO o.dst e) s := by
  intro ψ Q a w next QQ p _ hn
  obtain ⟨v, w', hr, hm, hv'⟩ := hrun ψ Q a w p
  unfold Oper.wp
  rw [hr]
  refine hn ψ Q v w' ⟨p.sim.more p.blks hm, Ext.more hm, fun h cb e => .inl e, fun h ab cb c hw e => ?_, fun h ab cb e q _ _ => q⟩ (fun d hd => ?_)
  · rcases hw with hw | ⟨h1, h2⟩
    · exact p.know h ab cb (hWD h hw) (c.putO hv) e
    · exact absurd (by cases h <;> simpa [Dom] using h2) h1
  · rw [Env.get_putO, if_pos hd]; exact hv'

/-- The whole of an operation that puts a value into its register. -/
theorem Res.pure {β : Type} {md : Md} {pr ms : List Nat} (hWD : ∀ h, W h → D h) {K : Env → M β} {r : Out β × St} (e : Ent) (hv : e.ver = none) (hp : EOK E → ∀ r v n, e = .pl r v n → v < E.nxt)
    (hk : K (E.putO o.dst e) s = some r)
    (hrun : ∀ ψ Q a w, Pre C o D E s ψ Q a w → ∃ v w', (execOp a.eval o).run C.P w = .ok (.value v) w' ∧ More w w' ∧ EntR C ψ e v) : Res C md pr ms o D W E s K r :=
  .inl ⟨_, _, hk, OpF.putS pr ms e hv hp, OpOK.pure hWD e hv hrun⟩

theorem Res.val {β : Type} {md : Md} {pr ms : List Nat} (hWD : ∀ h, W h → D h) {K : Env → M β} {r : Out β × St} (d : DV)
    (hk : putK E o K d s = some r)
    (hrun : ∀ ψ Q a w, Pre C o D E s ψ Q a w → ∃ v w', (execOp a.eval o).run C.P w = .ok (.value v) w' ∧ More w w' ∧ VR C ψ d v) : Res C md pr ms o D W E s K r :=
  Res.pure hWD (.v d) rfl (fun _ _ _ _ h => by cases h) hk hrun

/-- A new block in the heap. -/
theorem Res.newH {β : Type} {md : Md} {pr ms : List Nat} (hno : NewOp o) (hWD : ∀ h, W h → D h) {K : Env → M β} {r : Out β × St} (d : DV) (cells : List DV)
    (hk : putK E o K d (s ++ [some ⟨false, cells⟩]) = some r)
    (hrun : ∀ ψ Q a w, Pre C o D E s ψ Q a w → ∃ v w' cb, (execOp a.eval o).run C.P w = .ok (.value v) w' ∧ More w w' ∧ w.heap.size ≤ cb.b ∧ cb.b < w'.heap.size ∧
      Holds C ψ w' cb (.cells false cells) ∧ (∀ ψ', (∀ h c, ψ h = some c → ψ' h = some c) → ψ' (.inl s.length) = some cb → VR C ψ' d v)) : Res C md pr ms o D W E s K r := by
  refine .inl ⟨_, _, hk, OpF.put pr ms (.v d) rfl (fun _ _ _ _ h => by cases h) (by simp) (fun i ab h => ?_) (fun _ i hi => List.getElem?_append_left hi) (.inr hno), ?_⟩
  · rcases Nat.lt_or_ge i s.length with hi | hi
    · rw [stAB_append_lt hi] at h; exact .inr (.inr h)
    · exact .inr (.inl hi)
  · intro ψ Q a w next QQ p room hn
    obtain ⟨v, w', cb, hr, hm, h1, h2, hh, hv'⟩ := hrun ψ Q a w p
    have hnew : New E s (E.putO o.dst (.v d)) (s ++ [some ⟨false, cells⟩]) (.inl s.length) := ⟨by simp [Dom], by simp [Dom]⟩
    have hf := room _ hnew
    unfold Oper.wp
    rw [hr]
    refine hn _ _ v w' ⟨Sim.new (cb := cb) (ab := .cells false cells) p.sim p.blks hm hf h1 (hh.same (fun _ _ e => upP_mono hf _ _ e) rfl), Ext.new hm hf h1 h2, fun h c e => ?_, fun h ab c cr hw e => ?_, fun h ab c e q _ _ => ?_⟩ (fun d' hd => ?_)
    · by_cases eh : h = .inl s.length
      · subst eh; exact .inr hnew
      · rw [upP_ne _ _ eh] at e; exact .inl e
    · by_cases eh : h = .inl s.length
      · subst eh
        have cr' : stAB (s ++ [some ⟨false, cells⟩]) s.length = some ab := cr
        rw [stAB_append_new] at cr'
        cases cr'
        exact .inl ⟨rfl, rfl⟩
      · refine .inr ⟨eh, ?_⟩
        rw [upP_ne _ _ eh] at e
        rcases hw with hw | ⟨n1, n2⟩
        · refine p.know h ab c (hWD h hw) ?_ e
          cases h with
          | inl i =>
            have cr' : stAB (s ++ [some ⟨false, cells⟩]) i = some ab := cr
            have := stAB_lt cr'
            simp only [List.length_append, List.length_singleton] at this
            rwa [stAB_append_lt (by have : i ≠ s.length := fun e => eh (by rw [e]); omega)] at cr'
          | inr x =>
            have cr' : CR (E.putO o.dst (.v d)) s (.inr x) ab := cr
            exact cr'.putO rfl
        · cases h with
          | inl i =>
            simp only [Dom, List.length_append, List.length_singleton] at n1 n2
            exact absurd (by rw [show i = s.length by omega]) eh
          | inr x => simp only [Dom, Env.nxt_putO] at n1 n2; exact absurd n2 n1
    · refine .inr ⟨fun eh => ?_, q⟩
      subst eh; rw [hf] at e; cases e
    · rw [Env.get_putO, if_pos hd]
      exact hv' _ (upP_mono hf) (upP_same _ _ _)
end
end Go.Gv
