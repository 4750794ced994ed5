/- Calls, and all single operations. -/
import Derived.Test.YtepnfdggeobcaaaDoorGvOpA
namespace Go.Gv
variable {β : Type}

/-! ### What a call must do -/
/-- What a heap says. -/
def CS (s : St) : Kn := fun h ab => ∃ i, h = .inl i ∧ stAB s i = some ab

/-- What comes back: one value, or a tuple. -/
def RetV (C : Cfg) (ψ : Ps) (ds : List DV) (v : Value) : Prop := (∃ d, ds = [d] ∧ VR C ψ d v) ∨ (ds.length ≠ 1 ∧ ∃ vs, v = .tuple vs ∧ VRs C ψ ds vs.toList)

structure CallPost (C : Cfg) (ψ : Ps) (s : St) (w : World) (ψ' : Ps) (s' : St) (w' : World) : Prop where
  sim : Sim C ψ' (CS s') w'
  ext : Ext ψ (CS s) w ψ' (CS s') w'
  news : ∀ h cb, ψ' h = some cb → ψ h = some cb ∨ ∃ i, h = .inl i ∧ s.length ≤ i ∧ i < s'.length

def CallSem (P : Program) (f : FuncId) (vs : Array Value) (w : World) (R : Ending → World → Prop) : Prop :=
  match (callFunc f vs).run P w with
  | .ok (.enter f' as) w' => Calls P f' as w' R
  | .ok (.value v) w' => R (.returned v) w'
  | _ => False

def CallOK (C : Cfg) (g : Nat) (args : List DV) (s : St) (out : Out (List DV) × St) : Prop :=
  s.length ≤ out.2.length ∧
  ∀ f, C.cov f = true → C.fn f = g → ∀ ψ w vs, Sim C ψ (CS s) w → Blks ψ w → Glob C ψ → VRs C ψ args vs → (∀ v, ψ (.inr v) = none) → (∀ i, s.length ≤ i → i < out.2.length → ψ (.inl i) = none) →
    CallSem C.P f vs.toArray w fun
      | .returned v, w' => ∃ ds, out.1 = .val ds ∧ ∃ ψ', CallPost C ψ s w ψ' out.2 w' ∧ RetV C ψ' ds v
      | .panicked _, w' => out.1 = .pan ∧ ∃ ψ', CallPost C ψ s w ψ' out.2 w'
      | .outgrown, _ => False

def OracleOK (C : Cfg) (c : Oracle) : Prop := ∀ g args s out, c g args s = some out → CallOK C g args s out

/-! ### The frame around a call -/
def inPs (ψ : Ps) : Ps
  | .inl i => ψ (.inl i)
  | .inr _ => none
def outPs (ψ ψc : Ps) : Ps
  | .inl i => ψc (.inl i)
  | .inr v => ψ (.inr v)
def outQ (s' : St) (Q : Kn) : Kn := fun h ab => CS s' h ab ∨ (Q h ab ∧ ∀ i, h = .inl i → s'.length ≤ i)

section
variable {C : Cfg} {ψ ψc : Ps} {Q : Kn} {s s' : St} {w w' : World}

theorem inPs_some {h : HId} {cb : CB} (e : inPs ψ h = some cb) : ψ h = some cb ∧ ∃ i, h = .inl i := by
  cases h with
  | inl i => exact ⟨e, i, rfl⟩
  | inr v => cases e

theorem inPs_vrs {ds : List DV} {vs : List Value} (h : VRs C ψ ds vs) : VRs C (inPs ψ) ds vs := h.mono (ψ := ψ) (ψ' := inPs ψ) fun _ _ e => e

theorem inPs_sim (h : Sim C ψ Q w) (hk : ∀ i ab cb, stAB s i = some ab → ψ (.inl i) = some cb → Q (.inl i) ab) : Sim C (inPs ψ) (CS s) w := by
  constructor
  · intro k cb ab e q
    obtain ⟨e, i, rfl⟩ := inPs_some e
    obtain ⟨_, hi, q⟩ := q
    cases hi
    exact (h.holds _ cb ab e (hk i ab cb q e)).same (ψ := ψ) (ψ' := inPs ψ) (fun _ _ e => e) rfl
  · intro k cb ab k' cb' ab' e q hs e' q' hn
    obtain ⟨e, i, rfl⟩ := inPs_some e
    obtain ⟨e', i', rfl⟩ := inPs_some e'
    obtain ⟨_, hi, q⟩ := q
    cases hi
    obtain ⟨_, hi, q'⟩ := q'
    cases hi
    exact h.excl _ cb ab _ cb' ab' e (hk i ab cb q e) hs e' (hk i' ab' cb' q' e') hn

/-- A call among other things: they stay. -/
theorem frame (h : Sim C ψ Q w) (hb : Blks ψ w) (hk : ∀ i ab cb, stAB s i = some ab → ψ (.inl i) = some cb → Q (.inl i) ab) (hlen : s.length ≤ s'.length)
    (hc : CallPost C (inPs ψ) s w ψc s' w') : Sim C (outPs ψ ψc) (outQ s' Q) w' ∧ Ext ψ Q w (outPs ψ ψc) (outQ s' Q) w' := by
  have mono : ∀ k cb, ψ k = some cb → outPs ψ ψc k = some cb := by
    intro k cb e
    cases k with
    | inl i => exact hc.ext.mono (.inl i) cb e
    | inr v => exact e
  have solein : ∀ b, Sole (inPs ψ) (CS s) b → ∃ i cb ab, ψ (.inl i) = some cb ∧ stAB s i = some ab ∧ Q (.inl i) ab ∧ ab.sole = true ∧ cb.b = b := by
    rintro b ⟨k, cb, ab, e, ⟨i, rfl, q⟩, hs, hb⟩
    exact ⟨i, cb, ab, e, q, hk i ab cb q e, hs, hb⟩
  have soleQ : ∀ b, Sole (inPs ψ) (CS s) b → Sole ψ Q b := by
    intro b hs
    obtain ⟨i, cb, ab, e, _, q, hs, hb⟩ := solein b hs
    exact ⟨_, cb, ab, e, q, hs, hb⟩
  have frm : ∀ k cb ab, outPs ψ ψc k = some cb → Q k ab → (∀ i, k = .inl i → s'.length ≤ i) → ψ k = some cb ∧ ¬ Sole (inPs ψ) (CS s) cb.b ∧ cb.b < w.heap.size := by
    intro k cb ab e q hf
    have e' : ψ k = some cb := by
      cases k with
      | inr v => exact e
      | inl i =>
        rcases hc.news _ _ e with e | ⟨j, hj, _, hlt⟩
        · exact e
        · cases hj; have := hf i rfl; omega
    refine ⟨e', fun hs => ?_, hb _ _ e'⟩
    obtain ⟨i, cb0, ab0, e0, q0, qq, hs0, hb0⟩ := solein _ hs
    have hne : (Sum.inl i : HId) ≠ k := by
      rintro rfl
      have h1 := hf i rfl
      have h2 := stAB_lt q0
      omega
    exact h.excl _ cb0 ab0 _ cb ab e0 qq hs0 e' q hne hb0.symm
  refine ⟨⟨?_, ?_⟩, ⟨mono, ?_, hc.ext.size, ?_, ?_, ?_, hc.ext.tape, hc.ext.os, hc.ext.output⟩⟩
  · intro k cb ab e q
    rcases q with ⟨i, rfl, q⟩ | ⟨q, hf⟩
    · exact (hc.sim.holds (.inl i) cb ab e ⟨i, rfl, q⟩).same (ψ := ψc) (ψ' := outPs ψ ψc) (fun _ _ e => e) rfl
    · obtain ⟨e1, e2, e3⟩ := frm k cb ab e q hf
      exact (h.holds k cb ab e1 q).same (fun i cb e => mono _ _ e) (hc.ext.keep _ e3 e2)
  · intro k cb ab k' cb' ab' e q hs e' q' hn
    rcases q with ⟨i, rfl, q⟩ | ⟨q, hf⟩ <;> rcases q' with ⟨i', rfl, q'⟩ | ⟨q', hf'⟩
    · exact hc.sim.excl (.inl i) cb ab (.inl i') cb' ab' e ⟨i, rfl, q⟩ hs e' ⟨i', rfl, q'⟩ hn
    · obtain ⟨e1, e2, e3⟩ := frm k' cb' ab' e' q' hf'
      rcases hc.ext.sole cb.b ⟨.inl i, cb, ab, e, ⟨i, rfl, q⟩, hs, rfl⟩ with h1 | h1
      · intro h2; rw [h2] at e2; exact e2 h1
      · omega
    · obtain ⟨e1, e2, e3⟩ := frm k cb ab e q hf
      rcases hc.ext.rng (.inl i') cb' e' with h1 | ⟨h1, _⟩
      · obtain ⟨y, i2, hi2, hy⟩ := hc.ext.live (.inl i') cb' ab' h1 ⟨i', rfl, q'⟩
        cases hi2
        exact h.excl k cb ab (.inl i') cb' y e1 q hs h1 (hk i' y cb' hy h1) hn
      · rcases h1 with h1 | h1
        · omega
        · intro h2; rw [h2] at h1; exact e2 h1
    · obtain ⟨e1, _, _⟩ := frm k cb ab e q hf
      obtain ⟨e1', _, _⟩ := frm k' cb' ab' e' q' hf'
      exact h.excl k cb ab k' cb' ab' e1 q hs e1' q' hn
  · intro k cb e
    cases k with
    | inr v => exact .inl e
    | inl i =>
      rcases hc.ext.rng (.inl i) cb e with h1 | ⟨h1, h2⟩
      · exact .inl h1
      · exact .inr ⟨h1.imp id (soleQ _), h2⟩
  · intro b hb' hn
    exact hc.ext.keep b hb' fun hs => hn (soleQ b hs)
  · rintro b ⟨k, cb, ab, e, q, hs, hb'⟩
    rcases q with ⟨i, rfl, q⟩ | ⟨q, hf⟩
    · exact (hc.ext.sole b ⟨.inl i, cb, ab, e, ⟨i, rfl, q⟩, hs, hb'⟩).imp (soleQ b) id
    · obtain ⟨e1, _, _⟩ := frm k cb ab e q hf
      exact .inl ⟨k, cb, ab, e1, q, hs, hb'⟩
  · intro k cb x e q
    rcases q with ⟨i, rfl, q⟩ | ⟨q, _⟩
    · obtain ⟨y, i2, hi2, hy⟩ := hc.ext.live (.inl i) cb x e ⟨i, rfl, q⟩
      cases hi2
      exact ⟨y, hk i y cb hy e⟩
    · exact ⟨x, q⟩
end

/-! ### Calls -/
section
variable {C : Cfg} {o : Oper} {D W : HId → Prop} {E : Env} {s : St} {md : Md} {pr ms : List Nat}

theorem callK_some {m : M (List DV)} {K : List DV → M β} {r : Out β × St} (h : callK md m K s = some r) :
    (∃ ds s1, m s = some (.val ds, s1) ∧ K ds s1 = some r ∧ (2 ≤ md.x → St.begins s s1)) ∨ (md.x = 0 ∧ ∃ s1, m s = some (.pan, s1) ∧ r = (.pan, s1)) := by
  unfold callK at h
  cases hx : md.x with
  | zero =>
    rw [hx] at h
    simp only [M.call] at h
    cases hm : m s with
    | none => rw [hm] at h; cases h
    | some p =>
      obtain ⟨o, s1⟩ := p
      rw [hm] at h
      cases o with
      | val ds => exact .inl ⟨ds, s1, rfl, h, fun h => by omega⟩
      | pan => simp only [Option.some.injEq] at h; exact .inr ⟨rfl, s1, rfl, h.symm⟩
  | succ n =>
    cases n with
    | zero =>
      rw [hx] at h
      simp only [M.callN] at h
      cases hm : m s with
      | none => rw [hm] at h; cases h
      | some p =>
        obtain ⟨o, s1⟩ := p
        rw [hm] at h
        cases o with
        | val ds => exact .inl ⟨ds, s1, rfl, h, fun h => by omega⟩
        | pan => cases h
    | succ n =>
      rw [hx] at h
      simp only [M.callX] at h
      cases hm : m s with
      | none => rw [hm] at h; cases h
      | some p =>
        obtain ⟨o, s1⟩ := p
        rw [hm] at h
        cases o with
        | val ds =>
          simp only at h
          split at h
          · rename_i hb; exact .inl ⟨ds, s1, rfl, h, fun _ => hb⟩
          · cases h
        | pan => cases h

theorem call_core {q : Call} {f : Operand} (hq : q.callee = .value f) (ho : o.op = .call q) (hWD : ∀ h, W h → D h) (hD : ∀ i, D (.inl i)) (hW : ∀ s1, (2 ≤ md.x → St.begins s s1) → (∀ i, W (.inl i)) ∨ St.begins s s1)
    {c : Oracle} (hc : OracleOK C c) {g : Nat} {fs cs as : List DV} (hf : E.src C f = .v (.func g fs cs)) (has : SV C E q.args.toList as)
    {out : Out (List DV)} {s1 : St} (hcall : c g (fs ++ as ++ cs) s = some (out, s1)) (hbeg : 2 ≤ md.x → St.begins s s1) :
    (out = .pan → OpPan C o D E s s1) ∧
    (∀ ds e, out = .val ds → e.ver = none → (∀ r v n, e ≠ .pl r v n) → (∀ ψ v, RetV C ψ ds v → EntR C ψ e v) → OpF W pr ms o E s (E.putO o.dst e) s1 ∧ OpOK C o D W E s (E.putO o.dst e) s1) := by
  have ok := hc g _ s _ hcall
  have hlen : s.length ≤ s1.length := ok.1
  have mf : f ∈ o.op.operands := by rw [ho]; simp [Op.operands, Call.operands, hq]
  have ma : ∀ x ∈ q.args.toList, x ∈ o.op.operands := by intro x hx; rw [ho]; simp only [Op.operands, Call.operands, hq]; simp at hx ⊢; first | exact .inl hx | exact .inr hx
  -- the operation's run, by the call
  have sem : ∀ ψ Q (A : Act) (w : World) (next : Act → World → Prop) (QQ : Exit → Act → World → Prop), Pre C o D E s ψ Q A w → (∀ i, s.length ≤ i → i < s1.length → ψ (.inl i) = none) →
      (∀ ds v w' ψc, out = .val ds → CallPost C (inPs ψ) s w ψc s1 w' → RetV C ψc ds v → next (A.put o.dst v) w') → (∀ ch w' ψc, out = .pan → CallPost C (inPs ψ) s w ψc s1 w' → QQ (.panic ch) A w') → o.wp C.P A w next QQ := by
    intro ψ Q A w next QQ p room hv hp
    have hfv := p.val mf hf
    generalize hfe : A.eval f = v at hfv
    cases hfv with
    | func k _ _ vf vc hcov h1 h2 =>
      have h3 := vals_rel p ma has
      have hargs : VRs C (inPs ψ) (fs ++ as ++ cs) (vf.toList ++ q.args.toList.map A.eval ++ vc.toList) := inPs_vrs (VRs.append (VRs.append h1 h3) h2)
      have := ok.2 k hcov rfl (inPs ψ) w _ (inPs_sim p.sim fun i ab cb h e => p.know (.inl i) ab cb (hD i) h e) (fun h cb e => p.blks h cb (inPs_some e).1)
        (fun g hg => let ⟨cb, e1, e2⟩ := p.glob g hg; ⟨cb, e1, e2⟩) hargs (fun _ => rfl) (fun i h1 h2 => room i h1 h2)
      have hvs : (vf.toList ++ q.args.toList.map A.eval ++ vc.toList).toArray = vf ++ q.args.map A.eval ++ vc := by
        apply Array.ext'; simp
      rw [hvs] at this
      have hex : (execOp A.eval o).run C.P w = (callFunc k (vf ++ q.args.map A.eval ++ vc)).run C.P w := by
        simp [execOp, ho, resolve, hq, hfe, Deferred.ofValue, invoke]
      unfold Oper.wp
      rw [hex]
      unfold CallSem at this
      split at this
      · rename_i f' as' w' hr
        rw [hr]
        refine Calls.mono this fun e w'' he => ?_
        cases e with
        | returned v =>
          obtain ⟨ds, e1, ψc, e2, e3⟩ := he
          exact hv ds v w'' ψc e1 e2 e3
        | panicked ch =>
          obtain ⟨e1, ψc, e2⟩ := he
          exact hp ch w'' ψc e1 e2
        | outgrown => exact he.elim
      · rename_i v w' hr
        rw [hr]
        obtain ⟨ds, e1, ψc, e2, e3⟩ := this
        exact hv ds v w' ψc e1 e2 e3
      · exact this.elim
  refine ⟨fun hout => ⟨hlen, fun ψ Q A w next QQ p room hn => ?_⟩, fun ds e hout hver hpl hret => ⟨OpF.put pr ms e hver (fun _ r v n h => absurd h (hpl r v n)) hlen (fun i ab h => ?_) (fun h i hi => ?_) (.inr (by unfold NewOp; rw [ho]; simp only [hq])), fun ψ Q A w next QQ p room hn => ?_⟩⟩
  · have room' : ∀ i, s.length ≤ i → i < s1.length → ψ (.inl i) = none := fun i h1 h2 => room (.inl i) ⟨Nat.not_lt.2 h1, h2⟩
    have hk : ∀ i ab cb, stAB s i = some ab → ψ (.inl i) = some cb → Q (.inl i) ab := fun i ab cb h e => p.know (.inl i) ab cb (hD i) h e
    refine sem ψ Q A w next QQ p room' (fun ds v w' ψc h => by rw [hout] at h; cases h) fun ch w' ψc _ hpost => ?_
    obtain ⟨f1, f2⟩ := frame p.sim p.blks hk hlen hpost
    refine hn (outPs ψ ψc) (outQ s1 Q) ch w' f1 f2 (fun h cb e => ?_) fun i ab cb h e => .inl ⟨i, rfl, h⟩
    cases h with
    | inr v => exact .inl e
    | inl i =>
      rcases hpost.news _ _ e with e | ⟨j, hj, h1, h2⟩
      · exact .inl e
      · cases hj; exact .inr ⟨Nat.not_lt.2 h1, h2⟩
  · rcases hW s1 hbeg with h' | ⟨x, rfl⟩
    · exact .inl (h' i)
    · rcases Nat.lt_or_ge i s.length with hi | hi
      · rw [stAB_append_lt hi] at h; exact .inr (.inr h)
      · exact .inr (.inl hi)
  · rcases hW s1 hbeg with h' | ⟨x, rfl⟩
    · exact absurd (h' i) (h i)
    · exact List.getElem?_append_left hi
  · have room' : ∀ i, s.length ≤ i → i < s1.length → ψ (.inl i) = none := fun i h1 h2 => room (.inl i) ⟨Nat.not_lt.2 h1, h2⟩
    have hk : ∀ i ab cb, stAB s i = some ab → ψ (.inl i) = some cb → Q (.inl i) ab := fun i ab cb h e => p.know (.inl i) ab cb (hD i) h e
    refine sem ψ Q A w next QQ p room' (fun ds' v w' ψc h hpost hr => ?_) (fun ch w' ψc h => by rw [hout] at h; cases h)
    rw [hout] at h; cases h
    obtain ⟨f1, f2⟩ := frame p.sim p.blks hk hlen hpost
    have hr' : RetV C (outPs ψ ψc) ds v := by
      rcases hr with ⟨d, e1, e2⟩ | ⟨e1, vs, e2, e3⟩
      · exact .inl ⟨d, e1, e2.mono (ψ := ψc) (ψ' := outPs ψ ψc) fun _ _ e => e⟩
      · exact .inr ⟨e1, vs, e2, e3.mono (ψ := ψc) (ψ' := outPs ψ ψc) fun _ _ e => e⟩
    refine hn (outPs ψ ψc) (outQ s1 Q) v w' ⟨f1, f2, fun h cb e => ?_, fun h ab cb cr hw e' => ?_, fun h ab cb e' q' nw dm => ?_⟩ (fun d' hd' => ?_)
    · cases h with
      | inr v => exact .inl e
      | inl i =>
        rcases hpost.news _ _ e with e | ⟨j, hj, h1, h2⟩
        · exact .inl e
        · cases hj; exact .inr ⟨Nat.not_lt.2 h1, h2⟩
    · cases h with
      | inl i => exact .inl ⟨i, rfl, cr⟩
      | inr x =>
        rcases hw with hw | ⟨n1, n2⟩
        · have cr' : CR (E.putO o.dst e) s (.inr x) ab := cr
          exact .inr ⟨p.know (.inr x) ab cb (hWD _ hw) (cr'.putO hver) e', fun i hi => by cases hi⟩
        · simp only [Dom, Env.nxt_putO] at n1 n2; exact absurd n2 n1
    · cases h with
      | inr x => exact .inr ⟨q', fun i hi => by cases hi⟩
      | inl i =>
        rcases Nat.lt_or_ge i s.length with hi | hi
        · rcases hW s1 hbeg with h' | ⟨x, rfl⟩
          · exact absurd (h' i) nw
          · have h1 : stAB s i = some ab := dm (hD i) hi
            exact .inl ⟨i, rfl, by rw [stAB_append_lt hi]; exact h1⟩
        · rcases Nat.lt_or_ge i s1.length with hi' | hi'
          · rw [room' i hi hi'] at e'; cases e'
          · exact .inr ⟨q', fun j hj => by cases hj; exact hi'⟩
    · rw [Env.get_putO, if_pos hd']
      exact hret _ v hr'

theorem opCall_res {q : Call} {f : Operand} (hq : q.callee = .value f) (ho : o.op = .call q) (hWD : ∀ h, W h → D h) (hD : ∀ i, D (.inl i)) (hW : (∀ i, W (.inl i)) ∨ 2 ≤ md.x)
    {c : Oracle} (hc : OracleOK C c) {K : Env → M β} {r : Out β × St} (h : opCall C E o K md c f q.args s = some r) : Res C md pr ms o D W E s K r := by
  unfold opCall at h
  obtain ⟨fv, hf, h⟩ := valK_some h
  obtain ⟨as, h, has⟩ := valsK_some h
  have hW' : ∀ s1, (2 ≤ md.x → St.begins s s1) → (∀ i, W (.inl i)) ∨ St.begins s s1 := fun s1 hb => hW.imp id hb
  cases fv with
  | func g fs cs =>
    simp only at h
    generalize resOf C.P o.type = ro at h
    obtain ⟨many, shs⟩ := ro
    cases many with
    | true =>
      simp only at h
      obtain ⟨h1, h⟩ := cond_some' h
      have h1 := Nat.ne_of_beq_eq_false h1
      rcases callK_some h with ⟨ds, s1, hm, h, hb⟩ | ⟨hx, s1, hm, rfl⟩
      · obtain ⟨ds', h, hl, hl2, hr⟩ := dlist_some h
        obtain ⟨e1, e2⟩ := (call_core (pr := pr) (ms := ms) hq ho hWD hD hW' hc hf has hm hb).2 ds (.tup ds') rfl rfl (fun _ _ _ h => by cases h) (fun ψ v hv => by
          rcases hv with ⟨d, e, _⟩ | ⟨_, vs, e, e'⟩
          · rw [e] at hl; simp at hl; omega
          · exact ⟨vs, e, hr C ψ _ e'⟩)
        exact .inl ⟨_, s1, h, e1, e2⟩
      · exact .inr ⟨hx, s1, rfl, (call_core (pr := pr) (ms := ms) hq ho hWD hD hW' hc hf has hm (fun h => by omega)).1 rfl⟩
    | false =>
      simp only at h
      rcases callK_some h with ⟨ds, s1, hm, h, hb⟩ | ⟨hx, s1, hm, rfl⟩
      · obtain ⟨ds', h, hl, hl2, hr⟩ := dlist_some h
        cases ds' with
        | nil => cases h
        | cons d rest =>
          cases rest with
          | cons _ _ => cases h
          | nil =>
            simp only at h
            obtain ⟨e1, e2⟩ := (call_core (pr := pr) (ms := ms) hq ho hWD hD hW' hc hf has hm hb).2 ds (.v d) rfl rfl (fun _ _ _ h => by cases h) (fun ψ v hv => by
              rcases hv with ⟨d0, e, hd0⟩ | ⟨e, _⟩
              · subst e
                have := hr C ψ [v] (.cons _ _ _ _ hd0 .nil)
                cases this with
                | cons _ _ _ _ a _ => exact a
              · exact absurd hl.symm e)
            exact .inl ⟨_, s1, h, e1, e2⟩
      · exact .inr ⟨hx, s1, rfl, (call_core (pr := pr) (ms := ms) hq ho hWD hD hW' hc hf has hm (fun h => by omega)).1 rfl⟩
  | _ => cases h
end

/-! ### All operations -/
def IsInl (h : HId) : Prop := ∃ i, h = .inl i
def VerAt (E : Env) (r : Nat) (h : HId) : Prop := ∃ v, h = .inr v ∧ (E.get r).ver = some v

/-- At what an operation may look, by how it runs. -/
def Dof : Md → Env → HId → Prop
  | .s, _, _ => True
  | .d .pure _, _, _ => False
  | .d (.rdL r) _, E, h => VerAt E r h
  | .d (.wrL r) _, E, h => VerAt E r h
  | .d _ _, _, h => IsInl h
/-- What it may change. -/
def Wof : Md → Env → HId → Prop
  | .s, _, _ => True
  | .d .wr _, _, h => IsInl h
  | .d .call x, _, h => x < 2 ∧ IsInl h
  | .d (.wrL r) _, E, h => VerAt E r h
  | .d _ _, _, _ => False

theorem Wof_Dof (md : Md) (E : Env) (h : HId) (w : Wof md E h) : Dof md E h := by
  cases md with
  | s => trivial
  | d k x => cases k <;> first | exact w | exact w.2 | exact w.elim

section
variable {C : Cfg} {o : Oper} {E : Env} {s : St} {md : Md} {pr ms : List Nat}

theorem cls_load {P : Program} {pr : List Nat} {ops : List Oper} {t : TypeId} {a : Operand} (ho : o.op = .load t a) : cls P pr ops o = .hp ∨ ∃ r, cls P pr ops o = .rdL r := by
  unfold cls
  rw [ho]
  cases a with
  | tmp t => simp only; cases rootT pr ops 12 t <;> simp
  | _ => exact .inl rfl
theorem cls_store {P : Program} {pr : List Nat} {ops : List Oper} {t : TypeId} {a y : Operand} (ho : o.op = .store t a y) : cls P pr ops o = .wr ∨ ∃ r, cls P pr ops o = .wrL r := by
  unfold cls
  rw [ho]
  cases a with
  | tmp t => simp only; cases rootT pr ops 12 t <;> simp
  | _ => exact .inl rfl

theorem opK_res (hC : CfgOk C) {c : Oracle} (hc : OracleOK C c) {ops : List Oper} (hmd : md = .s ∨ ∃ x, md = .d (cls C.P pr ops o) x) {K : Env → M β} {r : Out β × St} (h : opK C pr ms md c o E K s = some r) :
    Res C md pr ms o (Dof md E) (Wof md E) E s K r := by
  have hWD : ∀ h, Wof md E h → Dof md E h := Wof_Dof md E
  unfold opK at h
  cases ho : o.op with
  | move y => rw [ho] at h; exact opMove_res (.inl ho) hWD h
  | assign y => rw [ho] at h; exact opMove_res (.inr ho) hWD h
  | pick b y z => rw [ho] at h; exact opPick_res ho hWD h
  | alloc t => rw [ho] at h; exact opAlloc_res ho hWD h
  | box t y => rw [ho] at h; exact opBox_res ho hWD h
  | build t ps => rw [ho] at h; exact opBuild_res ho hWD h
  | buildSlice t n ps => rw [ho] at h; exact opBuildSlice_res ho hWD h
  | load t a =>
    rw [ho] at h
    refine opLoad_res ho hWD ?_ ?_ h
    · intro r v hm hv
      rcases hmd with rfl | ⟨x, rfl⟩
      · trivial
      · rcases cls_load (P := C.P) (pr := pr) (ops := ops) ho with e | ⟨q, e⟩ <;> rw [e] at hm ⊢
        · cases hm
        · have : q = r := Nat.eq_of_beq_eq_true hm
          subst this
          exact ⟨v, rfl, hv⟩
    · intro hm i
      rcases hmd with rfl | ⟨x, rfl⟩
      · trivial
      · rcases cls_load (P := C.P) (pr := pr) (ops := ops) ho with e | ⟨q, e⟩ <;> rw [e] at hm ⊢
        · exact ⟨i, rfl⟩
        · cases hm
  | store t a y =>
    rw [ho] at h
    simp only at h
    obtain ⟨hd, h⟩ := cond_some h
    refine opStore_res ho (by simpa using hd) hWD ?_ ?_ h
    · intro r v hm hv
      rcases hmd with rfl | ⟨x, rfl⟩
      · trivial
      · rcases cls_store (P := C.P) (pr := pr) (ops := ops) ho with e | ⟨q, e⟩ <;> rw [e] at hm ⊢
        · cases hm
        · have : q = r := Nat.eq_of_beq_eq_true hm
          subst this
          exact ⟨v, rfl, hv⟩
    · intro hm i
      rcases hmd with rfl | ⟨x, rfl⟩
      · trivial
      · rcases cls_store (P := C.P) (pr := pr) (ops := ops) ho with e | ⟨q, e⟩ <;> rw [e] at hm ⊢
        · exact ⟨i, rfl⟩
        · cases hm
  | nilCheck y => rw [ho] at h; exact opNilCheck_res ho hWD h
  | binOp op t y z u => rw [ho] at h; exact opBin_res hC ho hWD h
  | unOp op t y => rw [ho] at h; exact opUn_res ho hWD h
  | convert t u y =>
    rw [ho] at h
    refine opConvert_res ho hWD (fun i => ?_) h
    rcases hmd with rfl | ⟨x, rfl⟩
    · trivial
    · have : cls C.P pr ops o = .hp := by unfold cls; rw [ho]
      rw [this]; exact ⟨i, rfl⟩
  | makeInterface t y => rw [ho] at h; exact opIface_res ho hWD h
  | makeFunc f x y => rw [ho] at h; exact opFunc_res ho hWD h
  | makeSlice t x y => rw [ho] at h; exact opMakeSlice_res ho hWD h
  | slice t y lo hi mx =>
    rw [ho] at h
    cases mx with
    | some _ => cases h
    | none =>
      refine opSlice_res ho hWD (fun ⟨m, e, ht⟩ i => ?_) h
      rcases hmd with rfl | ⟨x, rfl⟩
      · trivial
      · have : cls C.P pr ops o = .hp := by unfold cls; rw [ho]; simp only [ht]
        rw [this]; exact ⟨i, rfl⟩
  | fieldAddr t y f => rw [ho] at h; exact opFieldAddr_res ho hWD h
  | field t y f => rw [ho] at h; exact opField_res ho hWD h
  | indexAddr t y i => rw [ho] at h; exact opIndexAddr_res ho hWD h
  | index t y i => rw [ho] at h; exact opIndex_res ho hWD h
  | range t y => rw [ho] at h; exact opRange_res ho hWD h
  | next it b =>
    rw [ho] at h
    cases it with
    | tmp t =>
      cases b with
      | true =>
        refine opNext_res ho hWD (fun v hv => ?_) h
        rcases hmd with rfl | ⟨x, rfl⟩
        · trivial
        · have : cls C.P pr ops o = .wrL t := by unfold cls; rw [ho]
          rw [this]; exact ⟨v, rfl, hv⟩
      | false => cases h
    | _ => cases b <;> cases h
  | typeAssert y t u ok =>
    rw [ho] at h
    cases ok with
    | true => cases h
    | false =>
      refine opAssert_res hC ho hWD (fun i => ?_) h
      rcases hmd with rfl | ⟨x, rfl⟩
      · trivial
      · have : cls C.P pr ops o = .wr := by unfold cls; rw [ho]
        rw [this]; exact ⟨i, rfl⟩
  | extract t i =>
    rw [ho] at h
    cases t with
    | tmp t => exact opExtract_res ho hWD h
    | _ => cases h
  | panic y =>
    rw [ho] at h
    refine opPanic_res ho (fun i => ?_) h
    rcases hmd with rfl | ⟨x, rfl⟩
    · trivial
    · have : cls C.P pr ops o = .wr := by unfold cls; rw [ho]
      rw [this]; exact ⟨i, rfl⟩
  | call q =>
    rw [ho] at h
    simp only at h
    have wr : ∀ b, q.callee = .builtin b → b ≠ .len → b ≠ .min → b ≠ .max → ∀ i, Wof md E (.inl i) := by
      intro b hq h1 h2 h3 i
      rcases hmd with rfl | ⟨x, rfl⟩
      · trivial
      · have : cls C.P pr ops o = .wr := by
          unfold cls; rw [ho]; simp only [hq]
          cases b <;> first | rfl | exact absurd rfl h1 | exact absurd rfl h2 | exact absurd rfl h3
        rw [this]; exact ⟨i, rfl⟩
    cases hq : q.callee with
    | value f =>
      rw [hq] at h
      refine opCall_res hq ho hWD (fun i => ?_) ?_ hc h
      · rcases hmd with rfl | ⟨x, rfl⟩
        · trivial
        · have : cls C.P pr ops o = .call := by unfold cls; rw [ho]; simp only [hq]
          rw [this]; exact ⟨i, rfl⟩
      · rcases hmd with rfl | ⟨x, rfl⟩
        · exact .inl fun i => trivial
        · have : cls C.P pr ops o = .call := by unfold cls; rw [ho]; simp only [hq]
          rw [this]
          rcases Nat.lt_or_ge x 2 with hx | hx
          · exact .inl fun i => ⟨hx, i, rfl⟩
          · exact .inr hx
    | invoke f m => rw [hq] at h; cases h
    | builtin b =>
      rw [hq] at h
      cases b with
      | len => exact opLen_res hq rfl ho hWD h
      | append => exact opAppend_res hq ho hWD (wr _ hq (by simp) (by simp) (by simp)) h
      | copy => exact opCopy_res hq ho hWD (wr _ hq (by simp) (by simp) (by simp)) h
      | min => exact opMin_res (mx := false) hq rfl ho hWD h
      | max => exact opMin_res (mx := true) hq rfl ho hWD h
      | clear => exact opClear_res hq ho hWD (wr _ hq (by simp) (by simp) (by simp)) h
      | _ => cases h
  | _ => rw [ho] at h; cases h
end
end Go.Gv
