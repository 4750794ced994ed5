/- A function's run: what relates it to the machine's, and the regions that run in the order of the text. -/
import Derived.Test.YtepnfdggeobcaaaDoorGvReg
namespace Go.Gv

/-- How a function began; how far the heap's numbers will go; how many registers there are. -/
structure Fr where
  N : Nat
  nt : Nat
  ψ0 : Ps
  s0 : St
  w0 : World

structure Rel (C : Cfg) (f : Fr) (ψ : Ps) (E : Env) (s : St) (a : Act) (w : World) : Prop where
  sim : Sim C ψ (CR E s) w
  eok : EOK E
  blks : Blks ψ w
  glob : Glob C ψ
  reg : ∀ t, EntR C ψ (E.get t) (a.tmps.getD t undef)
  tsz : a.tmps.size = f.nt
  defs : a.defers = []
  win : ∀ i, s.length ≤ i → i < f.N → ψ (.inl i) = none
  vin : ∀ v, E.nxt ≤ v → ψ (.inr v) = none
  ext : Ext f.ψ0 (CS f.s0) f.w0 ψ (CR E s) w
  news : ∀ i cb, ψ (.inl i) = some cb → f.ψ0 (.inl i) = some cb ∨ (f.s0.length ≤ i ∧ i < s.length)
  len : f.s0.length ≤ s.length
  fin : ∀ v, f.ψ0 (.inr v) = none

section
variable {C : Cfg} {f : Fr} {ψ ψ' : Ps} {E E' : Env} {s s' : St} {a : Act} {w w' : World} {Q' : Kn} {o : Oper} {D W : HId → Prop} {pr ms : List Nat}

theorem EOK.weak (h : EOK E) (k : Weak E E') : EOK E' := by
  have g : ∀ t x, E'.get t = x → x ≠ .u → E.get t = x := fun t x e hx => by
    rcases k.get t with h | h
    · rw [← h]; exact e
    · rw [h] at e; exact absurd e.symm hx
  constructor
  · intro t v hv
    rw [k.nxt]
    rcases k.get t with e | e
    · rw [e] at hv; exact h.lt t v hv
    · rw [e] at hv; cases hv
  · intro t r v n e
    rw [k.nxt]
    exact h.pl t r v n (g t _ e (by simp))
  · intro t v n cs e
    exact h.len t v n cs (g t _ e (by simp))
  · intro t t' v hv hv'
    rcases k.get t with e | e
    · rcases k.get t' with e' | e'
      · rw [e] at hv; rw [e'] at hv'; exact h.uniq t t' v hv hv'
      · rw [e'] at hv'; cases hv'
    · rw [e] at hv; cases hv

theorem CR.weak (k : Weak E E') {h : HId} {ab : AB} (c : CR E' s h ab) : CR E s h ab := by
  have g : ∀ t x, E'.get t = x → x ≠ .u → E.get t = x := fun t x e hx => by
    rcases k.get t with h | h
    · rw [← h]; exact e
    · rw [h] at e; exact absurd e.symm hx
  cases h with
  | inl i => exact c
  | inr v =>
    rcases c with ⟨t, n, cs, e, hab⟩ | ⟨t, l, p, e, hab⟩
    · exact .inl ⟨t, n, cs, g t _ e (by simp), hab⟩
    · exact .inr ⟨t, l, p, g t _ e (by simp), hab⟩

theorem Rel.weak (R : Rel C f ψ E s a w) (k : Weak E E') : Rel C f ψ E' s a w where
  sim := R.sim.weaken fun _ _ _ _ c => c.weak k
  eok := R.eok.weak k
  blks := R.blks
  glob := R.glob
  reg := fun t => by
    rcases k.get t with e | e
    · rw [e]; exact R.reg t
    · rw [e]; exact trivial
  tsz := R.tsz
  defs := R.defs
  win := R.win
  vin := fun v hv => R.vin v (by rw [← k.nxt]; exact hv)
  ext := R.ext.weaken fun _ _ _ _ c => c.weak k
  news := R.news
  len := R.len
  fin := R.fin

theorem put_tmps_size (a : Act) (d : Option Nat) (v : Value) : (a.put d v).tmps.size = a.tmps.size := by cases d <;> simp [Act.put]
theorem put_defers (a : Act) (d : Option Nat) (v : Value) : (a.put d v).defers = a.defers := by cases d <;> rfl
theorem put_get {a : Act} {d : Option Nat} {v : Value} {t : Nat} (hd : ∀ x, d = some x → x < a.tmps.size) : (a.put d v).tmps.getD t undef = if d = some t then v else a.tmps.getD t undef := by
  cases d with
  | none => simp [Act.put]
  | some x =>
    simp only [Act.put, Option.some.injEq, Array.getD_eq_getD_getElem?]
    by_cases e : x = t
    · subst e
      rw [if_pos rfl, Array.getElem?_setIfInBounds_self_of_lt (hd x rfl)]; rfl
    · rw [if_neg e, Array.getElem?_setIfInBounds_ne e]

theorem Rel.room (R : Rel C f ψ E s a w) (hN : s'.length ≤ f.N) : Room E s E' s' ψ := by
  rintro h ⟨n1, n2⟩
  cases h with
  | inl i => exact R.win i (Nat.not_lt.1 n1) (Nat.lt_of_lt_of_le n2 hN)
  | inr v => exact R.vin v (Nat.not_lt.1 n1)

theorem Rel.pre (R : Rel C f ψ E s a w) : Pre C o D E s ψ (CR E s) a w := ⟨R.sim, R.blks, R.glob, R.eok, fun _ _ _ _ c _ => c, fun t _ => R.reg t⟩

theorem Rel.step (R : Rel C f ψ E s a w) (hF : OpF W pr ms o E s E' s') (hP : Post C D W E s E' s' ψ (CR E s) w ψ' Q' w') {v : Value} (he : ∀ d, o.dst = some d → EntR C ψ' (E'.get d) v) (hd : ∀ x, o.dst = some x → x < f.nt) :
    Rel C f ψ' E' s' (a.put o.dst v) w' := by
  have known : ∀ h ab cb, ψ' h = some cb → CR E' s' h ab → Q' h ab := by
    intro h ab cb e c
    by_cases hw : W h ∨ New E s E' s' h
    · exact hP.p1 h ab cb c hw e
    · have c' : CR E s h ab := by
        rcases hF.back h ab c with x | x | x
        · exact absurd (.inl x) hw
        · exact absurd (.inr x) hw
        · exact x
      rcases hP.news h cb e with e | e
      · exact hP.p2 h ab cb e c' (fun x => hw (.inl x)) (fun _ _ => c')
      · exact absurd (.inr e) hw
  refine ⟨hP.sim.weaken known, hF.eok R.eok, hP.ext.blks R.blks, hP.ext.glob R.glob, fun t => ?_, by rw [put_tmps_size]; exact R.tsz, by rw [put_defers]; exact R.defs, fun i h1 h2 => ?_, fun v h1 => ?_, R.ext.trans (hP.ext.weaken known), fun i cb e => ?_, Nat.le_trans R.len hF.len, R.fin⟩
  · rw [put_get fun x hx => by rw [R.tsz]; exact hd x hx]
    by_cases e : o.dst = some t
    · rw [if_pos e]; exact he t e
    · rw [if_neg e]; exact (hF.ent t e C ψ _ (R.reg t)).mono hP.ext.mono
  · cases e : ψ' (.inl i) with
    | none => rfl
    | some cb =>
      rcases hP.news _ cb e with e | ⟨_, e⟩
      · rw [R.win i (Nat.le_trans hF.len h1) h2] at e; cases e
      · simp only [Dom] at e; omega
  · cases e : ψ' (.inr v) with
    | none => rfl
    | some cb =>
      rcases hP.news _ cb e with e | ⟨_, e⟩
      · rw [R.vin v (Nat.le_trans hF.nxt h1)] at e; cases e
      · simp only [Dom] at e; omega
  · rcases hP.news _ cb e with e | ⟨n1, n2⟩
    · rcases R.news i cb e with h | ⟨h1, h2⟩
      · exact .inl h
      · exact .inr ⟨h1, Nat.lt_of_lt_of_le h2 hF.len⟩
    · exact .inr ⟨Nat.le_trans R.len (Nat.not_lt.1 n1), n2⟩

/-- What stands behind a panic. -/
structure PanR (C : Cfg) (f : Fr) (s : St) (a : Act) (w : World) : Prop where
  defs : a.defers = []
  post : ∃ ψ', CallPost C f.ψ0 f.s0 f.w0 ψ' s w

theorem undef_bool (b : Bool) : undef ≠ Value.bool b := by unfold undef; simp

theorem tmps_get (a : Act) (r : Nat) (b : Bool) (h : a.tmps.getD r undef = .bool b) : a.tmps[r]? = some (.bool b) := by
  rw [Array.getD_eq_getD_getElem?] at h
  cases e : a.tmps[r]? with
  | none => rw [e] at h; exact absurd h (undef_bool b)
  | some v => rw [e] at h; simp only [Option.getD_some] at h; rw [h]

def dstOf (ops : Array Oper) (j : Nat) : Option Nat := match ops.toList[j]? with | some o => o.dst | none => none
theorem dstOf_eq (ops : Array Oper) (j : Nat) : dstOf ops j = (ops[j]?).bind (·.dst) := by
  unfold dstOf
  rw [Array.getElem?_toList]
  cases ops[j]? <;> rfl

theorem wanted_of {ops : Array Oper} (R : ∀ t, EntR C ψ (E.get t) (a.tmps.getD t undef)) (h : GW (dstOf ops) E o) : Region.wanted o (yielded ops a.tmps) = true := by
  unfold Region.wanted
  rcases h with h | ⟨j, w, r, h1, h2, h3⟩
  · rw [h]
  · rw [h1]
    rw [dstOf_eq] at h2
    have hr := R r
    rw [h3] at hr
    have : a.tmps.getD r undef = .bool w := by generalize a.tmps.getD r undef = x at hr; cases hr; rfl
    simp [yielded, h2, tmps_get a r w this]
theorem unwanted_of {ops : Array Oper} (R : ∀ t, EntR C ψ (E.get t) (a.tmps.getD t undef)) (h : GU (dstOf ops) E o) : Region.wanted o (yielded ops a.tmps) = false := by
  unfold Region.wanted
  obtain ⟨j, w, r, h1, h2, h3⟩ := h
  rw [h1]
  rw [dstOf_eq] at h2
  have hr := R r
  rcases h3 with ⟨b, h3, hb⟩ | h3
  · rw [h3] at hr
    have : a.tmps.getD r undef = .bool b := by generalize a.tmps.getD r undef = x at hr; cases hr; rfl
    simp [yielded, h2, tmps_get a r b this, hb]
  · rw [h3] at hr
    have hr : a.tmps.getD r undef = undef := hr
    have : a.tmps[r]? = none ∨ a.tmps[r]? = some undef := by
      rw [Array.getD_eq_getD_getElem?] at hr
      cases e : a.tmps[r]? with
      | none => exact .inl rfl
      | some v => rw [e] at hr; simp only [Option.getD_some] at hr; rw [hr]; exact .inr rfl
    have hy : yielded ops a.tmps j = none := by
      unfold yielded
      rw [h2]
      rcases this with e | e <;> simp [e, undef]
    simp [hy]

/-- A register that an operation not wanted leaves without a value. -/
theorem Rel.undef (R : Rel C f ψ E s a w) (hd : ∀ x, o.dst = some x → x < f.nt) : Rel C f ψ (E.putO o.dst .un) s (a.put o.dst Go.undef) w := by
  have hcr : ∀ h ab, CR (E.putO o.dst .un) s h ab → CR E s h ab := fun h ab c => c.putO rfl
  refine ⟨R.sim.weaken fun _ _ _ _ c => hcr _ _ c, R.eok.putO rfl (fun _ _ _ h => by cases h), R.blks, R.glob, fun t => ?_, by rw [put_tmps_size]; exact R.tsz, by rw [put_defers]; exact R.defs, R.win, fun v hv => R.vin v (by simpa using hv), R.ext.weaken fun _ _ _ _ c => hcr _ _ c, R.news, R.len, R.fin⟩
  rw [put_get fun x hx => by rw [R.tsz]; exact hd x hx, Env.get_putO]
  by_cases e : o.dst = some t
  · rw [if_pos e, if_pos e]; rfl
  · rw [if_neg e, if_neg e]; exact R.reg t

/-- What a caller sees of it. -/
theorem callPost {ψ' : Ps} {Q' : Kn} {w' : World} {s' : St} (hfin : ∀ v, f.ψ0 (.inr v) = none) (hsim : Sim C ψ' Q' w') (hext : Ext f.ψ0 (CS f.s0) f.w0 ψ' Q' w')
    (hk : ∀ i ab cb, stAB s' i = some ab → ψ' (.inl i) = some cb → Q' (.inl i) ab) (hnews : ∀ i cb, ψ' (.inl i) = some cb → f.ψ0 (.inl i) = some cb ∨ (f.s0.length ≤ i ∧ i < s'.length)) :
    CallPost C f.ψ0 f.s0 f.w0 (inPs ψ') s' w' := by
  have solein : ∀ b, Sole (inPs ψ') (CS s') b → Sole ψ' Q' b := by
    rintro b ⟨k, cb, ab, e, ⟨i, rfl, q⟩, hs, hb⟩
    exact ⟨.inl i, cb, ab, e, hk i ab cb q e, hs, hb⟩
  refine ⟨inPs_sim hsim hk, ⟨fun h cb e => ?_, fun h cb e => hext.rng h cb (inPs_some e).1, hext.size, hext.keep, fun b hb => hext.sole b (solein b hb), fun h cb x e q => ?_, hext.tape, hext.os, hext.output⟩, fun h cb e => ?_⟩
  · cases h with
    | inl i => exact hext.mono _ _ e
    | inr v => rw [hfin] at e; cases e
  · obtain ⟨i, rfl, q⟩ := q
    exact hext.live (.inl i) cb x e (hk i x cb q (hext.mono _ _ e))
  · obtain ⟨e, i, rfl⟩ := inPs_some e
    rcases hnews i cb e with h | ⟨h1, h2⟩
    · exact .inl h
    · exact .inr ⟨i, rfl, h1, h2⟩

theorem Rel.callPost (R : Rel C f ψ E s a w) : CallPost C f.ψ0 f.s0 f.w0 (inPs ψ) s w :=
  Go.Gv.callPost R.fin R.sim R.ext (fun _ _ _ h _ => h) R.news

theorem Tr.len {dst : Nat → Option Nat} {l : List (Oper × Md)} (h : Tr C dst pr ms l E s E' s') : s.length ≤ s'.length := by
  induction h with
  | nil => exact Nat.le_refl _
  | weak _ _ ih => exact ih
  | cons st _ ih =>
    refine Nat.le_trans ?_ ih
    cases st with
    | act _ hF _ => exact hF.len
    | skip _ => exact Nat.le_refl _
theorem TrP.len {dst : Nat → Option Nat} {l : List (Oper × Md)} (h : TrP C dst pr ms l E s s') : s.length ≤ s'.length := by
  induction h with
  | weak _ _ ih => exact ih
  | here _ _ hp => exact hp.1
  | next st _ ih =>
    refine Nat.le_trans ?_ ih
    cases st with
    | act _ hF _ => exact hF.len
    | skip _ => exact Nat.le_refl _

theorem Rel.panR (R : Rel C f ψ E s a w) (hN : s'.length ≤ f.N) (hp : OpPan C o D E s s') {next : Act → World → Prop} {QQ : Exit → Act → World → Prop} (h : ∀ ch a' w', PanR C f s' a' w' → QQ (.panic ch) a' w') : o.wp C.P a w next QQ := by
  refine hp.2 ψ (CR E s) a w next QQ R.pre (R.room hN) fun ψ' Q' ch w' h1 h2 h3 h4 => h ch a w' ⟨R.defs, _, Go.Gv.callPost (s' := s') R.fin h1 (R.ext.trans h2) h4 fun i cb e => ?_⟩
  rcases h3 _ cb e with e | ⟨n1, n2⟩
  · rcases R.news i cb e with h | ⟨h1, h2⟩
    · exact .inl h
    · exact .inr ⟨h1, Nat.lt_of_lt_of_le h2 hp.1⟩
  · exact .inr ⟨Nat.le_trans R.len (Nat.not_lt.1 n1), n2⟩

/-- A trace, taken in the order of the text. -/
theorem tr_wpOps {ops : Array Oper} {QQ : Exit → Act → World → Prop} {l : List (Oper × Md)} {E2 : Env} {s2 : St} (t : Tr C (dstOf ops) pr ms l E s E2 s2) : ∀ {i : Nat} {a : Act} {w : World} {ψ : Ps}, Rel C f ψ E s a w → s2.length ≤ f.N →
    (∀ p ∈ l, ∀ x, p.1.dst = some x → x < f.nt) → (∀ k p, l[k]? = some p → ops[i + k]? = some p.1) → (∀ ψ' a' w', Rel C f ψ' E2 s2 a' w' → QQ .normal a' w') → wpOps C.P ops QQ (List.range' i l.length) a w := by
  induction t with
  | nil => intro i a w ψ R _ _ _ h; exact h ψ a w R
  | weak k _ ih => intro i a w ψ R hN hd hi h; exact ih (R.weak k) hN hd hi h
  | cons st t ih =>
    rename_i p l E s E1 s1 E2 s2
    intro i a w ψ R hN hd hi h
    have hi0 := hi 0 p rfl
    simp only [Nat.add_zero] at hi0
    have rest : ∀ {ψ1 a1 w1}, Rel C f ψ1 E1 s1 a1 w1 → wpOps C.P ops QQ (List.range' (i + 1) l.length) a1 w1 := fun R1 =>
      ih R1 hN (fun q hq => hd q (by simp [hq])) (fun k q hk => by have := hi (k + 1) q (by simpa using hk); rwa [show i + (k + 1) = i + 1 + k by omega] at this) h
    simp only [List.length_cons, List.range'_succ, wpOps, hi0]
    cases st with
    | act hg hF hO =>
      rw [if_pos (wanted_of R.reg hg)]
      exact .inl (hO ψ (CR E s) a w _ QQ R.pre (R.room (Nat.le_trans t.len hN)) fun ψ' Q' v w' hP he => rest (R.step hF hP he (hd p (by simp))))
    | skip hg =>
      rw [if_neg (by rw [unwanted_of R.reg hg]; simp)]
      exact rest (R.undef (hd p (by simp)))

theorem trP_wpOps {ops : Array Oper} {QQ : Exit → Act → World → Prop} {l : List (Oper × Md)} {s2 : St} (t : TrP C (dstOf ops) pr ms l E s s2) : ∀ {i : Nat} {a : Act} {w : World} {ψ : Ps}, Rel C f ψ E s a w → s2.length ≤ f.N →
    (∀ p ∈ l, ∀ x, p.1.dst = some x → x < f.nt) → (∀ k p, l[k]? = some p → ops[i + k]? = some p.1) → (∀ ch a' w', PanR C f s2 a' w' → QQ (.panic ch) a' w') → wpOps C.P ops QQ (List.range' i l.length) a w := by
  induction t with
  | weak k _ ih => intro i a w ψ R hN hd hi h; exact ih (R.weak k) hN hd hi h
  | here hg hx hp =>
    rename_i p l E s s2
    intro i a w ψ R hN hd hi h
    have hi0 := hi 0 p rfl
    simp only [Nat.add_zero] at hi0
    simp only [List.length_cons, List.range'_succ, wpOps, hi0]
    rw [if_pos (wanted_of R.reg hg)]
    exact .inl (R.panR hN hp h)
  | next st t ih =>
    rename_i p l E s E1 s1 s2
    intro i a w ψ R hN hd hi h
    have hi0 := hi 0 p rfl
    simp only [Nat.add_zero] at hi0
    have rest : ∀ {ψ1 a1 w1}, Rel C f ψ1 E1 s1 a1 w1 → wpOps C.P ops QQ (List.range' (i + 1) l.length) a1 w1 := fun R1 =>
      ih R1 hN (fun q hq => hd q (by simp [hq])) (fun k q hk => by have := hi (k + 1) q (by simpa using hk); rwa [show i + (k + 1) = i + 1 + k by omega] at this) h
    simp only [List.length_cons, List.range'_succ, wpOps, hi0]
    cases st with
    | act hg hF hO =>
      rw [if_pos (wanted_of R.reg hg)]
      exact .inl (hO ψ (CR E s) a w _ QQ R.pre (R.room (Nat.le_trans t.len hN)) fun ψ' Q' v w' hP he => rest (R.step hF hP he (hd p (by simp))))
    | skip hg =>
      rw [if_neg (by rw [unwanted_of R.reg hg]; simp)]
      exact rest (R.undef (hd p (by simp)))
end
end Go.Gv
