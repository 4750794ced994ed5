/- Code: what the machine makes of it, the model does. -/
import Derived.Test.YtepnfdggeobcaaaDoorGvDraw
namespace Go.Gv
variable {β : Type}

/-! ### Regions -/
section
variable {C : Cfg} {f : Fr} {ψ : Ps} {E E2 : Env} {s s2 : St} {a : Act} {w : World} {pr : List Nat}

theorem okO_dst : ∀ {l : List Oper} {n : Nat}, okO n l = true → ∀ o ∈ l, ∀ x, o.dst = some x → x < n
  | [], _, _, o, ho, _, _ => by cases ho
  | y :: r, n, h, o, ho, x, hx => by
    simp only [okO, Bool.and_eq_true] at h
    cases ho with
    | head =>
      have h1 := h.1
      rw [hx] at h1
      rw [Nat.blt_eq] at h1; exact h1
    | tail _ ho => exact okO_dst h.2 o ho x hx

theorem modsO_cons (pr : List Nat) (ops : List Oper) (y : Oper) (r : List Oper) (x : Nat) (h : has (match y.dst with | some d => d :: modsO pr ops r | none => modsO pr ops r) x = true) : has (modsO pr ops (y :: r)) x = true := by
  rw [modsO]
  split
  · split
    · simp only [has, Bool.or_eq_true]; exact .inr h
    · exact h
  · simp only [has, Bool.or_eq_true]; exact .inr h
  · exact h

theorem modsO_dst {pr : List Nat} {ops : List Oper} {o : Oper} {x : Nat} (hx : o.dst = some x) : ∀ (l : List Oper), o ∈ l → has (modsO pr ops l) x = true := by
  intro l
  induction l with
  | nil => intro ho; cases ho
  | cons y r ih =>
    intro ho
    refine modsO_cons pr ops y r x ?_
    cases ho with
    | head => rw [hx]; simp [has]
    | tail _ ho =>
      have := ih ho
      cases y.dst with
      | none => exact this
      | some d => simp [has, this]

/-- What a region's operations come to. -/
theorem regK_res (hC : CfgOk C) {c : Oracle} (hc : OracleOK C c) {ops : Array Oper} {d : Bool} {K : Env → M β} {r : Out β × St} (h : regK C pr c ops d E K s = some r) :
    (∃ E' s', s.length ≤ s'.length ∧ K E' s' = some r ∧ Mod (fun u => has (mods pr (.region 0 ops d)) u = false) E E' ∧
      ∀ {f : Fr} {ψ : Ps} {a : Act} {w : World} (QQ : Exit → Act → World → Prop) (id : Nat), Rel C f ψ E s a w → C.P.follows .mixedOrders = true → okO f.nt ops.toList = true → s'.length ≤ f.N →
        (∀ ψ' a' w', Rel C f ψ' E' s' a' w' → QQ .normal a' w') → (Code.region id ops d).wp C.P QQ a w) ∨
    (∃ s', r = (.pan, s') ∧ s.length ≤ s'.length ∧
      ∀ {f : Fr} {ψ : Ps} {a : Act} {w : World} (QQ : Exit → Act → World → Prop) (id : Nat), Rel C f ψ E s a w → C.P.follows .mixedOrders = true → okO f.nt ops.toList = true → s'.length ≤ f.N →
        (∀ ch a' w', PanR C f s' a' w' → QQ (.panic ch) a' w') → (Code.region id ops d).wp C.P QQ a w) := by
  have hunt : ∀ (l : List (Oper × Md)), (∀ p ∈ l, p.1 ∈ ops.toList) → ∀ u, has (mods pr (.region 0 ops d)) u = false → Unt (modsO pr ops.toList ops.toList) l u := by
    intro l hl u hu
    refine ⟨fun p hp e => ?_, hu⟩
    have := modsO_dst (pr := pr) (ops := ops.toList) e _ (hl p hp)
    simp only [mods] at hu
    rw [hu] at this; cases this
  have wk : ∀ {l : List (Oper × Md)} {E' : Env}, (∀ p ∈ l, p.1 ∈ ops.toList) → Mod (Unt (modsO pr ops.toList ops.toList) l) E E' → Mod (fun u => has (mods pr (.region 0 ops d)) u = false) E E' :=
    fun hl m => ⟨fun u hu => m.get u (hunt _ hl u hu), m.nxt, m.verL, m.verI⟩
  cases d with
  | false =>
    simp only [regK, cond_false] at h
    have hl : ∀ p ∈ ops.toList.map (fun o => (o, Md.s)), p.1 ∈ ops.toList := by
      intro p hp
      obtain ⟨o, ho, rfl⟩ := List.mem_map.1 hp
      exact ho
    have hi : ∀ k p, (ops.toList.map fun o => (o, Md.s))[k]? = some p → ops[0 + k]? = some p.1 := by
      intro k p hp
      rw [List.getElem?_map] at hp
      cases ho : ops.toList[k]? with
      | none => rw [ho] at hp; cases hp
      | some o =>
        rw [ho] at hp
        simp only [Option.map_some, Option.some.injEq] at hp
        subst hp
        rw [Nat.zero_add, ← Array.getElem?_toList]; exact ho
    have hsz : (ops.toList.map fun o => (o, Md.s)).length = ops.size := by simp
    rcases runOps_tr (dst := dstOf ops) hC hc (ops := ops.toList) _ _ _ _ _ _ h (fun p hp => by obtain ⟨o, _, rfl⟩ := List.mem_map.1 hp; exact .inl rfl) (fun g hg => by cases hg) with ⟨E', s', t, hk, _, hm⟩ | ⟨s', e, t⟩
    · refine .inl ⟨E', s', t.len, hk, wk hl hm, fun QQ id R _ ho hN hn => wp_region ?_⟩
      have := tr_wpOps (QQ := QQ) t R hN (fun p hp x hx => okO_dst ho p.1 (hl p hp) x hx) hi hn
      rw [hsz] at this
      rwa [List.range_eq_range']
    · refine .inr ⟨s', e, t.len, fun QQ id R _ ho hN hn => wp_region ?_⟩
      have := trP_wpOps (QQ := QQ) t R hN (fun p hp x hx => okO_dst ho p.1 (hl p hp) x hx) hi hn
      rw [hsz] at this
      rwa [List.range_eq_range']
  | true =>
    simp only [regK, cond_true] at h
    obtain ⟨hok, h⟩ := cond_some h
    have hl : ∀ p ∈ flags (prep C.P pr ops.toList ops.toList []) 0 (prep C.P pr ops.toList ops.toList []) ops.toList, p.1 ∈ ops.toList := by
      intro p hp
      obtain ⟨k, hk⟩ := List.getElem?_of_mem hp
      obtain ⟨q, o, _, h2, rfl⟩ := flags_get _ _ _ _ _ _ hk
      exact List.mem_of_getElem? h2
    rcases runOps_tr (dst := dstOf ops) hC hc (ops := ops.toList) _ _ _ _ _ _ h (fun p hp => by
      obtain ⟨k, hk⟩ := List.getElem?_of_mem hp
      obtain ⟨q, o, h1, h2, rfl⟩ := flags_get _ _ _ _ _ _ hk
      obtain ⟨o', g1, _, g3, _, _⟩ := prep_get _ _ _ _ _ _ _ h1
      rw [h2] at g1; cases g1
      exact .inr ⟨_, by rw [g3]⟩) (fun g hg => by cases hg) with ⟨E', s', t, hk, _, hm⟩ | ⟨s', e, t⟩
    · exact .inl ⟨E', s', t.len, hk, wk hl hm, fun QQ id R hf ho hN hn => wp_region_any hf (tr_any rfl rfl hok t R.drew hN (fun p hp x hx => okO_dst ho p.1 (hl p hp) x hx) hn)⟩
    · exact .inr ⟨s', e, t.len, fun QQ id R hf ho hN hn => wp_region_any hf (trP_any rfl rfl hok t R.drew hN (fun p hp x hx => okO_dst ho p.1 (hl p hp) x hx) hn)⟩
end

/-! ### Less is said, in other words -/
theorem Sim.cast {C : Cfg} {ψ ψ' : Ps} {Q Q' : Kn} {w : World} (hS : Sim C ψ Q w) (hc : ∀ h cb ab, ψ' h = some cb → Q' h ab → ψ h = some cb ∧ ∃ ab', Q h ab' ∧ (ab.sole = true → ab'.sole = true) ∧ (Holds C ψ w cb ab' → Holds C ψ' w cb ab)) : Sim C ψ' Q' w := by
  constructor
  · intro h cb ab e q
    obtain ⟨e0, ab', q0, _, hh⟩ := hc h cb ab e q
    exact hh (hS.holds h cb ab' e0 q0)
  · intro h cb ab h' cb' ab' e q hs e' q' hn
    obtain ⟨e0, x, q0, s0, _⟩ := hc h cb ab e q
    obtain ⟨e1, y, q1, _, _⟩ := hc h' cb' ab' e' q'
    exact hS.excl h cb x h' cb' y e0 q0 (s0 hs) e1 q1 hn

theorem Ext.cast {ψ0 ψ ψ' : Ps} {Q0 Q Q' : Kn} {w0 w : World} (hE : Ext ψ0 Q0 w0 ψ Q w) (hm : ∀ h cb, ψ0 h = some cb → ψ' h = some cb) (hp : ∀ h cb, ψ' h = some cb → ψ h = some cb)
    (hc : ∀ h cb ab, ψ' h = some cb → Q' h ab → ∃ ab', Q h ab' ∧ (ab.sole = true → ab'.sole = true)) : Ext ψ0 Q0 w0 ψ' Q' w where
  mono := hm
  rng := fun h cb e => hE.rng h cb (hp h cb e)
  size := hE.size
  keep := hE.keep
  sole := fun b ⟨h, cb, ab, e, q, hs, hb⟩ => by
    obtain ⟨ab', q', hs'⟩ := hc h cb ab e q
    exact hE.sole b ⟨h, cb, ab', hp h cb e, q', hs' hs, hb⟩
  live := fun h cb x e q => by
    obtain ⟨ab', q', _⟩ := hc h cb x (hm h cb e) q
    exact hE.live h cb ab' e q'
  tape := hE.tape
  os := hE.os
  output := hE.output

/-- Versions from N on are forgotten. -/
def cutP (ψ : Ps) (N : Nat) : Ps
  | .inl i => ψ (.inl i)
  | .inr v => if v < N then ψ (.inr v) else none

theorem cutP_some {ψ : Ps} {N : Nat} {h : HId} {cb : CB} (e : cutP ψ N h = some cb) : ψ h = some cb := by
  cases h with
  | inl i => exact e
  | inr v => simp only [cutP] at e; split at e; exact e; cases e

/-- Cells that stand for what other ones stood for. -/
structure CastL (cs cs' : List DV) : Prop where
  len : cs'.length = cs.length
  rel : ∀ (C : Cfg) ψ vs, VRs C ψ cs vs → VRs C ψ cs' vs
  one : cs.all one = true → cs'.all one = true
theorem CastL.refl (cs : List DV) : CastL cs cs := ⟨rfl, fun _ _ _ h => h, fun h => h⟩

theorem Holds.castL {C : Cfg} {ψ : Ps} {w : World} {cb : CB} {f : Bool} {cs cs' : List DV} (k : CastL cs cs') (h : Holds C ψ w cb (.cells f cs)) : Holds C ψ w cb (.cells f cs') := by
  obtain ⟨h1, h2, h3, h4⟩ := h
  refine ⟨by rw [k.len]; exact h1, k.one h2, fun j d hd => ?_, h4⟩
  have hv : VRs C ψ cs ((List.range cs.length).map fun j => (w.cell? ⟨cb.b, cb.o + j, none⟩).getD undef) := by
    refine VRs.of _ _ (by simp) fun j d v g1 g2 => ?_
    obtain ⟨v', hv', hr⟩ := h3 j d g1
    rw [List.getElem?_map] at g2
    have hj : j < cs.length := by
      rcases Nat.lt_or_ge j cs.length with h | h
      · exact h
      · rw [List.getElem?_eq_none h] at g1; cases g1
    rw [List.getElem?_range hj] at g2
    simp only [Option.map_some, Option.some.injEq, hv', Option.getD_some] at g2
    rw [← g2]; exact hr
  obtain ⟨v, hv', hr⟩ := (k.rel C ψ _ hv).get hd
  rw [List.getElem?_map] at hv'
  have hj : j < cs.length := by
    rcases Nat.lt_or_ge j cs.length with h | h
    · exact h
    · rw [List.getElem?_eq_none (by rw [k.len]; exact h)] at hd; cases hd
  rw [List.getElem?_range hj] at hv'
  simp only [Option.map_some, Option.some.injEq] at hv'
  obtain ⟨v', hc, _⟩ := h3 j cs[j] (List.getElem?_eq_getElem hj)
  rw [hc] at hv'
  simp only [Option.getD_some] at hv'
  exact ⟨v, by rw [hc, hv'], hr⟩

/-- A register as it is behind a join. -/
inductive Wj (e : Ent) : Ent → Prop
  | u : Wj e .u
  | same : Wj e e
  | v (d d' : DV) : e = .v d → (∀ (C : Cfg) ψ x, VR C ψ d x → VR C ψ d' x) → Wj e (.v d')
  | loc (v n : Nat) (cs cs' : List DV) : e = .loc v n cs → CastL cs cs' → Wj e (.loc v n cs')

structure WeakJ (E E' : Env) : Prop where
  nxt : E'.nxt ≤ E.nxt
  get : ∀ t, Wj (E.get t) (E'.get t)
  ver : ∀ t v, (E'.get t).ver = some v → v < E'.nxt
  pl : ∀ t r v o, E'.get t = .pl r v o → v < E'.nxt

theorem Wj.ver {e e' : Ent} (h : Wj e e') {v : Nat} (hv : e'.ver = some v) : e.ver = some v := by
  cases h with
  | u => cases hv
  | same => exact hv
  | v d d' _ _ => cases hv
  | loc v' n cs cs' he _ => rw [he]; exact hv

section
variable {C : Cfg} {f : Fr} {ψ : Ps} {E E' : Env} {s : St} {a : Act} {w : World}

theorem CR.weakJ (k : WeakJ E E') {h : HId} {ab : AB} (c : CR E' s h ab) : ∃ ab', CR E s h ab' ∧ (ab.sole = true → ab'.sole = true) ∧ ∀ (C : Cfg) ψ w cb, Holds C ψ w cb ab' → Holds C ψ w cb ab := by
  cases h with
  | inl i => exact ⟨ab, c, fun h => h, fun _ _ _ _ h => h⟩
  | inr v =>
    rcases c with ⟨t, n, cs, e, rfl⟩ | ⟨t, l, p, e, rfl⟩
    · have := k.get t
      rw [e] at this
      generalize he : E.get t = x at this
      cases this with
      | same => exact ⟨_, .inl ⟨t, n, cs, he, rfl⟩, fun h => h, fun _ _ _ _ h => h⟩
      | loc _ _ cs0 _ h1 h2 => exact ⟨_, .inl ⟨t, n, cs0, he.trans h1, rfl⟩, fun h => h, fun _ _ _ _ h => h.castL h2⟩
    · have := k.get t
      rw [e] at this
      generalize he : E.get t = x at this
      cases this with
      | same => exact ⟨_, .inr ⟨t, l, p, he, rfl⟩, fun h => h, fun _ _ _ _ h => h⟩

theorem Holds.cutP {N : Nat} {cb : CB} {ab : AB} (h : Holds C ψ w cb ab) : Holds C (Go.Gv.cutP ψ N) w cb ab := h.same (ψ := ψ) (ψ' := Go.Gv.cutP ψ N) (fun _ _ e => e) rfl

theorem EOK.weakJ (h : EOK E) (k : WeakJ E E') : EOK E' := by
  refine ⟨k.ver, k.pl, fun t v n cs e => ?_, fun t t' v hv hv' => h.uniq t t' v ((k.get t).ver hv) ((k.get t').ver hv')⟩
  have := k.get t
  rw [e] at this
  generalize he : E.get t = x at this
  cases this with
  | same => exact h.len t v n cs he
  | loc _ _ cs0 _ h1 h2 => rw [h2.len]; exact h.len t v n cs0 (he.trans h1)

theorem Rel.weakJ (R : Rel C f ψ E s a w) (k : WeakJ E E') : Rel C f (cutP ψ E'.nxt) E' s a w where
  sim := R.sim.cast fun h cb ab e c => by
    obtain ⟨ab', c', hs, hh⟩ := c.weakJ k
    exact ⟨cutP_some e, ab', c', hs, fun x => (hh C ψ w cb x).cutP⟩
  eok := R.eok.weakJ k
  blks := fun h cb e => R.blks h cb (cutP_some e)
  glob := fun g hg => R.glob g hg
  reg := fun t => by
    have h := R.reg t
    have hver := k.ver t
    have hpl := k.pl t
    have keep : ∀ v cb, v < E'.nxt → ψ (.inr v) = some cb → cutP ψ E'.nxt (.inr v) = some cb := fun v cb hv e => by simp only [cutP, if_pos hv]; exact e
    have := k.get t
    generalize he' : E'.get t = x' at this hver hpl
    generalize he : E.get t = x at this h
    have same : EntR C ψ x' (a.tmps.getD t Go.undef) → EntR C (cutP ψ E'.nxt) x' (a.tmps.getD t Go.undef) := by
      intro h
      cases x' with
      | u => trivial
      | un => exact h
      | v d => exact VR.mono (ψ := ψ) (ψ' := cutP ψ E'.nxt) (fun _ _ e => e) h
      | tup ds => obtain ⟨vs, e, r⟩ := h; exact ⟨vs, e, r.mono (ψ := ψ) (ψ' := cutP ψ E'.nxt) fun _ _ e => e⟩
      | loc v n cs => obtain ⟨cb, e, r⟩ := h; exact ⟨cb, keep v cb (hver v rfl) e, r⟩
      | pl q v n => obtain ⟨cb, e, r⟩ := h; exact ⟨cb, keep v cb (hpl q v n rfl) e, r⟩
      | it v l p => obtain ⟨cb, e, r⟩ := h; exact ⟨cb, keep v cb (hver v rfl) e, r⟩
    cases this with
    | u => trivial
    | same => exact same h
    | v d d' e hc => subst e; exact same (hc C ψ _ h)
    | loc v n cs cs' e hc => subst e; exact same h
  tsz := R.tsz
  defs := R.defs
  win := R.win
  vin := fun v hv => by simp only [cutP]; rw [if_neg (by omega)]
  ext := R.ext.cast (fun h cb e => by
      cases h with
      | inl i => exact R.ext.mono _ _ e
      | inr v => rw [R.fin] at e; cases e) (fun h cb e => cutP_some e) (fun h cb ab _ c => by
      obtain ⟨ab', c', hs, _⟩ := c.weakJ k
      exact ⟨ab', c', hs⟩)
  news := fun i cb e => R.news i cb e
  len := R.len
  fin := R.fin

/-! ### Joins -/
inductive GJ (E0 E : Env) : List (Nat × JS) → List DV → Prop
  | nil : GJ E0 E [] []
  | v (t : Nat) (x : Sh) (d : DV) (r : List (Nat × JS)) (ds : List DV) : E.get t = .v d → GJ E0 E r ds → GJ E0 E ((t, .v x) :: r) (d :: ds)
  | l (t : Nat) (x : List B) (v n n0 : Nat) (cs cs0 : List DV) (r : List (Nat × JS)) (ds : List DV) : E.get t = .loc v n cs → E0.get t = .loc v n0 cs0 → GJ E0 E r ds → GJ E0 E ((t, .l x) :: r) (.agg cs :: ds)
  | t (t : Nat) (v : Nat) (l l0 : List UInt8) (p p0 : Nat) (r : List (Nat × JS)) (ds : List DV) : E.get t = .it v l p → E0.get t = .it v l0 p0 → GJ E0 E r ds → GJ E0 E ((t, .t) :: r) (.nat p :: ds)

theorem getJ_some {E0 E : Env} : ∀ {J : List (Nat × JS)} {K : List DV → M β} {s : St} {r : Out β × St}, getJ E0 E J K s = some r → ∃ ds, GJ E0 E J ds ∧ K ds s = some r
  | [], K, s, r, h => ⟨[], .nil, h⟩
  | (t, x) :: J, K, s, r, h => by
    simp only [getJ] at h
    cases x with
    | v x =>
      cases e : E.get t with
      | v d =>
        rw [e] at h
        obtain ⟨ds, g, hk⟩ := getJ_some h
        exact ⟨_, .v t x d J ds e g, hk⟩
      | _ => rw [e] at h; cases h
    | l x =>
      cases e : E.get t with
      | loc v n cs =>
        rw [e] at h
        cases e0 : E0.get t with
        | loc v0 n0 cs0 =>
          rw [e0] at h
          simp only at h
          obtain ⟨hv, h2⟩ := cond_some h
          have := Nat.eq_of_beq_eq_true hv; subst this
          obtain ⟨ds, g, hk⟩ := getJ_some h2
          exact ⟨_, .l t x v0 n n0 cs cs0 J ds e e0 g, hk⟩
        | _ => rw [e0] at h; cases h
      | _ => rw [e] at h; cases h
    | t =>
      cases e : E.get t with
      | it v l p =>
        rw [e] at h
        cases e0 : E0.get t with
        | it v0 l0 p0 =>
          rw [e0] at h
          simp only at h
          obtain ⟨hv, h2⟩ := cond_some h
          have := Nat.eq_of_beq_eq_true hv; subst this
          obtain ⟨ds, g, hk⟩ := getJ_some h2
          exact ⟨_, .t t v0 l l0 p p0 J ds e e0 g, hk⟩
        | _ => rw [e0] at h; cases h
      | _ => rw [e] at h; cases h

/-- What putJ lays. -/
inductive PJ (E : Env) : List (Nat × JS) → List DV → Env → Env → Prop
  | nil (E1 : Env) : PJ E [] [] E1 E1
  | v (t : Nat) (x : Sh) (d d' : DV) (r : List (Nat × JS)) (ds : List DV) (E1 E' : Env) : (∀ (C : Cfg) ψ x, VR C ψ d x → VR C ψ d' x) → PJ E r ds (E1.put t (.v d')) E' → PJ E ((t, .v x) :: r) (d :: ds) E1 E'
  | l (t : Nat) (x : List B) (v n : Nat) (cs0 cs cs' : List DV) (r : List (Nat × JS)) (ds : List DV) (E1 E' : Env) : E.get t = .loc v n cs0 → CastL cs cs' → PJ E r ds (E1.put t (.loc v n cs')) E' → PJ E ((t, .l x) :: r) (.agg cs :: ds) E1 E'
  | t (t : Nat) (v : Nat) (l : List UInt8) (p0 p : Nat) (r : List (Nat × JS)) (ds : List DV) (E1 E' : Env) : E.get t = .it v l p0 → PJ E r ds (E1.put t (.it v l p)) E' → PJ E ((t, .t) :: r) (.nat p :: ds) E1 E'

theorem putJ_some {E : Env} : ∀ {J : List (Nat × JS)} {st : List DV} {E1 : Env} {K : Env → M β} {s : St} {r : Out β × St}, putJ E J st E1 K s = some r → ∃ E', PJ E J st E1 E' ∧ K E' s = some r
  | [], st, E1, K, s, r, h => by
    simp only [putJ] at h
    cases st with
    | nil => exact ⟨E1, .nil E1, h⟩
    | cons _ _ => cases h
  | (t, x) :: J, st, E1, K, s, r, h => by
    simp only [putJ] at h
    cases st with
    | nil => cases h
    | cons d rest =>
      simp only [D.cons] at h
      cases x with
      | v x =>
        obtain ⟨d', h, hd, _⟩ := dsh_some h
        obtain ⟨E', g, hk⟩ := putJ_some h
        exact ⟨E', .v t x d d' J rest E1 E' hd g, hk⟩
      | l x =>
        cases e : E.get t with
        | loc v n cs0 =>
          rw [e] at h
          cases d with
          | agg cs =>
            obtain ⟨cs', h, hl, hr, h1⟩ := dcells_some h
            obtain ⟨E', g, hk⟩ := putJ_some h
            exact ⟨E', .l t x v n cs0 cs cs' J rest E1 E' e ⟨hl, hr, h1⟩ g, hk⟩
          | _ => cases h
        | _ => rw [e] at h; cases h
      | t =>
        cases e : E.get t with
        | it v l p0 =>
          rw [e] at h
          cases d with
          | nat p =>
            obtain ⟨E', g, hk⟩ := putJ_some h
            exact ⟨E', .t t v l p0 p J rest E1 E' e g, hk⟩
          | _ => cases h
        | _ => rw [e] at h; cases h

/-- The registers behind a join: what is said of them held of those that came to it. -/
theorem PJ.weakJ {E0 E2 : Env} (h0 : EOK E0) (hv : ∀ t v n cs, E2.get t = .loc v n cs → (∃ cs0, E0.get t = .loc v n cs0) ∨ E0.nxt ≤ v) (hi : ∀ t v l p, E2.get t = .it v l p → (∃ p0, E0.get t = .it v l p0) ∨ E0.nxt ≤ v) :
    ∀ {J : List (Nat × JS)} {ds : List DV} {E1 E' : Env}, GJ E0 E2 J ds → PJ E0 J ds E1 E' → E1.nxt = E0.nxt → E0.nxt ≤ E2.nxt → WeakJ E2 E1 → WeakJ E2 E' ∧ E'.nxt = E0.nxt ∧ (∀ dels u, okJ dels J = true → has dels u = false → E'.get u = E1.get u) := by
  intro J
  induction J with
  | nil =>
    intro ds E1 E' g p h1 _ k
    cases g
    cases p
    exact ⟨k, h1, fun _ _ _ _ => rfl⟩
  | cons x J ih =>
    intro ds E1 E' g p h1 hn k
    obtain ⟨t, x⟩ := x
    have fin : ∀ {e : Ent} {ds : List DV}, Wj (E2.get t) e → (∀ v, e.ver = some v → v < E0.nxt) → (∀ r v o, e ≠ .pl r v o) → GJ E0 E2 J ds → PJ E0 J ds (E1.put t e) E' → WeakJ E2 E' ∧ E'.nxt = E0.nxt ∧ (∀ dels u, okJ dels ((t, x) :: J) = true → has dels u = false → E'.get u = E1.get u) := by
      intro e ds hw hver hpl g p
      obtain ⟨r1, r2, r3⟩ := ih g p (by simpa using h1) hn ⟨by simp [h1, hn], fun u => by
          rw [Env.get_put]
          split
          · rename_i e; subst e; exact hw
          · exact k.get u, fun u v e => by
          rw [Env.get_put] at e
          rw [Env.nxt_put, h1]
          split at e
          · exact hver v e
          · have := k.ver u v e; omega, fun u r v o e => by
          rw [Env.get_put] at e
          rw [Env.nxt_put, h1]
          split at e
          · exact absurd e (hpl r v o)
          · have := k.pl u r v o e; omega⟩
      refine ⟨r1, r2, fun dels u h1 h2 => ?_⟩
      simp only [okJ, Bool.and_eq_true] at h1
      rw [r3 dels u h1.2 h2, Env.get_put, if_neg]
      intro e; subst e
      rw [h1.1] at h2; cases h2
    cases p with
    | v _ sx d d' _ ds _ _ hc p =>
      cases g with
      | v _ _ _ _ _ e g => exact fin (.v d d' e hc) (fun v h => by cases h) (fun _ _ _ h => by cases h) g p
    | l _ sx v n cs0 cs cs' _ ds _ _ he hc p =>
      cases g with
      | l _ _ v2 n2 n0 _ cs2 _ _ e e0 g =>
        rw [he] at e0
        cases e0
        rcases hv t _ _ _ e with ⟨c, e1⟩ | e1
        · rw [he] at e1; cases e1
          exact fin (.loc _ _ cs cs' e hc) (fun v h => by cases h; exact h0.lt t _ (by rw [he]; rfl)) (fun _ _ _ h => by cases h) g p
        · have := h0.lt t _ (by rw [he]; rfl); omega
    | t _ v l p0 q _ ds _ _ he p =>
      cases g with
      | t _ v2 l2 l0 _ p2 _ _ e e0 g =>
        rw [he] at e0
        cases e0
        rcases hi t _ _ _ e with ⟨c, e1⟩ | e1
        · rw [he] at e1; cases e1
          exact fin (by rw [e]; exact .same) (fun v h => by cases h; exact h0.lt t _ (by rw [he]; rfl)) (fun _ _ _ h => by cases h) g p
        · have := h0.lt t _ (by rw [he]; rfl); omega

/-- The registers that a code does not touch. -/
abbrev Un (l : List Nat) (u : Nat) : Prop := has l u = false

/-- The whole of a join. -/
theorem join_weakJ {E0 E2 E' : Env} {J : List (Nat × JS)} {ds : List DV} {dels : List Nat} (h0 : EOK E0) (hm : Mod (Un dels) E0 E2) (g : GJ E0 E2 J ds) (p : PJ E0 J ds (E0.del dels) E') (hj : okJ dels J = true) :
    WeakJ E2 E' ∧ Mod (Un dels) E0 E' := by
  have k0 : WeakJ E2 (E0.del dels) := by
    refine ⟨hm.nxt, fun t => ?_, fun t v e => ?_, fun t r v o e => ?_⟩
    · rw [get_del]
      cases h : has dels t with
      | true => exact .u
      | false => rw [hm.get t h]; exact .same
    · rw [get_del] at e
      split at e
      · cases e
      · exact h0.lt t v e
    · rw [get_del] at e
      split at e
      · cases e
      · exact h0.pl t r v o e
  obtain ⟨r1, r2, r3⟩ := PJ.weakJ h0 hm.verL hm.verI g p rfl hm.nxt k0
  have und : ∀ u, Un dels u → E'.get u = E0.get u := fun u hu => by
    have hu' : has dels u = false := hu
    rw [r3 dels u hj hu, get_del, hu']; rfl
  refine ⟨r1, und, by omega, fun t v n cs e => ?_, fun t v l p e => ?_⟩
  · have := r1.get t
    rw [e] at this
    generalize he : E2.get t = x at this
    cases this with
    | same => exact hm.verL t v n cs he
    | loc _ _ cs0 _ h1 _ => exact hm.verL t v n cs0 (he.trans h1)
  · have := r1.get t
    rw [e] at this
    generalize he : E2.get t = x at this
    cases this with
    | same => exact hm.verI t v l p he
end
end Go.Gv
