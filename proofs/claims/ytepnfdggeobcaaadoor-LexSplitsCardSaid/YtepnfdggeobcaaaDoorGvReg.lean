/- What a region's operations do, one behind the other, as the machine takes them. -/
import Derived.Test.YtepnfdggeobcaaaDoorGvOpB
namespace Go.Gv
variable {β : Type}

/-- Less is known of registers. -/
structure Weak (E E' : Env) : Prop where
  nxt : E'.nxt = E.nxt
  get : ∀ t, E'.get t = E.get t ∨ E'.get t = .u

def GW (dst : Nat → Option Nat) (E : Env) (o : Oper) : Prop := o.guard = none ∨ ∃ j w r, o.guard = some (j, w) ∧ dst j = some r ∧ E.get r = .v (.bool w)
def GU (dst : Nat → Option Nat) (E : Env) (o : Oper) : Prop := ∃ j w r, o.guard = some (j, w) ∧ dst j = some r ∧ ((∃ b, E.get r = .v (.bool b) ∧ b ≠ w) ∨ E.get r = .un)

section
variable (C : Cfg) (dst : Nat → Option Nat) (pr ms : List Nat)

inductive Step : Oper × Md → Env → St → Env → St → Prop
  | act {p : Oper × Md} {E s E' s'} : GW dst E p.1 → OpF (Wof p.2 E) pr ms p.1 E s E' s' → OpOK C p.1 (Dof p.2 E) (Wof p.2 E) E s E' s' → Step p E s E' s'
  | skip {p : Oper × Md} {E s} : GU dst E p.1 → Step p E s (E.putO p.1.dst .un) s

inductive Tr : List (Oper × Md) → Env → St → Env → St → Prop
  | nil (E s) : Tr [] E s E s
  | weak {l E E1 s E2 s2} : Weak E E1 → Tr l E1 s E2 s2 → Tr l E s E2 s2
  | cons {p l E s E1 s1 E2 s2} : Step C dst pr ms p E s E1 s1 → Tr l E1 s1 E2 s2 → Tr (p :: l) E s E2 s2

inductive TrP : List (Oper × Md) → Env → St → St → Prop
  | weak {l E E1 s s2} : Weak E E1 → TrP l E1 s s2 → TrP l E s s2
  | here {p l E s s'} : GW dst E p.1 → p.2.x = 0 → OpPan C p.1 (Dof p.2 E) E s s' → TrP (p :: l) E s s'
  | next {p l E s E1 s1 s2} : Step C dst pr ms p E s E1 s1 → TrP l E1 s1 s2 → TrP (p :: l) E s s2
end

section
variable {C : Cfg} {dst : Nat → Option Nat} {pr ms : List Nat}

theorem Tr.append {l1 l2 : List (Oper × Md)} {E E1 E2 : Env} {s s1 s2 : St} (h : Tr C dst pr ms l1 E s E1 s1) (k : Tr C dst pr ms l2 E1 s1 E2 s2) : Tr C dst pr ms (l1 ++ l2) E s E2 s2 := by
  induction h with
  | nil => exact k
  | weak w _ ih => exact .weak w (ih k)
  | cons st _ ih => exact .cons st (ih k)
theorem TrP.left {l1 : List (Oper × Md)} {E : Env} {s s2 : St} (h : TrP C dst pr ms l1 E s s2) (l2 : List (Oper × Md)) : TrP C dst pr ms (l1 ++ l2) E s s2 := by
  induction h with
  | weak w _ ih => exact .weak w ih
  | here a b c => exact .here a b c
  | next st _ ih => exact .next st ih
theorem Tr.pan {l1 l2 : List (Oper × Md)} {E E1 : Env} {s s1 s2 : St} (h : Tr C dst pr ms l1 E s E1 s1) (k : TrP C dst pr ms l2 E1 s1 s2) : TrP C dst pr ms (l1 ++ l2) E s s2 := by
  induction h with
  | nil => exact k
  | weak w _ ih => exact .weak w (ih k)
  | cons st _ ih => exact .next st (ih k)

theorem cutPick_some {r : Nat} : ∀ {l acc : List (Oper × Md)} {grp : List (Oper × Md)} {pk : Oper} {rest : List (Oper × Md)}, cutPick r acc l = some (grp, pk, rest) →
    ∃ x y z, acc.reverse ++ l = grp ++ (pk, x) :: rest ∧ pk.op = .pick (.tmp r) y z
  | [], acc, grp, pk, rest, h => by cases h
  | (o, x) :: l, acc, grp, pk, rest, h => by
    simp only [cutPick] at h
    have go : cutPick r ((o, x) :: acc) l = some (grp, pk, rest) → ∃ x' y z, acc.reverse ++ (o, x) :: l = grp ++ (pk, x') :: rest ∧ pk.op = .pick (.tmp r) y z := by
      intro h
      obtain ⟨x', y, z, h1, h2⟩ := cutPick_some h
      exact ⟨x', y, z, by rw [← h1]; simp, h2⟩
    split at h
    · rename_i t y z hop
      cases hb : Nat.beq t r with
      | true =>
        rw [hb] at h
        simp only [cond_true, Option.some.injEq, Prod.mk.injEq] at h
        obtain ⟨rfl, rfl, rfl⟩ := h
        have := Nat.eq_of_beq_eq_true hb
        subst this
        exact ⟨x, y, z, rfl, hop⟩
      | false => rw [hb] at h; exact go h
    · exact go h

theorem gHas_mem : ∀ {act : List (Nat × Bool)} {g : Nat × Bool}, gHas act g = true → g ∈ act
  | [], _, h => by cases h
  | (k, b) :: r, g, h => by
    simp only [gHas, Bool.or_eq_true, Bool.and_eq_true] at h
    rcases h with ⟨h1, h2⟩ | h
    · have e1 := Nat.eq_of_beq_eq_true h1
      have e2 : b = g.2 := by simpa using h2
      have : g = (k, b) := by rw [e1, e2]
      rw [this]
      exact List.mem_cons_self
    · exact List.mem_cons_of_mem _ (gHas_mem h)

/-- What a guarded run is like. -/
theorem grpOk_spec {j : Nat} {w : Bool} {r : Nat} : ∀ {l : List (Oper × Md)} {sk : List Nat}, grpOk pr dst j w r sk l = true → ∀ p ∈ l, ¬ Spec pr p.1 ∧ p.1.dst ≠ some r
  | [], _, _, p, hp => by cases hp
  | (o, x) :: l, sk, h, p, hp => by
    simp only [grpOk, Bool.and_eq_true] at h
    obtain ⟨⟨h1, _⟩, h3⟩ := h
    have hsp : ¬ Spec pr o := by
      unfold Spec
      intro hs
      cases hop : o.op <;> rw [hop] at hs h1 <;> simp only at hs h1 <;> first | exact hs | (cases h1; done) | skip
      all_goals
        obtain ⟨d, hd, hd2⟩ := hs
        rw [hd] at h1
        simp only at h1
        rw [hd2] at h1
        cases h1
    cases hd : o.dst with
    | none =>
      rw [hd] at h3
      rcases List.mem_cons.1 hp with rfl | hp
      · exact ⟨hsp, by simp [hd]⟩
      · exact grpOk_spec h3 p hp
    | some d =>
      rw [hd] at h3
      simp only [Bool.and_eq_true] at h3
      rcases List.mem_cons.1 hp with rfl | hp
      · refine ⟨hsp, ?_⟩
        rw [hd]
        intro e
        cases e
        have := h3.1
        rw [Nat.beq_refl] at this
        cases this
      · exact grpOk_spec h3.2 p hp

theorem dstsO_mem : ∀ {l : List (Oper × Md)} {t : Nat}, has (dstsO l) t = true ↔ ∃ p ∈ l, p.1.dst = some t
  | [], t => by simp [dstsO, has]
  | (o, x) :: l, t => by
    simp only [dstsO, List.mem_cons, exists_eq_or_imp]
    cases hd : o.dst with
    | none => simp only [dstsO_mem]; simp
    | some d =>
      simp only [has, Bool.or_eq_true, dstsO_mem, Option.some.injEq]
      constructor
      · rintro (h | h)
        · exact .inl (Nat.eq_of_beq_eq_true h)
        · exact .inr h
      · rintro (h | h)
        · exact .inl (by subst h; exact Nat.beq_refl _)
        · exact .inr h

/-- A guarded run that is not wanted. -/
theorem skip_tr {j : Nat} {w : Bool} {r : Nat} (hj : dst j = some r) {b : Bool} (hb : b ≠ w) : ∀ {l : List (Oper × Md)} {sk : List Nat} {E : Env} {s : St}, grpOk pr dst j w r sk l = true → E.get r = .v (.bool b) → (∀ d, has sk d = true → E.get d = .un) →
    ∃ E1, Tr C dst pr ms l E s E1 s ∧ E1.nxt = E.nxt ∧ (∀ u, has (dstsO l) u = false → E1.get u = E.get u)
  | [], _, E, s, _, _, _ => ⟨E, .nil E s, rfl, fun _ _ => rfl⟩
  | (o, x) :: l, sk, E, s, h, hr, hsk => by
    have hspec := grpOk_spec h (o, x) (by simp)
    simp only [grpOk, Bool.and_eq_true] at h
    obtain ⟨⟨_, h2⟩, h3⟩ := h
    have hg : GU dst E o := by
      cases hg : o.guard with
      | none => rw [hg] at h2; cases h2
      | some g =>
        obtain ⟨j', w'⟩ := g
        rw [hg] at h2
        simp only [Bool.or_eq_true, Bool.and_eq_true] at h2
        rcases h2 with ⟨h4, h5⟩ | h4
        · have := Nat.eq_of_beq_eq_true h4
          have h5 : w' = w := by simpa using h5
          subst this; subst h5
          exact ⟨_, _, r, hg, hj, .inl ⟨b, hr, hb⟩⟩
        · cases hd : dst j' with
          | none => rw [hd] at h4; cases h4
          | some d => rw [hd] at h4; exact ⟨j', w', d, hg, hd, .inr (hsk d h4)⟩
    have hr' : (E.putO o.dst .un).get r = .v (.bool b) := by rw [Env.get_putO, if_neg hspec.2]; exact hr
    cases hd : o.dst with
    | none =>
      rw [hd] at h3
      obtain ⟨E1, t1, t2, t3⟩ := skip_tr hj hb (E := E.putO o.dst .un) (s := s) h3 hr' (fun d h => by rw [hd]; exact hsk d h)
      refine ⟨E1, .cons (.skip hg) t1, by rw [t2]; simp, fun u hu => ?_⟩
      simp only [dstsO, hd] at hu
      rw [t3 u hu, hd]; rfl
    | some d =>
      rw [hd] at h3
      simp only [Bool.and_eq_true] at h3
      obtain ⟨E1, t1, t2, t3⟩ := skip_tr hj hb (E := E.putO o.dst .un) (s := s) h3.2 hr' (fun d' h => by
        rw [Env.get_putO, hd]
        simp only [has, Bool.or_eq_true] at h
        by_cases e : some d = some d'
        · rw [if_pos e]
        · rw [if_neg e]
          rcases h with h | h
          · exact absurd (by rw [Nat.eq_of_beq_eq_true h]) e
          · exact hsk d' h)
      refine ⟨E1, .cons (.skip hg) t1, by rw [t2]; simp, fun u hu => ?_⟩
      simp only [dstsO, hd, has, Bool.or_eq_false_iff] at hu
      rw [t3 u hu.2, Env.get_putO, hd, if_neg]
      intro e; cases e
      rw [Nat.beq_refl] at hu; cases hu.1

/-- A pick whose condition is known. -/
theorem pick_step {o : Oper} {md : Md} {r : Nat} {y z : Operand} {E : Env} {s : St} {b : Bool} (ho : o.op = .pick (.tmp r) y z) (hb : E.get r = .v (.bool b)) (hg : GW dst E o) :
    Step C dst pr ms (o, md) E s (E.putO o.dst (E.src C (if b then y else z))) s := by
  refine .act hg (OpF.putS pr ms _ (Env.src_ver C E _) (fun hE r v n h => Env.src_pl C hE h)) (OpOK.pure (Wof_Dof md E) _ (Env.src_ver C E _) fun ψ Q a w p => ⟨a.eval (if b then y else z), w, ?_, .refl w, p.src ?_⟩)
  · have := p.val (x := .tmp r) (by simp [Op.operands, ho]) (d := .bool b) (by simp only [Env.src, hb])
    generalize hv : a.eval (.tmp r) = v at this
    cases this
    cases b <;> simp [execOp, ho, hv, asBool]
  · cases b <;> simp [Op.operands, ho]

/-- How registers have changed. -/
structure Mod (un : Nat → Prop) (E E' : Env) : Prop where
  get : ∀ u, un u → E'.get u = E.get u
  nxt : E.nxt ≤ E'.nxt
  verL : ∀ t v n cs, E'.get t = .loc v n cs → (∃ cs0, E.get t = .loc v n cs0) ∨ E.nxt ≤ v
  verI : ∀ t v l p, E'.get t = .it v l p → (∃ p0, E.get t = .it v l p0) ∨ E.nxt ≤ v

theorem Mod.refl (un : Nat → Prop) (E : Env) : Mod un E E := ⟨fun _ _ => rfl, Nat.le_refl _, fun _ _ _ cs h => .inl ⟨cs, h⟩, fun _ _ _ p h => .inl ⟨p, h⟩⟩
theorem Mod.trans {un un' un'' : Nat → Prop} {E E' E'' : Env} (h : Mod un E E') (k : Mod un' E' E'') (h1 : ∀ u, un'' u → un u) (h2 : ∀ u, un'' u → un' u) : Mod un'' E E'' := by
  refine ⟨fun u hu => by rw [k.get u (h2 u hu), h.get u (h1 u hu)], Nat.le_trans h.nxt k.nxt, fun t v n cs e => ?_, fun t v l p e => ?_⟩
  · rcases k.verL t v n cs e with ⟨c, e⟩ | e
    · exact h.verL t v n c e
    · exact .inr (Nat.le_trans h.nxt e)
  · rcases k.verI t v l p e with ⟨c, e⟩ | e
    · exact h.verI t v l c e
    · exact .inr (Nat.le_trans h.nxt e)

/-- Registers that a run does not touch. -/
def Unt (ms : List Nat) (l : List (Oper × Md)) (u : Nat) : Prop := (∀ p ∈ l, p.1.dst ≠ some u) ∧ has ms u = false

def MdOk (P : Program) (pr : List Nat) (ops : List Oper) (p : Oper × Md) : Prop := p.2 = .s ∨ ∃ x, p.2 = .d (cls P pr ops p.1) x

/-- What a region's operations come to: a trace. -/
theorem runOps_tr (hC : CfgOk C) {c : Oracle} (hc : OracleOK C c) {ops : List Oper} {r : Out β × St} : ∀ (n : Nat) (l : List (Oper × Md)) (act : List (Nat × Bool)) (E : Env) (K : Env → M β) (s : St),
    runOps C pr ms c dst n l act E K s = some r → (∀ p ∈ l, MdOk C.P pr ops p) →
    (∀ g ∈ act, (∃ q, dst g.1 = some q ∧ E.get q = .v (.bool g.2) ∧ ∀ p ∈ l, p.1.dst ≠ some q) ∧ ∀ p ∈ l, ¬ Spec pr p.1) →
    (∃ E' s', Tr C dst pr ms l E s E' s' ∧ K E' s' = some r ∧ ((∀ p ∈ l, ¬ Spec pr p.1) → E'.nxt = E.nxt ∧ ∀ u, (∀ p ∈ l, p.1.dst ≠ some u) → E'.get u = E.get u) ∧ Mod (Unt ms l) E E') ∨
    (∃ s', r = (.pan, s') ∧ TrP C dst pr ms l E s s') := by
  intro n
  induction n with
  | zero =>
    intro l act E K s h hmd hact
    cases l with
    | nil => exact .inl ⟨E, s, .nil E s, h, fun _ => ⟨rfl, fun _ _ => rfl⟩, .refl _ _⟩
    | cons p l => cases h
  | succ n ih =>
    intro l act E K s h hmd hact
    cases l with
    | nil => exact .inl ⟨E, s, .nil E s, h, fun _ => ⟨rfl, fun _ _ => rfl⟩, .refl _ _⟩
    | cons p rest =>
      obtain ⟨o, md⟩ := p
      simp only [runOps] at h
      have gw : ∀ {E : Env} {o' : Oper}, (∀ g ∈ act, ∃ q, dst g.1 = some q ∧ E.get q = .v (.bool g.2)) → gOk act o'.guard = true → GW dst E o' := by
        intro E o' ha hg
        cases hgu : o'.guard with
        | none => exact .inl hgu
        | some g =>
          rw [hgu] at hg
          obtain ⟨q, h1, h2⟩ := ha g (gHas_mem hg)
          exact .inr ⟨g.1, g.2, q, hgu, h1, h2⟩
      cases hg : gOk act o.guard with
      | true =>
        rw [hg] at h
        simp only [cond_true] at h
        have hgw := gw (E := E) (fun g hm => let ⟨⟨q, h1, h2, _⟩, _⟩ := hact g hm; ⟨q, h1, h2⟩) hg
        rcases opK_res hC hc (hmd (o, md) (by simp)) h with ⟨E1, s1, hk, hF, hO⟩ | ⟨hx, s', rfl, hp⟩
        · have hstep : Step C dst pr ms (o, md) E s E1 s1 := .act hgw hF hO
          have keep : ¬ Spec pr o → E1.nxt = E.nxt ∧ ∀ u, o.dst ≠ some u → E1.get u = E.get u := by
            intro hs
            rcases hF.plain with ⟨e, _, rfl⟩ | h
            · exact ⟨by simp, fun u hu => by rw [Env.get_putO, if_neg hu]⟩
            · exact absurd h hs
          rcases ih rest act E1 K s1 hk (fun p hp => hmd p (by simp [hp])) (fun g hm => by
            obtain ⟨⟨q, h1, h2, h3⟩, h4⟩ := hact g hm
            exact ⟨⟨q, h1, by rw [(keep (h4 (o, md) (by simp))).2 q (h3 (o, md) (by simp))]; exact h2, fun p hp => h3 p (by simp [hp])⟩, fun p hp => h4 p (by simp [hp])⟩) with ⟨E2, s2, t, hk2, hn, hmod⟩ | ⟨s2, e, t⟩
          · refine .inl ⟨E2, s2, .cons hstep t, hk2, fun hs => ?_, ?_⟩
            rotate_left
            · have m1 : Mod (fun u => o.dst ≠ some u ∧ has ms u = false) E E1 := ⟨fun u hu => hF.other u hu.1 hu.2, hF.nxt, fun t v n cs h => (hF.verL t v n cs h).imp id And.left, fun t v l p h => (hF.verI t v l p h).imp id And.left⟩
              exact m1.trans hmod (fun u hu => ⟨hu.1 (o, md) (by simp), hu.2⟩) (fun u hu => ⟨fun p hp => hu.1 p (by simp [hp]), hu.2⟩)
            obtain ⟨k1, k2⟩ := keep (hs (o, md) (by simp))
            obtain ⟨n1, n2⟩ := hn fun p hp => hs p (by simp [hp])
            exact ⟨by rw [n1, k1], fun u hu => by rw [n2 u fun p hp => hu p (by simp [hp]), k2 u (hu (o, md) (by simp))]⟩
          · exact .inr ⟨s2, e, .next hstep t⟩
        · exact .inr ⟨s', rfl, .here hgw hx hp⟩
      | false =>
        rw [hg] at h
        simp only [cond_false] at h
        cases hgu : o.guard with
        | none => rw [hgu] at h; cases h
        | some g =>
          obtain ⟨j, w⟩ := g
          rw [hgu] at h
          simp only at h
          cases hj : dst j with
          | none => rw [hj] at h; cases h
          | some q =>
            rw [hj] at h
            simp only at h
            cases hq : E.get q with
            | v d =>
              cases d with
              | bool b =>
                rw [hq] at h
                cases hcp : cutPick q [] ((o, md) :: rest) with
                | none => rw [hcp] at h; cases h
                | some x =>
                  obtain ⟨grp, pk, rest'⟩ := x
                  rw [hcp] at h
                  simp only at h
                  obtain ⟨mdp, y, z, hl, hpk⟩ := cutPick_some hcp
                  simp only [List.reverse_nil, List.nil_append] at hl
                  rw [hpk] at h
                  cases hpd : pk.dst with
                  | none => rw [hpd] at h; cases h
                  | some t =>
                    rw [hpd] at h
                    simp only at h
                    obtain ⟨hok, h⟩ := cond_some h
                    rw [Bool.and_eq_true] at hok
                    obtain ⟨hok1, hok2⟩ := hok
                    have hgs := grpOk_spec hok2
                    rw [hl]
                    rw [hl] at hmd hact
                    -- behind the pick
                    have after : ∀ (E1 : Env) (s1 : St) (v : Bool), Tr C dst pr ms (grp ++ [(pk, mdp)]) E s ((E.del (dstsO grp)).put t (.v (.bool v))) s1 →
                        runOps C pr ms c dst n rest' act ((E.del (dstsO grp)).put t (.v (.bool v))) K s1 = some r →
                        (∃ E' s', Tr C dst pr ms (grp ++ (pk, mdp) :: rest') E s E' s' ∧ K E' s' = some r ∧ ((∀ p ∈ grp ++ (pk, mdp) :: rest', ¬ Spec pr p.1) → E'.nxt = E.nxt ∧ ∀ u, (∀ p ∈ grp ++ (pk, mdp) :: rest', p.1.dst ≠ some u) → E'.get u = E.get u) ∧ Mod (Unt ms (grp ++ (pk, mdp) :: rest')) E E') ∨
                        (∃ s', r = (.pan, s') ∧ TrP C dst pr ms (grp ++ (pk, mdp) :: rest') E s s') := by
                      intro E1 s1 v ht hr
                      have e : grp ++ (pk, mdp) :: rest' = (grp ++ [(pk, mdp)]) ++ rest' := by simp
                      have get : ∀ u, (∀ p ∈ grp ++ (pk, mdp) :: rest', p.1.dst ≠ some u) → ((E.del (dstsO grp)).put t (.v (.bool v))).get u = E.get u := by
                        intro u hu
                        rw [Env.get_put, if_neg (fun e => hu (pk, mdp) (by simp) (by rw [hpd, e])), get_del]
                        have : has (dstsO grp) u = false := by
                          cases hh : has (dstsO grp) u with
                          | false => rfl
                          | true =>
                            obtain ⟨p, hp, hd⟩ := dstsO_mem.1 hh
                            exact absurd hd (hu p (by simp [hp]))
                        rw [this]; rfl
                      rcases ih rest' act _ K s1 hr (fun p hp => hmd p (by simp [hp])) (fun g hm => by
                        obtain ⟨⟨q', h1, h2, h3⟩, h4⟩ := hact g hm
                        exact ⟨⟨q', h1, by rw [get q' h3]; exact h2, fun p hp => h3 p (by simp [hp])⟩, fun p hp => h4 p (by simp [hp])⟩) with ⟨E2, s2, t2, hk2, hn, hmod⟩ | ⟨s2, e2, t2⟩
                      · refine .inl ⟨E2, s2, by rw [e]; exact ht.append t2, hk2, fun hs => ?_, ?_⟩
                        rotate_left
                        · have m1 : Mod (fun u => ∀ p ∈ grp ++ (pk, mdp) :: rest', p.1.dst ≠ some u) E ((E.del (dstsO grp)).put t (.v (.bool v))) := by
                            refine ⟨get, Nat.le_refl _, fun u v' n' cs e => ?_, fun u v' l' p e => ?_⟩ <;> rw [Env.get_put, get_del] at e <;> split at e
                            · cases e
                            · split at e
                              · cases e
                              · exact .inl ⟨cs, e⟩
                            · cases e
                            · split at e
                              · cases e
                              · exact .inl ⟨p, e⟩
                          exact m1.trans hmod (fun u hu => hu.1) (fun u hu => ⟨fun p hp => hu.1 p (by simp [hp]), hu.2⟩)
                        obtain ⟨n1, n2⟩ := hn fun p hp => hs p (by simp [hp])
                        exact ⟨by rw [n1]; rfl, fun u hu => by rw [n2 u fun p hp => hu p (by simp [hp]), get u hu]⟩
                      · exact .inr ⟨s2, e2, by rw [e]; exact ht.pan t2⟩
                    have nd : ∀ u, (∀ p ∈ grp ++ (pk, mdp) :: rest', p.1.dst ≠ some u) → has (dstsO grp) u = false := by
                      intro u hu
                      cases hh : has (dstsO grp) u with
                      | false => rfl
                      | true =>
                        obtain ⟨p, hp, hd⟩ := dstsO_mem.1 hh
                        exact absurd hd (hu p (by simp [hp]))
                    have nq : has (dstsO grp) q = false := by
                      cases hh : has (dstsO grp) q with
                      | false => rfl
                      | true =>
                        obtain ⟨p, hp, hd⟩ := dstsO_mem.1 hh
                        exact absurd hd (hgs p hp).2
                    have jk : ∀ (d : DV) (s1 : St), (D.cons [d] fun d st => D.bool d fun v => D.nil st (runOps C pr ms c dst n rest' act ((E.del (dstsO grp)).put t (.v (.bool v))) K)) s1 = some r →
                        ∃ v, d = .bool v ∧ runOps C pr ms c dst n rest' act ((E.del (dstsO grp)).put t (.v (.bool v))) K s1 = some r := by
                      intro d s1 h
                      cases d with
                      | bool v => exact ⟨v, rfl, h⟩
                      | _ => cases h
                    have tget : ∀ (v : Bool) u, ((E.del (dstsO grp)).put t (.v (.bool v))).get u = if t = u then .v (.bool v) else if has (dstsO grp) u then .u else E.get u := fun v u => by rw [Env.get_put, get_del]
                    simp only [M.join] at h
                    by_cases hbw : b = w
                    · -- it is wanted
                      subst hbw
                      have h' : runOps C pr ms c dst n grp ((j, b) :: act) (E.put q (.v (.bool b))) (fun E1 => valK C E1 (bif b then y else z) fun d => D.cons [d] fun d st => D.bool d fun v => D.nil st (runOps C pr ms c dst n rest' act ((E.del (dstsO grp)).put t (.v (.bool v))) K)) s = some r := by
                        cases b <;> exact h
                      have pget : ∀ u, (E.put q (.v (.bool b))).get u = E.get u := fun u => by
                        rw [Env.get_put]
                        split
                        · rename_i e; subst e; exact hq.symm
                        · rfl
                      have hw1 : Weak E (E.put q (.v (.bool b))) := ⟨rfl, fun u => .inl (pget u)⟩
                      rcases ih grp ((j, b) :: act) _ _ s h' (fun p hp => hmd p (by simp [hp])) (fun g hm => by
                        refine ⟨?_, fun p hp => (hgs p hp).1⟩
                        rcases List.mem_cons.1 hm with rfl | hm
                        · exact ⟨q, hj, by rw [pget]; exact hq, fun p hp => (hgs p hp).2⟩
                        · obtain ⟨⟨q', h1, h2, h3⟩, _⟩ := hact g hm
                          exact ⟨q', h1, by rw [pget]; exact h2, fun p hp => h3 p (by simp [hp])⟩) with ⟨E1, s1, t1, hk1, hn1, _⟩ | ⟨s1, e1, t1⟩
                      · obtain ⟨n1, n2⟩ := hn1 fun p hp => (hgs p hp).1
                        obtain ⟨d, hd, hk1⟩ := valK_some hk1
                        obtain ⟨v, rfl, hk1⟩ := jk d s1 hk1
                        have hq1 : E1.get q = .v (.bool b) := by rw [n2 q fun p hp => (hgs p hp).2, pget]; exact hq
                        have e1get : ∀ u, has (dstsO grp) u = false → E1.get u = E.get u := fun u hu => by
                          rw [n2 u (fun p hp hd => by rw [dstsO_mem.2 ⟨p, hp, hd⟩] at hu; cases hu), pget]
                        have hst := pick_step (C := C) (pr := pr) (ms := ms) (md := mdp) (s := s1) hpk hq1 (gw (E := E1) (fun g hm => by
                          obtain ⟨⟨q', h1, h2, h3⟩, _⟩ := hact g hm
                          exact ⟨q', h1, by rw [e1get q' (nd q' h3)]; exact h2⟩) hok1)
                        have hsrc : E1.src C (if b then y else z) = .v (.bool v) := by cases b <;> exact hd
                        rw [hsrc, hpd] at hst
                        have hw2 : Weak (E1.putO (some t) (.v (.bool v))) ((E.del (dstsO grp)).put t (.v (.bool v))) := by
                          refine ⟨by rw [Env.nxt_putO, n1]; rfl, fun u => ?_⟩
                          rw [tget, Env.get_putO]
                          by_cases e : t = u
                          · subst e; simp
                          · rw [if_neg e, if_neg (fun h => e (Option.some.inj h))]
                            cases hu : has (dstsO grp) u with
                            | true => exact .inr rfl
                            | false => exact .inl (e1get u hu).symm
                        exact after E1 s1 v (.weak hw1 (t1.append (.cons hst (.weak hw2 (.nil _ _))))) hk1
                      · exact .inr ⟨s1, e1, .weak hw1 (t1.left _)⟩
                    · -- it is not
                      have h' : valK C ((E.del (dstsO grp)).put q (.v (.bool !w))) (bif w then z else y) (fun d => D.cons [d] fun d st => D.bool d fun v => D.nil st (runOps C pr ms c dst n rest' act ((E.del (dstsO grp)).put t (.v (.bool v))) K)) s = some r := by
                        cases w <;> cases b <;> first | exact h | exact absurd rfl hbw
                      obtain ⟨d, hd, hk1⟩ := valK_some h'
                      obtain ⟨v, rfl, hk1⟩ := jk d s hk1
                      obtain ⟨E1, t1, t2, t3⟩ := skip_tr (C := C) (pr := pr) (ms := ms) hj hbw (s := s) hok2 hq (fun d h => by cases h)
                      have hq1 : E1.get q = .v (.bool b) := by rw [t3 q nq]; exact hq
                      have hst := pick_step (C := C) (pr := pr) (ms := ms) (md := mdp) (s := s) hpk hq1 (gw (E := E1) (fun g hm => by
                        obtain ⟨⟨q', h1, h2, h3⟩, _⟩ := hact g hm
                        exact ⟨q', h1, by rw [t3 q' (nd q' h3)]; exact h2⟩) hok1)
                      have hbw' : b = !w := by cases w <;> cases b <;> first | rfl | exact absurd rfl hbw
                      have hsrc : E1.src C (if b then y else z) = .v (.bool v) := by
                        have hx : (if b then y else z) = (bif w then z else y) := by subst hbw'; cases w <;> rfl
                        rw [hx, ← hd]
                        generalize (bif w then z else y) = x at hd
                        cases x with
                        | tmp u =>
                          have hg : E1.get u = ((E.del (dstsO grp)).put q (.v (.bool !w))).get u := by
                            rw [Env.get_put, get_del]
                            by_cases e : q = u
                            · subst e; rw [if_pos rfl, hq1, hbw']
                            · rw [if_neg e]
                              cases hu : has (dstsO grp) u with
                              | false => exact t3 u hu
                              | true =>
                                simp only [Env.src, Env.get_put, get_del, if_neg e, hu, if_true] at hd
                                cases hd
                          simp only [Env.src, hg]
                        | _ => rfl
                      rw [hsrc, hpd] at hst
                      have hw2 : Weak (E1.putO (some t) (.v (.bool v))) ((E.del (dstsO grp)).put t (.v (.bool v))) := by
                        refine ⟨by rw [Env.nxt_putO, t2]; rfl, fun u => ?_⟩
                        rw [tget, Env.get_putO]
                        by_cases e : t = u
                        · subst e; simp
                        · rw [if_neg e, if_neg (fun h => e (Option.some.inj h))]
                          cases hu : has (dstsO grp) u with
                          | true => exact .inr rfl
                          | false => exact .inl (t3 u hu).symm
                      exact after E1 s v (t1.append (.cons hst (.weak hw2 (.nil _ _)))) hk1
              | _ => rw [hq] at h; cases h
            | _ => rw [hq] at h; cases h
end
end Go.Gv
