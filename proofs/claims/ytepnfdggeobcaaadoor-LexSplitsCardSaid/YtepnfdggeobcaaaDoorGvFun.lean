/- Functions: what the machine's body answers, a call answers. -/
import Derived.Test.YtepnfdggeobcaaaDoorGvRun
namespace Go.Gv
variable {β : Type}

theorem look_args : ∀ (k : Nat) (ds : List DV) (t : Nat), look (argsE k ds) t = if k ≤ t then (match ds[t - k]? with | some d => .v d | none => .u) else .u
  | k, [], t => by simp [argsE, look]
  | k, d :: ds, t => by
    rw [argsE, look_cons, look_args (k + 1) ds t]
    by_cases h : k = t
    · subst h; simp
    · rw [if_neg h]
      by_cases h2 : k ≤ t
      · rw [if_pos h2, if_pos (by omega), show t - k = (t - (k + 1)) + 1 by omega, List.getElem?_cons_succ]
      · rw [if_neg h2, if_neg (by omega)]

section
variable {C : Cfg} {f : Fr} {ψ : Ps} {E : Env} {s : St} {a : Act} {w : World} {r : Out β × St}

def resSem (tmps : Array Value) : ResultVar → Sem Value
  | .tmp t => pure (tmps.getD t undef)
  | .cell a t => do loadVar t (← asAddr (tmps.getD a undef))

theorem mapM_run {P : Program} {g : ResultVar → Sem Value} {x : ResultVar} {l : List ResultVar} {v : Value} {vs : List Value} {w : World} (h1 : (g x).run P w = .ok v w) (h2 : (l.mapM g).run P w = .ok vs w) : ((x :: l).mapM g).run P w = .ok (v :: vs) w := by
  rw [List.mapM_cons]
  simp only [Sem.run_bind, h1, Result.andThen_ok, h2, Sem.run_pure]

theorem resK_run (R : Rel C f ψ E s a w) : ∀ {l : List ResultVar} {K : List DV → M β} , resK C E l K s = some r → ∃ ds vs, K ds s = some r ∧ VRs C ψ ds vs ∧ (l.mapM (resSem a.tmps)).run C.P w = .ok vs w
  | [], K, h => ⟨[], [], h, .nil, by simp⟩
  | .tmp t :: l, K, h => by
    simp only [resK] at h
    obtain ⟨d, hd, h⟩ := valK_some h
    obtain ⟨ds, vs, hk, hr, hrun⟩ := resK_run R h
    have hv := R.eval (.tmp t)
    rw [hd] at hv
    exact ⟨_, _, hk, .cons _ _ _ _ hv hr, mapM_run rfl hrun⟩
  | .cell x t :: l, K, h => by
    simp only [resK] at h
    cases hx : E.get x with
    | loc v n cs =>
      rw [hx] at h
      simp only at h
      obtain ⟨td, ht, h⟩ := tyK_some h
      have hreg := R.reg x
      rw [hx] at hreg
      obtain ⟨cb, e1, e2, e3⟩ := hreg
      have hh := R.sim.holds (.inr v) cb _ e1 (.inl ⟨x, n, cs, hx, rfl⟩)
      have hlen := R.eok.len x v n cs hx
      cases hag : isAgg' C.P t with
      | true =>
        rw [hag] at h
        simp only [cond_true] at h
        obtain ⟨hn, h⟩ := cond_some h
        have hn := Nat.eq_of_beq_eq_true hn
        obtain ⟨ds, vs, hk, hr, hrun⟩ := resK_run R h
        obtain ⟨vc, hv, _, hvr, h1⟩ := holds_cells (P := C.P) hh (p := 0) (n := C.P.cellsOf t) (by omega)
        rw [e2, Nat.zero_add] at hv
        rw [List.drop_zero, List.take_of_length_le (by omega)] at hvr h1
        refine ⟨_, _, hk, .cons _ _ _ _ (.agg cs vc hvr h1) hr, mapM_run ?_ hrun⟩
        have := run_loadVar_agg ht hag ⟨cb.b, 0, none⟩ w hv
        show (do loadVar t (← asAddr (a.tmps.getD x undef)) : Sem Value).run C.P w = _
        rw [e3]
        simp only [asAddr, Sem.run_bind, Sem.run_pure, Result.andThen_ok]
        exact this
      | false =>
        rw [hag] at h
        simp only [cond_false] at h
        obtain ⟨d, hd, h⟩ := nth_some h
        obtain ⟨ds, vs, hk, hr, hrun⟩ := resK_run R h
        obtain ⟨y, hv, hvr, _⟩ := holds_one (P := C.P) hh hd
        rw [e2, Nat.zero_add] at hv
        refine ⟨_, _, hk, .cons _ _ _ _ hvr hr, mapM_run ?_ hrun⟩
        have := run_loadVar_one ht hag ⟨cb.b, 0, none⟩ w hv
        show (do loadVar t (← asAddr (a.tmps.getD x undef)) : Sem Value).run C.P w = _
        rw [e3]
        simp only [asAddr, Sem.run_bind, Sem.run_pure, Result.andThen_ok]
        exact this
    | _ => rw [hx] at h; cases h

theorem results_run {fn : Func} {tmps : Array Value} {P : Program} {w : World} {vs : List Value} (h : (fn.results.toList.mapM (resSem tmps)).run P w = .ok vs w) :
    (results fn tmps).run P w = .ok (if h : vs.length = 1 then vs[0] else .tuple vs.toArray) w := by
  have e : results fn tmps = (fn.results.mapM (resSem tmps) >>= fun vs => pure (if h : vs.size = 1 then vs[0] else .tuple vs)) := by
    unfold results
    congr 1
  rw [e, Array.mapM_eq_mapM_toList]
  simp [h]

/-- What is frozen. -/
theorem stAB_frz (b : Nat) (s : St) (i : Nat) : stAB (frzFrom b s) i = if i < b then stAB s i else (stAB s i).map fun ab => match ab with | .cells _ cs => .cells true cs | x => x := by
  unfold stAB frzFrom
  by_cases h : i < b
  · rw [if_pos h]
    by_cases h2 : i < s.length
    · rw [List.getElem?_append_left (by simp; omega), List.getElem?_take, if_pos h]
    · rw [List.getElem?_append_right (by simp; omega), List.getElem?_eq_none (by simp; omega), List.getElem?_eq_none (by omega)]
  · rw [if_neg h]
    by_cases h3 : b ≤ s.length
    · rw [List.getElem?_append_right (by simp; omega), List.getElem?_map, List.getElem?_drop]
      rw [List.length_take, Nat.min_eq_left h3, show b + (i - b) = i by omega]
      cases hs : s[i]? with
      | none => rfl
      | some x => cases x <;> rfl
    · rw [List.getElem?_append_right (by simp; omega), List.getElem?_eq_none (by simp; omega), List.getElem?_eq_none (by omega)]; rfl
theorem frz_length (b : Nat) (s : St) : (frzFrom b s).length = s.length := by
  unfold frzFrom; simp; omega

theorem CallPost.frz {ψ0 : Ps} {s0 : St} {w0 : World} {ψ' : Ps} (b : Nat) (h : CallPost C ψ0 s0 w0 ψ' s w) : CallPost C ψ0 s0 w0 ψ' (frzFrom b s) w := by
  have key : ∀ h ab, CS (frzFrom b s) h ab → ∃ ab', CS s h ab' ∧ (ab.sole = true → ab'.sole = true) ∧ ∀ (C : Cfg) ψ w cb, Holds C ψ w cb ab' → Holds C ψ w cb ab := by
    rintro h ab ⟨i, rfl, e⟩
    rw [stAB_frz] at e
    split at e
    · exact ⟨ab, ⟨i, rfl, e⟩, fun h => h, fun _ _ _ _ h => h⟩
    · cases hs : stAB s i with
      | none => rw [hs] at e; cases e
      | some x =>
        rw [hs] at e
        cases x with
        | cells fz cs =>
          simp only [Option.map_some, Option.some.injEq] at e
          subst e
          exact ⟨_, ⟨i, rfl, hs⟩, (fun h => by cases h), fun C ψ w cb h => ⟨h.1, h.2.1, h.2.2.1, (fun h => by cases h)⟩⟩
        | iter l p =>
          simp only [Option.map_some, Option.some.injEq] at e
          subst e
          exact ⟨_, ⟨i, rfl, hs⟩, fun h => h, fun _ _ _ _ h => h⟩
  refine ⟨h.sim.cast fun k cb ab e q => ?_, h.ext.cast h.ext.mono (fun _ _ e => e) fun k cb ab _ q => ?_, fun k cb e => ?_⟩
  · obtain ⟨ab', q', h1, h2⟩ := key k ab q
    exact ⟨e, ab', q', h1, h2 C ψ' w cb⟩
  · obtain ⟨ab', q', h1, _⟩ := key k ab q
    exact ⟨ab', q', h1⟩
  · rw [frz_length]; exact h.news k cb e

/-- What an answer of the machine means for a function's call. -/
def CallRes (C : Cfg) (fid : FuncId) (args : List DV) (s : St) (out : Out (List DV) × St) : Prop :=
  s.length ≤ out.2.length ∧ ∀ ψ w vs, Sim C ψ (CS s) w → Blks ψ w → Glob C ψ → VRs C ψ args vs → (∀ v, ψ (.inr v) = none) → (∀ i, s.length ≤ i → i < out.2.length → ψ (.inl i) = none) →
      CallSem C.P fid vs.toArray w fun
        | .returned v, w' => ∃ ds, out.1 = .val ds ∧ ∃ ψ', CallPost C ψ s w ψ' out.2 w' ∧ RetV C ψ' ds v
        | .panicked _, w' => out.1 = .pan ∧ ∃ ψ', CallPost C ψ s w ψ' out.2 w'
        | .outgrown, _ => False

/-- What is asked of a seat's functions besides. -/
structure FunOk (C : Cfg) : Prop where
  cfg : CfgOk C
  fol : C.P.follows .mixedOrders = true

theorem body_ok {C : Cfg} (hF : FunOk C) {c : Oracle} (hc : OracleOK C c) {n : Nat} {A : FA} {fn : Func} {fid : FuncId} (hfn : C.P.funcs[fid]? = some fn) (hname : (fn.name == "runtime.NumGoroutine") = false)
    {args : List DV} {s : St} {out : Out (List DV) × St} (h : bodyM C A fn c n args s = some out) : CallRes C fid args s out := by
  unfold bodyM at h
  cases hb : fn.body with
  | none => rw [hb] at h; cases h
  | some code =>
    rw [hb] at h
    simp only at h
    obtain ⟨hok, h⟩ := cond_some h
    rw [Bool.and_eq_true] at hok
    obtain ⟨hok, hsz⟩ := hok
    have hsz := Nat.le_of_ble_eq_true hsz
    obtain ⟨ds, h, hl1, hl2, hcast⟩ := dlist_some h
    have hlen : ds.length = fn.params.size + fn.nfree := by rw [hl2]; simp
    -- both ways of ending
    have main : ∀ (kr : Env → M (List DV)) (fz : St → St), (∀ s, (fz s).length = s.length) → (∀ ψ0 s0 w0 ψ' s w, CallPost C ψ0 s0 w0 ψ' s w → CallPost C ψ0 s0 w0 ψ' (fz s) w) →
        (∀ E s' r, kr E s' = some r → resK C E fn.results.toList (fun ds s => some (.val ds, fz s)) s' = some r) →
        exec C A.pr c n code A.ann kr (fun _ _ => fail) kr ⟨0, argsE 0 ds⟩ s = some out → CallRes C fid args s out := by
      intro kr fz hfl hfz hkr h
      have resl : ∀ {E : Env} {s' : St} {r : Out (List DV) × St}, kr E s' = some r → ∃ ds, r = (.val ds, fz s') := by
        intro E s' r h'
        have h' := hkr E s' r h'
        generalize fn.results.toList = l at h'
        have : ∀ (l : List ResultVar) (K : List DV → M (List DV)), resK C E l K s' = some r → ∃ ds, K ds s' = some r := by
          intro l
          induction l with
          | nil => exact fun K h => ⟨[], h⟩
          | cons x l ih =>
            intro K h
            cases x with
            | tmp t =>
              simp only [resK] at h
              obtain ⟨d, _, h⟩ := valK_some h
              obtain ⟨ds, h⟩ := ih _ h
              exact ⟨_, h⟩
            | cell x t =>
              simp only [resK] at h
              cases hx : E.get x with
              | loc v n cs =>
                rw [hx] at h
                simp only at h
                obtain ⟨td, _, h⟩ := tyK_some h
                cases hag : isAgg' C.P t with
                | true =>
                  rw [hag] at h
                  obtain ⟨_, h⟩ := cond_some h
                  obtain ⟨ds, h⟩ := ih _ h
                  exact ⟨_, h⟩
                | false =>
                  rw [hag] at h
                  obtain ⟨d, _, h⟩ := nth_some h
                  obtain ⟨ds, h⟩ := ih _ h
                  exact ⟨_, h⟩
              | _ => rw [hx] at h; cases h
        obtain ⟨ds, h'⟩ := this l _ h'
        simp only [Option.some.injEq] at h'
        exact ⟨ds, h'.symm⟩
      have lk : Lk kr out := fun E s' h' => by
        obtain ⟨ds, e⟩ := resl h'
        rw [e, hfl]; exact Nat.le_refl _
      refine ⟨exec_len hF.cfg hc code A.ann kr _ kr lk (fun i E s h => by cases h) lk _ s h, fun ψ w vs hsim hblks hglob hargs hinr hwin => ?_⟩
      have hvs := hcast C ψ vs hargs
      have hvl := hvs.len
      unfold CallSem
      have hcall : (callFunc fid vs.toArray).run C.P w = .ok (.enter fid vs.toArray) w := by
        have hname' : ¬ fn.name = "runtime.NumGoroutine" := by simpa using hname
        simp [callFunc, hfn, hname', hb]
      rw [hcall]
      refine calls_of_wp hfn hb ?_
      let f : Fr := ⟨out.2.length, fn.ntmps, ψ, s, w⟩
      have get0 : ∀ t, (⟨0, argsE 0 ds⟩ : Env).get t = match ds[t]? with | some d => .v d | none => .u := by
        intro t
        have := look_args 0 ds t
        simp only [Nat.zero_le, if_true, Nat.sub_zero] at this
        exact this
      have nov : ∀ t v, ((⟨0, argsE 0 ds⟩ : Env).get t).ver ≠ some v := by
        intro t v
        rw [get0]
        cases ds[t]? <;> simp [Ent.ver]
      have cr0 : ∀ h ab, CR ⟨0, argsE 0 ds⟩ s h ab → CS s h ab := by
        intro h ab c
        cases h with
        | inl i => exact ⟨i, rfl, c⟩
        | inr v =>
          rcases c with ⟨t, n, cs, e, _⟩ | ⟨t, l, p, e, _⟩
          · exact absurd (by rw [e]; rfl) (nov t v)
          · exact absurd (by rw [e]; rfl) (nov t v)
      have R : Rel C f ψ ⟨0, argsE 0 ds⟩ s { tmps := vs.toArray ++ Array.replicate (fn.ntmps - vs.toArray.size) Go.undef, defers := [] } w := by
        refine ⟨hsim.weaken fun _ _ _ _ c => cr0 _ _ c, ⟨fun t v e => absurd e (nov t v), fun t r v o e => ?_, fun t v n cs e => absurd (by rw [e]; rfl) (nov t v), fun t t' v e _ => absurd e (nov t v)⟩, hblks, hglob, fun t => ?_, ?_, rfl, hwin, fun v _ => hinr v, (Ext.refl ψ (CS s) w).weaken fun _ _ _ _ c => cr0 _ _ c, fun i cb e => .inl e, Nat.le_refl _, hinr⟩
        · rw [get0] at e
          cases hd : ds[t]? <;> rw [hd] at e <;> cases e
        · rw [get0]
          cases hd : ds[t]? with
          | none => trivial
          | some d =>
            obtain ⟨v, hv, hr⟩ := hvs.get hd
            have : (vs.toArray ++ Array.replicate (fn.ntmps - vs.toArray.size) Go.undef).getD t Go.undef = v := by
              have hlt := (List.getElem?_eq_some_iff.1 hv).1
              rw [Array.getD_eq_getD_getElem?, Array.getElem?_append_left (by simpa using hlt)]
              simp [hv]
            show EntR C ψ (.v d) _
            rw [this]; exact hr
        · show (vs.toArray ++ Array.replicate (fn.ntmps - vs.toArray.size) Go.undef).size = fn.ntmps
          simp only [Array.size_append, Array.size_replicate, List.size_toArray]
          omega
      have done : ∀ E' s' ψ' a' w', kr E' s' = some out → Rel C f ψ' E' s' a' w' → a'.defers = [] ∧ ∃ v, (results fn a'.tmps).run C.P w' = .ok v w' ∧ ∃ ds, out.1 = .val ds ∧ ∃ ψ', CallPost C ψ s w ψ' out.2 w' ∧ RetV C ψ' ds v := by
        intro E' s' ψ' a' w' h' R'
        obtain ⟨ds', vs', hk, hr, hrun⟩ := resK_run R' (hkr E' s' out h')
        simp only [Option.some.injEq] at hk
        refine ⟨R'.defs, _, results_run hrun, ds', by rw [← hk], inPs ψ', ?_, ?_⟩
        · rw [← hk]; exact hfz _ _ _ _ _ _ R'.callPost
        · have hr' : VRs C (inPs ψ') ds' vs' := inPs_vrs hr
          by_cases h1 : vs'.length = 1
          · rw [dif_pos h1]
            cases hr' with
            | nil => cases h1
            | cons d v ds vs a b =>
              cases b with
              | nil => exact .inl ⟨d, rfl, a⟩
              | cons _ _ _ _ _ _ => simp at h1
          · rw [dif_neg h1]
            exact .inr ⟨by rw [hr'.len]; exact h1, _, rfl, hr'⟩
      refine exec_wp hF.cfg hc hF.fol (f := f) (Nat.le_refl _) code A.ann kr _ kr hok lk (fun i E s h => by cases h) lk _ s h ψ _ w _ R ?_ ?_ ?_ ?_
      · intro E' s' ψ' a' w' h' R' _; exact done E' s' ψ' a' w' h' R'
      · intro i E' s' ψ' a' w' h' _ _; cases h'
      · intro E' s' ψ' a' w' h' R'; exact done E' s' ψ' a' w' h' R'
      · intro ch a' w' s' e hp
        refine ⟨hp.defs, by rw [e], ?_⟩
        obtain ⟨ψ', hp'⟩ := hp.post
        exact ⟨ψ', by rw [e]; exact hp'⟩
    cases hz : A.frz with
    | true =>
      rw [hz] at h
      simp only [cond_true, M.base] at h
      exact main _ (frzFrom s.length) (frz_length _) (fun _ _ _ _ _ _ h => h.frz _) (fun E s' r h => h) h
    | false =>
      rw [hz] at h
      simp only [cond_false] at h
      exact main _ id (fun _ => rfl) (fun _ _ _ _ _ _ h => h) (fun E s' r h => h) h
end

/-! ### A seat's functions -/
/-- What a function's body in Lean must do for it. -/
def BodyOK (C : Cfg) (b : Oracle → Nat → List DV → M (List DV)) (f : FuncId) : Prop :=
  ∀ c n args s out, OracleOK C c → b c n args s = some out → CallRes C f args s out

theorem BodyOK.of_tie {C : Cfg} (hF : FunOk C) {A : FA} {fn : Func} {f : FuncId} {b : Oracle → Nat → List DV → M (List DV)} (hfn : C.P.funcs[f]? = some fn) (hname : (fn.name == "runtime.NumGoroutine") = false) (ht : bodyM C A fn = b) : BodyOK C b f :=
  fun c n args s out hc h => body_ok hF hc hfn hname (by rw [ht]; exact h)

/-- All functions: each by its body; no others. -/
theorem run_ok {C : Cfg} {Bd : Bodies} (hB : ∀ f, C.cov f = true → BodyOK C (Bd (C.fn f)) f) (hno : ∀ g, (∀ f, C.cov f = true → C.fn f ≠ g) → ∀ c n args s, Bd g c n args s = none) : ∀ n, OracleOK C (run Bd n)
  | 0 => fun g args s out h => by cases h
  | n + 1 => fun g args s out h => by
    by_cases e : ∃ f, C.cov f = true ∧ C.fn f = g
    · obtain ⟨f, h1, rfl⟩ := e
      refine ⟨(hB f h1 _ _ _ _ _ (run_ok hB hno n) h).1, fun f' h2 h3 => ?_⟩
      have h' : Bd (C.fn f') (run Bd n) n args s = some out := by rw [h3]; exact h
      exact (hB f' h2 _ _ _ _ _ (run_ok hB hno n) h').2
    · have := hno g (fun f h1 h2 => e ⟨f, h1, h2⟩) (run Bd n) n args s
      have h' : Bd g (run Bd n) n args s = some out := h
      rw [this] at h'; cases h'
end Go.Gv
