/- A law: what the machine answers to all data, its row says. -/
import Derived.Test.YtepnfdggeobcaaaDoorGvOpen
import Derived.ProofKit
import Derived.OpenShut
import Derived.ShutString
import Derived.ChangeOld
import Derived.Below
import Derived.SizedLaws
namespace Go.Gv
open Go.RowKit Go.ChangeShapes Go.WideShapes

/-- Arguments that are data; is one a struct? -/
def RdA (s : St) : List (Bool × Ty) → List DV → Prop
  | [], args => args = []
  | (ag, ty) :: r, args => ∃ cs d rest, Rd s ty cs ∧ RdA s r rest ∧ args = d :: rest ∧ (bif ag then d = .agg cs else cs = [d])

/-- All blocks are nobody's to write. -/
def Frz (s : St) : Prop := ∀ (i : Nat) (b : Option Blk), s[i]? = some b → ∃ cs, b = some ⟨true, cs⟩

section
variable {C : Cfg} {H : Type} {enc : TypeId × Value → H} {W : World}

theorem noAgg {P : Program} {r : Reach} {base : Nat} {t : TypeId} {cs : Array Value} : Cell.okWide P W r base t (.agg cs) → False := by
  unfold Cell.okWide Cell.ok
  cases P.underlying t with
  | none => exact id
  | some d => cases d <;> exact id
theorem noTuple {P : Program} {r : Reach} {base : Nat} {t : TypeId} {cs : Array Value} : Cell.okWide P W r base t (.tuple cs) → False := by
  unfold Cell.okWide Cell.ok
  cases P.underlying t with
  | none => exact id
  | some d => cases d <;> exact id
theorem okSlice {P : Program} {r : Reach} {base : Nat} {t : TypeId} {a : Addr} {l c : Nat} : Cell.okWide P W r base t (.slice (some a) l c) → 0 < W.heap.size := by
  have fin : ∀ e, World.has P W r base a e c → 0 < W.heap.size := by
    rintro e ⟨_, _, row, cells, hs, _⟩
    unfold World.shape? at hs
    cases hb : W.heap[a.block]? with
    | none => rw [hb] at hs; cases hs
    | some o => exact Nat.lt_of_le_of_lt (Nat.zero_le _) (lt_of_get hb)
  unfold Cell.okWide Cell.ok
  cases P.underlying t with
  | none => exact False.elim
  | some d =>
    cases d with
    | slice e => exact fun h => fin e h.2.2
    | _ => exact False.elim

theorem okWide_mem {t : TypeId} {v : Value} {base : Nat} (h : Value.okWide C.P W .any base t v) : Mem W v.cells.toList := by
  unfold Value.okWide at h
  have row : ∀ {cs : Array Value}, Row.okWide C.P W .any base t cs → Mem W cs.toList := by
    rintro cs ⟨ts, _, _, h⟩ v hv a l c e
    obtain ⟨i, hi⟩ := List.getElem?_of_mem hv
    rw [Array.getElem?_toList] at hi
    obtain ⟨u, _, hc⟩ := h i v hi
    subst e
    exact okSlice hc
  have plain : Cell.okWide C.P W .any base t v → Mem W v.cells.toList := by
    intro h x hx a l c e
    cases v with
    | agg cs => exact (noAgg h).elim
    | tuple cs => exact (noTuple h).elim
    | _ =>
      simp only [Value.cells, List.mem_singleton] at hx
      subst hx
      first | (cases e; done) | (cases e; exact okSlice h)
  cases hu : C.P.underlying t with
  | none => rw [hu] at h; exact plain h
  | some d =>
    rw [hu] at h
    cases d with
    | struct fs =>
      obtain ⟨cs, rfl, _, h⟩ := h
      exact row h
    | array n e =>
      obtain ⟨cs, rfl, _, h⟩ := h
      exact row h
    | _ => exact plain h

theorem okWide_form {t : TypeId} {v : Value} {base : Nat} (h : Value.okWide C.P W .any base t v) : (isAgg' C.P t = true ∧ ∃ cs, v = .agg cs) ∨ (isAgg' C.P t = false ∧ v.cells = #[v]) := by
  unfold Value.okWide at h
  have plain : Cell.okWide C.P W .any base t v → v.cells = #[v] := by
    intro h
    cases v with
    | agg cs => exact (noAgg h).elim
    | tuple cs => exact (noTuple h).elim
    | _ => rfl
  unfold isAgg'
  cases hu : C.P.underlying t with
  | none => rw [hu] at h; exact .inr ⟨rfl, plain h⟩
  | some d =>
    rw [hu] at h
    cases d with
    | struct fs => obtain ⟨cs, rfl, _, _⟩ := h; exact .inl ⟨rfl, cs, rfl⟩
    | array n e => obtain ⟨cs, rfl, _, _⟩ := h; exact .inl ⟨rfl, cs, rfl⟩
    | _ => exact .inr ⟨rfl, plain h⟩

theorem open_all {base : Nat} : ∀ (ts : List TypeId) (tys : List (Bool × Ty)) (vs : List Value) (ds : List (DataW H)) (p : List MemPlace) (s : St) (ψ : Ps), ts.map (fun t => (tyOf C.P 20 t).map fun ty => (isAgg' C.P t, ty)) = tys.map some →
    DataW.TrodAll enc C.P W 0 (fun _ => true) true ts vs ds p → (∀ (j : Nat) t v, ts[j]? = some t → vs[j]? = some v → Value.okWide C.P W .any base t v) → OI C W s ψ →
    ∃ s' ψ' args, OI C W s' ψ' ∧ OG s s' ψ ψ' ∧ RdA s' tys args ∧ VRs C ψ' args vs
  | [], tys, vs, ds, p, s, ψ, hty, h, _, I => by
    cases tys with
    | cons _ _ => cases hty
    | nil =>
      obtain ⟨rfl, _, _⟩ := trodAll_nil h
      exact ⟨s, ψ, [], I, .refl s ψ, rfl, .nil⟩
  | t :: ts, tys, vs, ds, p, s, ψ, hty, h, hok, I => by
    cases tys with
    | nil => cases hty
    | cons x tys =>
      simp only [List.map_cons, List.cons.injEq] at hty
      obtain ⟨hx, hty⟩ := hty
      obtain ⟨v, vs', d, ds', p1, q1, rfl, rfl, rfl, h1, h2⟩ := trodAll_cons h
      have hv := hok 0 t v rfl rfl
      obtain ⟨fuel, hf⟩ := h1
      cases ht : tyOf C.P 20 t with
      | none => rw [ht] at hx; cases hx
      | some ty =>
        rw [ht] at hx
        cases hx
        obtain ⟨s1, ψ1, cs, I1, G1, r1, v1⟩ := open_trod fuel 20 t ty _ _ s ψ ht hf (okWide_mem hv) I
        obtain ⟨s2, ψ2, args, I2, G2, r2, v2⟩ := open_all ts tys vs' ds' q1 s1 ψ1 hty h2 (fun j t v a b => hok (j + 1) t v (by simpa using a) (by simpa using b)) I1
        rcases okWide_form hv with ⟨hag, c, rfl⟩ | ⟨hag, hc⟩
        · refine ⟨s2, ψ2, .agg cs :: args, I2, G1.trans G2, ⟨cs, _, args, r1.mono G2.st, r2, rfl, by rw [hag]; rfl⟩, .cons _ _ _ _ (.agg _ _ ?_ r1.one) v2⟩
          exact v1.mono fun _ _ e => G2.ps _ _ e
        · rw [hc] at v1
          cases v1 with
          | cons d0 _ _ _ a b =>
            cases b
            exact ⟨s2, ψ2, d0 :: args, I2, G1.trans G2, ⟨[d0], d0, args, r1.mono G2.st, r2, rfl, by rw [hag]; rfl⟩, .cons _ _ _ _ (a.mono fun _ _ e => G2.ps _ _ e) v2⟩

theorem OI.empty (C : Cfg) (W : World) : OI C W [] (fun _ => none) :=
  ⟨(fun _ _ _ e => by cases e), (fun _ _ e => by cases e), (fun i b e => by cases i <;> cases e), fun _ _ => rfl, fun _ => rfl⟩

/-- What the machine answers, the model's call answers. -/
theorem law_calls {Bd : Bodies} (hO : ∀ n, OracleOK C (run Bd n)) {f : FuncId} {fn : Func} (hcov : C.cov f = true) (hfn : C.P.funcs[f]? = some fn) (hname : (fn.name == "runtime.NumGoroutine") = false) (hbody : fn.body.isSome = true)
    {s0 : St} {ψ0 : Ps} (I0 : OI C W s0 ψ0) (hg : Glob C ψ0)
    {tys : List (Bool × Ty)} (hty : fn.params.toList.map (fun t => (tyOf C.P 20 t).map fun ty => (isAgg' C.P t, ty)) = tys.map some)
    (law : ∀ s args, Frz s → (∀ (i : Nat) (b : Option Blk), s0[i]? = some b → s[i]? = some b) → RdA s tys args → ∃ n s', run Bd n (C.fn f) args s = some (.val [.bool true], s'))
    {args : List Value} {ds : List (DataW H)} {p : List MemPlace} {base : Nat} (hval : ∀ (j : Nat) t v, fn.params[j]? = some t → args[j]? = some v → Value.okWide C.P W .any base t v)
    (hA : DataW.TrodAll enc C.P W 0 (fun _ => true) true fn.params.toList args ds p) :
    Calls C.P f args.toArray W fun e W' => e = .returned (.bool true) ∧ Below W.heap.size W W' := by
  obtain ⟨s, ψ, dv, I, G, hr, hv⟩ := open_all (enc := enc) fn.params.toList tys args ds p s0 ψ0 hty hA (fun j t v a b => hval j t v (by rw [← Array.getElem?_toList]; exact a) b) I0
  obtain ⟨n, s', hrun⟩ := law s dv I.frz G.st hr
  have nosole : ∀ {h : HId} {ab : AB}, CS s h ab → ab.sole = false := by
    rintro h ab ⟨i, rfl, e⟩
    unfold stAB at e
    cases hi : s[i]? with
    | none => rw [hi] at e; cases e
    | some b =>
      obtain ⟨cs, rfl⟩ := I.frz i b hi
      rw [hi] at e
      simp only [Option.some.injEq] at e
      subst e; rfl
  have sim : Sim C ψ (CS s) W := by
    constructor
    · rintro h cb ab e ⟨i, rfl, q⟩
      exact I.hold i cb ab e q
    · intro h cb ab h' cb' ab' _ q hs
      rw [nosole q] at hs; cases hs
  have blks : Blks ψ W := by
    intro h cb e
    cases h with
    | inl i => exact I.blks i cb e
    | inr v => rw [I.noV v] at e; cases e
  have := (hO n (C.fn f) dv s _ hrun).2 f hcov rfl ψ W args sim blks (fun g e => let ⟨cb, h1, h2⟩ := hg g e; ⟨cb, G.ps _ _ h1, h2⟩) hv I.noV (fun i h1 _ => I.fresh i h1)
  unfold CallSem at this
  have hname' : ¬ fn.name = "runtime.NumGoroutine" := by simpa using hname
  have hcall : (callFunc f args.toArray).run C.P W = .ok (.enter f args.toArray) W := by
    cases hb : fn.body with
    | none => rw [hb] at hbody; cases hbody
    | some c => simp [callFunc, hfn, hname', hb]
  rw [hcall] at this
  refine Calls.mono this fun e W' he => ?_
  cases e with
  | returned v =>
    obtain ⟨ds', e1, ψ', hp, hret⟩ := he
    cases e1
    refine ⟨?_, hp.ext.os, hp.ext.tape, hp.ext.output, hp.ext.size, fun k hk => hp.ext.keep k hk ?_⟩
    · rcases hret with ⟨d, e, r⟩ | ⟨hl, _⟩
      · cases e
        cases r
        rfl
      · exact absurd rfl hl
    · rintro ⟨h, cb, ab, _, q, hs, _⟩
      rw [nosole q] at hs; cases hs
  | panicked ch => obtain ⟨e1, _⟩ := he; cases e1
  | outgrown => exact he.elim

theorem trodAll_stays (hl : laidOutB C.P = true) {W' : World} (hb : Below W.heap.size W W') : ∀ (ts : List TypeId) (vs : List Value) (ds : List (DataW H)) (p : List MemPlace), (∀ t ∈ ts, C.P.readableRec t = true ∧ t < C.P.types.size) →
    DataW.TrodAll enc C.P W 0 (fun _ => true) true ts vs ds p → DataW.TrodAll enc C.P W' 0 (fun b => decide (b < W.heap.size)) true ts vs ds p
  | [], vs, ds, p, _, h => by
    obtain ⟨rfl, rfl, rfl⟩ := trodAll_nil h
    exact trodAll_mk0
  | t :: ts, vs, ds, p, hr, h => by
    obtain ⟨v, vs', d, ds', p1, q1, rfl, rfl, rfl, h1, h2⟩ := trodAll_cons h
    have lt : ∀ x ∈ p1, x.block < W.heap.size := by obtain ⟨m, hm⟩ := h1; exact DataW.trod_lt m _ _ _ hm
    exact trodAll_cons_mk (Below.trod hl (hr t (by simp)).1 (hr t (by simp)).2 h1 hb lt) (trodAll_stays hl hb ts vs' ds' q1 (fun t h => hr t (by simp [h])) h2)

theorem trodAll_len : ∀ (ts : List TypeId) (vs : List Value) (ds : List (DataW H)) (p : List MemPlace) {P : Program} {spare : Nat → Bool}, DataW.TrodAll enc P W 0 spare true ts vs ds p → ds.length = ts.length
  | [], vs, ds, p, _, _, h => by obtain ⟨rfl, rfl, rfl⟩ := trodAll_nil h; rfl
  | t :: ts, vs, ds, p, _, _, h => by
    obtain ⟨v, vs', d, ds', p1, q1, rfl, rfl, rfl, _, h2⟩ := trodAll_cons h
    simp [trodAll_len ts vs' ds' q1 h2]
end

/-- The row's proof, for a law without laid variables. -/
theorem law_lifted {C : Cfg} {Ck : Checked} (hck : C.P = Ck.prog) {os : Os} (started : os.Started) {f : FuncId} {fn : Func} {s : ChangeSpec} {H : Type} {enc : TypeId × Value → H}
    (own : ownKnob Ck.prog.godebug = none) (noInit : Ck.prog.inits.idxOf? f = none) (hfn : Ck.prog.funcs[f]? = some fn) (laidOut : laidOutB Ck.prog = true)
    (hvars : s.vars = []) {rt : TypeId} (hres : fn.resultTypes = #[rt]) (hrt : Ck.prog.underlying rt = some .bool) (hread : fn.params.toList.all (fun t => Ck.prog.readableRec t && decide (t < Ck.prog.types.size)) = true)
    (hspec : ∀ ds : List (DataW H), ds.length = fn.params.size → (s.fn H ds).results = [.lit (.bool true)] ∧ (s.fn H ds).args = ds ∧ (s.fn H ds).vars = [])
    (witness : ∃ (w : World) (tape : Tape) (i : Input), w.os = os ∧ (w.forCall tape i).Shaped Ck.prog ∧ i.vars = [] ∧ Input.okWide Ck.prog (w.forCall tape i) .any w.heap.size f i ∧
      s.pre6 enc Ck.prog fn [] false (w.forCall tape i).memory i.args ∧ ({} : Assume).holds Ck.prog (lone (Frame.enter Ck.prog f i.args .normal) [] (w.forCall tape i)))
    (calls : ∀ (W : World) (args : List Value) (ds : List (DataW H)) (p : List MemPlace) (base : Nat), (∀ (j : Nat) t v, fn.params[j]? = some t → args[j]? = some v → Value.okWide C.P W .any base t v) →
      DataW.TrodAll enc C.P W 0 (fun _ => true) true fn.params.toList args ds p → Calls C.P f args.toArray W fun e W' => e = .returned (.bool true) ∧ Below W.heap.size W W') :
    ReturnsInHanded {} Ck os f .any (s.pre6 enc Ck.prog fn [] false) (s.post enc Ck.prog fn false true false false) := by
  refine returnsInHanded_of_change_sized own started noInit hfn witness ?_
  intro W base args ds gs before hval hW _ _ _
  have hW' := hW
  obtain ⟨p, q, hA, hV, rfl, hfz, hnd⟩ := hW
  rw [hvars] at hV
  obtain ⟨rfl, rfl⟩ := trodVars_none hV
  have hlen := trodAll_len _ _ _ _ hA
  rw [Array.length_toList] at hlen
  obtain ⟨h1, h2, h3⟩ := hspec ds hlen
  have hc := calls W args.toList ds p base (fun j t v a b => by rw [hck]; exact hval j t v a (by rw [← Array.getElem?_toList]; exact b)) (by rw [hck]; exact hA)
  rw [hck] at hc
  refine Calls.mono hc fun e W' ⟨he, bel⟩ => ?_
  subst he
  refine ⟨_, rfl, ds, [], _, [], p, [], hW', ?_, ?_, ?_, bel.frame _, fun h => by cases h⟩
  · rw [List.append_nil, h1, hres]
    exact trodAll_mk1 (shut_bool hrt _)
  · rw [List.append_nil, h2]
    have hr : ∀ t ∈ fn.params.toList, C.P.readableRec t = true ∧ t < C.P.types.size := by
      rw [hck]
      intro t ht
      have := List.all_eq_true.1 hread t ht
      rw [Bool.and_eq_true, decide_eq_true_eq] at this
      exact this
    have := trodAll_stays (C := C) (enc := enc) (by rw [hck]; exact laidOut) bel fn.params.toList args.toList ds p hr (by rw [hck]; exact hA)
    rw [hck] at this
    exact this
  · rw [List.append_nil, h3, hvars]; rfl
end Go.Gv
