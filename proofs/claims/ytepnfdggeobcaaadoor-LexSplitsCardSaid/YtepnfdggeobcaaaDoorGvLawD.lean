/- The row's proof, for a law with laid variables. -/
import Derived.Test.YtepnfdggeobcaaaDoorGvLaw
import Derived.Test.YtepnfdggeobcaaaDoorGvGlob
import Derived.LaidMore
import Derived.Lay
import Derived.SevenTiedAt
import Derived.Stop.Joined
namespace Go.Gv
open Go.RowKit Go.ChangeShapes Go.WideShapes

theorem law_lifted_laid {C : Cfg} {Ck : Checked} (hck : C.P = Ck.prog) {os : Os} (started : os.Started) {f : FuncId} {fn : Func} {s : ChangeSpec} {H : Type} {enc : TypeId × Value → H} {laid : List (String × DataW Unit)}
    (own : ownKnob Ck.prog.godebug = none) (noInit : Ck.prog.inits.idxOf? f = none) (hfn : Ck.prog.funcs[f]? = some fn) (laidOut : laidOutB Ck.prog = true)
    (hvars : s.vars = []) {rt : TypeId} (hres : fn.resultTypes = #[rt]) (hrt : Ck.prog.underlying rt = some .bool) (hread : fn.params.toList.all (fun t => Ck.prog.readableRec t && decide (t < Ck.prog.types.size)) = true)
    (hspec : ∀ ds : List (DataW H), ds.length = fn.params.size → (s.fn H ds).results = [.lit (.bool true)] ∧ (s.fn H ds).args = ds ∧ (s.fn H ds).vars = [])
    (witness : ∃ (w : World) (tape : Tape) (i : Input), w.os = os ∧ (w.forCall tape i).Shaped Ck.prog ∧ i.vars = [] ∧ Input.okWide Ck.prog (w.forCall tape i) .any w.heap.size f i ∧
      ((s.pre enc Ck.prog fn [] false (w.forCall tape i).memory i.args ∧ laidMetH Ck.prog laid (w.forCall tape i).memory) ∧ sizedMet enc Ck.prog fn (OpenSpec.ofChange s) false (w.forCall tape i).memory i.args) ∧
      ({} : Assume).holds Ck.prog (lone (Frame.enter Ck.prog f i.args .normal) [] (w.forCall tape i)))
    (calls : ∀ (W : World) (args : List Value) (ds : List (DataW H)) (p : List MemPlace) (base : Nat), laidMetH C.P laid W → (∀ (j : Nat) t v, fn.params[j]? = some t → args[j]? = some v → Value.okWide C.P W .any base t v) →
      DataW.TrodAll enc C.P W 0 (fun _ => true) true fn.params.toList args ds p → Calls C.P f args.toArray W fun e W' => e = .returned (.bool true) ∧ Below W.heap.size W W') :
    ReturnsInHanded {} Ck os f .any (fun w args => (s.pre enc Ck.prog fn [] false w args ∧ laidMetH Ck.prog laid w) ∧ sizedMet enc Ck.prog fn (OpenSpec.ofChange s) false w args) (s.post enc Ck.prog fn false true false false) := by
  refine returnsInHanded_of_change_and (C := Ck) (X := fun w _ => laidMetH Ck.prog laid w) (fun _ _ _ hh h => h.of_heap hh) own started noInit hfn witness ?_
  intro W base args ds gs before hval hW _ _ hL _
  have hW' := hW
  obtain ⟨p, q, hA, hV, rfl, hfz, hnd⟩ := hW
  rw [hvars] at hV
  obtain ⟨rfl, rfl⟩ := trodVars_none hV
  have hlen := trodAll_len _ _ _ _ hA
  rw [Array.length_toList] at hlen
  obtain ⟨h1, h2, h3⟩ := hspec ds hlen
  have hc := calls W args.toList ds p base (by rw [hck]; exact hL) (fun j t v a b => by rw [hck]; exact hval j t v a (by rw [← Array.getElem?_toList]; exact b)) (by rw [hck]; exact hA)
  rw [hck] at hc
  refine Calls.mono hc fun e W' ⟨he, bel⟩ => ?_
  subst he
  refine ⟨_, rfl, ds, [], _, [], p, [], hW', ?_, ?_, ?_, bel.frame _, fun h => by cases h⟩
  · rw [List.append_nil, h1, hres]
    exact trodAll_mk1 (shut_bool hrt _)
  · rw [List.append_nil, h2]
    have hr : ∀ t ∈ fn.params.toList, C.P.readableRec t = true ∧ t < C.P.types.size := by
      rw [hck]
      intro t ht
      have := List.all_eq_true.1 hread t ht
      rw [Bool.and_eq_true, decide_eq_true_eq] at this
      exact this
    have := trodAll_stays (C := C) (enc := enc) (by rw [hck]; exact laidOut) bel fn.params.toList args.toList ds p hr (by rw [hck]; exact hA)
    rw [hck] at this
    exact this
  · rw [List.append_nil, h3, hvars]; rfl

theorem has_all {P : Nat → Bool} : ∀ {l : List Nat}, l.all P = true → ∀ g, has l g = true → P g = true
  | [], _, g, h => by cases h
  | a :: l, hl, g, h => by
    rw [List.all_cons, Bool.and_eq_true] at hl
    simp only [has, Bool.or_eq_true] at h
    rcases h with h | h
    · rw [← Nat.eq_of_beq_eq_true h]; exact hl.1
    · exact has_all hl.2 g h

/-- The card's clause on the parameters. -/
theorem noStandIn {P : Program} {fn : Func} {l : List TypeId} (hp : fn.params.toList = l) (h : l.all (fun u => !P.wantsStandIn u) = true) : ∀ (j : Nat) t, fn.params[j]? = some t → P.wantsStandIn t = false := by
  intro j t ht
  have hm : t ∈ l := by rw [← hp]; exact Array.mem_toList_iff.2 (Array.mem_of_getElem? ht)
  simpa using List.all_eq_true.1 h t hm
end Go.Gv
