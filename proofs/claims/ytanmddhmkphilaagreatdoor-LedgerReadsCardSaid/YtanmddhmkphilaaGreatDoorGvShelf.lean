/- Functions of the library whose contracts the kit has proved: bodies of our own, joined to them. -/
import Derived.Test.YtanmddhmkphilaaGreatDoorGvZRun
import Derived.Below
import Derived.Lib.Join
import Derived.Shelf.Strings.OnBuilder
namespace Go.Gv
open Go.RowKit
/-- A call that leaves what was there as it was. -/
theorem callPost_below {C : Cfg} {ψ : Ps} {s : St} {w w' : World} (hs : Sim C ψ (CS s) w) (hb : Blks ψ w) (b : Below w.heap.size w w') : CallPost C ψ s w ψ s w' := by
  refine ⟨⟨fun h cb ab e q => (hs.holds h cb ab e q).same (fun _ _ e => e) (b.block _ (hb _ _ e)), hs.excl⟩, ?_, fun h cb e => .inl e⟩
  exact ⟨fun _ _ e => e, fun h cb e => .inl e, b.size, fun k hk _ => b.block k hk, fun _ h => .inl h, fun _ _ x _ q => ⟨x, q⟩, b.tape, b.os, b.output⟩
theorem callSem_enter {P : Program} {f : FuncId} {fn : Func} {vs : Array Value} {w : World} {R : Ending → World → Prop} (hfn : P.funcs[f]? = some fn) (hname : (fn.name == "runtime.NumGoroutine") = false) (hb : fn.body.isSome = true)
    (h : Calls P f vs w R) : CallSem P f vs w R := by
  have hname' : ¬ fn.name = "runtime.NumGoroutine" := by simpa using hname
  have e : (callFunc f vs).run P w = .ok (.enter f vs) w := by
    cases hb' : fn.body with
    | none => rw [hb'] at hb; cases hb
    | some c => simp [callFunc, hfn, hname', hb']
  unfold CallSem
  rw [e]
  exact h
def strsOf : List DV → Option (List (List UInt8))
  | [] => some []
  | .str s :: r => match strsOf r with
    | some l => some (s :: l)
    | none => none
  | _ :: _ => none
theorem strsOf_length : ∀ {ds : List DV} {xs : List (List UInt8)}, strsOf ds = some xs → xs.length = ds.length
  | [], xs, h => by cases h; rfl
  | .str s :: r, xs, h => by
    unfold strsOf at h
    split at h
    · rename_i l hl
      cases h
      simp [strsOf_length hl]
    · cases h
theorem strsOf_get : ∀ {ds : List DV} {xs : List (List UInt8)}, strsOf ds = some xs → ∀ {j : Nat} {x : List UInt8}, xs[j]? = some x → ds[j]? = some (.str x)
  | [], xs, h, j, x, e => by cases h; simp at e
  | .str s :: r, xs, h, j, x, e => by
    unfold strsOf at h
    split at h
    · rename_i l hl
      cases h
      cases j with
      | zero => simp at e ⊢; exact e
      | succ j => simp only [List.getElem?_cons_succ] at e ⊢; exact strsOf_get hl e
    · cases h
theorem strsOf_map : ∀ (xs : List (List UInt8)), strsOf (xs.map DV.str) = some xs
  | [] => rfl
  | x :: r => by rw [List.map_cons, strsOf, strsOf_map r]
/-- strings.Join: reads the texts, and answers the joined one. -/
def lib_Join : Oracle → Nat → List DV → M (List DV) := fun _ _ args =>
  match args with
  | [.slice 1 a n, .str sep] => M.rd a n fun ds => match strsOf ds with
    | some xs => bif Nat.ble n 140737488355328 && Nat.ble (Lib.join xs sep).length 140737488355328 then M.ret [.str (Lib.join xs sep)] else fail
    | none => fail
  | _ => fail
theorem lib_Join_ok {C : Cfg} {ρ : Go.Shelf.Ren} (L : Go.Proofs.Lays.n156 C.P ρ) (X : Go.Proofs.Builder.Extra C.P ρ) {f : FuncId} (hf : ρ.f 156 = f) {fn : Func} (hfn : C.P.funcs[f]? = some fn) (hname : (fn.name == "runtime.NumGoroutine") = false) (hb : fn.body.isSome = true) :
    BodyOK C lib_Join f := by
  subst hf
  intro c n args s out _ h
  unfold lib_Join at h
  split at h
  · rename_i a n sep
    cases a with
    | none =>
      simp only [M.rd] at h
      obtain ⟨hn, h⟩ := cond_some h
      have hn := Nat.eq_of_beq_eq_true hn
      subst hn
      cases h
      refine ⟨Nat.le_refl _, fun ψ w vs hs hbl _ hv _ _ => ?_⟩
      cases hv with
      | cons _ _ _ _ a b =>
        cases b with
        | cons _ _ _ _ a2 b2 =>
          cases b2
          cases a with
          | sliceN =>
            cases a2
            refine callSem_enter hfn hname hb ((Go.Proofs.Any.strings_Join_none L X none 0 _ w).mono ?_)
            rintro e w' ⟨rfl, rfl⟩
            exact ⟨_, rfl, ψ, ⟨hs, Ext.refl _ _ _, fun h cb e => .inl e⟩, .inl ⟨_, rfl, .str ⟨#[]⟩⟩⟩
    | some p =>
      obtain ⟨i, o⟩ := p
      simp only [M.rd, M.load] at h
      split at h
      · rename_i cs hcs
        cases hlen : Nat.ble (o + n) cs.length with
        | false => rw [hlen] at h; cases h
        | true =>
        rw [hlen] at h
        simp only [cond_true] at h
        have hlen := Nat.le_of_ble_eq_true hlen
        cases hxs : strsOf ((cs.drop o).take n) with
        | none => rw [hxs] at h; cases h
        | some xs =>
          rw [hxs] at h
          simp only at h
          obtain ⟨hg, h⟩ := cond_some h
          simp only [Bool.and_eq_true] at hg
          have h1 := Nat.le_of_ble_eq_true hg.1
          have h2 := Nat.le_of_ble_eq_true hg.2
          cases h
          have hxl := strsOf_length hxs
          rw [List.length_take, List.length_drop] at hxl
          have hxn : xs.length = n := by omega
          refine ⟨Nat.le_refl _, fun ψ w vs hs hbl _ hv _ _ => ?_⟩
          cases hv with
          | cons _ _ _ _ a b =>
            cases b with
            | cons _ _ _ _ a2 b2 =>
              cases b2
              cases a with
              | slice _ _ _ _ cb ad cap e1 e2 e3 =>
                cases a2 with
                | str sp =>
                refine callSem_enter hfn hname hb ?_
                have hst : ∃ ab, stAB s i = some ab ∧ ∃ f, ab = .cells f cs := by
                  unfold St.cells at hcs
                  split at hcs
                  · rename_i bk hbk
                    cases hcs
                    exact ⟨.cells bk.frz bk.cells, by simp only [stAB, hbk], bk.frz, rfl⟩
                  · cases hcs
                obtain ⟨_, hst, fz, rfl⟩ := hst
                have hh := hs.holds (.inl i) cb _ e1 ⟨i, rfl, hst⟩
                by_cases h0 : n = 0
                · subst h0
                  have : xs = [] := by cases xs with | nil => rfl | cons _ _ => simp at hxn
                  subst this
                  refine (Go.Proofs.Any.strings_Join_none L X _ _ _ w).mono ?_
                  rintro e w' ⟨rfl, rfl⟩
                  exact ⟨_, rfl, ψ, ⟨hs, Ext.refl _ _ _, fun h cb e => .inl e⟩, .inl ⟨_, rfl, .str ⟨#[]⟩⟩⟩
                · obtain ⟨rfl, _⟩ := e3 (by omega)
                  have hmap : (xs.map fun x => (⟨x.toArray⟩ : ByteArray)).map (·.data.toList) = xs := by
                    rw [List.map_map]
                    exact List.map_id xs
                  have := Go.Proofs.Any.strings_Join L X cb.b (cb.o + o) cap (xs.map fun x => (⟨x.toArray⟩ : ByteArray)) sp w ?_ (hbl _ _ e1) (by simp; omega) (by simp; omega) (by rw [hmap]; exact h2)
                  · rw [hmap] at this
                    rw [List.length_map, hxn] at this
                    refine this.mono ?_
                    rintro e w' ⟨rfl, hbw⟩
                    exact ⟨_, rfl, ψ, callPost_below hs hbl hbw, .inl ⟨_, rfl, .str ⟨_⟩⟩⟩
                  · intro j x hx
                    rw [List.getElem?_map] at hx
                    cases hy : xs[j]? with
                    | none => rw [hy] at hx; cases hx
                    | some y =>
                      rw [hy] at hx
                      cases hx
                      have hd := strsOf_get hxs hy
                      rw [List.getElem?_take] at hd
                      split at hd
                      · rw [List.getElem?_drop] at hd
                        obtain ⟨v, hv, hr⟩ := hh.2.2.1 _ _ hd
                        rw [← Nat.add_assoc] at hv
                        rw [hv]
                        cases hr
                        rfl
                      · cases hd
      · cases h
  · cases h
end Go.Gv
