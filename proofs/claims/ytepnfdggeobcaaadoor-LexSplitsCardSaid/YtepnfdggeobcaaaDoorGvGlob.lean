/- Package-level tables that are laid: the machine holds them as frozen blocks. -/
import Derived.Test.YtepnfdggeobcaaaDoorGvOpen
import Derived.MakeChecks
import GoSem.ClaimJoined
namespace Go.Gv

mutual
/-- A datum's literals, in order. -/
def lits {H : Type} : DataW H → List Lit
  | .lit l => [l]
  | .agg ps => litsL ps
  | _ => []
def litsL {H : Type} : List (DataW H) → List Lit
  | [] => []
  | d :: r => lits d ++ litsL r
end

def dvLit : Lit → DV
  | .bool b => .bool b
  | .int k n => .int k n
  | .string s => .str s
  | _ => .nilIface

def Ty.flat : Ty → Bool
  | .sl _ => false
  | .pr x y => x.flat && y.flat
  | _ => true

def dlit {H : Type} (d : DataW H) : List DV := (lits d).map dvLit

section
variable {C : Cfg} {w : World} {H : Type} {enc : TypeId × Value → H} {base : Nat} {sp : Nat → Bool} {held : Bool}

theorem repTy_flat {x : Ty} (h : (repTy x 1).flat = true) : x.flat = true := by
  simp only [repTy, Ty.flat, Bool.and_true] at h; exact h

theorem flat_fields {fuel : Nat} {g : TypeId → Option Ty} {cs : List Value}
    (ih : ∀ (t : TypeId) (ty : Ty) (cs : List Value) (x : DataW H × List MemPlace), g t = some ty → ty.flat = true → DataW.trod enc C.P w base sp held fuel t cs = some x → ∀ ψ, VRs C ψ (dlit x.1) cs) :
    ∀ (fs : List Field) (ys : List (DataW H × List MemPlace)) (o : Nat) (ty : Ty), fsTy g C.P fs o = some ty → ty.flat = true → ys.length = fs.length →
    (∀ (i : Nat) (f : Field), fs[i]? = some f → DataW.trod enc C.P w base sp held fuel f.type ((cs.drop f.offset).take (C.P.cellsOf f.type)) = ys[i]?) → ∀ ψ, VRs C ψ ((litsL (ys.map (·.1))).map dvLit) ((cs.drop o).take ty.size)
  | [], ys, o, ty, h, _, hl, _, ψ => by
    cases h
    cases List.eq_nil_of_length_eq_zero hl
    simp [Ty.size, litsL]; exact .nil
  | f :: fs, [], o, ty, _, _, hl, _, _ => by cases hl
  | f :: fs, z :: ys, o, ty, h, hfl, hl, hf, ψ => by
    simp only [fsTy] at h
    cases ho : Nat.beq f.offset o with
    | false => rw [ho] at h; cases h
    | true =>
      rw [ho] at h
      simp only [cond_true] at h
      cases hg : g f.type with
      | none => rw [hg] at h; cases h
      | some x =>
        rw [hg] at h
        simp only at h
        cases hs : Nat.beq x.size (C.P.cellsOf f.type) with
        | false => rw [hs] at h; cases h
        | true =>
          rw [hs] at h
          simp only [cond_true] at h
          cases hr : fsTy g C.P fs (o + x.size) with
          | none => rw [hr] at h; cases h
          | some y =>
            rw [hr] at h
            cases h
            simp only [Ty.flat, Bool.and_eq_true] at hfl
            have ho := Nat.eq_of_beq_eq_true ho
            have hs := Nat.eq_of_beq_eq_true hs
            have v1 := ih f.type x _ z hg hfl.1 (hf 0 f rfl) ψ
            have v2 := flat_fields ih fs ys (o + x.size) y hr hfl.2 (by simpa using hl) (fun i f' h' => hf (i + 1) f' h') ψ
            rw [show Ty.size (.pr x y) = x.size + y.size from rfl, List.take_add, List.drop_drop]
            rw [ho, ← hs] at v1
            simp only [List.map_cons, litsL, List.map_append]
            exact v1.append v2

theorem flat_rep {fuel : Nat} {g : TypeId → Option Ty} {cs : List Value}
    (ih : ∀ (t : TypeId) (ty : Ty) (cs : List Value) (x : DataW H × List MemPlace), g t = some ty → ty.flat = true → DataW.trod enc C.P w base sp held fuel t cs = some x → ∀ ψ, VRs C ψ (dlit x.1) cs)
    {e : TypeId} {x : Ty} (hg : g e = some x) (hfl : x.flat = true) (hs : x.size = C.P.cellsOf e) : ∀ (m k : Nat) (ys : List (DataW H × List MemPlace)), ys.length = m →
    (∀ i, i < m → DataW.trod enc C.P w base sp held fuel e ((cs.drop ((k + i) * C.P.cellsOf e)).take (C.P.cellsOf e)) = ys[i]?) → ∀ ψ, VRs C ψ ((litsL (ys.map (·.1))).map dvLit) ((cs.drop (k * x.size)).take (repTy x m).size)
  | 0, k, ys, hl, _, ψ => by
    cases List.eq_nil_of_length_eq_zero hl
    simp [Ty.size, litsL, repTy]; exact .nil
  | m + 1, k, [], hl, _, _ => by cases hl
  | m + 1, k, z :: ys, hl, hf, ψ => by
    have v1 := ih e x _ z hg hfl (hf 0 (by omega)) ψ
    have v2 := flat_rep ih hg hfl hs m (k + 1) ys (by simpa using hl) (fun i hi => by have := hf (i + 1) (by omega); rwa [show k + (i + 1) = k + 1 + i by omega] at this) ψ
    rw [show (repTy x (m + 1)).size = x.size + (repTy x m).size from rfl, List.take_add, List.drop_drop]
    rw [Nat.add_zero, ← hs] at v1
    rw [Nat.succ_mul] at v2
    simp only [List.map_cons, litsL, List.map_append]
    exact v1.append v2

theorem flat_of_rep {x : Ty} : ∀ {m : Nat}, (repTy x m).flat = true → 0 < m → x.flat = true
  | 0, _, h => absurd h (Nat.lt_irrefl _)
  | m + 1, h, _ => by simp only [repTy, Ty.flat, Bool.and_eq_true] at h; exact h.1

/-- A flat datum tells its cells. -/
theorem flat_trod : ∀ (fuel f0 : Nat) (t : TypeId) (ty : Ty) (cs : List Value) (x : DataW H × List MemPlace), tyOf C.P f0 t = some ty → ty.flat = true → DataW.trod enc C.P w base sp held fuel t cs = some x → ∀ ψ, VRs C ψ (dlit x.1) cs
  | 0, _, t, _, cs, x, _, _, h => by simp [DataW.trod] at h
  | fuel + 1, 0, t, ty, cs, x, ht, _, _ => by cases ht
  | fuel + 1, f0 + 1, t, ty, cs, x, ht, hfl, h => by
    intro ψ
    simp only [tyOf] at ht
    cases hu : C.P.underlying t with
    | none => rw [hu] at ht; cases ht
    | some td =>
      rw [hu] at ht
      cases td with
      | bool => obtain ⟨b, rfl, rfl⟩ := DataW.trod_bool hu h; exact .cons _ _ _ _ (.bool b) .nil
      | int k => obtain ⟨n, rfl, rfl, _⟩ := DataW.trod_int hu h; exact .cons _ _ _ _ (.int k n) .nil
      | string => obtain ⟨l, rfl, rfl, _⟩ := DataW.trod_string hu h; exact .cons _ _ _ _ (.str l) .nil
      | slice e =>
        simp only at ht
        cases hte : tyOf C.P f0 e with
        | none => rw [hte] at ht; cases ht
        | some te =>
          rw [hte] at ht
          simp only at ht
          cases hsz : Nat.beq te.size (C.P.cellsOf e) && Nat.blt 0 te.size with
          | false => rw [hsz] at ht; cases ht
          | true => rw [hsz] at ht; cases ht; cases hfl
      | struct fs =>
        simp only at ht
        cases hfs : fsTy (tyOf C.P f0) C.P fs.toList 0 with
        | none => rw [hfs] at ht; cases ht
        | some y =>
          rw [hfs] at ht
          simp only at ht
          cases hsz : Nat.beq y.size (C.P.cellsOf t) with
          | false => rw [hsz] at ht; cases ht
          | true =>
            rw [hsz] at ht
            cases ht
            have hsz := Nat.eq_of_beq_eq_true hsz
            obtain ⟨xs, n, hn, rfl, hcl, hxl, hget⟩ := DataW.trod_struct hu h
            cases hn
            have v' := flat_fields (C := C) (w := w) (enc := enc) (cs := cs) (fun t ty cs x h1 h2 h3 => flat_trod fuel f0 t ty cs x h1 h2 h3) fs.toList xs 0 ty hfs hfl (by rw [hxl, Array.length_toList]) (fun i f hi => hget i f (by rw [← Array.getElem?_toList]; exact hi)) ψ
            rw [List.drop_zero, List.take_of_length_le (by omega)] at v'
            simpa [dlit, lits] using v'
      | array m e =>
        simp only at ht
        cases hte : tyOf C.P f0 e with
        | none => rw [hte] at ht; cases ht
        | some te =>
          rw [hte] at ht
          simp only at ht
          cases hsz : Nat.beq te.size (C.P.cellsOf e) && Nat.beq (m * te.size) (C.P.cellsOf t) with
          | false => rw [hsz] at ht; cases ht
          | true =>
            rw [hsz] at ht
            cases ht
            rw [Bool.and_eq_true] at hsz
            have h1 := Nat.eq_of_beq_eq_true hsz.1
            have h2 := Nat.eq_of_beq_eq_true hsz.2
            obtain ⟨xs, n, hn, rfl, hcl, hxl, hget⟩ := DataW.trod_array hu h
            cases hn
            have v' : VRs C ψ ((litsL (xs.map (·.1))).map dvLit) cs := by
              rcases Nat.eq_zero_or_pos m with h0 | h0
              · subst h0
                cases List.eq_nil_of_length_eq_zero hxl
                rw [Nat.zero_mul] at h2
                cases List.eq_nil_of_length_eq_zero (hcl.trans h2.symm)
                exact .nil
              · have v' := flat_rep (C := C) (w := w) (enc := enc) (cs := cs) (fun t ty cs x h1 h2 h3 => flat_trod fuel f0 t ty cs x h1 h2 h3) hte (flat_of_rep hfl h0) h1 m 0 xs hxl (fun i hi => by rw [Nat.zero_add]; exact hget i hi) ψ
                rw [Nat.zero_mul, List.drop_zero, List.take_of_length_le (by rw [repTy_size]; omega)] at v'
                exact v'
            simpa [dlit, lits] using v'
      | _ => cases ht

/-- One of the laid variables. -/
theorem laid_one {P : Program} {n : String} {d : DataW Unit} : ∀ {laid : List (String × DataW Unit)} {ps : List MemPlace}, DataW.LaidVars P w laid ps → (n, d) ∈ laid →
    ∃ g t cs fuel p, P.globalNamed n = some g ∧ (P.globals[g]?).map (·.type) = some t ∧ w.var? P n = some cs ∧ DataW.trod (fun _ => ()) P w 0 (fun _ => true) false fuel t cs.toList = some (d, p)
  | [], _, _, h => by cases h
  | (n', d') :: r, ps, ⟨g, t, cs, fuel, p, q, h1, h2, h3, h4, h5, _⟩, h => by
    rcases List.mem_cons.1 h with h | h
    · cases h; exact ⟨g, t, cs, fuel, p, h1, h2, h3, h4⟩
    · exact laid_one h5 h

/-- A variable of the program, and the block that the machine holds it in. -/
def TabOk (C : Cfg) (laid : List (String × DataW Unit)) (tb : St) (g : Nat) : Prop :=
  ∃ n d t ty, (n, d) ∈ laid ∧ C.P.globalNamed n = some g ∧ (C.P.globals[g]?).map (·.type) = some t ∧ tyOf C.P 20 t = some ty ∧ ty.flat = true ∧ tb[C.gl g]? = some (some ⟨true, dlit d⟩)

def tabP (gs : List (Nat × Nat)) (m : Nat → Nat) : Ps
  | .inl i => (gs.find? fun x => Nat.beq x.2 i).map fun x => ⟨x.1, 0, m x.1⟩
  | .inr _ => none

theorem litOne : ∀ (l : List Lit), (l.map dvLit).all one = true
  | [] => rfl
  | l :: r => by rw [List.map_cons, List.all_cons, litOne r]; cases l <;> rfl

theorem tabs_OI {laid : List (String × DataW Unit)} (hm : laidMetH C.P laid w) (hp : (laid.all fun x => x.2.handleName?.isNone) = true) {tb : St} (hf : ∀ (i : Nat) (b : Option Blk), tb[i]? = some b → ∃ cs, b = some ⟨true, cs⟩)
    (gs : List (Nat × Nat)) (hgs : ∀ x ∈ gs, C.gl x.1 = x.2 ∧ TabOk C laid tb x.1) (hglc : ∀ g, C.glc g = true → gs.find? (fun x => Nat.beq x.2 (C.gl g)) = some (g, C.gl g)) :
    ∃ ψ, OI C w tb ψ ∧ Glob C ψ := by
  rw [MakeChecks.laidMetH_plain _ _ _ hp] at hm
  obtain ⟨ps, hv, _, _⟩ := hm
  have cell : ∀ x ∈ gs, ∃ (cs : Array Value) (ds : List DV) (ty : TypeId) (fr : Nat × Nat), w.heap[x.1]? = some (.cells cs ty fr) ∧ tb[x.2]? = some (some ⟨true, ds⟩) ∧ (∀ ψ, VRs C ψ ds cs.toList) ∧ ds.all one = true := by
    intro x hx
    obtain ⟨e, n, d, t, ty, h1, h2, h3, h4, h5, h6⟩ := hgs x hx
    obtain ⟨g, t', cs, fuel, p, k1, k2, k3, k4⟩ := laid_one hv h1
    cases h2.symm.trans k1
    cases h3.symm.trans k2
    have hc : ∃ ty fr, w.heap[x.1]? = some (.cells cs ty fr) := by
      simp only [World.var?, k1, Option.bind_some] at k3
      split at k3
      · cases k3; exact ⟨_, _, ‹_›⟩
      · cases k3
    obtain ⟨ty', fr, hc⟩ := hc
    exact ⟨cs, _, ty', fr, hc, by rw [← e]; exact h6, fun ψ => flat_trod fuel 20 t ty _ _ h4 h5 k4 ψ, litOne _⟩
  let m : Nat → Nat := fun g => match w.heap[g]? with
    | some (.cells cs _ _) => cs.size
    | _ => 0
  have hfind : ∀ i cb, tabP gs m (.inl i) = some cb → ∃ x ∈ gs, x.2 = i ∧ cb = ⟨x.1, 0, m x.1⟩ := by
    intro i cb h
    simp only [tabP, Option.map_eq_some_iff] at h
    obtain ⟨x, h1, h2⟩ := h
    exact ⟨x, List.mem_of_find?_eq_some h1, Nat.eq_of_beq_eq_true (List.find?_some (p := fun x : Nat × Nat => Nat.beq x.2 i) h1), h2.symm⟩
  refine ⟨tabP gs m, ⟨fun i cb ab e q => ?_, fun i cb e => ?_, hf, fun i hi => ?_, fun v => rfl⟩, fun g hg => ⟨⟨g, 0, m g⟩, ?_, rfl, rfl⟩⟩
  · obtain ⟨x, hx, rfl, rfl⟩ := hfind i cb e
    obtain ⟨cs, ds, ty, fr, c1, c2, c3, c4⟩ := cell x hx
    unfold stAB at q
    rw [c2] at q
    cases q
    have hl := (c3 (tabP gs m)).len
    refine ⟨?_, c4, fun j d hd => ?_, fun h => by cases h⟩
    · show ds.length ≤ m x.1
      have hm : m x.1 = cs.size := by simp only [m, c1]
      have h2 : cs.toList.length = cs.size := Array.length_toList
      omega
    · obtain ⟨v, hv, hr⟩ := (c3 (tabP gs m)).get hd
      refine ⟨v, ?_, hr⟩
      simp only [World.cell?, c1, Nat.zero_add]
      rw [← Array.getElem?_toList]; exact hv
  · obtain ⟨x, hx, rfl, rfl⟩ := hfind i cb e
    obtain ⟨cs, ds, ty, fr, c1, _⟩ := cell x hx
    exact lt_of_get c1
  · cases h : tabP gs m (.inl i) with
    | none => rfl
    | some cb =>
      obtain ⟨x, hx, rfl, _⟩ := hfind i cb h
      obtain ⟨cs, ds, ty, fr, _, c2, _⟩ := cell x hx
      exact absurd (List.getElem?_eq_some_iff.1 c2).1 (by omega)
  · simp only [tabP, hglc g hg, Option.map_some]
end
end Go.Gv
