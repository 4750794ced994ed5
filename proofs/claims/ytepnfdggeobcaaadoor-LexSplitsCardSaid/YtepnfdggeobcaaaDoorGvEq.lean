/- Structs of plain fields, compared. -/
import Derived.Test.YtepnfdggeobcaaaDoorGvOp5
import Derived.DeepKeys
namespace Go.Gv

def scalB (P : Program) (t : TypeId) (b : B) : Bool := match P.underlying t, b with
  | some .bool, .bool => true
  | some (.int _), .int _ => true
  | some .string, .str => true
  | _, _ => false
def eqFs (P : Program) : List Field → List B → Nat → Bool
  | [], [], _ => true
  | f :: r, b :: bs, o => f.name != "_" && Nat.beq f.offset o && scalB P f.type b && eqFs P r bs (o + 1)
  | _, _, _ => false
def eqTy (P : Program) (t : TypeId) (bs : List B) : Bool := match P.underlying t with
  | some (.struct fs) => eqFs P fs.toList bs 0 && !(P.stoodInHeld t) && !(P.eqGuardType P.depth t)
  | _ => false

section
variable {C : Cfg} {ψ : Ps}

theorem scal_run {d : Nat} {t : TypeId} {b : B} {x y : DV} {v u : Value} {r : Bool} (w : World) (hs : scalB C.P t b = true) (hx : VR C ψ x v) (hy : VR C ψ y u) (he : eqD b x y = some r) :
    (Op.equalIn (d + 1) t v u).run C.P w = .ok r w := by
  unfold scalB at hs
  split at hs
  · rename_i hu
    unfold eqD at he
    split at he <;> first | (rename_i h1; cases h1; done) | skip
    · cases hx; cases hy; cases he
      simp [Op.equalIn, run_underlying' w hu]
    all_goals (first | (cases he; done) | skip)
  · rename_i hu
    unfold eqD at he
    split at he
    · rename_i h1; cases h1
    · rename_i k0 k a k' b' _
      cases hk : ikEq k0 k && ikEq k k' with
      | false => rw [hk] at he; cases he
      | true =>
        rw [hk] at he
        rw [Bool.and_eq_true] at hk
        have := ikEq_eq hk.2
        subst this
        cases hx; cases hy; cases he
        simp [Op.equalIn, run_underlying' w hu]
    · rename_i h1; cases h1
    · cases he
  · rename_i hu
    unfold eqD at he
    split at he
    · rename_i h1; cases h1
    · rename_i h1; cases h1
    · cases hx; cases hy; cases he
      have e : ∀ a b : ByteArray, (a == b) = (a.data.toList == b.data.toList) := by
        intro a b
        have e1 : (a == b) = (a.data == b.data) := by cases a; cases b; rfl
        rw [e1, Bool.eq_iff_iff]
        simp only [beq_iff_eq]
        exact ⟨fun h => by rw [h], fun h => Array.toList_inj.1 h⟩
      simp only [Op.equalIn, Sem.run_bind, run_underlying' w hu, Result.andThen_ok, Sem.run_pure, e]
    · cases he
  · cases hs

theorem scal_part {e : TypeId} {b : B} {cs : Array Value} {off : Nat} {v : Value} (w : World) (hs : scalB C.P e b = true) (hx : cs[off]? = some v) : (Go.part e cs off).run C.P w = .ok v w := by
  refine run_part_plain w ?_ hx
  unfold scalB at hs
  unfold Program.plainKey
  split at hs <;> first | (rename_i hu; rw [hu]; done) | (rename_i hu; rw [hu]) | cases hs

theorem eqFs_run {d : Nat} (xs ys : Array Value) (w : World) : ∀ (fs : List Field) (bs : List B) (ds es : List DV) (o : Nat) (r : Bool), eqFs C.P fs bs o = true →
    VRs C ψ ds (xs.toList.drop o) → VRs C ψ es (ys.toList.drop o) → eqL bs ds es = some r → (Op.eqFields (d + 1) xs ys fs).run C.P w = .ok r w
  | [], [], [], [], o, r, _, _, _, he => by
    cases he
    simp [Op.eqFields]
  | [], [], _ :: _, _, _, _, _, _, _, he => by cases he
  | [], [], [], _ :: _, _, _, _, _, _, he => by cases he
  | [], _ :: _, _, _, _, _, h, _, _, _ => by cases h
  | _ :: _, [], _, _, _, _, h, _, _, _ => by cases h
  | f :: fs, b :: bs, [], _, _, _, _, _, _, he => by cases he
  | f :: fs, b :: bs, _ :: _, [], _, _, _, _, _, he => by cases he
  | f :: fs, b :: bs, x :: ds, y :: es, o, r, h, hx, hy, he => by
    simp only [eqFs, Bool.and_eq_true] at h
    obtain ⟨⟨⟨hn, ho⟩, hs⟩, hr⟩ := h
    have ho := Nat.eq_of_beq_eq_true ho
    have hn : f.name ≠ "_" := by simpa using hn
    simp only [eqL] at he
    cases h1 : eqD b x y with
    | none => rw [h1] at he; cases he
    | some r1 =>
      cases h2 : eqL bs ds es with
      | none => rw [h1, h2] at he; cases he
      | some r2 =>
        rw [h1, h2] at he
        cases he
        have tailOf : ∀ {z : Array Value} {q : DV} {qs : List DV}, VRs C ψ (q :: qs) (z.toList.drop o) → ∃ v, z[o]? = some v ∧ VR C ψ q v ∧ VRs C ψ qs (z.toList.drop (o + 1)) := by
          intro z q qs hq
          generalize hz : z.toList.drop o = l at hq
          cases hq with
          | cons _ v _ vs a b =>
            have e : z.toList[o]? = some v := by
              have := congrArg (fun l : List Value => l[0]?) hz
              simpa using this
            refine ⟨v, by rw [← Array.getElem?_toList]; exact e, a, ?_⟩
            have := congrArg (List.drop 1) hz
            rw [List.drop_drop] at this
            rw [this]; exact b
        obtain ⟨v, hv, rv, tv⟩ := tailOf hx
        obtain ⟨u, hu, ru, tu⟩ := tailOf hy
        have p1 := scal_part (C := C) w hs hv
        have p2 := scal_part (C := C) w hs hu
        have p3 := scal_run (d := d) w hs rv ru h1
        have p4 := eqFs_run (d := d) xs ys w fs bs ds es (o + 1) r2 hr tv tu h2
        rw [← ho] at p1 p2
        simp only [Op.eqFields, hn, ne_eq, not_false_eq_true, if_true, Sem.run_bind, p1, p2, p3, Result.andThen_ok]
        cases r1
        · simp
        · simpa using p4

theorem eqTy_guard {P : Program} {t : TypeId} {bs : List B} (h : eqTy P t bs = true) : P.eqGuardType P.depth t = false := by
  unfold eqTy at h
  split at h
  · simp only [Bool.and_eq_true] at h
    simpa using h.2
  · cases h
theorem eqTy_run {t : TypeId} {bs : List B} (h : eqTy C.P t bs = true) {xs ys : List DV} {vs us : Array Value} {b : Bool} (w : World) (hx : VRs C ψ xs vs.toList) (hy : VRs C ψ ys us.toList) (he : eqL bs xs ys = some b) :
    (Op.equal t (.agg vs) (.agg us)).run C.P w = .ok b w := by
  unfold eqTy at h
  split at h
  · rename_i fs hu
    simp only [Bool.and_eq_true] at h
    have hst : C.P.stoodInHeld t = false := by simpa using h.1.2
    unfold Op.equal
    have hfs : C.P.fieldsOf t = fs := by unfold Program.fieldsOf; rw [hu]
    rw [show Op.maxDepth = 9999 + 1 from rfl, run_equalIn_struct w 9999 t vs us (by rw [hfs]; exact hu) hst, hfs]
    exact eqFs_run (d := 9998) vs us w fs.toList bs xs ys 0 b h.1.1 (by rw [List.drop_zero]; exact hx) (by rw [List.drop_zero]; exact hy) he
  · cases h

/-- A table of such types. -/
def lkE : List (Nat × List B) → Nat → List B
  | [], _ => []
  | (k, v) :: r, x => bif Nat.beq k x then v else lkE r x
theorem lkE_ok {P : Program} : ∀ {l : List (Nat × List B)}, (l.all fun x => eqTy P x.1 x.2) = true → ∀ t, lkE l t ≠ [] → eqTy P t (lkE l t) = true
  | [], _, t, h => absurd rfl h
  | (k, v) :: r, hl, t, h => by
    rw [List.all_cons, Bool.and_eq_true] at hl
    simp only [lkE] at h ⊢
    cases hk : Nat.beq k t with
    | true => rw [hk] at h; rw [← Nat.eq_of_beq_eq_true hk]; exact hl.1
    | false => rw [hk] at h; exact lkE_ok hl.2 t h
end
end Go.Gv
