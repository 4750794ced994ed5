/- Single operations: arithmetic, comparison. -/
import Derived.Test.YtepnfdggeobcaaaDoorGvOp4
import Derived.Laws.Strings
import Derived.Laws.Concat
namespace Go.Gv
variable {β : Type}

/-- What a seat's numbers must be. -/
structure CfgOk (C : Cfg) : Prop where
  ty : ∀ t t', C.ty t = C.ty t' → t = t'
  eqg : ∀ t, C.eqT t ≠ [] → C.P.eqGuardType C.P.depth t = false
  eq : ∀ t, C.eqT t ≠ [] → ∀ ψ xs ys (vs us : Array Value) b w, VRs C ψ xs vs.toList → VRs C ψ ys us.toList → eqL (C.eqT t) xs ys = some b → (Op.equal t (.agg vs) (.agg us)).run C.P w = .ok b w
  tae : ∃ e d, C.P.underlying C.P.rt.typeAssertionError = some (.pointer e) ∧ C.P.underlying e = some d

section
variable {C : Cfg} {o : Oper} {D W : HId → Prop} {E : Env} {s : St} {md : Md} {pr ms : List Nat}

theorem equalIn_bool {P : Program} (d : Nat) {t : TypeId} (ht : P.underlying t = some .bool) (x y : Bool) (w : World) : (Op.equalIn (d + 1) t (.bool x) (.bool y)).run P w = .ok (x == y) w := by
  simp [Op.equalIn, run_underlying' w ht]
theorem equal_bool {P : Program} {t : TypeId} (ht : P.underlying t = some .bool) (x y : Bool) (w : World) : (Op.equal t (.bool x) (.bool y)).run P w = .ok (x == y) w := equalIn_bool 9999 ht x y w
theorem equalIn_ptr {P : Program} (d : Nat) {t e : TypeId} (ht : P.underlying t = some (.pointer e)) (a : Option Addr) (w : World) :
    (Op.equalIn (d + 1) t (.pointer a) (.pointer none)).run P w = .ok a.isNone w ∧ (Op.equalIn (d + 1) t (.pointer none) (.pointer a)).run P w = .ok a.isNone w := by
  cases a <;> constructor <;> simp [Op.equalIn, run_underlying' w ht]
theorem equal_ptr {P : Program} {t e : TypeId} (ht : P.underlying t = some (.pointer e)) (a : Option Addr) (w : World) :
    (Op.equal t (.pointer a) (.pointer none)).run P w = .ok a.isNone w ∧ (Op.equal t (.pointer none) (.pointer a)).run P w = .ok a.isNone w := equalIn_ptr 9999 ht a w
theorem equalIn_slice {P : Program} (d : Nat) {t e : TypeId} (ht : P.underlying t = some (.slice e)) (a : Option Addr) (n m n' m' : Nat) (w : World) :
    (Op.equalIn (d + 1) t (.slice a n m) (.slice none n' m')).run P w = .ok a.isNone w ∧ (Op.equalIn (d + 1) t (.slice none n' m') (.slice a n m)).run P w = .ok a.isNone w := by
  cases a <;> constructor <;> simp [Op.equalIn, run_underlying' w ht]
theorem equal_slice {P : Program} {t e : TypeId} (ht : P.underlying t = some (.slice e)) (a : Option Addr) (n m n' m' : Nat) (w : World) :
    (Op.equal t (.slice a n m) (.slice none n' m')).run P w = .ok a.isNone w ∧ (Op.equal t (.slice none n' m') (.slice a n m)).run P w = .ok a.isNone w := equalIn_slice 9999 ht a n m n' m' w

theorem bytes_beq (x y : ByteArray) : (x.toList == y.toList) = (x.data.toList == y.data.toList) := by rw [ByteArray.toList_eq, ByteArray.toList_eq]

/-- A comparison's outcome. -/
theorem eqK_some {t : TypeId} {x y : DV} {K : Bool → M β} {r : Out β × St} (hc : CfgOk C) (h : eqK (C.P.underlying t) (C.eqT t) x y K s = some r) :
    ∃ b, K b s = some r ∧ ∀ ψ w (x' y' : Value) (p q : Operand), VR C ψ x x' → VR C ψ y y' →
      (do eqGuard .eql t p q x' y'; Go.binOp .eql t x' y' : Sem Value).run C.P w = .ok (.bool b) w ∧ (do eqGuard .neq t p q x' y'; Go.binOp .neq t x' y' : Sem Value).run C.P w = .ok (.bool !b) w := by
  generalize hu : C.P.underlying t = u at h
  unfold eqK at h
  split at h
  · -- bool
    split at h
    · 
      refine ⟨_, h, fun ψ w x' y' p q hx hy => ?_⟩
      cases hx; cases hy
      constructor <;> simp [eqGuard, Go.binOp, equal_bool hu]
    · cases h
  · obtain ⟨h1, h2⟩ := cond_some h
    clear h
    have := ikEq_eq h1; subst this
    refine ⟨_, h2, fun ψ w x' y' p q hx hy => ?_⟩
    cases hx; cases hy
    constructor <;> simp [eqGuard, Go.binOp, Op.intCmp, bne]
  · refine ⟨_, h, fun ψ w x' y' p q hx hy => ?_⟩
    cases hx; cases hy
    constructor <;> simp [eqGuard, Go.binOp, Op.stringOp, bytes_beq]
  · split at h
    · refine ⟨_, h, fun ψ w x' y' p q hx hy => ?_⟩
      cases hy
      cases hx with
      | ptrN => constructor <;> simp [eqGuard, Go.binOp, (equal_ptr hu none w).1]
      | ptr i n cb e => constructor <;> simp [eqGuard, Go.binOp, (equal_ptr hu _ w).1]
    · cases h
  · split at h
    · refine ⟨_, h, fun ψ w x' y' p q hx hy => ?_⟩
      cases hx
      cases hy with
      | ptrN => constructor <;> simp [eqGuard, Go.binOp, (equal_ptr hu none w).1]
      | ptr i n cb e => constructor <;> simp [eqGuard, Go.binOp, (equal_ptr hu _ w).2]
    · cases h
  · split at h
    · refine ⟨_, h, fun ψ w x' y' p q hx hy => ?_⟩
      cases hy
      cases hx with
      | sliceN => constructor <;> simp [eqGuard, Go.binOp, (equal_slice hu none 0 0 0 0 w).1]
      | slice _ i n m cb a cap e => constructor <;> simp [eqGuard, Go.binOp, (equal_slice hu _ _ _ 0 0 w).1]
    · cases h
  · split at h
    · refine ⟨_, h, fun ψ w x' y' p q hx hy => ?_⟩
      cases hx
      cases hy with
      | sliceN => constructor <;> simp [eqGuard, Go.binOp, (equal_slice hu none 0 0 0 0 w).1]
      | slice _ i n m cb a cap e => constructor <;> simp [eqGuard, Go.binOp, (equal_slice hu _ _ _ 0 0 w).2]
    · cases h
  · rename_i xs ys
    cases hag : C.eqT t with
    | nil => rw [hag] at h; cases h
    | cons k ks =>
      rw [hag] at h
      simp only at h
      cases hb : eqL (k :: ks) xs ys with
      | none => rw [hb] at h; cases h
      | some b =>
        rw [hb] at h
        refine ⟨_, h, fun ψ w x' y' p q hx hy => ?_⟩
        have hag' : C.eqT t ≠ [] := by rw [hag]; exact List.cons_ne_nil _ _
        cases hx with
        | agg _ vs h1 _ =>
          cases hy with
          | agg _ us h2 _ =>
            have he := hc.eq t hag' ψ _ _ vs us b w h1 h2 (by rw [hag]; exact hb)
            constructor <;> simp [eqGuard, Go.binOp, hc.eqg t hag', he]
  · cases h

theorem bin_bits {P : Program} {op : BinOp} (h : op = .and ∨ op = .or ∨ op = .xor ∨ op = .andNot) (t : TypeId) (p q : Operand) (k : IntKind) (x y : Int) (w : World) :
    (do eqGuard op t p q (.int k x) (.int k y); Go.binOp op t (.int k x) (.int k y) : Sem Value).run P w = .ok (.int k (bits op k x y)) w := by
  have e : Go.binOp op t (.int k x) (.int k y) = Op.intBits op k x y := by rcases h with rfl | rfl | rfl | rfl <;> simp [Go.binOp]
  rw [e]
  rcases h with rfl | rfl | rfl | rfl <;> rfl

theorem opBin_res {op : BinOp} {t yt : TypeId} {x y : Operand} (hc : CfgOk C) (ho : o.op = .binOp op t x y yt) (hWD : ∀ h, W h → D h) {K : Env → M β} {r : Out β × St} (h : opBin C E o K op t x y s = some r) : Res C md pr ms o D W E s K r := by
  unfold opBin at h
  obtain ⟨a, ha, h⟩ := valK_some h
  obtain ⟨b, hb, h⟩ := valK_some h
  have key : ∀ d, putK E o K d s = some r → (∀ ψ w x' y', VR C ψ a x' → VR C ψ b y' → ∃ v, (do eqGuard op t x y x' y'; Go.binOp op t x' y' : Sem Value).run C.P w = .ok v w ∧ VR C ψ d v) → Res C md pr ms o D W E s K r := by
    intro d h hr
    refine Res.val hWD d h fun ψ Q A w p => ?_
    obtain ⟨v, hv, hvr⟩ := hr ψ w _ _ (p.val (x := x) (by simp [Op.operands, ho]) ha) (p.val (x := y) (by simp [Op.operands, ho]) hb)
    refine ⟨v, w, ?_, .refl w, hvr⟩
    simp only [execOp, ho, Sem.run_bind] at hv ⊢
    rw [hv]; rfl
  unfold binK at h
  split at h
  · obtain ⟨b', h, hr⟩ := eqK_some hc h
    exact key _ h fun ψ w x' y' hx hy => ⟨_, (hr ψ w x' y' x y hx hy).1, .bool _⟩
  · obtain ⟨b', h, hr⟩ := eqK_some hc h
    exact key _ h fun ψ w x' y' hx hy => ⟨_, (hr ψ w x' y' x y hx hy).2, .bool _⟩
  · split at h
    · rename_i k n k' m
      have h0 := h
      clear h
      obtain ⟨hm, h⟩ := chk_some h0
      clear h0
      have hm := Int.not_lt.2 (of_decide_eq_true hm)
      refine key _ h fun ψ w x' y' hx hy => ?_
      cases hx; cases hy
      exact ⟨_, by simp [eqGuard, Go.binOp, Op.shift, hm], .int _ _⟩
    · cases h
  · split at h
    · rename_i k n k' m
      have h0 := h
      clear h
      obtain ⟨hm, h⟩ := chk_some h0
      clear h0
      have hm := Int.not_lt.2 (of_decide_eq_true hm)
      refine key _ h fun ψ w x' y' hx hy => ?_
      cases hx; cases hy
      exact ⟨_, by simp [eqGuard, Go.binOp, Op.shift, hm], .int _ _⟩
    · cases h
  · rename_i n1 n2 n3 n4
    split at h
    · have h0 := h
      clear h
      obtain ⟨hk, h⟩ := cond_some h0
      clear h0
      have := ikEq_eq hk
      subst this
      cases op with
      | eql => exact absurd rfl n1
      | neq => exact absurd rfl n2
      | shl => exact absurd rfl n3
      | shr => exact absurd rfl n4
      | quo =>
        obtain ⟨hm, h⟩ := chk_some h
        simp only [Bool.not_eq_true', beq_eq_false_iff_ne] at hm
        refine key _ h fun ψ w x' y' hx hy => ?_
        cases hx; cases hy
        exact ⟨_, by simp [eqGuard, Go.binOp, Op.intDiv, hm], .int _ _⟩
      | rem =>
        obtain ⟨hm, h⟩ := chk_some h
        simp only [Bool.not_eq_true', beq_eq_false_iff_ne] at hm
        refine key _ h fun ψ w x' y' hx hy => ?_
        cases hx; cases hy
        exact ⟨_, by simp [eqGuard, Go.binOp, Op.intDiv, hm], .int _ _⟩
      | and | or | xor | andNot =>
        refine key _ h fun ψ w x' y' hx hy => ?_
        cases hx; cases hy
        exact ⟨_, bin_bits (by simp) t x y _ _ _ w, .int _ _⟩
      | _ =>
        refine key _ h fun ψ w x' y' hx hy => ?_
        cases hx; cases hy
        exact ⟨_, by simp [eqGuard, Go.binOp, Op.intArith, Op.intCmp] <;> rfl, by constructor⟩
    · rename_i l l'
      cases op with
      | eql => exact absurd rfl n1
      | neq => exact absurd rfl n2
      | shl => exact absurd rfl n3
      | shr => exact absurd rfl n4
      | add =>
        obtain ⟨hm, h⟩ := chk_some h
        have hm := Nat.le_of_ble_eq_true hm
        refine key _ h fun ψ w x' y' hx hy => ?_
        cases hx with
        | str p =>
          cases hy with
          | str q =>
            have e : p.data.toList ++ q.data.toList = (p ++ q).data.toList := by simp [ByteArray.data_append]
            rw [e]
            rw [Array.length_toList, Array.length_toList] at hm
            have hm' : p.size + q.size ≤ 4611686018427387904 := hm
            refine ⟨.string (p ++ q), ?_, .str _⟩
            have := run_string_add_sum (P := C.P) (w := w) p q (by omega)
            simp [eqGuard, Go.binOp, this]
      | lss | leq | gtr | geq =>
        refine key _ h fun ψ w x' y' hx hy => ?_
        cases hx; cases hy
        refine ⟨_, by simp only [eqGuard, Go.binOp, Op.stringOp, ByteArray.toList_eq]; rfl, .bool _⟩
      | _ => cases h
    · cases h
end
end Go.Gv
