/- Single operations: arithmetic, addresses, loads, stores. -/
import Derived.Test.YtepnfdggeobcaaaDoorGvOp2
namespace Go.Gv
variable {β : Type}

section
variable {C : Cfg} {o : Oper} {D W : HId → Prop} {E : Env} {s : St} {md : Md} {pr ms : List Nat}

/-! ### Addresses -/
theorem run_sureAddr (P : Program) (a : Addr) (w : World) : (Instr.sureAddr (.pointer (some a))).run P w = .ok a w := rfl

theorem opFieldAddr_res {t : TypeId} {y : Operand} {f : Nat} (ho : o.op = .fieldAddr t y f) (hWD : ∀ h, W h → D h) {K : Env → M β} {r : Out β × St} (h : opFieldAddr C E o K t y f s = some r) : Res C md pr ms o D W E s K r := by
  unfold opFieldAddr at h
  cases ht : C.P.underlying t with
  | none => rw [ht] at h; cases h
  | some td =>
    rw [ht] at h
    cases td with
    | struct fs =>
      simp only at h
      cases hf : fs[f]? with
      | none => rw [hf] at h; cases h
      | some fd =>
        rw [hf] at h
        simp only at h
        obtain ⟨hc, h⟩ := cond_some' h
        have hc := Nat.ne_of_beq_eq_false hc
        have hsz : ∀ w, (sizeOf fd.type).run C.P w = .ok (C.P.cellsOf fd.type) w := by
          intro w
          unfold Program.cellsOf at hc ⊢
          cases hi : C.P.info? fd.type with
          | none => rw [hi] at hc; simp at hc
          | some i => simp [sizeOf, typeInfo, hi]
        have run : ∀ (a : Act) (w : World) b n, a.eval y = .pointer (some ⟨b, n, none⟩) → (execOp a.eval o).run C.P w = .ok (.value (.pointer (some ⟨b, n + fd.offset, none⟩))) w := by
          intro a w b n hy
          simp [execOp, ho, hy, Instr.fieldAt, run_underlying' w ht, hf, run_sureAddr, fieldPlace, hsz, hc, addr_add]
        rcases addrK_some h with ⟨x, v, n, he, h⟩ | ⟨i, n, he, h⟩
        · refine Res.pure hWD _ rfl (fun hE r v' n' e => by cases e; exact Env.src_pl C hE he) h fun ψ Q a w p => ?_
          have := p.src (x := y) (by simp [Op.operands, ho])
          rw [he] at this
          obtain ⟨cb, h1, h2, h3⟩ := this
          exact ⟨_, w, run a w _ _ h3, .refl w, cb, h1, h2, rfl⟩
        · refine Res.val hWD _ h fun ψ Q a w p => ?_
          have := p.val (x := y) (by simp [Op.operands, ho]) he
          generalize hy : a.eval y = v at this
          cases this with
          | ptr _ _ cb e => exact ⟨_, w, run a w _ _ hy, .refl w, by rw [Nat.add_assoc]; exact .ptr _ _ cb e⟩
    | _ => cases h

theorem run_asIntOf (P : Program) (k : IntKind) (n : Int) (w : World) : (asIntOf (.int k n)).run P w = .ok (k, n) w := rfl

theorem inB_iff {n : Int} {m : Nat} (h : inB n m = true) : 0 ≤ n ∧ n < m := by
  simp only [inB, Bool.and_eq_true, decide_eq_true_eq] at h; exact h

theorem opIndexAddr_res {t : TypeId} {y i : Operand} (ho : o.op = .indexAddr t y i) (hWD : ∀ h, W h → D h) {K : Env → M β} {r : Out β × St} (h : opIndexAddr C E o K t y i s = some r) : Res C md pr ms o D W E s K r := by
  unfold opIndexAddr at h
  obtain ⟨k, n, hi, h⟩ := intK_some h
  have iv : ∀ ψ Q a w, Pre C o D E s ψ Q a w → a.eval i = .int k n := fun ψ Q a w p => by
    have := p.val (x := i) (by simp [Op.operands, ho]) hi
    generalize a.eval i = v at this
    cases this; rfl
  cases ht : C.P.underlying t with
  | none => rw [ht] at h; cases h
  | some td =>
    rw [ht] at h
    cases td with
    | slice e =>
      simp only at h
      obtain ⟨ed, he, h⟩ := tyK_some h
      obtain ⟨d, hd, h⟩ := valK_some h
      cases d with
      | slice z a m =>
        simp only at h
        obtain ⟨hz, h⟩ := cond_some h
        obtain ⟨j, p0, rfl, h⟩ := nn_some h
        obtain ⟨hb, h⟩ := chk_some h
        obtain ⟨hb1, hb2⟩ := inB_iff hb
        simp only [Option.isNone_some, Bool.or_false] at hz
        have hz := Nat.eq_of_beq_eq_true hz
        refine Res.val hWD _ h fun ψ Q a w p => ?_
        have hv := p.val (x := y) (by simp [Op.operands, ho]) hd
        generalize hy : a.eval y = v at hv
        cases hv with
        | slice _ _ _ _ cb ad cap e1 e2 e3 =>
          obtain ⟨e4, e5⟩ := e3 (by omega)
          refine ⟨.pointer (some ⟨cb.b, cb.o + (n.toNat * C.P.cellsOf e + p0), none⟩), w, ?_, .refl w, .ptr _ _ cb e1⟩
          rw [Nat.add_comm _ p0]
          simp [execOp, ho, hy, iv ψ Q a w p, Instr.indexAt, run_underlying' w ht, run_asIntOf, hb1, hb2, run_sizeOf' w he, e4, addr_add, Nat.add_assoc]
      | _ => cases h
    | array m e =>
      simp only at h
      obtain ⟨ed, he, h⟩ := tyK_some h
      have run : ∀ ψ Q (a : Act) (w : World) b p0, Pre C o D E s ψ Q a w → a.eval y = .pointer (some ⟨b, p0, none⟩) → 0 ≤ n → n < m →
          (execOp a.eval o).run C.P w = .ok (.value (.pointer (some ⟨b, p0 + n.toNat * C.P.cellsOf e, none⟩))) w := by
        intro ψ Q a w b p0 p hy hb1 hb2
        simp [execOp, ho, hy, iv ψ Q a w p, Instr.indexAt, run_underlying' w ht, run_asIntOf, hb1, hb2, run_sureAddr, run_sizeOf' w he, addr_add]
      rcases addrK_some h with ⟨x, v, p0, hx, h⟩ | ⟨x, p0, hx, h⟩
      · obtain ⟨hb, h⟩ := chk_some h
        obtain ⟨hb1, hb2⟩ := inB_iff hb
        refine Res.pure hWD _ rfl (fun hE r v' n' e => by cases e; exact Env.src_pl C hE hx) h fun ψ Q a w p => ?_
        have := p.src (x := y) (by simp [Op.operands, ho])
        rw [hx] at this
        obtain ⟨cb, h1, h2, h3⟩ := this
        exact ⟨_, w, run ψ Q a w _ _ p h3 hb1 hb2, .refl w, cb, h1, h2, by rw [Nat.add_comm]⟩
      · obtain ⟨hb, h⟩ := chk_some h
        obtain ⟨hb1, hb2⟩ := inB_iff hb
        refine Res.val hWD _ h fun ψ Q a w p => ?_
        have := p.val (x := y) (by simp [Op.operands, ho]) hx
        generalize hy : a.eval y = v at this
        cases this with
        | ptr _ _ cb e1 => exact ⟨_, w, run ψ Q a w _ _ p hy hb1 hb2, .refl w, by rw [Nat.add_comm _ p0, Nat.add_assoc]; exact .ptr _ _ cb e1⟩
    | _ => cases h

/-! ### Parts of values -/
theorem run_part_agg {P : Program} {t : TypeId} {d : TypeDesc} (w : World) (h : P.underlying t = some d) (ha : isAgg' P t = true) (cs : Array Value) (off : Nat) :
    (Go.part t cs off).run P w = .ok (.agg (cs.extract off (off + P.cellsOf t))) w := by
  simp [Go.part, run_isAgg' w h, ha, run_sizeOf' w h]
theorem run_part_one {P : Program} {t : TypeId} {d : TypeDesc} (w : World) (h : P.underlying t = some d) (ha : isAgg' P t = false) {cs : Array Value} {off : Nat} {v : Value} (hv : cs[off]? = some v) :
    (Go.part t cs off).run P w = .ok v w := by
  simp [Go.part, run_isAgg' w h, ha, hv]

theorem extract_rel {ψ : Ps} {ds : List DV} {vs : Array Value} (h : VRs C ψ ds vs.toList) (off n : Nat) : VRs C ψ ((ds.drop off).take n) (vs.extract off (off + n)).toList := by
  have := (h.drop off).take n
  rw [Array.toList_extract, List.extract_eq_take_drop]
  simpa using this

theorem all_sub {cs : List DV} {off n : Nat} (h : cs.all one = true) : ((cs.drop off).take n).all one = true :=
  List.all_eq_true.2 fun _ hx => List.all_eq_true.1 h _ (List.mem_of_mem_drop (List.mem_of_mem_take hx))

theorem part_res {t : TypeId} {td : TypeDesc} (ht : C.P.underlying t = some td) (hWD : ∀ h, W h → D h) {K : Env → M β} {r : Out β × St} {cs : List DV} {off : Nat}
    (h : (bif isAgg' C.P t then putK E o K (.agg ((cs.drop off).take (C.P.cellsOf t))) else Go.Gv.D.nth cs off fun d => dsh (shOf C.P t) d (putK E o K)) s = some r)
    (hrun : ∀ ψ Q a w, Pre C o D E s ψ Q a w → ∃ vs, VRs C ψ cs vs.toList ∧ cs.all one = true ∧ (∀ v, (Go.part t vs off).run C.P w = .ok v w → (execOp a.eval o).run C.P w = .ok (.value v) w)) : Res C md pr ms o D W E s K r := by
  cases ha : isAgg' C.P t with
  | true =>
    rw [ha] at h
    refine Res.val hWD _ h fun ψ Q a w p => ?_
    obtain ⟨vs, h1, h2, h3⟩ := hrun ψ Q a w p
    exact ⟨_, w, h3 _ (run_part_agg w ht ha vs off), .refl w, .agg _ _ (extract_rel h1 _ _) (all_sub h2)⟩
  | false =>
    rw [ha] at h
    simp only [cond_false] at h
    obtain ⟨d, hd, h⟩ := nth_some h
    obtain ⟨d', h, hr, _⟩ := dsh_some h
    refine Res.val hWD _ h fun ψ Q a w p => ?_
    obtain ⟨vs, h1, h2, h3⟩ := hrun ψ Q a w p
    obtain ⟨v, hv, hr'⟩ := h1.get hd
    exact ⟨v, w, h3 _ (run_part_one w ht ha (by simpa using hv)), .refl w, hr C ψ v hr'⟩

theorem opField_res {t : TypeId} {y : Operand} {f : Nat} (ho : o.op = .field t y f) (hWD : ∀ h, W h → D h) {K : Env → M β} {r : Out β × St} (h : opField C E o K t y f s = some r) : Res C md pr ms o D W E s K r := by
  unfold opField at h
  cases ht : C.P.underlying t with
  | none => rw [ht] at h; cases h
  | some td =>
    rw [ht] at h
    cases td with
    | struct fs =>
      simp only at h
      cases hf : fs[f]? with
      | none => rw [hf] at h; cases h
      | some fd =>
        rw [hf] at h
        simp only at h
        obtain ⟨ed, he, h⟩ := tyK_some h
        obtain ⟨d, hd, h⟩ := valK_some h
        cases d with
        | agg cs =>
          refine part_res he hWD h fun ψ Q a w p => ?_
          have hv := p.val (x := y) (by simp [Op.operands, ho]) hd
          generalize hy : a.eval y = v at hv
          cases hv with
          | agg _ vs h1 h2 => exact ⟨vs, h1, h2, fun v hp => by simp [execOp, ho, hy, Instr.field, run_underlying' w ht, hf, asAgg, hp]⟩
        | _ => cases h
    | _ => cases h

theorem bytes_get (s : ByteArray) (i : Nat) : s[i]? = s.data.toList[i]? := by
  rcases Nat.lt_or_ge i s.data.toList.length with h | h
  · have h' : i < s.size := by rw [Array.length_toList] at h; exact h
    rw [List.getElem?_eq_getElem h, getElem?_pos s i h', ByteArray.getElem_eq_getElem_data, Array.getElem_toList]
  · have h' : ¬ i < s.size := by rw [Array.length_toList] at h; exact Nat.not_lt.2 h
    rw [List.getElem?_eq_none h, getElem?_neg s i h']

theorem opIndex_res {t : TypeId} {y i : Operand} (ho : o.op = .index t y i) (hWD : ∀ h, W h → D h) {K : Env → M β} {r : Out β × St} (h : opIndex C E o K t y i s = some r) : Res C md pr ms o D W E s K r := by
  unfold opIndex at h
  obtain ⟨k, n, hi, h⟩ := intK_some h
  obtain ⟨d, hd, h⟩ := valK_some h
  have iv : ∀ ψ Q a w, Pre C o D E s ψ Q a w → a.eval i = .int k n := fun ψ Q a w p => by
    have := p.val (x := i) (by simp [Op.operands, ho]) hi
    generalize a.eval i = v at this
    cases this; rfl
  cases ht : C.P.underlying t with
  | none => rw [ht] at h; cases h
  | some td =>
    rw [ht] at h
    cases td with
    | string =>
      cases d with
      | str l =>
        simp only at h
        obtain ⟨hb, h⟩ := chk_some h
        obtain ⟨hb1, hb2⟩ := inB_iff hb
        refine Res.val hWD _ h fun ψ Q a w p => ?_
        have hv := p.val (x := y) (by simp [Op.operands, ho]) hd
        generalize hy : a.eval y = v at hv
        cases hv with
        | str x =>
          have hlt : n.toNat < x.data.toList.length := by omega
          have hg : x[n.toNat]? = some x.data.toList[n.toNat] := by rw [bytes_get]; exact List.getElem?_eq_getElem hlt
          refine ⟨.int .u8 (byteAt x.data.toList n), w, ?_, .refl w, .int _ _⟩
          simp only [execOp, ho, hy, iv ψ Q a w p, Instr.index, Sem.run_bind, run_asIntOf, run_underlying' w ht, Result.andThen_ok, hb1, if_true, hg, Sem.run_pure, byteAt]
          congr 3
          simp [List.getD, List.getElem?_eq_getElem hlt]
      | _ => cases h
    | array m e =>
      cases d with
      | agg cs =>
        simp only at h
        obtain ⟨ed, he, h⟩ := tyK_some h
        obtain ⟨hb, h⟩ := chk_some h
        obtain ⟨hb1, hb2⟩ := inB_iff hb
        refine part_res he hWD h fun ψ Q a w p => ?_
        have hv := p.val (x := y) (by simp [Op.operands, ho]) hd
        generalize hy : a.eval y = v at hv
        cases hv with
        | agg _ vs h1 h2 => exact ⟨vs, h1, h2, fun v hp => by simp [execOp, ho, hy, iv ψ Q a w p, Instr.index, run_asIntOf, run_underlying' w ht, hb1, hb2, run_sizeOf' w he, hp]⟩
      | _ => cases h
    | _ => cases d <;> cases h
end
end Go.Gv
