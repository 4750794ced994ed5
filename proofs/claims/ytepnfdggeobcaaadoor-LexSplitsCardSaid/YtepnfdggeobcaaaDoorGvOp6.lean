/- Single operations: cuts, walks through texts, conversions, assertions. -/
import Derived.Test.YtepnfdggeobcaaaDoorGvOp5
import Derived.Laws.Slices
import Derived.Laws.BytesArg
namespace Go.Gv
variable {β : Type}

section
variable {C : Cfg} {o : Oper} {D W : HId → Prop} {E : Env} {s : St} {md : Md} {pr ms : List Nat}

theorem Pre.int {ψ : Ps} {Q : Kn} {a : Act} {w : World} (p : Pre C o D E s ψ Q a w) {x : Operand} (hx : x ∈ o.op.operands) {k : IntKind} {n : Int} (h : E.src C x = .v (.int k n)) : a.eval x = .int k n := by
  have := p.val hx h
  generalize a.eval x = v at this
  cases this; rfl

/-! ### Cuts -/
theorem boundsK_some {len : Nat} {lo hi : Option Operand} {K : Nat → Nat → M β} {r : Out β × St} (h : boundsK C E len lo hi K s = some r) :
    ∃ l u, K l u s = some r ∧ l ≤ u ∧ u ≤ len ∧ (lo = none → l = 0) ∧ (hi = none → u = len) ∧
      ∀ ψ Q a w, Pre C o D E s ψ Q a w → (∀ x, lo = some x → x ∈ o.op.operands) → (∀ x, hi = some x → x ∈ o.op.operands) → ∀ (b : Bool) (cap : Nat), len ≤ cap → (b = false → len = cap) →
        (Instr.sliceBounds b len cap (lo.map a.eval) (hi.map a.eval) none).run C.P w = .ok (l, u, cap) w := by
  unfold boundsK at h
  have low : ∀ u, (match lo with | none => K 0 u | some x => intK C E x fun l => M.chk (decide (0 ≤ l) && decide (l ≤ u)) (K l.toNat u)) s = some r →
      ∃ l, K l u s = some r ∧ l ≤ u ∧ (lo = none → l = 0) ∧ ∀ ψ Q a w, Pre C o D E s ψ Q a w → (∀ x, lo = some x → x ∈ o.op.operands) →
        (match lo.map a.eval with | some v => Instr.sliceBound v u .sliceB | none => pure 0 : Sem Nat).run C.P w = .ok l w := by
    intro u h
    cases lo with
    | none => exact ⟨0, h, Nat.zero_le _, fun _ => rfl, fun ψ Q a w p _ => rfl⟩
    | some x =>
      obtain ⟨k, n, hx, h⟩ := intK_some h
      obtain ⟨hc, h⟩ := chk_some h
      simp only [Bool.and_eq_true, decide_eq_true_eq] at hc
      refine ⟨n.toNat, h, by omega, fun h => (nomatch h), fun ψ Q a w p hm => ?_⟩
      simp only [Option.map_some, p.int (hm x rfl) hx]
      exact run_sliceBound _ k n u _ hc.1 hc.2
  cases hi with
  | none =>
    obtain ⟨l, h, h1, h2, h3⟩ := low len h
    refine ⟨l, len, h, h1, Nat.le_refl _, h2, fun _ => rfl, fun ψ Q a w p hl _ b cap hcap hb => ?_⟩
    have := h3 ψ Q a w p hl
    unfold Instr.sliceBounds
    simp only [Option.map_none, Sem.run_bind, Sem.run_pure, Result.andThen_ok, Option.isSome_none, Bool.false_eq_true, if_false]
    cases hlo : lo.map a.eval with
    | none => rw [hlo] at this; simp only [Sem.run_pure, Result.ok.injEq] at this ⊢; simp [this.1]
    | some v => rw [hlo] at this; simp only at this ⊢; rw [Sem.run_bind, this]; rfl
  | some y =>
    obtain ⟨k, n, hy, h⟩ := intK_some h
    obtain ⟨hc, h⟩ := chk_some h
    simp only [Bool.and_eq_true, decide_eq_true_eq] at hc
    obtain ⟨l, h, h1, h2, h3⟩ := low n.toNat h
    refine ⟨l, n.toNat, h, h1, by omega, h2, fun h => (nomatch h), fun ψ Q a w p hl hh b cap hcap hb => ?_⟩
    have := h3 ψ Q a w p hl
    have hs : ∀ code, (Instr.sliceBound (.int k n) cap code).run C.P w = .ok n.toNat w := fun code => run_sliceBound _ k n cap code hc.1 (by omega)
    unfold Instr.sliceBounds
    simp only [Option.map_some, p.int (hh y rfl) hy, Sem.run_bind, Sem.run_pure, Result.andThen_ok, Option.isSome_none, Bool.false_eq_true, if_false, hs]
    cases hlo : lo.map a.eval with
    | none => rw [hlo] at this; simp only [Sem.run_pure, Result.ok.injEq] at this ⊢; simp [this.1]
    | some v => rw [hlo] at this; simp only at this ⊢; rw [Sem.run_bind, this]; rfl

theorem opSlice_mem {t : TypeId} {y : Operand} {lo hi : Option Operand} (ho : o.op = .slice t y lo hi none) : y ∈ o.op.operands ∧ (∀ x, lo = some x → x ∈ o.op.operands) ∧ (∀ x, hi = some x → x ∈ o.op.operands) := by
  rw [ho]
  refine ⟨by simp [Op.operands], fun x hx => ?_, fun x hx => ?_⟩
  · subst hx; simp [Op.operands]
  · subst hx; simp [Op.operands]

theorem cut_rel {ψ : Ps} {sz i n : Nat} {cb : CB} {base : Addr} {off cap l u : Nat} {lo : Bool} (hcb : ψ (.inl i) = some cb) (hb : 0 < cap → base = ⟨cb.b, cb.o + off, none⟩ ∧ off + cap * sz ≤ cb.m)
    (h1 : l ≤ u) (h2 : u ≤ n) (h3 : n ≤ cap) (hlo : lo = false → l = 0) :
    VR C ψ (.slice sz (cutA lo (some (i, off)) (l * sz)) (cutN lo l u)) (.slice (some (if cap = l then base else base.add (l * sz))) (u - l) (cap - l)) := by
  have e : cutA lo (some (i, off)) (l * sz) = some (i, off + l * sz) := by
    cases lo with
    | true => simp [cutA, Nat.add_comm]
    | false => simp [cutA, hlo rfl]
  have e2 : cutN lo l u = u - l := by
    cases lo with
    | true => rfl
    | false => simp [cutN, hlo rfl]
  rw [e, e2]
  refine .slice sz i _ _ cb _ _ hcb (by omega) (fun hc => ?_)
  obtain ⟨h4, h5⟩ := hb (by omega)
  rw [if_neg (by omega), h4, addr_add]
  refine ⟨by rw [Nat.add_assoc], ?_⟩
  have : off + l * sz + (cap - l) * sz = off + cap * sz := by rw [Nat.add_assoc, ← Nat.add_mul]; congr 2; omega
  omega

theorem opSlice_res {t : TypeId} {y : Operand} {lo hi : Option Operand} (ho : o.op = .slice t y lo hi none) (hWD : ∀ h, W h → D h) (hDh : (∃ m e, C.P.underlying t = some (.array m e)) → ∀ i, D (.inl i))
    {K : Env → M β} {r : Out β × St} (h : opSlice C E o K t y lo hi s = some r) : Res C md pr ms o D W E s K r := by
  obtain ⟨my, mlo, mhi⟩ := opSlice_mem ho
  unfold opSlice at h
  cases ht : C.P.underlying t with
  | none => rw [ht] at h; cases h
  | some td =>
    rw [ht] at h
    cases td with
    | string =>
      simp only at h
      obtain ⟨d, hd, h⟩ := valK_some h
      cases d with
      | str x =>
        simp only at h
        obtain ⟨l, u, h, h1, h2, h3, h4, hr⟩ := boundsK_some (o := o) (D := D) h
        refine Res.val hWD _ h fun ψ Q a w p => ?_
        have hv := p.val my hd
        generalize hy : a.eval y = v at hv
        cases hv with
        | str x =>
          have hlen : x.data.toList.length = x.size := by rw [Array.length_toList]; rfl
          have hr' := hr ψ Q a w p mlo mhi false x.size (by omega) (fun _ => hlen)
          rw [hlen] at hr'
          refine ⟨.string (x.extract l u), w, ?_, .refl w, ?_⟩
          · simp only [execOp, ho, hy, Instr.sliceAt, Sem.run_bind, run_underlying' w ht, Result.andThen_ok, Instr.slice, Option.map_none, Option.isSome_none, Bool.false_eq_true, if_false, Sem.run_pure, hr']
          · have e : cutS lo.isSome hi.isSome x.data.toList l u = (x.extract l u).data.toList := by
              rw [ByteArray.data_extract, Array.toList_extract, List.extract_eq_take_drop]
              have e2 : (x.data.toList.take u).drop l = (x.data.toList.drop l).take (u - l) := by rw [List.drop_take]
              cases lo with
              | none =>
                have := h3 rfl; subst this
                cases hi with
                | none =>
                  have := h4 rfl; subst this
                  simp only [cutS, Option.isSome_none, cond_false]
                  rw [List.drop_zero, Nat.sub_zero, List.take_of_length_le (Nat.le_refl _)]
                | some _ => simp [cutS]
              | some _ =>
                cases hi with
                | none =>
                  have := h4 rfl; subst this
                  simp only [cutS, Option.isSome_some, Option.isSome_none, cond_true, cond_false]
                  rw [List.take_of_length_le (by simp)]
                | some _ => simp only [cutS, Option.isSome_some, cond_true]; exact e2
            rw [e]
            exact .str _
      | _ => cases h
    | slice e =>
      simp only at h
      obtain ⟨ed, he, h⟩ := tyK_some h
      obtain ⟨d, hd, h⟩ := valK_some h
      cases d with
      | slice z a n =>
        simp only at h
        obtain ⟨hz, h⟩ := cond_some h
        obtain ⟨l, u, h, h1, h2, h3, h4, hr⟩ := boundsK_some (o := o) (D := D) h
        refine Res.val hWD _ h fun ψ Q A w p => ?_
        have hv := p.val my hd
        generalize hy : A.eval y = v at hv
        cases hv with
        | sliceN =>
          have hr' := hr ψ Q A w p mlo mhi true 0 (Nat.le_refl _) (fun h => nomatch h)
          have : l = 0 := by omega
          subst this
          have : u = 0 := by omega
          subst this
          refine ⟨.slice none 0 0, w, ?_, .refl w, ?_⟩
          · simp [execOp, ho, hy, Instr.sliceAt, Instr.slice, run_underlying' w ht, hr', run_sizeOf' w he]
          · cases lo <;> exact .sliceN _
        | slice _ i off _ cb base cap hcb hcap hb =>
          simp only [Option.isNone_some, Bool.or_false] at hz
          have hz := Nat.eq_of_beq_eq_true hz
          subst hz
          have hr' := hr ψ Q A w p mlo mhi true cap hcap (fun h => nomatch h)
          refine ⟨_, w, ?_, .refl w, cut_rel hcb hb h1 h2 hcap (fun hl => h3 (by cases lo <;> first | rfl | cases hl))⟩
          simp only [execOp, ho, hy, Instr.sliceAt, Instr.slice, Sem.run_bind, run_underlying' w ht, Result.andThen_ok, Option.map_none, hr', run_sizeOf' w he, Sem.run_pure, Option.map_some]
          by_cases hcl : cap = l <;> simp [hcl]
      | _ => cases h
    | array m e =>
      simp only at h
      obtain ⟨ed, he, h⟩ := tyK_some h
      obtain ⟨d, hd, h⟩ := valK_some h
      cases d with
      | ptr a =>
        simp only at h
        obtain ⟨i, off, ha, h'⟩ := nn_some h
        clear h
        subst ha
        obtain ⟨f, cs, hst, hle, h⟩ := load_some h'
        obtain ⟨l, u, h, h1, h2, h3, h4, hr⟩ := boundsK_some (o := o) (D := D) h
        refine Res.val hWD _ h fun ψ Q A w p => ?_
        have hv := p.val my hd
        generalize hy : A.eval y = v at hv
        cases hv with
        | ptr _ _ cb hcb =>
          have hh := (p.at (hDh ⟨m, e, ht⟩ i) hst hcb).1
          have hr' := hr ψ Q A w p mlo mhi false m (Nat.le_refl _) (fun _ => rfl)
          refine ⟨_, w, ?_, .refl w, cut_rel (cap := m) (base := ⟨cb.b, cb.o + off, none⟩) hcb (fun _ => ⟨rfl, by omega⟩) h1 h2 (Nat.le_refl _) (fun hl => h3 (by cases lo <;> first | rfl | cases hl))⟩
          simp only [execOp, ho, hy, Instr.sliceAt, Sem.run_bind, run_underlying' w ht, Result.andThen_ok, run_sureAddr, Option.map_none, hr', run_sizeOf' w he, Sem.run_pure]
      | _ => cases h
    | _ => cases h

/-! ### Walks through texts -/
theorem opRange_res {t : TypeId} {y : Operand} (ho : o.op = .range t y) (hWD : ∀ h, W h → D h) {K : Env → M β} {r : Out β × St} (h : opRange C E o K t y s = some r) : Res C md pr ms o D W E s K r := by
  unfold opRange at h
  cases ht : C.P.underlying t with
  | none => rw [ht] at h; cases h
  | some td =>
    rw [ht] at h
    cases td with
    | string =>
      simp only at h
      obtain ⟨d, hd, h⟩ := valK_some h
      cases hdst : o.dst with
      | none => rw [hdst] at h; cases d <;> cases h
      | some u =>
        rw [hdst] at h
        cases d with
        | str l =>
          simp only at h
          refine Res.newL (by unfold Spec; rw [ho]; trivial) hWD u hdst _ _ (.inr ⟨l, 0, rfl, rfl⟩) h fun ψ Q a w p => ?_
          have hv := p.val (x := y) (by simp [Op.operands, ho]) hd
          generalize hy : a.eval y = v at hv
          cases hv with
          | str x =>
            refine ⟨w.alloc (.stringIter x 0), ⟨w.heap.size, 0, 0⟩, ?_, .alloc w _, Nat.le_refl _, by simp, rfl, x, heap_alloc_new w _, rfl⟩
            simp [execOp, ho, hy, Instr.range, run_underlying' w ht]
        | _ => cases h
    | _ => cases h

theorem get_bang (s : ByteArray) (i : Nat) : s.get! i = s.data.toList.getD i 0 := by
  show s.data[i]! = _
  rw [Array.getElem!_eq_getD, List.getD_eq_getElem?_getD, Array.getD_eq_getD_getElem?]
  simp
  rfl

theorem dec_eq (s : ByteArray) (i : Nat) : dec s.data.toList i = Utf8.decode s i := by
  have hl : s.data.toList.length = s.size := by rw [Array.length_toList]; rfl
  unfold dec Utf8.decode
  simp only [get_bang, hl]

theorem run_getIter {P : Program} {w : World} {b : Nat} {x : ByteArray} {p : Nat} (h : w.heap[b]? = some (.stringIter x p)) : (getObj b).run P w = .ok (.stringIter x p) w := by
  simp only [getObj, Sem.run, h]
theorem run_setIter {P : Program} {w : World} {b : Nat} {x y : ByteArray} {p q : Nat} (h : w.heap[b]? = some (.stringIter x p)) : (setObj b (.stringIter y q)).run P w = .ok () (setB w b (.stringIter y q)) := by
  simp only [setObj, Sem.run, h]; rfl

theorem opNext_res {t : Nat} (ho : o.op = .next (.tmp t) true) (hWD : ∀ h, W h → D h) (hW : ∀ v, (E.get t).ver = some v → W (.inr v)) {K : Env → M β} {r : Out β × St} (h : opNext E o K ms t s = some r) : Res C md pr ms o D W E s K r := by
  unfold opNext at h
  cases hl : E.get t with
  | it v l pos =>
    rw [hl] at h
    cases hdst : o.dst with
    | none => rw [hdst] at h; cases h
    | some d =>
      rw [hdst] at h
      simp only at h
      obtain ⟨hc, h⟩ := cond_some' h
      rw [Bool.or_eq_false_iff] at hc
      have hne : d ≠ t := Nat.ne_of_beq_eq_false hc.1
      have hms : has ms t = true := by simpa using hc.2
      have hWv := hW v (by rw [hl]; rfl)
      have at_ : ∀ ψ Q a w, Pre C o D E s ψ Q a w → ∃ cb x, ψ (.inr v) = some cb ∧ a.eval (.tmp t) = .pointer (some ⟨cb.b, 0, none⟩) ∧ Q (.inr v) (.iter l pos) ∧ w.heap[cb.b]? = some (.stringIter x pos) ∧ x.data.toList = l := by
        intro ψ Q a w p
        have := p.args t (by simp [Op.operands, ho])
        rw [hl] at this
        obtain ⟨cb, e1, e2⟩ := this
        have hq := p.know (.inr v) (.iter l pos) cb (hWD _ hWv) (.inr ⟨t, l, pos, hl, rfl⟩) e1
        obtain ⟨x, h1, h2⟩ := p.sim.holds _ cb _ e1 hq
        exact ⟨cb, x, e1, e2, hq, h1, h2⟩
      cases hb : Nat.blt pos l.length with
      | false =>
        rw [hb] at h
        simp only [cond_false] at h
        refine Res.pure hWD (.tup [.bool false]) rfl (fun _ _ _ _ e => nomatch e) (by rw [hdst]; exact h) fun ψ Q a w p => ?_
        obtain ⟨cb, x, e1, e2, hq, h1, h2⟩ := at_ ψ Q a w p
        have hlen : ¬ pos < x.size := by
          have : x.data.toList.length = x.size := by rw [Array.length_toList]; rfl
          rw [← this, h2]
          intro hlt
          have : Nat.blt pos l.length = true := by rw [Nat.blt_eq]; exact hlt
          rw [hb] at this; cases this
        refine ⟨.tuple #[.bool false], w, ?_, .refl w, _, rfl, .cons _ _ _ _ (.bool _) .nil⟩
        simp only [execOp, ho, e2, Instr.next, Sem.run_bind, run_getIter h1, Result.andThen_ok, hlen, if_false, Sem.run_pure]
      | true =>
        rw [hb] at h
        simp only [cond_true] at h
        have hlt : pos < l.length := by rw [Nat.blt_eq] at hb; exact hb
        have get : ∀ k, ((E.put t (.it v l (pos + runeW l pos))).put d (.tup [.bool true, .int .i64 pos, .int .i32 (runeAt l pos)])).get k =
            if d = k then .tup [.bool true, .int .i64 pos, .int .i32 (runeAt l pos)] else if t = k then .it v l (pos + runeW l pos) else E.get k := fun k => by rw [Env.get_put, Env.get_put]
        have uniq : EOK E → ∀ q, (E.get q).ver = some v → q = t := fun hE q hq => hE.uniq q t v hq (by rw [hl]; rfl)
        refine .inl ⟨_, _, h, ⟨Nat.le_refl _, Nat.le_refl _, fun hE => ⟨?_, ?_, ?_, ?_⟩, ?_, ?_, ?_, ?_, ?_, fun _ _ _ => rfl, .inr (by unfold Spec; rw [ho]; trivial), .inl rfl⟩, ?_⟩
        · intro k v' h'
          rw [get] at h'
          split at h'
          · cases h'
          · split at h'
            · cases h'; exact hE.lt t v (by rw [hl]; rfl)
            · exact hE.lt k v' h'
        · intro k a b c h'
          rw [get] at h'
          split at h'
          · cases h'
          · split at h'
            · cases h'
            · exact hE.pl k a b c h'
        · intro k a b c h'
          rw [get] at h'
          split at h'
          · cases h'
          · split at h'
            · cases h'
            · exact hE.len k a b c h'
        · intro k k' v' h' h''
          rw [get] at h' h''
          split at h'
          · cases h'
          · split at h''
            · cases h''
            · split at h' <;> split at h''
              · omega
              · cases h'; rename_i e1 e2 _; rw [← e2]; exact (uniq hE k' h'').symm
              · cases h''; rename_i e2; rw [← e2]; exact uniq hE k h'
              · exact hE.uniq k k' v' h' h''
        · intro k hk hm
          rw [get, if_neg (fun e => hk (by rw [hdst, e])), if_neg]
          rintro rfl
          rw [hms] at hm; cases hm
        · intro k hk C' ψ x hr
          rw [get, if_neg (fun e => hk (by rw [hdst, e]))]
          split
          · rename_i e; subst e; rw [hl] at hr; exact hr
          · exact hr
        · intro h' ab c
          cases h' with
          | inl i => exact .inr (.inr c)
          | inr k =>
            rcases c with ⟨q, n', cs', hq, hab⟩ | ⟨q, l', p, hq, hab⟩
            · rw [get] at hq
              split at hq
              · cases hq
              · split at hq
                · cases hq
                · exact .inr (.inr (.inl ⟨q, n', cs', hq, hab⟩))
            · rw [get] at hq
              split at hq
              · cases hq
              · split at hq
                · cases hq; exact .inl hWv
                · exact .inr (.inr (.inr ⟨q, l', p, hq, hab⟩))
        · intro k v' n' cs' h'
          rw [get] at h'
          split at h'
          · cases h'
          · split at h'
            · cases h'
            · exact .inl ⟨cs', h'⟩
        · intro k v' l' p h'
          rw [get] at h'
          split at h'
          · cases h'
          · split at h'
            · rename_i e; cases h'; subst e; exact .inl ⟨pos, hl⟩
            · exact .inl ⟨p, h'⟩
        · intro ψ Q a w next QQ p room hn
          obtain ⟨cb, x, e1, e2, hq, h1, h2⟩ := at_ ψ Q a w p
          have hx : x.data.toList.length = x.size := by rw [Array.length_toList]; rfl
          have hlt' : pos < x.size := by rw [← hx, h2]; exact hlt
          have hset := SetW.setB w cb.b (.stringIter x (pos + runeW l pos))
          have hr : (execOp a.eval o).run C.P w = .ok (.value (.tuple #[.bool true, .int .i64 pos, .int .i32 (runeAt l pos)])) (setB w cb.b (.stringIter x (pos + runeW l pos))) := by
            have hd := dec_eq x pos
            rw [h2] at hd
            simp only [execOp, ho, e2, Instr.next, Sem.run_bind, run_getIter h1, Result.andThen_ok, hlt', if_true, ← hd, run_setIter h1, Sem.run_pure]
            rfl
          unfold Oper.wp
          rw [hr]
          refine hn ψ (upQ Q (.inr v) (.iter l (pos + runeW l pos))) _ _ ⟨Sim.set p.sim e1 hq rfl hset.other ⟨x, setB_same (lt_of_get h1) _, h2⟩, Ext.set e1 hq rfl hset.other hset.size hset.tape hset.os hset.output,
            fun _ _ e => .inl e, fun h' ab c cr hw e' => ?_, fun h' ab c e' q nw _ => ?_⟩ (fun d' hd' => ?_)
          · have old : (h' = .inr v ∧ ab = .iter l (pos + runeW l pos)) ∨ (h' ≠ .inr v ∧ CR E s h' ab) := by
              cases h' with
              | inl i => exact .inr ⟨by simp, cr⟩
              | inr k =>
                rcases cr with ⟨q, n', cs', hq, hab⟩ | ⟨q, l', p', hq, hab⟩
                · rw [get] at hq
                  split at hq
                  · cases hq
                  · split at hq
                    · cases hq
                    · rename_i hnt
                      refine .inr ⟨fun e => ?_, .inl ⟨q, n', cs', hq, hab⟩⟩
                      cases e
                      exact hnt (uniq p.eok q (by rw [hq]; rfl)).symm
                · rw [get] at hq
                  split at hq
                  · cases hq
                  · split at hq
                    · cases hq; exact .inl ⟨rfl, hab⟩
                    · rename_i hnt
                      refine .inr ⟨fun e => ?_, .inr ⟨q, l', p', hq, hab⟩⟩
                      cases e
                      exact hnt (uniq p.eok q (by rw [hq]; rfl)).symm
            rcases old with ⟨rfl, rfl⟩ | ⟨hne', cr⟩
            · exact .inl ⟨rfl, rfl⟩
            · refine .inr ⟨hne', ?_⟩
              rcases hw with hw | ⟨n1, n2⟩
              · exact p.know h' ab c (hWD h' hw) cr e'
              · exact absurd (cr.dom p.eok) n1
          · exact .inr ⟨fun e => nw (by rw [e]; exact hWv), q⟩
          · rw [hdst] at hd'; cases hd'
            rw [get, if_pos rfl]
            exact ⟨_, rfl, .cons _ _ _ _ (.bool _) (.cons _ _ _ _ (.int _ _) (.cons _ _ _ _ (.int _ _) .nil))⟩
  | _ => rw [hl] at h; cases h

/-! ### Assertions, panics -/
theorem run_typeFail {P : Program} {e : TypeId} {d : TypeDesc} (h1 : P.underlying P.rt.typeAssertionError = some (.pointer e)) (_h2 : P.underlying e = some d) (i c : Option TypeId) (a : TypeId) (m : String) (w : World) :
    ∃ v o, (runtimePanic (.typeAssertion i c a m) : Sem Value).run P w = .halt (.panic v) (w.alloc o) := by
  simp only [runtimePanic, Sem.run_bind, run_program, Result.andThen_ok, elemOf, run_underlying' w h1, Sem.run_pure, newVar_run, run_goPanic]
  exact ⟨_, _, rfl⟩

theorem OpPan.more (hrun : ∀ ψ Q a w, Pre C o D E s ψ Q a w → ∃ v w', (execOp a.eval o).run C.P w = .halt (.panic v) w' ∧ More w w') (hD : ∀ i, D (.inl i)) : OpPan C o D E s s := by
  refine ⟨Nat.le_refl _, fun ψ Q a w next QQ p _ hn => ?_⟩
  obtain ⟨v, w', hr, hm⟩ := hrun ψ Q a w p
  unfold Oper.wp
  rw [hr]
  exact hn ψ Q _ w' (p.sim.more p.blks hm) (Ext.more hm) (fun _ _ e => .inl e) fun i ab cb h e => p.know (.inl i) ab cb (hD i) h e

theorem panK_some {r : Out β × St} (h : panK md s = some r) : md.x = 0 ∧ r = (.pan, s) := by
  unfold panK at h
  obtain ⟨h1, h⟩ := cond_some h
  refine ⟨Nat.eq_of_beq_eq_true h1, ?_⟩
  simp only [M.pan, Option.some.injEq] at h
  exact h.symm

theorem opAssert_res {t xt : TypeId} {y : Operand} (hc : CfgOk C) (ho : o.op = .typeAssert y xt t false) (hWD : ∀ h, W h → D h) (hD : ∀ i, D (.inl i)) {K : Env → M β} {r : Out β × St} (h : opAssert C E o K md t y s = some r) : Res C md pr ms o D W E s K r := by
  unfold opAssert at h
  cases ht : C.P.underlying t with
  | none => rw [ht] at h; cases h
  | some td =>
    have hni : ∀ m, td ≠ .interface m := by rintro m rfl; rw [ht] at h; cases h
    have h' : valK C E y (fun d => Go.Gv.D.asr (panK md) d (C.ty t) fun d => dsh (shOf C.P t) d (putK E o K)) s = some r := by rw [ht] at h; cases td <;> first | exact h | exact absurd rfl (hni _)
    obtain ⟨d, hd, h'⟩ := valK_some h'
    have fails : ∀ (a : Act) (w : World), (a.eval y = .nilIface ∨ ∃ t' v, a.eval y = .iface t' v ∧ t' ≠ t) → ∃ v w', (execOp a.eval o).run C.P w = .halt (.panic v) w' ∧ More w w' := by
      intro a w hy
      obtain ⟨e, ed, e1, e2⟩ := hc.tae
      rcases hy with hy | ⟨t', v, hy, hne⟩
      · obtain ⟨v, ob, hv⟩ := run_typeFail e1 e2 (some xt) none t "" w
        refine ⟨v, _, ?_, .alloc w ob⟩
        simp only [execOp, ho, hy, Instr.typeAssert, Sem.run_bind, run_underlying' w ht, Result.andThen_ok]
        cases td <;> first | (simp only [Bool.false_eq_true, if_false, hv, Result.andThen_halt]; done) | exact absurd rfl (hni _)
      · obtain ⟨v, ob, hv⟩ := run_typeFail e1 e2 (some xt) (some t') t "" w
        refine ⟨v, _, ?_, .alloc w ob⟩
        simp only [execOp, ho, hy, Instr.typeAssert, Sem.run_bind, run_underlying' w ht, Result.andThen_ok]
        cases td <;> first | (simp only [if_neg hne, Bool.false_eq_true, if_false, hv, Result.andThen_halt]; done) | exact absurd rfl (hni _)
    cases d with
    | iface t' d =>
      simp only [Go.Gv.D.asr] at h'
      cases hb : Nat.beq t' (C.ty t) with
      | true =>
        rw [hb] at h'
        simp only [cond_true] at h'
        obtain ⟨d', h', hr, _⟩ := dsh_some h'
        refine Res.val hWD _ h' fun ψ Q a w p => ?_
        have hv := p.val (x := y) (by simp [Op.operands, ho]) hd
        generalize hy : a.eval y = v at hv
        cases hv with
        | iface t0 _ v hv =>
          have := hc.ty _ _ (Nat.eq_of_beq_eq_true hb)
          subst this
          refine ⟨v, w, ?_, .refl w, hr C ψ v hv⟩
          simp only [execOp, ho, hy, Instr.typeAssert, Sem.run_bind, run_underlying' w ht, Result.andThen_ok]
          cases td <;> first | (simp; done) | exact absurd rfl (hni _)
      | false =>
        rw [hb] at h'
        obtain ⟨hx, rfl⟩ := panK_some h'
        refine .inr ⟨hx, s, rfl, OpPan.more (fun ψ Q a w p => fails a w (.inr ?_)) hD⟩
        have hv := p.val (x := y) (by simp [Op.operands, ho]) hd
        generalize hy : a.eval y = v at hv
        cases hv with
        | iface t0 _ v hv => exact ⟨t0, v, rfl, fun e => by subst e; rw [Nat.beq_refl] at hb; cases hb⟩
    | nilIface =>
      obtain ⟨hx, rfl⟩ := panK_some h'
      refine .inr ⟨hx, s, rfl, OpPan.more (fun ψ Q a w p => fails a w (.inl ?_)) hD⟩
      have hv := p.val (x := y) (by simp [Op.operands, ho]) hd
      generalize hy : a.eval y = v at hv
      cases hv; rfl
    | _ => cases h'

theorem opPanic_res {y : Operand} (ho : o.op = .panic y) (hD : ∀ i, D (.inl i)) {K : Env → M β} {r : Out β × St} (h : opPanic C E md y s = some r) : Res C md pr ms o D W E s K r := by
  unfold opPanic at h
  obtain ⟨d, hd, h⟩ := valK_some h
  cases d with
  | iface t d =>
    obtain ⟨hx, rfl⟩ := panK_some h
    refine .inr ⟨hx, s, rfl, OpPan.more (fun ψ Q a w p => ?_) hD⟩
    have hv := p.val (x := y) (by simp [Op.operands, ho]) hd
    generalize hy : a.eval y = v at hv
    cases hv with
    | iface t0 _ v hv => exact ⟨.iface t0 v, w, by simp only [execOp, ho, hy, Instr.panic, Sem.run_bind, run_goPanic, Result.andThen_halt], .refl w⟩
  | _ => cases h
end
end Go.Gv
