/- Arguments that can be read as data: what the machine makes of them. -/
import Derived.Test.YtepnfdggeobcaaaDoorGvSeat
import Derived.ChangeArms
import Derived.OpenShut
namespace Go.Gv

/-- Kinds of data: structs and arrays as pairs. -/
inductive Ty where
  | b
  | i (k : IntKind)
  | s
  | sl (e : Ty)
  | un
  | pr (x y : Ty)

def Ty.size : Ty → Nat
  | .un => 0
  | .pr x y => x.size + y.size
  | _ => 1

/-- Cells that are data of a kind. -/
def Rd (s : St) : Ty → List DV → Prop
  | .b, ds => ∃ b, ds = [.bool b]
  | .i k, ds => ∃ n : Int, ds = [.int k n] ∧ k.min ≤ n ∧ n ≤ k.max
  | .s, ds => ∃ l : List UInt8, ds = [.str l] ∧ l.length ≤ maxLen
  | .sl e, ds => ds = [.slice e.size none 0] ∨ ∃ (i n : Nat) (cs : List DV), ds = [.slice e.size (some (i, 0)) n] ∧ s[i]? = some (some ⟨true, cs⟩) ∧ cs.length = n * e.size ∧ n ≤ maxLen ∧ ∀ j, j < n → Rd s e ((cs.drop (j * e.size)).take e.size)
  | .un, ds => ds = []
  | .pr x y, ds => ∃ a b, ds = a ++ b ∧ Rd s x a ∧ Rd s y b

theorem Rd.len {s : St} : ∀ {t : Ty} {ds : List DV}, Rd s t ds → ds.length = t.size
  | .b, _, ⟨_, h⟩ => by rw [h]; rfl
  | .i _, _, ⟨_, h, _⟩ => by rw [h]; rfl
  | .s, _, ⟨_, h, _⟩ => by rw [h]; rfl
  | .sl _, _, h => by rcases h with h | ⟨_, _, _, h, _⟩ <;> (rw [h]; rfl)
  | .un, _, h => by rw [show _ = [] from h]; rfl
  | .pr x y, _, ⟨a, b, h, h1, h2⟩ => by rw [h, List.length_append, Rd.len h1, Rd.len h2]; rfl

theorem Rd.one {s : St} : ∀ {t : Ty} {ds : List DV}, Rd s t ds → ds.all one = true
  | .b, _, ⟨_, h⟩ => by rw [h]; rfl
  | .i _, _, ⟨_, h, _⟩ => by rw [h]; rfl
  | .s, _, ⟨_, h, _⟩ => by rw [h]; rfl
  | .sl _, _, h => by rcases h with h | ⟨_, _, _, h, _⟩ <;> (rw [h]; rfl)
  | .un, _, h => by rw [show _ = [] from h]; rfl
  | .pr x y, _, ⟨a, b, h, h1, h2⟩ => by rw [h, List.all_append, Rd.one h1, Rd.one h2]; rfl

theorem Rd.mono {s s' : St} (hs : ∀ (i : Nat) (b : Option Blk), s[i]? = some b → s'[i]? = some b) : ∀ {t : Ty} {ds : List DV}, Rd s t ds → Rd s' t ds
  | .b, _, h => h
  | .i _, _, h => h
  | .s, _, h => h
  | .sl e, _, h => by
    rcases h with h | ⟨i, n, cs, h1, h2, h3, h4, h5⟩
    · exact .inl h
    · exact .inr ⟨i, n, cs, h1, hs _ _ h2, h3, h4, fun j hj => Rd.mono hs (h5 j hj)⟩
  | .un, _, h => h
  | .pr x y, _, ⟨a, b, h, h1, h2⟩ => ⟨a, b, h, Rd.mono hs h1, Rd.mono hs h2⟩

/-! ### A type's kind -/
def fsTy (g : TypeId → Option Ty) (P : Program) : List Field → Nat → Option Ty
  | [], _ => some .un
  | f :: r, o => bif Nat.beq f.offset o then (match g f.type with
    | some x => bif Nat.beq x.size (P.cellsOf f.type) then (match fsTy g P r (o + x.size) with
      | some y => some (.pr x y)
      | none => none) else none
    | none => none) else none

def repTy (x : Ty) : Nat → Ty
  | 0 => .un
  | n + 1 => .pr x (repTy x n)

def tyOf (P : Program) : Nat → TypeId → Option Ty
  | 0, _ => none
  | n + 1, t => match P.underlying t with
    | some .bool => some .b
    | some (.int k) => some (.i k)
    | some .string => some .s
    | some (.slice e) => (match tyOf P n e with
      | some x => bif Nat.beq x.size (P.cellsOf e) && Nat.blt 0 x.size then some (.sl x) else none
      | none => none)
    | some (.struct fs) => (match fsTy (tyOf P n) P fs.toList 0 with
      | some x => bif Nat.beq x.size (P.cellsOf t) then some x else none
      | none => none)
    | some (.array m e) => (match tyOf P n e with
      | some x => bif Nat.beq x.size (P.cellsOf e) && Nat.beq (m * x.size) (P.cellsOf t) then some (repTy x m) else none
      | none => none)
    | _ => none

theorem repTy_size (x : Ty) : ∀ n, (repTy x n).size = n * x.size
  | 0 => by simp [repTy, Ty.size]
  | n + 1 => by simp [repTy, Ty.size, repTy_size x n, Nat.succ_mul, Nat.add_comm]

/-! ### The heap of the arguments -/
structure OI (C : Cfg) (w : World) (s : St) (ψ : Ps) : Prop where
  hold : ∀ i cb ab, ψ (.inl i) = some cb → stAB s i = some ab → Holds C ψ w cb ab
  blks : ∀ i cb, ψ (.inl i) = some cb → cb.b < w.heap.size
  frz : ∀ (i : Nat) (b : Option Blk), s[i]? = some b → ∃ cs, b = some ⟨true, cs⟩
  fresh : ∀ i, s.length ≤ i → ψ (.inl i) = none
  noV : ∀ v, ψ (.inr v) = none

/-- It grows. -/
structure OG (s s' : St) (ψ ψ' : Ps) : Prop where
  st : ∀ (i : Nat) (b : Option Blk), s[i]? = some b → s'[i]? = some b
  len : s.length ≤ s'.length
  ps : ∀ h cb, ψ h = some cb → ψ' h = some cb

theorem OG.refl (s : St) (ψ : Ps) : OG s s ψ ψ := ⟨fun _ _ h => h, Nat.le_refl _, fun _ _ h => h⟩
theorem OG.trans {s s' s'' : St} {ψ ψ' ψ'' : Ps} (h : OG s s' ψ ψ') (k : OG s' s'' ψ' ψ'') : OG s s'' ψ ψ'' :=
  ⟨fun i b e => k.st i b (h.st i b e), Nat.le_trans h.len k.len, fun x cb e => k.ps x cb (h.ps x cb e)⟩

section
variable {C : Cfg} {w : World} {s : St} {ψ : Ps}

theorem OI.add (I : OI C w s ψ) (cs : List DV) (cb : CB) (hb : cb.b < w.heap.size) (hl : cs.length ≤ cb.m) (h1 : cs.all one = true)
    (hc : ∀ j d, cs[j]? = some d → ∃ v, w.cell? ⟨cb.b, cb.o + j, none⟩ = some v ∧ VR C ψ d v) :
    OI C w (s ++ [some ⟨true, cs⟩]) (upP ψ (.inl s.length) cb) ∧ OG s (s ++ [some ⟨true, cs⟩]) ψ (upP ψ (.inl s.length) cb) := by
  have hf : ψ (.inl s.length) = none := I.fresh _ (Nat.le_refl _)
  have mono := upP_mono (cb := cb) hf
  refine ⟨⟨fun i c ab e q => ?_, fun i c e => ?_, fun i b e => ?_, fun i hi => ?_, fun v => ?_⟩, ⟨fun i b e => ?_, by simp, mono⟩⟩
  · by_cases hi : i = s.length
    · subst hi
      rw [upP_same] at e; cases e
      rw [stAB_append_new] at q; cases q
      exact ⟨hl, h1, fun j d hd => let ⟨v, a, b⟩ := hc j d hd; ⟨v, a, b.mono fun _ _ e => mono _ _ e⟩, (fun h => by cases h)⟩
    · rw [upP_ne _ _ (fun e => hi (Sum.inl.inj e))] at e
      have := stAB_lt q
      simp only [List.length_append, List.length_singleton] at this
      rw [stAB_append_lt (by omega)] at q
      exact (I.hold i c ab e q).same (fun _ _ e => mono _ _ e) rfl
  · by_cases hi : i = s.length
    · subst hi; rw [upP_same] at e; cases e; exact hb
    · rw [upP_ne _ _ (fun e => hi (Sum.inl.inj e))] at e; exact I.blks i c e
  · rcases Nat.lt_or_ge i s.length with h | h
    · rw [List.getElem?_append_left h] at e; exact I.frz i b e
    · rw [List.getElem?_append_right h] at e
      cases hx : i - s.length with
      | zero => rw [hx] at e; simp only [List.getElem?_cons_zero, Option.some.injEq] at e; exact ⟨cs, e.symm⟩
      | succ n => rw [hx] at e; simp at e
  · simp only [List.length_append, List.length_singleton] at hi
    rw [upP_ne _ _ (fun e => by have := Sum.inl.inj e; omega)]
    exact I.fresh i (by omega)
  · rw [upP_ne _ _ (fun e => by cases e)]; exact I.noV v
  · have : i < s.length := by
      rcases Nat.lt_or_ge i s.length with h | h
      · exact h
      · rw [List.getElem?_eq_none h] at e; cases e
    rw [List.getElem?_append_left this]; exact e

/-- Is there a slice that isn't nil? Then there is memory. -/
def Mem (w : World) (cs : List Value) : Prop := ∀ v ∈ cs, ∀ a l c, v = .slice (some a) l c → 0 < w.heap.size

variable {H : Type} {enc : TypeId × Value → H}

theorem cells_some {base : Nat} {a : Addr} {n : Nat} {vs : List Value} (h : w.cells? base a n = some vs) : vs.length = n ∧ ∀ j, j < n → w.cell? (a.add j) = vs[j]? := by
  unfold World.cells? at h
  split at h
  · have h1 := mapM_some_length h
    rw [List.length_range] at h1
    exact ⟨h1, fun j hj => mapM_some_get h j j (by simp [hj])⟩
  · cases h

theorem cell_addr {a : Addr} {j : Nat} {v : Value} (h : w.cell? (a.add j) = some v) : w.cell? ⟨a.block, a.off + j, none⟩ = some v ∧ (j = 0 → a.spot = none) ∧ a.block < w.heap.size := by
  have hb : ∀ x : Addr, w.cell? x = some v → x.block < w.heap.size ∧ x.spot = none := by
    intro x hx
    unfold World.cell? at hx
    cases hb : w.heap[x.block]? with
    | none => rw [hb] at hx; cases hx
    | some o =>
      rw [hb] at hx
      refine ⟨lt_of_get hb, ?_⟩
      cases o <;> simp only at hx <;> first | (cases hx; done) | skip
      cases hs : x.spot with
      | none => rfl
      | some y => rw [hs] at hx; simp at hx
  unfold Addr.add at h
  split at h
  · rename_i hj
    obtain ⟨h1, h2⟩ := hb a h
    subst hj
    refine ⟨?_, fun _ => h2, h1⟩
    rw [Nat.add_zero, ← h2]; exact h
  · rename_i hj
    obtain ⟨h1, h2⟩ := hb _ h
    exact ⟨h, fun e => absurd e hj, h1⟩

theorem Mem.part {cs : List Value} (h : Mem w cs) (o n : Nat) : Mem w ((cs.drop o).take n) := fun v hv => h v (List.mem_of_mem_drop (List.mem_of_mem_take hv))

/-- What one part's reading must give. -/
def Opens (C : Cfg) (w : World) (enc : TypeId × Value → H) (fuel : Nat) (g : TypeId → Option Ty) : Prop :=
  ∀ (t : TypeId) (ty : Ty) (cs : List Value) (x : DataW H × List MemPlace) (s : St) (ψ : Ps), g t = some ty → DataW.trod enc C.P w 0 (fun _ => true) true fuel t cs = some x → Mem w cs → OI C w s ψ →
    ∃ (s' : St) (ψ' : Ps) (ds : List DV), OI C w s' ψ' ∧ OG s s' ψ ψ' ∧ Rd s' ty ds ∧ VRs C ψ' ds cs

theorem open_fields {fuel : Nat} {g : TypeId → Option Ty} (ih : Opens C w enc fuel g) {cs : List Value} (hm : Mem w cs) : ∀ (fs : List Field) (o : Nat) (ty : Ty) (s : St) (ψ : Ps), fsTy g C.P fs o = some ty →
    (∀ f ∈ fs, ∃ y, DataW.trod enc C.P w 0 (fun _ => true) true fuel f.type ((cs.drop f.offset).take (C.P.cellsOf f.type)) = some y) → OI C w s ψ →
    ∃ (s' : St) (ψ' : Ps) (ds : List DV), OI C w s' ψ' ∧ OG s s' ψ ψ' ∧ Rd s' ty ds ∧ VRs C ψ' ds ((cs.drop o).take ty.size)
  | [], o, ty, s, ψ, h, _, I => by
    cases h
    exact ⟨s, ψ, [], I, .refl s ψ, rfl, by simp [Ty.size]; exact .nil⟩
  | f :: fs, o, ty, s, ψ, h, hf, I => by
    simp only [fsTy] at h
    cases ho : Nat.beq f.offset o with
    | false => rw [ho] at h; cases h
    | true =>
      rw [ho] at h
      simp only [cond_true] at h
      cases hg : g f.type with
      | none => rw [hg] at h; cases h
      | some x =>
        rw [hg] at h
        simp only at h
        cases hs : Nat.beq x.size (C.P.cellsOf f.type) with
        | false => rw [hs] at h; cases h
        | true =>
          rw [hs] at h
          simp only [cond_true] at h
          cases hr : fsTy g C.P fs (o + x.size) with
          | none => rw [hr] at h; cases h
          | some y =>
            rw [hr] at h
            cases h
            have ho := Nat.eq_of_beq_eq_true ho
            have hs := Nat.eq_of_beq_eq_true hs
            obtain ⟨z, hz⟩ := hf f (by simp)
            obtain ⟨s1, ψ1, d1, I1, G1, r1, v1⟩ := ih f.type x _ z s ψ hg hz (hm.part _ _) I
            obtain ⟨s2, ψ2, d2, I2, G2, r2, v2⟩ := open_fields ih hm fs (o + x.size) y s1 ψ1 hr (fun f' h' => hf f' (by simp [h'])) I1
            refine ⟨s2, ψ2, d1 ++ d2, I2, G1.trans G2, ⟨d1, d2, rfl, r1.mono G2.st, r2⟩, ?_⟩
            rw [show Ty.size (.pr x y) = x.size + y.size from rfl, List.take_add, List.drop_drop]
            rw [ho, ← hs] at v1
            exact (v1.mono fun _ _ e => G2.ps _ _ e).append v2

theorem open_rep {fuel : Nat} {g : TypeId → Option Ty} (ih : Opens C w enc fuel g) {cs : List Value} (hm : Mem w cs) {e : TypeId} {x : Ty} (hg : g e = some x) (hs : x.size = C.P.cellsOf e) : ∀ (m k : Nat) (s : St) (ψ : Ps),
    (∀ i, i < m → ∃ y, DataW.trod enc C.P w 0 (fun _ => true) true fuel e ((cs.drop ((k + i) * C.P.cellsOf e)).take (C.P.cellsOf e)) = some y) → OI C w s ψ →
    ∃ (s' : St) (ψ' : Ps) (ds : List DV), OI C w s' ψ' ∧ OG s s' ψ ψ' ∧ Rd s' (repTy x m) ds ∧ VRs C ψ' ds ((cs.drop (k * x.size)).take (repTy x m).size)
  | 0, k, s, ψ, _, I => ⟨s, ψ, [], I, .refl s ψ, rfl, by simp [Ty.size, repTy]; exact .nil⟩
  | m + 1, k, s, ψ, hf, I => by
    obtain ⟨z, hz⟩ := hf 0 (by omega)
    obtain ⟨s1, ψ1, d1, I1, G1, r1, v1⟩ := ih e x _ z s ψ hg hz (hm.part _ _) I
    obtain ⟨s2, ψ2, d2, I2, G2, r2, v2⟩ := open_rep ih hm hg hs m (k + 1) s1 ψ1 (fun i hi => by have := hf (i + 1) (by omega); rwa [show k + (i + 1) = k + 1 + i by omega] at this) I1
    refine ⟨s2, ψ2, d1 ++ d2, I2, G1.trans G2, ⟨d1, d2, rfl, r1.mono G2.st, r2⟩, ?_⟩
    rw [show (repTy x (m + 1)).size = x.size + (repTy x m).size from rfl, List.take_add, List.drop_drop]
    rw [Nat.add_zero, ← hs] at v1
    rw [Nat.succ_mul] at v2
    exact (v1.mono fun _ _ e => G2.ps _ _ e).append v2

/-- Reading. -/
theorem open_trod : ∀ (fuel f0 : Nat) (t : TypeId) (ty : Ty) (cs : List Value) (x : DataW H × List MemPlace) (s : St) (ψ : Ps), tyOf C.P f0 t = some ty → DataW.trod enc C.P w 0 (fun _ => true) true fuel t cs = some x → Mem w cs → OI C w s ψ →
    ∃ (s' : St) (ψ' : Ps) (ds : List DV), OI C w s' ψ' ∧ OG s s' ψ ψ' ∧ Rd s' ty ds ∧ VRs C ψ' ds cs
  | 0, _, t, _, cs, x, _, _, _, h, _, _ => by simp [DataW.trod] at h
  | fuel + 1, 0, t, ty, cs, x, s, ψ, ht, _, _, _ => by cases ht
  | fuel + 1, f0 + 1, t, ty, cs, x, s, ψ, ht, h, hm, I => by
    have one : ∀ {d : DV} {v : Value} {ty : Ty}, cs = [v] → VR C ψ d v → Rd s ty [d] → ∃ (s' : St) (ψ' : Ps) (ds : List DV), OI C w s' ψ' ∧ OG s s' ψ ψ' ∧ Rd s' ty ds ∧ VRs C ψ' ds cs := by
      intro d v ty e hv hr
      subst e
      exact ⟨s, ψ, _, I, .refl s ψ, hr, .cons _ _ _ _ hv .nil⟩
    simp only [tyOf] at ht
    cases hu : C.P.underlying t with
    | none => rw [hu] at ht; cases ht
    | some td =>
      rw [hu] at ht
      cases td with
      | bool =>
        cases ht
        obtain ⟨b, e, _⟩ := DataW.trod_bool hu h
        exact one e (.bool b) ⟨b, rfl⟩
      | int k =>
        cases ht
        obtain ⟨n, e, _, hw⟩ := DataW.trod_int hu h
        simp only [Lit.wf, Bool.and_eq_true, decide_eq_true_eq] at hw
        exact one e (.int k n) ⟨n, rfl, hw⟩
      | string =>
        cases ht
        obtain ⟨l, e, _, hl⟩ := DataW.trod_string hu h
        exact one e (.str l) ⟨_, rfl, by rw [Array.length_toList]; exact hl⟩
      | slice e =>
        simp only at ht
        cases hte : tyOf C.P f0 e with
        | none => rw [hte] at ht; cases ht
        | some te =>
          rw [hte] at ht
          simp only at ht
          cases hsz : Nat.beq te.size (C.P.cellsOf e) && Nat.blt 0 te.size with
          | false => rw [hsz] at ht; cases ht
          | true =>
            rw [hsz] at ht
            cases ht
            simp only [Bool.and_eq_true, Nat.blt_eq] at hsz
            have hpos := hsz.2
            have hsz := Nat.eq_of_beq_eq_true hsz.1
            rcases DataW.trod_slice hu h with ⟨hcs, _⟩ | ⟨a, len, cap, elems, rest, n, hn, hcs, _, _, hlc, hcm, hel, hget, hrest, _⟩
            · exact one hcs (.sliceN te.size) (.inl rfl)
            · cases hn
              obtain ⟨hrl, hrget⟩ := hrest rfl
              -- each element's cells
              have elem : ∀ j, j < cap → ∃ vs y, w.cells? 0 (a.add (j * C.P.cellsOf e)) (C.P.cellsOf e) = some vs ∧ DataW.trod enc C.P w 0 (fun _ => true) true fuel e vs = some y := by
                intro j hj
                have : ∃ y, (w.cells? 0 (a.add (j * C.P.cellsOf e)) (C.P.cellsOf e)).bind (DataW.trod enc C.P w 0 (fun _ => true) true fuel e) = some y := by
                  rcases Nat.lt_or_ge j len with h | h
                  · exact ⟨_, by rw [hget j h]; exact List.getElem?_eq_getElem (by omega)⟩
                  · have := hrget (j - len) (by omega)
                    rw [show len + (j - len) = j by omega] at this
                    exact ⟨_, by rw [this]; exact List.getElem?_eq_getElem (by omega)⟩
                obtain ⟨y, hy⟩ := this
                obtain ⟨vs, h1, h2⟩ := Option.bind_eq_some_iff.1 hy
                exact ⟨vs, y, h1, h2⟩
              have cellAt : ∀ j i v, w.cell? ((a.add (j * C.P.cellsOf e)).add i) = some v → w.cell? ⟨a.block, a.off + (j * C.P.cellsOf e + i), none⟩ = some v ∧ a.block < w.heap.size ∧ (j * C.P.cellsOf e + i = 0 → a.spot = none) := by
                intro j i v hv
                obtain ⟨g1, g2, g3⟩ := cell_addr hv
                by_cases hz : j * C.P.cellsOf e = 0
                · rw [hz] at g1 g2 g3 ⊢
                  have ea : a.add 0 = a := by simp [Addr.add]
                  rw [ea] at g1 g2 g3
                  exact ⟨by rw [Nat.zero_add]; exact g1, g3, fun h => g2 (by omega)⟩
                · have ea : a.add (j * C.P.cellsOf e) = ⟨a.block, a.off + j * C.P.cellsOf e, none⟩ := by simp [Addr.add, hz]
                  rw [ea] at g1 g3
                  exact ⟨by rw [← Nat.add_assoc]; exact g1, g3, fun h => by omega⟩
              -- the first k elements
              have key : ∀ k, k ≤ len → ∃ (s' : St) (ψ' : Ps) (ds : List DV), OI C w s' ψ' ∧ OG s s' ψ ψ' ∧ ds.length = k * te.size ∧ ds.all Go.Gv.one = true ∧ (∀ j, j < k → Rd s' te ((ds.drop (j * te.size)).take te.size)) ∧
                  (∀ j d, ds[j]? = some d → ∃ v, w.cell? ⟨a.block, a.off + j, none⟩ = some v ∧ VR C ψ' d v) := by
                intro k
                induction k with
                | zero => intro _; exact ⟨s, ψ, [], I, .refl s ψ, by simp, rfl, fun j hj => by omega, fun j d hd => by simp at hd⟩
                | succ k ih =>
                  intro hk
                  obtain ⟨s1, ψ1, ds1, I1, G1, hl1, ho1, hr1, hc1⟩ := ih (by omega)
                  obtain ⟨vs, y, hvs, hy⟩ := elem k (by omega)
                  obtain ⟨hvl, hvg⟩ := cells_some hvs
                  have hmem : Mem w vs := by
                    intro v hv _ _ _ _
                    obtain ⟨i, hi⟩ := List.getElem?_of_mem hv
                    have hlt : i < C.P.cellsOf e := by rw [← hvl]; exact (List.getElem?_eq_some_iff.1 hi).1
                    have := (cellAt k i v (by rw [hvg i hlt]; exact hi)).2.1
                    omega
                  obtain ⟨s2, ψ2, ds2, I2, G2, hr2, hv2⟩ := open_trod fuel f0 e te vs y s1 ψ1 hte hy hmem I1
                  have hl2 := hr2.len
                  refine ⟨s2, ψ2, ds1 ++ ds2, I2, G1.trans G2, by rw [List.length_append, hl1, hl2, Nat.succ_mul], by rw [List.all_append, ho1, hr2.one]; rfl, fun j hj => ?_, fun j d hd => ?_⟩
                  · rcases Nat.lt_or_ge j k with h | h
                    · have hle : j * te.size + te.size ≤ k * te.size := by rw [← Nat.succ_mul]; exact Nat.mul_le_mul_right _ h
                      rw [List.drop_append_of_le_length (by omega), List.take_append_of_le_length (by simp; omega)]
                      exact (hr1 j h).mono G2.st
                    · have : j = k := by omega
                      subst this
                      rw [List.drop_append, List.drop_of_length_le (by omega), List.nil_append, hl1, Nat.sub_self, List.drop_zero, List.take_of_length_le (by omega)]
                      exact hr2
                  · rcases Nat.lt_or_ge j ds1.length with h | h
                    · rw [List.getElem?_append_left h] at hd
                      obtain ⟨v, hv, hr⟩ := hc1 j d hd
                      exact ⟨v, hv, hr.mono fun _ _ e => G2.ps _ _ e⟩
                    · rw [List.getElem?_append_right h] at hd
                      obtain ⟨v, hv, hr⟩ := hv2.get hd
                      have hlt : j - ds1.length < C.P.cellsOf e := by rw [← hvl]; exact (List.getElem?_eq_some_iff.1 hv).1
                      have := (cellAt k (j - ds1.length) v (by rw [hvg _ hlt]; exact hv)).1
                      rw [← hsz, ← hl1, show ds1.length + (j - ds1.length) = j by omega] at this
                      exact ⟨v, this, hr⟩
              obtain ⟨s1, ψ1, ds, I1, G1, hl, ho, hr, hc⟩ := key len (Nat.le_refl _)
              -- where it lies
              have hmz : 0 < w.heap.size := hm _ (by rw [hcs]; exact List.mem_singleton.2 rfl) a len cap rfl
              by_cases hcz : cap * C.P.cellsOf e = 0
              · -- no cells at all
                have hdn : ds = [] := by
                  apply List.eq_nil_of_length_eq_zero
                  rw [hl, hsz]
                  have : len * C.P.cellsOf e ≤ cap * C.P.cellsOf e := Nat.mul_le_mul_right _ hlc
                  omega
                have hc0 : cap = 0 := by
                  rcases Nat.mul_eq_zero.1 hcz with h | h
                  · exact h
                  · omega
                subst hc0
                obtain ⟨I2, G2⟩ := I1.add ds ⟨0, 0, 0⟩ hmz (by rw [hdn]; exact Nat.le_refl _) ho (fun j d hd => by rw [hdn] at hd; simp at hd)
                refine ⟨_, _, [.slice te.size (some (s1.length, 0)) len], I2, G1.trans G2, .inr ⟨_, len, ds, rfl, by simp, hl, by omega, fun j hj => (hr j hj).mono G2.st⟩, ?_⟩
                rw [hcs]
                exact .cons _ _ _ _ (.slice _ _ 0 _ ⟨0, 0, 0⟩ a 0 (upP_same _ _ _) hlc (fun h => absurd h (Nat.lt_irrefl _))) .nil
              · have hcp : 0 < cap := Nat.pos_of_ne_zero fun h => hcz (by rw [h, Nat.zero_mul])
                have hcl : 0 < C.P.cellsOf e := Nat.pos_of_ne_zero fun h => hcz (by rw [h, Nat.mul_zero])
                obtain ⟨vs, y, hvs, _⟩ := elem 0 hcp
                obtain ⟨hvl, hvg⟩ := cells_some hvs
                obtain ⟨_, hbl, hsp⟩ := cellAt 0 0 vs[0] (by rw [hvg 0 hcl]; exact List.getElem?_eq_getElem (by omega))
                have hsp := hsp (by simp)
                have ha : a = ⟨a.block, a.off, none⟩ := by rw [← hsp]
                obtain ⟨I2, G2⟩ := I1.add ds ⟨a.block, a.off, cap * C.P.cellsOf e⟩ hbl (by rw [hl, hsz]; exact Nat.mul_le_mul_right _ hlc) ho hc
                refine ⟨_, _, [.slice te.size (some (s1.length, 0)) len], I2, G1.trans G2, .inr ⟨_, len, ds, rfl, by simp, hl, by omega, fun j hj => (hr j hj).mono G2.st⟩, ?_⟩
                rw [hcs]
                exact .cons _ _ _ _ (.slice _ _ 0 _ ⟨a.block, a.off, cap * C.P.cellsOf e⟩ a cap (upP_same _ _ _) hlc (fun _ => ⟨ha, by rw [hsz]; simp⟩)) .nil
      | struct fs =>
        simp only at ht
        cases hfs : fsTy (tyOf C.P f0) C.P fs.toList 0 with
        | none => rw [hfs] at ht; cases ht
        | some y =>
          rw [hfs] at ht
          simp only at ht
          cases hsz : Nat.beq y.size (C.P.cellsOf t) with
          | false => rw [hsz] at ht; cases ht
          | true =>
            rw [hsz] at ht
            cases ht
            have hsz := Nat.eq_of_beq_eq_true hsz
            obtain ⟨xs, n, hn, _, hcl, hxl, hget⟩ := DataW.trod_struct hu h
            cases hn
            obtain ⟨s', ψ', ds, I', G', r', v'⟩ := open_fields (enc := enc) (fuel := fuel) (g := tyOf C.P f0) (fun t ty cs x s ψ h1 h2 h3 h4 => open_trod fuel f0 t ty cs x s ψ h1 h2 h3 h4) hm fs.toList 0 ty s ψ hfs (fun f hf => by
              obtain ⟨i, hi⟩ := List.getElem?_of_mem hf
              rw [Array.getElem?_toList] at hi
              rw [hget i f hi]
              exact ⟨_, List.getElem?_eq_getElem (by rw [hxl]; exact lt_of_get hi)⟩) I
            rw [List.drop_zero, List.take_of_length_le (by omega)] at v'
            exact ⟨s', ψ', ds, I', G', r', v'⟩
      | array m e =>
        simp only at ht
        cases hte : tyOf C.P f0 e with
        | none => rw [hte] at ht; cases ht
        | some te =>
          rw [hte] at ht
          simp only at ht
          cases hsz : Nat.beq te.size (C.P.cellsOf e) && Nat.beq (m * te.size) (C.P.cellsOf t) with
          | false => rw [hsz] at ht; cases ht
          | true =>
            rw [hsz] at ht
            cases ht
            rw [Bool.and_eq_true] at hsz
            have h1 := Nat.eq_of_beq_eq_true hsz.1
            have h2 := Nat.eq_of_beq_eq_true hsz.2
            obtain ⟨xs, n, hn, _, hcl, hxl, hget⟩ := DataW.trod_array hu h
            cases hn
            obtain ⟨s', ψ', ds, I', G', r', v'⟩ := open_rep (enc := enc) (fuel := fuel) (g := tyOf C.P f0) (fun t ty cs x s ψ h1 h2 h3 h4 => open_trod fuel f0 t ty cs x s ψ h1 h2 h3 h4) hm hte h1 m 0 s ψ (fun i hi => by
              rw [Nat.zero_add, hget i hi]
              exact ⟨_, List.getElem?_eq_getElem (by omega)⟩) I
            rw [Nat.zero_mul, List.drop_zero, List.take_of_length_le (by rw [repTy_size]; omega)] at v'
            exact ⟨s', ψ', ds, I', G', r', v'⟩
      | _ => cases ht
end
end Go.Gv
