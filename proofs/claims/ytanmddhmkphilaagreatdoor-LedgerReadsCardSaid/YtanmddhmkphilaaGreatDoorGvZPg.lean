/- The text of a state: the program's and the document's. -/
import Derived.Test.YtanmddhmkphilaaGreatDoorGvZPf
import Derived.Test.YtanmddhmkphilaaGreatDoorGvZBod
namespace Go.Gv.F
open Go.Gv
variable {β : Type}
theorem Ok.callX {α : Type} {P : Out α × St → Prop} {Q : Out β × St → Prop} {m : M α} {K : α → M β} {s : St} (h : Ok P (m s)) (k : ∀ o, P o → ∃ ds s', o = (.val ds, s') ∧ Pre s s' ∧ Ok Q (K ds s')) : Ok Q (M.callX m K s) := by
  obtain ⟨o, e, p⟩ := h
  obtain ⟨ds, s', rfl, hp, hq⟩ := k o p
  rw [callX_eq e hp]; exact hq
/-- A word, and numbers behind it. -/
def lnN (w : List UInt8) (l : List Int) : List UInt8 := w ++ (l.map fun v => 32 :: showI v).flatten
def entL (e : EntV) : List UInt8 := lnN ([101, 110, 116, 114, 121, 32] ++ showH e.slot e.gen) [e.key, e.value]
def heapL (h : HeapV) : List (List UInt8) := ([113, 117, 101, 117, 101, 32] ++ h.name) :: h.ents.map entL
def headL (x : StV) : List (List UInt8) := [lnN [121, 97, 114, 100] [x.blocks, x.slots, x.g], lnN [103, 101, 110, 115] x.gens, lnN [102, 114, 101, 101] x.free]
def heapsL (l : List HeapV) : List (List UInt8) := (l.map heapL).flatten
def stL (x : StV) : List (List UInt8) := headL x ++ heapsL x.heaps
def textS (x : StV) : List UInt8 := textL (stL x)
structure RngS (x : StV) : Prop where
  b : InR x.blocks
  s : InR x.slots
  g : InR x.g
  gens : ∀ v ∈ x.gens, InR v
  free : ∀ v ∈ x.free, InR v
  ents : ∀ h ∈ x.heaps, ∀ e ∈ h.ents, InR e.slot ∧ InR e.gen ∧ InR e.key ∧ InR e.value
theorem lnN_snoc (w : List UInt8) (l : List Int) (v : Int) : lnN w (l ++ [v]) = lnN w l ++ 32 :: showI v := by
  unfold lnN
  rw [List.map_append, List.flatten_append, List.append_assoc]
  simp
theorem lnN_len (w : List UInt8) (l : List Int) (h : ∀ v ∈ l, InR v) : (lnN w l).length ≤ w.length + l.length * 21 := by
  unfold lnN
  rw [List.length_append]
  suffices ((l.map fun v => 32 :: showI v).flatten).length ≤ l.length * 21 by omega
  induction l with
  | nil => exact Nat.le_refl _
  | cons v l ih =>
    have h1 := ih fun v hv => h v (List.mem_cons_of_mem _ hv)
    have h2 := showI_len v (h v List.mem_cons_self)
    rw [List.map_cons, List.flatten_cons, List.length_append, List.length_cons, List.length_cons]
    omega
theorem textL_len (ls : List (List UInt8)) (k : Nat) (h : ∀ l ∈ ls, l.length ≤ k) : (textL ls).length ≤ ls.length * (k + 1) := by
  unfold textL
  induction ls with
  | nil => exact Nat.zero_le _
  | cons l ls ih =>
    have h1 := ih fun l hl => h l (List.mem_cons_of_mem _ hl)
    have h2 := h l List.mem_cons_self
    simp only [List.map_cons, List.flatten_cons, List.length_append, List.length_cons, List.length_nil, Nat.add_mul]
    omega
theorem entL_len {e : EntV} (h : InR e.slot ∧ InR e.gen ∧ InR e.key ∧ InR e.value) : (entL e).length ≤ 100 := by
  have h1 := showH_len h.1 h.2.1
  have h2 := lnN_len ([101, 110, 116, 114, 121, 32] ++ showH e.slot e.gen) [e.key, e.value] (fun v hv => by
    rcases List.mem_cons.1 hv with h3 | h3
    · rw [h3]; exact h.2.2.1
    · rw [List.mem_singleton.1 h3]; exact h.2.2.2)
  unfold entL
  rw [List.length_append] at h2
  have e6 : ([101, 110, 116, 114, 121, 32] : List UInt8).length = 6 := rfl
  have e2 : [e.key, e.value].length = 2 := rfl
  omega
theorem heapsL_take (l : List HeapV) {i : Nat} {g : HeapV} (e : l[i]? = some g) : heapsL (l.take (i + 1)) = heapsL (l.take i) ++ heapL g := by
  obtain ⟨hi, rfl⟩ := List.getElem?_eq_some_iff.1 e
  unfold heapsL
  rw [List.take_succ_eq_append_getElem hi, List.map_append, List.flatten_append, List.map_cons, List.map_nil, List.flatten_cons, List.flatten_nil, List.append_nil]
theorem heapsL_count (l : List HeapV) : (heapsL l).length = l.length + (entsOf l).length := by
  induction l with
  | nil => rfl
  | cons g l ih =>
    have e1 : heapsL (g :: l) = heapL g ++ heapsL l := rfl
    have e2 : entsOf (g :: l) = g.ents ++ entsOf l := rfl
    rw [e1, e2, List.length_append, List.length_append, ih]
    unfold heapL
    rw [List.length_cons, List.length_cons, List.length_map]
    omega
theorem stL_len {x : StV} (sz : SzS x) (hr : RngS x) : (stL x).length ≤ 100003 ∧ ∀ l ∈ stL x, l.length ≤ 1050010 := by
  have h1 := heapsL_count x.heaps
  have h2 := sz.e
  have h3 := sz.h.len
  rw [entries_eq] at h2
  constructor
  · unfold stL headL
    rw [List.length_append]
    simp only [List.length_cons, List.length_nil]
    omega
  · intro l hl
    unfold stL at hl
    rcases List.mem_append.1 hl with h | h
    · unfold headL at h
      simp only [List.mem_cons, List.not_mem_nil, or_false] at h
      rcases h with rfl | rfl | rfl
      · have := lnN_len [121, 97, 114, 100] [x.blocks, x.slots, x.g] (fun v hv => by
          simp only [List.mem_cons, List.not_mem_nil, or_false] at hv
          rcases hv with rfl | rfl | rfl
          · exact hr.b
          · exact hr.s
          · exact hr.g)
        simp only [List.length_cons, List.length_nil] at this
        omega
      · have := lnN_len [103, 101, 110, 115] x.gens hr.gens
        have := sz.g
        simp only [List.length_cons, List.length_nil] at *
        omega
      · have := lnN_len [102, 114, 101, 101] x.free hr.free
        have := sz.f
        simp only [List.length_cons, List.length_nil] at *
        omega
    · unfold heapsL at h
      obtain ⟨m, hm, hlm⟩ := List.mem_flatten.1 h
      obtain ⟨g, hg, rfl⟩ := List.mem_map.1 hm
      unfold heapL at hlm
      rcases List.mem_cons.1 hlm with h4 | h4
      · rw [h4, List.length_append]
        have := sz.h.name g hg
        simp only [List.length_cons, List.length_nil]
        omega
      · obtain ⟨e, he, rfl⟩ := List.mem_map.1 h4
        have := entL_len (hr.ents g hg e he)
        omega
theorem textS_len {x : StV} (sz : SzS x) (hr : RngS x) : (textS x).length ≤ 1000000000000 := by
  have h := stL_len sz hr
  have h1 := textL_len (stL x) 1050010 h.2
  have h2 : (stL x).length * (1050010 + 1) ≤ 100003 * (1050010 + 1) := Nat.mul_le_mul_right _ h.1
  unfold textS
  omega
theorem textL_pre (a b : List (List UInt8)) : (textL a).length ≤ (textL (a ++ b)).length := by rw [textL_app, List.length_append]; omega
theorem textL_one (l : List UInt8) : textL [l] = l ++ [10] := by unfold textL; simp
theorem ev_ledger_line {Bd : Bodies} (h : H_ledger_line Bd) (n z : Nat) (w : List UInt8) (l : List Int) (p : Option (Nat × Nat)) (st : St) (ht : Tabs st) (hz : z = 1 ∨ p = none) (hs : Sl st p (ints l)) (hr : ∀ v ∈ l, InR v) (hl : l.length ≤ 50000) (hw : w.length ≤ 100000) (hn : 50100 ≤ n) :
    Ok (fun o => ∃ s', o = (.val [.str (lnN w l ++ [10])], s') ∧ Pre st s') (run Bd n 154 [.str w, .slice z p l.length] st) := by
  obtain ⟨n, rfl⟩ : ∃ m, n = m + 1 := ⟨n - 1, by omega⟩
  rw [run_succ, h.eq]
  unfold b_ledger_line
  simp only [J_s, J_l_any 1 z p _ hz, D_nil]
  rw [join_eq]
  have b10 : bs [10] = [10] := rfl
  have b32 : bs [32] = [32] := rfl
  refine loop_rule _ (fun q y s => ∃ i : Nat, y = [.str (lnN w (l.take i)), .int .i64 i] ∧ i ≤ l.length ∧ l.length - i ≤ q ∧ Pre st s) ?_ l.length n _ _ ⟨0, by simp [lnN], Nat.zero_le _, by omega, .refl _⟩ (by omega)
  rintro q _ s ⟨i, rfl, hi, hq, hp⟩ rec hrec
  simp only [J_s, J_i, D_nil]
  have hll := lnN_len w (l.take i) (fun v hv => hr v (List.mem_of_mem_take hv))
  rw [List.length_take, Nat.min_eq_left hi] at hll
  by_cases hlt : i < l.length
  · obtain ⟨p1, o1, rfl⟩ := hs.some_of (by simp [ints]; omega)
    rw [decide_eq_true (show (i : Int) < (l.length : Int) by omega), cond_true, nn_some', chk_of (inB_of hlt), Int.toNat_natCast, (hs.mono hp).get1 (d := .int .i64 l[i]) (by simp [ints, hlt])]
    simp only [D_int]
    have hv := hr _ (List.getElem_mem hlt)
    refine Ok.call (ev_digit_Show h.digit_Show n l[i] hv (by omega) s (ht.mono hp)) ?_
    rintro _ ⟨s1, rfl, hp1⟩
    refine ⟨_, s1, rfl, ?_⟩
    have hsl := showI_len _ hv
    simp only [J_s, D_nil]
    rw [b32, chk_of (Nat.ble_eq_true_of_le (by simp only [List.length_singleton]; omega)), chk_of (Nat.ble_eq_true_of_le (by simp only [List.length_append, List.length_singleton]; omega)), wr64_of (by omega) (by omega)]
    refine hrec (l.length - (i + 1)) _ _ (by omega) ⟨i + 1, ?_, by omega, by omega, hp.trans hp1⟩
    rw [List.take_succ_eq_append_getElem hlt, lnN_snoc]
    rfl
  · rw [decide_eq_false (show ¬ (i : Int) < (l.length : Int) by omega), cond_false]
    rw [List.take_of_length_le (by omega)] at *
    rw [b10, chk_of (Nat.ble_eq_true_of_le (by simp only [List.length_singleton]; omega)), ret_eq]
    exact .mk ⟨s, rfl, hp⟩
theorem ev_ref33_words {Bd : Bodies} (h : H_ref33_words Bd) (n z : Nat) (w : List UInt8) (l : List Int) (p : Option (Nat × Nat)) (st : St) (hz : z = 1 ∨ p = none) (hs : Sl st p (ints l)) (hr : ∀ v ∈ l, InR v) (hl : l.length ≤ 50000) (hw : w.length ≤ 100000) (hn : 50100 ≤ n) :
    Ok (fun o => ∃ s', o = (.val [.str (lnN w l ++ [10])], s') ∧ Pre st s') (run Bd n 152 [.str w, .slice z p l.length] st) := by
  obtain ⟨n, rfl⟩ : ∃ m, n = m + 1 := ⟨n - 1, by omega⟩
  rw [run_succ, h.eq]
  unfold b_ref33_words
  simp only [J_s, J_l_any 1 z p _ hz, D_nil]
  rw [join_eq]
  have b10 : bs [10] = [10] := rfl
  have b32 : bs [32] = [32] := rfl
  refine loop_rule _ (fun q y s => ∃ i : Nat, y = [.str (lnN w (l.take i)), .int .i64 i] ∧ i ≤ l.length ∧ l.length - i ≤ q ∧ Pre st s) ?_ l.length n _ _ ⟨0, by simp [lnN], Nat.zero_le _, by omega, .refl _⟩ (by omega)
  rintro q _ s ⟨i, rfl, hi, hq, hp⟩ rec hrec
  simp only [J_s, J_i, D_nil]
  have hll := lnN_len w (l.take i) (fun v hv => hr v (List.mem_of_mem_take hv))
  rw [List.length_take, Nat.min_eq_left hi] at hll
  by_cases hlt : i < l.length
  · obtain ⟨p1, o1, rfl⟩ := hs.some_of (by simp [ints]; omega)
    rw [decide_eq_true (show (i : Int) < (l.length : Int) by omega), cond_true, b32, chk_of (Nat.ble_eq_true_of_le (by simp only [List.length_singleton]; omega)), nn_some', chk_of (inB_of hlt), Int.toNat_natCast, (hs.mono hp).get1 (d := .int .i64 l[i]) (by simp [ints, hlt])]
    simp only [D_int]
    have hv := hr _ (List.getElem_mem hlt)
    refine Ok.call (ev_ref03_Show h.ref03_Show n l[i] hv (by omega) s) ?_
    rintro _ ⟨s1, rfl, hp1⟩
    refine ⟨_, s1, rfl, ?_⟩
    have hsl := showI_len _ hv
    simp only [J_s, D_nil]
    rw [chk_of (Nat.ble_eq_true_of_le (by simp only [List.length_append, List.length_singleton]; omega)), wr64_of (by omega) (by omega)]
    refine hrec (l.length - (i + 1)) _ _ (by omega) ⟨i + 1, ?_, by omega, by omega, hp.trans hp1⟩
    rw [List.take_succ_eq_append_getElem hlt, lnN_snoc, List.append_assoc]
    rfl
  · rw [decide_eq_false (show ¬ (i : Int) < (l.length : Int) by omega), cond_false]
    rw [List.take_of_length_le (by omega)] at *
    rw [b10, chk_of (Nat.ble_eq_true_of_le (by simp only [List.length_singleton]; omega)), ret_eq]
    exact .mk ⟨s, rfl, hp⟩
end Go.Gv.F

/- The text of a state: both functions. -/
namespace Go.Gv.F
open Go.Gv
variable {β : Type}
def nl (ls : List (List UInt8)) : List DV := (ls.map (· ++ [10])).map .str
theorem nl_len (ls : List (List UInt8)) : (nl ls).length = ls.length * 1 := by simp [nl]
theorem nl_app (a b : List (List UInt8)) : nl (a ++ b) = nl a ++ nl b := by simp [nl]
theorem join_flat (ws : List (List UInt8)) : Lib.join ws [] = ws.flatten := by
  cases ws with
  | nil => rfl
  | cons w r =>
    rw [Lib.join_cons, List.flatten_cons]
    unfold Lib.joinTail
    simp
theorem ev_ledger_text {Bd : Bodies} (h : H_ledger_text Bd) (n : Nat) (x : StV) (z1 z2 z3 : Nat) (p1 p2 p3 : Option (Nat × Nat)) (st : St) (ht : Tabs st) (hz1 : z1 = 2 ∨ p1 = none) (hz2 : z2 = 1 ∨ p2 = none) (hz3 : z3 = 1 ∨ p3 = none) (hr : StR st x p1 p2 p3)
    (sz : SzS x) (rg : RngS x) (hn : 50200 ≤ n) :
    Ok (fun o => ∃ s', o = (.val [.str (textS x)], s') ∧ Pre st s') (run Bd n 140 [.agg (stC x z1 p1 z2 p2 z3 p3)] st) := by
  obtain ⟨n, rfl⟩ : ∃ m, n = m + 1 := ⟨n - 1, by omega⟩
  rw [run_succ, h.eq]
  unfold b_ledger_text
  have ag : ∀ (l : List DV) (K : List DV → List DV → M (List DV)), J.a (.agg (stC x z1 p1 z2 p2 z3 p3) :: l) K = K (stC x z1 p1 z2 p2 z3 p3) l := fun _ _ => rfl
  rw [ag]
  unfold stC
  simp only [J_i, J_l_any 2 z1 p1 _ hz1, J_l_any 1 z2 p2 _ hz2, J_l_any 1 z3 p3 _ hz3, D_nil]
  have hcnt := stL_len sz rg
  have hsum := heapsL_count x.heaps
  have hse := sz.e
  have hsh := sz.h.len
  rw [entries_eq] at hse
  have htl := textS_len sz rg
  rw [new_eq]
  have hp0 : Pre st (st ++ [some ⟨false, [DV.int .i64 x.blocks, .int .i64 x.slots, .int .i64 x.g]⟩]) := .new _ _
  have hy : Sl (st ++ [some ⟨false, [DV.int .i64 x.blocks, .int .i64 x.slots, .int .i64 x.g]⟩]) (some (st.length, 0)) (ints [x.blocks, x.slots, x.g]) := sl_new st _
  generalize (st ++ [some ⟨false, [DV.int .i64 x.blocks, .int .i64 x.slots, .int .i64 x.g]⟩]) = s0 at hp0 hy
  refine Ok.callN (ev_ledger_line h.ledger_line n 1 (bs [121, 97, 114, 100]) [x.blocks, x.slots, x.g] _ s0 (ht.mono hp0) (.inl rfl) hy (fun v hv => by
    simp only [List.mem_cons, List.not_mem_nil, or_false] at hv
    rcases hv with rfl | rfl | rfl
    · exact rg.b
    · exact rg.s
    · exact rg.g) (by simp) (by show 4 ≤ 100000; omega) (by omega)) ?_
  rintro _ ⟨s1, rfl, hp1⟩
  refine ⟨_, s1, rfl, ?_⟩
  simp only [J_s, D_nil]
  have hp1 := hp0.trans hp1
  refine Ok.callN (ev_ledger_line h.ledger_line n 1 (bs [103, 101, 110, 115]) x.gens p2 s1 (ht.mono hp1) (.inl rfl) (hr.gn.mono hp1) rg.gens sz.g (by show 4 ≤ 100000; omega) (by omega)) ?_
  rintro _ ⟨s2, rfl, hp2⟩
  refine ⟨_, s2, rfl, ?_⟩
  simp only [J_s, D_nil]
  have hp2 := hp1.trans hp2
  refine Ok.call (ev_ledger_line h.ledger_line n 1 (bs [102, 114, 101, 101]) x.free p3 s2 (ht.mono hp2) (.inl rfl) (hr.fr.mono hp2) rg.free sz.f (by show 4 ≤ 100000; omega) (by omega)) ?_
  rintro _ ⟨s3, rfl, hp3⟩
  refine ⟨_, s3, rfl, ?_⟩
  simp only [J_s, D_nil]
  have hp3 := hp2.trans hp3
  rw [new_eq]
  have ho0 : Own s3 (s3 ++ [some ⟨false, nl (headL x)⟩]) (some (s3.length, 0)) (nl (headL x)) := ⟨.new _ _, .inr ⟨s3.length, rfl, Nat.le_refl _, by simp⟩⟩
  have hnl : [DV.str (lnN (bs [121, 97, 114, 100]) [x.blocks, x.slots, x.g] ++ [10]), .str (lnN (bs [103, 101, 110, 115]) x.gens ++ [10]), .str (lnN (bs [102, 114, 101, 101]) x.free ++ [10])] = nl (headL x) := rfl
  rw [hnl]
  generalize (s3 ++ [some ⟨false, nl (headL x)⟩]) = s4 at ho0
  obtain ⟨ds, hs, hh⟩ := hr.hp
  have hs3 := hs.mono hp3
  have hh3 := hh.mono hp3
  have bq : bs [113, 117, 101, 117, 101, 32] = [113, 117, 101, 117, 101, 32] := rfl
  have be : bs [101, 110, 116, 114, 121, 32] = [101, 110, 116, 114, 121, 32] := rfl
  have b10 : bs [10] = [10] := rfl
  rw [join_eq]
  refine loop_rule _ (fun q y s => ∃ (i : Nat) (a : Option (Nat × Nat)), y = [.slice 1 a (headL x ++ heapsL (x.heaps.take i)).length, .int .i64 i] ∧ i ≤ x.heaps.length ∧ x.heaps.length - i ≤ q ∧ Own s3 s a (nl (headL x ++ heapsL (x.heaps.take i)))) ?_ x.heaps.length n _ _
    ⟨0, _, rfl, Nat.zero_le _, by omega, by simpa [heapsL] using ho0⟩ (by omega)
  rintro q _ s ⟨i, a, rfl, hi, hq, ho⟩ rec hrec
  simp only [J_l, J_i, D_nil]
  by_cases hlt : i < x.heaps.length
  · obtain ⟨i1, o1, rfl⟩ := hs3.some_of (by rw [hh.len]; omega)
    have hg : x.heaps[i]? = some x.heaps[i] := List.getElem?_eq_getElem hlt
    generalize x.heaps[i] = g at hg
    have hgm := List.mem_of_getElem? hg
    have hgn := sz.h.name g hgm
    have hge := sz.h.ents g hgm
    have hgr := rg.ents g hgm
    have et := heapsL_take x.heaps hg
    have hcl : (headL x ++ heapsL (x.heaps.take (i + 1))).length ≤ 100003 := by
      have e : stL x = (headL x ++ heapsL (x.heaps.take (i + 1))) ++ heapsL (x.heaps.drop (i + 1)) := by
        unfold stL heapsL
        rw [List.append_assoc, ← List.flatten_append, ← List.map_append, List.take_append_drop]
      have := hcnt.1
      rw [e, List.length_append] at this
      omega
    obtain ⟨zz, pe, hzz, hfe, le⟩ := heap_both2 (β := List DV) hs3 hh3 hg
    rw [decide_eq_true (show (i : Int) < (x.heaps.length : Int) by omega), cond_true]
    rw [join_eq, nn_some', chk_of (inB_of hlt), Int.toNat_natCast, le s ho.1]
    unfold heapZ
    simp only [J_s, J_l_any 4 zz pe _ hzz, D_nil]
    have hq6 : ([113, 117, 101, 117, 101, 32] : List UInt8).length = 6 := rfl
    rw [bq, b10, chk_of (Nat.ble_eq_true_of_le (by omega)), chk_of (Nat.ble_eq_true_of_le (by rw [List.length_append]; simp only [List.length_singleton]; omega))]
    have hhl : (heapL g).length = 1 + g.ents.length := by unfold heapL; simp; omega
    rw [et, ← List.append_assoc, List.length_append, hhl] at hcl
    obtain ⟨q2, s5, g1, g2⟩ := ho.push (β := List DV) (sz := 1) (n := (headL x ++ heapsL (x.heaps.take i)).length) (lim := 4398046511104) [.str (([113, 117, 101, 117, 101, 32] ++ g.name) ++ [10])] (Nat.succ_pos 0) (nl_len _) rfl (by omega)
    rw [g2, join_eq]
    refine loop_rule _ (fun q y s => ∃ (k : Nat) (a : Option (Nat × Nat)), y = [.slice 1 a ((headL x ++ heapsL (x.heaps.take i)).length + 1 + k), .int .i64 k] ∧ k ≤ g.ents.length ∧ g.ents.length - k ≤ q ∧
      Own s3 s a (nl (headL x ++ heapsL (x.heaps.take i) ++ (([113, 117, 101, 117, 101, 32] ++ g.name) :: (g.ents.take k).map entL)))) ?_ g.ents.length n _ _
      ⟨0, _, rfl, Nat.zero_le _, by omega, by rw [nl_app]; exact g1⟩ (by omega)
    rintro q' _ s6 ⟨k, a', rfl, hk, hkq, ho'⟩ rec2 hrec2
    simp only [J_l, J_i, D_nil]
    by_cases hkl : k < g.ents.length
    · obtain ⟨ei, eo, rfl⟩ := hfe.some_of (by rw [entsC_len]; omega)
      have hem : g.ents[k]? = some g.ents[k] := List.getElem?_eq_getElem hkl
      have her := hgr _ (List.getElem_mem hkl)
      have htk : g.ents.take (k + 1) = g.ents.take k ++ [g.ents[k]] := List.take_succ_eq_append_getElem hkl
      generalize g.ents[k] = e at hem her htk
      rw [decide_eq_true (show (k : Int) < (g.ents.length : Int) by omega), cond_true, nn_some', chk_of (inB_of hkl), Int.toNat_natCast, ent_load (hfe.mono ho'.1) hem]
      unfold entC
      simp only [J_i, D_nil]
      refine Ok.callX (ev_ShowHandle h.digit_ShowHandle n e.slot e.gen her.1 her.2.1 (by omega) s6 (ht.mono (hp3.trans ho'.1))) ?_
      rintro _ ⟨s7, rfl, hp7⟩
      refine ⟨_, s7, rfl, hp7, ?_⟩
      have hhl := showH_len her.1 her.2.1
      simp only [J_s, D_nil]
      have he6 : ([101, 110, 116, 114, 121, 32] : List UInt8).length = 6 := rfl
      rw [be, chk_of (Nat.ble_eq_true_of_le (by omega)), new_eq]
      have hkv : Sl (s7 ++ [some ⟨false, [DV.int .i64 e.key, .int .i64 e.value]⟩]) (some (s7.length, 0)) (ints [e.key, e.value]) := sl_new s7 _
      have hp8 : Pre s7 (s7 ++ [some ⟨false, [DV.int .i64 e.key, .int .i64 e.value]⟩]) := .new _ _
      generalize (s7 ++ [some ⟨false, [DV.int .i64 e.key, .int .i64 e.value]⟩]) = s8 at hkv hp8
      have hp68 := hp7.trans hp8
      refine Ok.callN (ev_ledger_line h.ledger_line n 1 ([101, 110, 116, 114, 121, 32] ++ showH e.slot e.gen) [e.key, e.value] _ s8 (ht.mono (hp3.trans (ho'.1.trans hp68))) (.inl rfl) hkv (fun v hv => by
        rcases List.mem_cons.1 hv with h3 | h3
        · rw [h3]; exact her.2.2.1
        · rw [List.mem_singleton.1 h3]; exact her.2.2.2) (by simp) (by rw [List.length_append]; omega) (by omega)) ?_
      rintro _ ⟨s9, rfl, hp9⟩
      refine ⟨_, s9, rfl, ?_⟩
      simp only [J_s, D_nil]
      obtain ⟨q3, s10, g3, g4⟩ := (ho'.mono (hp68.trans hp9)).push (β := List DV) (sz := 1) (n := (headL x ++ heapsL (x.heaps.take i)).length + 1 + k) (lim := 4398046511104) [.str (entL e ++ [10])] (Nat.succ_pos 0) (by rw [nl_len]; simp; omega) rfl (by omega)
      have hel : lnN ([101, 110, 116, 114, 121, 32] ++ showH e.slot e.gen) [e.key, e.value] = entL e := rfl
      rw [hel, g4, wr64_of (by omega) (by omega)]
      refine hrec2 (g.ents.length - (k + 1)) _ _ (by omega) ⟨k + 1, q3, rfl, by omega, by omega, ?_⟩
      rw [htk, List.map_append, ← List.cons_append, ← List.append_assoc, nl_app]
      exact g3
    · rw [decide_eq_false (show ¬ (k : Int) < (g.ents.length : Int) by omega), cond_false]
      have : k = g.ents.length := by omega
      subst this
      rw [List.take_length] at ho'
      rw [wr64_of (by omega) (by omega)]
      refine hrec (x.heaps.length - (i + 1)) _ _ (by omega) ⟨i + 1, a', ?_, by omega, by omega, ?_⟩
      · have e : ((headL x ++ heapsL (x.heaps.take i)).length + 1 + g.ents.length) = (headL x ++ heapsL (x.heaps.take (i + 1))).length := by
          rw [et, ← List.append_assoc, List.length_append (bs := heapL g), hhl]; omega
        rw [e]; rfl
      · rw [et, ← List.append_assoc]
        exact ho'
  · rw [decide_eq_false (show ¬ (i : Int) < (x.heaps.length : Int) by omega), cond_false]
    have : i = x.heaps.length := by omega
    subst this
    rw [List.take_length] at ho ⊢
    have hj := ev_strings_Join h.strings_Join (n - 1) a ((stL x).map (· ++ [10])) [] s (by
      have := ho.sl
      exact this) (by rw [List.length_map]; have := hcnt.1; omega) (by rw [join_flat]; exact Nat.le_trans (show (textS x).length ≤ 1000000000000 from htl) (by omega))
    rw [join_flat, List.length_map, show n - 1 + 1 = n by omega] at hj
    have hj : run Bd n 14 [.slice 1 a (headL x ++ heapsL x.heaps).length, .str (bs [])] s = some (.val [.str (textS x)], s) := hj
    rw [call_eq hj]
    simp only [J_s, D_nil]
    rw [ret_eq]
    exact .mk ⟨s, rfl, hp3.trans ho.1⟩
def prOut (b : Bool) (t : List UInt8) : List DV := [.str (if b = true then t else []), .bool b]
theorem ev_ledger_Print {Bd : Bodies} (h : H_ledger_Print Bd) (n : Nat) (x : StV) (z1 z2 z3 : Nat) (p1 p2 p3 : Option (Nat × Nat)) (st : St) (ht : Tabs st) (hz1 : z1 = 2 ∨ p1 = none) (hz2 : z2 = 1 ∨ p2 = none) (hz3 : z3 = 1 ∨ p3 = none) (hr : StR st x p1 p2 p3)
    (sz : SzS x) (rg : RngS x) (hn : 50300 ≤ n) :
    Ok (fun o => ∃ b s', o = (.val (prOut b (textS x)), s') ∧ Pre st s' ∧ (b = true ↔ MayP x)) (run Bd n 132 [.agg (stC x z1 p1 z2 p2 z3 p3)] st) := by
  obtain ⟨n, rfl⟩ : ∃ m, n = m + 1 := ⟨n - 1, by omega⟩
  rw [run_succ, h.eq]
  unfold b_ledger_Print
  have ag : ∀ (l : List DV) (K : List DV → List DV → M (List DV)), J.a (.agg (stC x z1 p1 z2 p2 z3 p3) :: l) K = K (stC x z1 p1 z2 p2 z3 p3) l := fun _ _ => rfl
  rw [ag]
  unfold stC
  simp only [J_i, J_l_any 2 z1 p1 _ hz1, J_l_any 1 z2 p2 _ hz2, J_l_any 1 z3 p3 _ hz3, D_nil]
  refine Ok.call (ev_ledger_May h.ledger_May n x 2 1 1 p1 p2 p3 st (.inl rfl) (.inl rfl) (.inl rfl) hr sz (by omega)) ?_
  rintro _ ⟨b, s1, rfl, hp1, hb⟩
  refine ⟨_, s1, rfl, ?_⟩
  simp only [J_b, D_nil]
  cases b with
  | false =>
    rw [Bool.not_false, cond_true, ret_eq]
    exact .mk ⟨false, s1, rfl, hp1, hb⟩
  | true =>
    rw [Bool.not_true, cond_false]
    refine Ok.call (ev_ledger_text h.ledger_text n x 2 1 1 p1 p2 p3 s1 (ht.mono hp1) (.inl rfl) (.inl rfl) (.inl rfl) (hr.pre hp1) sz rg (by omega)) ?_
    rintro _ ⟨s2, rfl, hp2⟩
    refine ⟨_, s2, rfl, ?_⟩
    simp only [J_s, D_nil, ret_eq]
    exact .mk ⟨true, s2, rfl, hp1.trans hp2, hb⟩
theorem ev_ref33_Print {Bd : Bodies} (h : H_ref33_Print Bd) (n : Nat) (x : StV) (z1 z2 z3 : Nat) (p1 p2 p3 : Option (Nat × Nat)) (st : St) (hz1 : z1 = 2 ∨ p1 = none) (hz2 : z2 = 1 ∨ p2 = none) (hz3 : z3 = 1 ∨ p3 = none) (hr : StR st x p1 p2 p3)
    (sz : SzS x) (rg : RngS x) (hn : 50200 ≤ n) :
    Ok (fun o => ∃ s', o = (.val [.str (textS x)], s') ∧ Pre st s') (run Bd n 137 [.agg (stC x z1 p1 z2 p2 z3 p3)] st) := by
  obtain ⟨n, rfl⟩ : ∃ m, n = m + 1 := ⟨n - 1, by omega⟩
  rw [run_succ, h.eq]
  unfold b_ref33_Print
  have ag : ∀ (l : List DV) (K : List DV → List DV → M (List DV)), J.a (.agg (stC x z1 p1 z2 p2 z3 p3) :: l) K = K (stC x z1 p1 z2 p2 z3 p3) l := fun _ _ => rfl
  rw [ag]
  unfold stC
  simp only [J_i, J_l_any 2 z1 p1 _ hz1, J_l_any 1 z2 p2 _ hz2, J_l_any 1 z3 p3 _ hz3, D_nil]
  have hcnt := stL_len sz rg
  have hsh := sz.h.len
  have htl := textS_len sz rg
  rw [new_eq]
  have hp0 : Pre st (st ++ [some ⟨false, [DV.int .i64 x.blocks, .int .i64 x.slots, .int .i64 x.g]⟩]) := .new _ _
  have hy : Sl (st ++ [some ⟨false, [DV.int .i64 x.blocks, .int .i64 x.slots, .int .i64 x.g]⟩]) (some (st.length, 0)) (ints [x.blocks, x.slots, x.g]) := sl_new st _
  generalize (st ++ [some ⟨false, [DV.int .i64 x.blocks, .int .i64 x.slots, .int .i64 x.g]⟩]) = s0 at hp0 hy
  have pre : ∀ A B : List (List UInt8), stL x = A ++ B → (textL A).length ≤ 1000000000000 := fun A B e => by
    have := textL_pre A B
    rw [← e] at this
    exact Nat.le_trans this htl
  refine Ok.callN (ev_ref33_words h.ref33_words n 1 (bs [121, 97, 114, 100]) [x.blocks, x.slots, x.g] _ s0 (.inl rfl) hy (fun v hv => by
    simp only [List.mem_cons, List.not_mem_nil, or_false] at hv
    rcases hv with rfl | rfl | rfl
    · exact rg.b
    · exact rg.s
    · exact rg.g) (by simp) (by show 4 ≤ 100000; omega) (by omega)) ?_
  rintro _ ⟨s1, rfl, hp1⟩
  refine ⟨_, s1, rfl, ?_⟩
  simp only [J_s, D_nil]
  have hp1 := hp0.trans hp1
  refine Ok.callN (ev_ref33_words h.ref33_words n 1 (bs [103, 101, 110, 115]) x.gens p2 s1 (.inl rfl) (hr.gn.mono hp1) rg.gens sz.g (by show 4 ≤ 100000; omega) (by omega)) ?_
  rintro _ ⟨s2, rfl, hp2⟩
  refine ⟨_, s2, rfl, ?_⟩
  simp only [J_s, D_nil]
  have hp2 := hp1.trans hp2
  have hc2 := pre (headL x).dropLast ([lnN [102, 114, 101, 101] x.free] ++ heapsL x.heaps) rfl
  have e2 : textL (headL x).dropLast = (lnN (bs [121, 97, 114, 100]) [x.blocks, x.slots, x.g] ++ [10]) ++ (lnN (bs [103, 101, 110, 115]) x.gens ++ [10]) := by
    show textL [_, _] = _
    unfold textL
    simp
  rw [e2, List.length_append] at hc2
  rw [chk_of (Nat.ble_eq_true_of_le (by omega))]
  refine Ok.callN (ev_ref33_words h.ref33_words n 1 (bs [102, 114, 101, 101]) x.free p3 s2 (.inl rfl) (hr.fr.mono hp2) rg.free sz.f (by show 4 ≤ 100000; omega) (by omega)) ?_
  rintro _ ⟨s3, rfl, hp3⟩
  refine ⟨_, s3, rfl, ?_⟩
  simp only [J_s, D_nil]
  have hp3 := hp2.trans hp3
  have hc3 := pre (headL x) (heapsL x.heaps) rfl
  have e3 : textL (headL x) = ((lnN (bs [121, 97, 114, 100]) [x.blocks, x.slots, x.g] ++ [10]) ++ (lnN (bs [103, 101, 110, 115]) x.gens ++ [10])) ++ (lnN (bs [102, 114, 101, 101]) x.free ++ [10]) := by
    show textL [_, _, _] = _
    unfold textL
    simp
  rw [← e3]
  rw [chk_of (Nat.ble_eq_true_of_le (by rw [e3, List.length_append] at hc3; omega))]
  obtain ⟨ds, hs, hh⟩ := hr.hp
  have hs3 := hs.mono hp3
  have hh3 := hh.mono hp3
  have bq : bs [113, 117, 101, 117, 101, 32] = [113, 117, 101, 117, 101, 32] := rfl
  have be : bs [101, 110, 116, 114, 121, 32] = [101, 110, 116, 114, 121, 32] := rfl
  have b10 : bs [10] = [10] := rfl
  rw [join_eq]
  refine loop_rule _ (fun q y s => ∃ (i : Nat), y = [.str (textL (headL x ++ heapsL (x.heaps.take i))), .int .i64 i] ∧ i ≤ x.heaps.length ∧ x.heaps.length - i ≤ q ∧ Pre s3 s) ?_ x.heaps.length n _ _
    ⟨0, by simp [heapsL], Nat.zero_le _, by omega, .refl _⟩ (by omega)
  rintro q _ s ⟨i, rfl, hi, hq, hp⟩ rec hrec
  simp only [J_s, J_i, D_nil]
  have hall : stL x = (headL x ++ heapsL (x.heaps.take i)) ++ heapsL (x.heaps.drop i) := by
    unfold stL heapsL
    rw [List.append_assoc, ← List.flatten_append, ← List.map_append, List.take_append_drop]
  have hci := pre _ _ hall
  by_cases hlt : i < x.heaps.length
  · obtain ⟨i1, o1, rfl⟩ := hs3.some_of (by rw [hh.len]; omega)
    have hg : x.heaps[i]? = some x.heaps[i] := List.getElem?_eq_getElem hlt
    generalize x.heaps[i] = g at hg
    have hgm := List.mem_of_getElem? hg
    have hgn := sz.h.name g hgm
    have hge := sz.h.ents g hgm
    have hgr := rg.ents g hgm
    have et := heapsL_take x.heaps hg
    have hall1 : stL x = (headL x ++ heapsL (x.heaps.take (i + 1))) ++ heapsL (x.heaps.drop (i + 1)) := by
      unfold stL heapsL
      rw [List.append_assoc, ← List.flatten_append, ← List.map_append, List.take_append_drop]
    rw [et] at hall1
    obtain ⟨pe, hfe, le⟩ := heap_ents (β := List DV) (hs3.mono hp) (hh3.mono hp) hg
    have hq6 : ([113, 117, 101, 117, 101, 32] : List UInt8).length = 6 := rfl
    rw [decide_eq_true (show (i : Int) < (x.heaps.length : Int) by omega), cond_true]
    rw [join_eq, bq, b10, chk_of (Nat.ble_eq_true_of_le (by omega)), nn_some', chk_of (inB_of hlt), Int.toNat_natCast, heap_name (hs3.mono hp) (hh3.mono hp) hg]
    simp only [D_str]
    rw [chk_of (Nat.ble_eq_true_of_le (by rw [List.length_append]; omega)), chk_of (Nat.ble_eq_true_of_le (by rw [List.length_append, List.length_append, List.length_singleton]; omega)), nn_some', chk_of (inB_of hlt), le]
    rw [join_eq]
    refine loop_rule _ (fun q y s' => ∃ (k : Nat), y = [.str (textL (headL x ++ heapsL (x.heaps.take i) ++ (([113, 117, 101, 117, 101, 32] ++ g.name) :: (g.ents.take k).map entL))), .int .i64 k] ∧ k ≤ g.ents.length ∧ g.ents.length - k ≤ q ∧ Pre s s') ?_ g.ents.length n _ _
      ⟨0, by rw [textL_app]; simp [textL], Nat.zero_le _, by omega, .refl _⟩ (by omega)
    rintro q' _ s6 ⟨k, rfl, hk, hkq, hp6⟩ rec2 hrec2
    simp only [J_s, J_i, D_nil]
    have hallk : stL x = (headL x ++ heapsL (x.heaps.take i) ++ (([113, 117, 101, 117, 101, 32] ++ g.name) :: (g.ents.take k).map entL)) ++ ((g.ents.drop k).map entL ++ heapsL (x.heaps.drop (i + 1))) := by
      have e1 : heapL g = (([113, 117, 101, 117, 101, 32] ++ g.name) :: (g.ents.take k).map entL) ++ (g.ents.drop k).map entL := by
        have e2 : g.ents.map entL = (g.ents.take k).map entL ++ (g.ents.drop k).map entL := by rw [← List.map_append, List.take_append_drop]
        exact congrArg (List.cons ([113, 117, 101, 117, 101, 32] ++ g.name)) e2
      rw [hall1, e1]
      simp only [List.append_assoc]
    by_cases hkl : k < g.ents.length
    · obtain ⟨ei, eo, rfl⟩ := hfe.some_of (by rw [entsC_len]; omega)
      have hem : g.ents[k]? = some g.ents[k] := List.getElem?_eq_getElem hkl
      have her := hgr _ (List.getElem_mem hkl)
      have htk : g.ents.take (k + 1) = g.ents.take k ++ [g.ents[k]] := List.take_succ_eq_append_getElem hkl
      have hdk : g.ents.drop k = g.ents[k] :: g.ents.drop (k + 1) := List.drop_eq_getElem_cons hkl
      generalize g.ents[k] = e at hem her htk hdk
      rw [decide_eq_true (show (k : Int) < (g.ents.length : Int) by omega), cond_true, nn_some', chk_of (inB_of hkl), Int.toNat_natCast, ent_load2 (hfe.mono hp6) hem]
      simp only [J_i, D_nil]
      refine Ok.callX (ev_ref03_Handle h.ref03_Handle n e.slot e.gen her.1 her.2.1 (by omega) s6) ?_
      rintro _ ⟨s7, rfl, hp7⟩
      refine ⟨_, s7, rfl, hp7, ?_⟩
      have hhl := showH_len her.1 her.2.1
      simp only [J_s, D_nil]
      have he6 : ([101, 110, 116, 114, 121, 32] : List UInt8).length = 6 := rfl
      have hf7 := hfe.mono (hp6.trans hp7)
      rw [be, chk_of (Nat.ble_eq_true_of_le (by omega)), nn_some', chk_of (inB_of hkl), ent_key hf7 hem]
      simp only [D_int]
      rw [nn_some', chk_of (inB_of hkl), ent_value hf7 hem]
      simp only [D_int]
      rw [new_eq]
      have hkv : Sl (s7 ++ [some ⟨false, [DV.int .i64 e.key, .int .i64 e.value]⟩]) (some (s7.length, 0)) (ints [e.key, e.value]) := sl_new s7 _
      have hp8 : Pre s7 (s7 ++ [some ⟨false, [DV.int .i64 e.key, .int .i64 e.value]⟩]) := .new _ _
      generalize (s7 ++ [some ⟨false, [DV.int .i64 e.key, .int .i64 e.value]⟩]) = s8 at hkv hp8
      have hp68 := hp7.trans hp8
      refine Ok.callN (ev_ref33_words h.ref33_words n 1 ([101, 110, 116, 114, 121, 32] ++ showH e.slot e.gen) [e.key, e.value] _ s8 (.inl rfl) hkv (fun v hv => by
        rcases List.mem_cons.1 hv with h3 | h3
        · rw [h3]; exact her.2.2.1
        · rw [List.mem_singleton.1 h3]; exact her.2.2.2) (by simp) (by rw [List.length_append]; omega) (by omega)) ?_
      rintro _ ⟨s9, rfl, hp9⟩
      refine ⟨_, s9, rfl, ?_⟩
      simp only [J_s, D_nil]
      have hel : lnN ([101, 110, 116, 114, 121, 32] ++ showH e.slot e.gen) [e.key, e.value] = entL e := rfl
      have hck := pre _ _ hallk
      have hle := entL_len her
      rw [hel, chk_of (Nat.ble_eq_true_of_le (by rw [List.length_append, List.length_singleton]; omega)), wr64_of (by omega) (by omega)]
      refine hrec2 (g.ents.length - (k + 1)) _ _ (by omega) ⟨k + 1, ?_, by omega, by omega, hp6.trans (hp68.trans hp9)⟩
      have e5 : headL x ++ heapsL (x.heaps.take i) ++ (([113, 117, 101, 117, 101, 32] ++ g.name) :: (g.ents.take (k + 1)).map entL) = (headL x ++ heapsL (x.heaps.take i) ++ (([113, 117, 101, 117, 101, 32] ++ g.name) :: (g.ents.take k).map entL)) ++ [entL e] := by
        rw [htk, List.map_append, List.append_assoc _ _ [entL e]]
        rfl
      rw [e5, textL_app _ [entL e], textL_one]
      rfl
    · rw [decide_eq_false (show ¬ (k : Int) < (g.ents.length : Int) by omega), cond_false]
      have : k = g.ents.length := by omega
      subst this
      rw [List.take_length, wr64_of (by omega) (by omega)]
      refine hrec (x.heaps.length - (i + 1)) _ _ (by omega) ⟨i + 1, ?_, by omega, by omega, hp.trans hp6⟩
      rw [et, ← List.append_assoc]
      rfl
  · rw [decide_eq_false (show ¬ (i : Int) < (x.heaps.length : Int) by omega), cond_false]
    have : i = x.heaps.length := by omega
    subst this
    rw [List.take_length]
    rw [ret_eq]
    exact .mk ⟨s, rfl, hp3.trans hp⟩
end Go.Gv.F

/- Reading a state's text: a line's words, taken. -/
namespace Go.Gv.F
open Go.Gv
variable {β : Type}
def numsF (ws : List (List UInt8)) : List Int := ws.filterMap readF
def addE (x : StV) (e : EntV) : StV :=
  match x.heaps[x.heaps.length - 1]? with
  | some g => { x with heaps := x.heaps.set (x.heaps.length - 1) ⟨g.name, g.ents ++ [e]⟩ }
  | none => x
def kYard : List UInt8 := [121, 97, 114, 100]
def kGens : List UInt8 := [103, 101, 110, 115]
def kFree : List UInt8 := [102, 114, 101, 101]
def kQueue : List UInt8 := [113, 117, 101, 117, 101]
def kEntry : List UInt8 := [101, 110, 116, 114, 121]
def takeW (x : StV) (ws : List (List UInt8)) (w : List UInt8) (l : List Int) : StV :=
  if w = kYard then (if l.length = 3 then { x with blocks := l.getD 0 0, slots := l.getD 1 0, g := l.getD 2 0 } else x)
  else if w = kGens then { x with gens := l }
  else if w = kFree then { x with free := l }
  else if w = kQueue then { x with heaps := x.heaps ++ [⟨Lib.join ws.tail [32], []⟩] }
  else if w = kEntry then (if 0 < x.heaps.length ∧ ws.length = 4 ∧ l.length = 2 then addE x ⟨((handleF (ws.getD 1 [])).getD (0, 0)).1, ((handleF (ws.getD 1 [])).getD (0, 0)).2, l.getD 0 0, l.getD 1 0⟩ else x)
  else x
def takeL (x : StV) (ws : List (List UInt8)) : StV := takeW x ws (ws.getD 0 []) (numsF ws.tail)
theorem ev_ledger_numbers {Bd : Bodies} (h : H_ledger_numbers Bd) (n z : Nat) (p : Option (Nat × Nat)) (ws : List (List UInt8)) (st : St) (hz : z = 1 ∨ p = none) (hs : Sl st p (ws.map .str)) (hw : ∀ w ∈ ws, w.length ≤ 50000) (hl : ws.length ≤ 50000) (hn : 50100 ≤ n) :
    Ok (fun o => ∃ q s', o = (.val [.slice 1 q (numsF ws).length], s') ∧ Pre st s' ∧ Fz s' q (ints (numsF ws))) (run Bd n 160 [.slice z p ws.length] st) := by
  obtain ⟨n, rfl⟩ : ∃ m, n = m + 1 := ⟨n - 1, by omega⟩
  rw [run_succ, h.eq]
  unfold b_ledger_numbers
  simp only [J_l_any 1 z p _ hz, D_nil]
  rw [base_eq, join_eq]
  refine loop_rule _ (fun q y s => ∃ (i z : Nat) (a : Option (Nat × Nat)), y = [.slice z a (numsF (ws.take i)).length, .int .i64 i] ∧ (z = 1 ∨ a = none) ∧ i ≤ ws.length ∧ ws.length - i ≤ q ∧ Own st s a (ints (numsF (ws.take i)))) ?_ ws.length n _ _
    ⟨0, 0, none, rfl, .inr rfl, Nat.zero_le _, by omega, Own.nil (.refl _)⟩ (by omega)
  rintro q _ s ⟨i, z, a, rfl, hz, hi, hq, ho⟩ rec hrec
  simp only [J_l_any 1 z a _ hz, J_i, D_nil]
  by_cases hlt : i < ws.length
  · obtain ⟨i1, o1, rfl⟩ := hs.some_of (by simp; omega)
    rw [decide_eq_true (show (i : Int) < (ws.length : Int) by omega), cond_true, nn_some', chk_of (inB_of hlt), Int.toNat_natCast, (hs.mono ho.1).get1 (d := .str ws[i]) (by simp [hlt])]
    simp only [D_str]
    have hwl := hw _ (List.getElem_mem hlt)
    have htk : ws.take (i + 1) = ws.take i ++ [ws[i]] := List.take_succ_eq_append_getElem hlt
    have hnl : (numsF (ws.take i)).length ≤ i := by
      have := List.length_filterMap_le readF (ws.take i)
      rw [List.length_take] at this
      unfold numsF
      omega
    generalize ws[i] = w at hwl htk
    refine Ok.call (ev_digit_Read h.digit_Read n w (by omega) (by omega) s) ?_
    rintro _ ⟨s1, rfl, hp1⟩
    refine ⟨_, s1, rfl, ?_⟩
    rw [outR_eq]
    simp only [J_i, J_b, D_nil]
    rw [join_eq, wr64_of (by omega) (by omega)]
    cases hrw : readF w with
    | none =>
      have e : numsF (ws.take (i + 1)) = numsF (ws.take i) := by
        unfold numsF; rw [htk, List.filterMap_append]; simp [hrw]
      rw [show (none : Option Int).isSome = false from rfl, cond_false]
      simp only [J_l, D_nil]
      exact hrec (ws.length - (i + 1)) _ _ (by omega) ⟨i + 1, 1, a, by rw [e]; rfl, .inl rfl, by omega, by omega, by rw [e]; exact ho.mono hp1⟩
    | some v =>
      have e : numsF (ws.take (i + 1)) = numsF (ws.take i) ++ [v] := by
        unfold numsF; rw [htk, List.filterMap_append]; simp [hrw]
      rw [show (some v : Option Int).isSome = true from rfl, cond_true, show (some v : Option Int).getD 0 = v from rfl]
      obtain ⟨q2, s2, g1, g2⟩ := (ho.mono hp1).push (β := List DV) (sz := 1) (n := (numsF (ws.take i)).length) (lim := 8796093022208) [.int .i64 v] (Nat.succ_pos 0) (by simp [ints]) rfl (by omega)
      rw [g2]
      simp only [J_l, D_nil]
      refine hrec (ws.length - (i + 1)) _ _ (by omega) ⟨i + 1, 1, q2, by rw [e, List.length_append]; rfl, .inl rfl, by omega, by omega, ?_⟩
      rw [e]
      unfold ints
      rw [List.map_append]
      exact g1
  · rw [decide_eq_false (show ¬ (i : Int) < (ws.length : Int) by omega), cond_false]
    have : i = ws.length := by omega
    subst this
    rw [List.take_length] at ho ⊢
    simp only [J_l, D_nil, retF_eq]
    exact .mk ⟨a, _, rfl, frz_pre ho.1, ho.fz⟩
def OB (s0 s : St) (p : Option (Nat × Nat)) (cs : List DV) : Prop := (p = none ∧ cs = []) ∨ ∃ i, p = some (i, 0) ∧ s0.length ≤ i ∧ s[i]? = some (some ⟨false, cs⟩)
theorem OB.sl {s0 s : St} {p : Option (Nat × Nat)} {cs : List DV} (h : OB s0 s p cs) : Sl s p cs := by
  rcases h with ⟨rfl, rfl⟩ | ⟨i, rfl, _, h⟩
  · rfl
  · exact ⟨false, cs, h, by simp, by simp⟩
/-- Blocks that stay: all but one. -/
def But (j : Option (Nat × Nat)) (s s' : St) : Prop := ∀ (i : Nat) (b : Option Blk), s[i]? = some b → (∀ o, j ≠ some (i, o)) → s'[i]? = some b
theorem OB.but {s0 s s' : St} {j p : Option (Nat × Nat)} {cs : List DV} (h : OB s0 s p cs) (k : But j s s') (hne : ∀ i, p = some (i, 0) → ∀ o, j ≠ some (i, o)) : OB s0 s' p cs := by
  rcases h with ⟨rfl, rfl⟩ | ⟨i, rfl, h1, h⟩
  · exact .inl ⟨rfl, rfl⟩
  · exact .inr ⟨i, rfl, h1, k i _ h (hne i rfl)⟩
theorem But.pre {s s' : St} (j : Option (Nat × Nat)) (h : Pre s s') : But j s s' := fun _ _ e _ => h.get e
theorem But.set (s : St) (r o : Nat) (b : Option Blk) : But (some (r, o)) s (s.set r b) := by
  intro i b' e hne
  have : r ≠ i := by rintro rfl; exact hne o rfl
  rw [List.getElem?_set_ne this]; exact e
theorem But.trans {j : Option (Nat × Nat)} {a b c : St} (h : But j a b) (k : But j b c) : But j a c := fun i x e hne => k i x (h i x e hne) hne
/-- append of one, to a slice of the function's own; the other blocks stay. -/
theorem Own.push3 {s0 s : St} {a : Option (Nat × Nat)} {cs : List DV} (h : Own s0 s a cs) {sz n lim : Nat} (ds : List DV) (hz : 0 < sz) (hn : cs.length = n * sz) (hd : ds.length = sz) (hl : n + 1 ≤ lim) :
    ∃ i s', s.length ≤ i ∧ Own s0 s' (some (i, 0)) (cs ++ ds) ∧ Kp s s' ∧ But a s s' ∧ ∀ K : Option (Nat × Nat) → M β, (M.new ds fun i => M.load i 0 sz fun cs' => M.app sz a n cs' 1 lim K) s = K (some (i, 0)) s' := by
  have hb : Nat.beq 1 0 = false := rfl
  rcases h.2 with ⟨rfl, rfl⟩ | ⟨i, rfl, hi, hs⟩
  · have h0 : n = 0 := by
      rcases Nat.mul_eq_zero.1 (show n * sz = 0 by simpa using hn.symm) with h | h
      · exact h
      · omega
    subst h0
    refine ⟨s.length + 1, s ++ [some (⟨false, ds⟩ : Blk)] ++ [some (⟨false, ds⟩ : Blk)], by omega, ⟨h.1.trans ((Pre.new _ _).trans (.new _ _)), .inr ⟨s.length + 1, rfl, by have := h.1.len; omega, ?_⟩⟩, ((Pre.new _ _).trans (.new _ _)).kp, But.pre _ ((Pre.new _ _).trans (.new _ _)), fun K => ?_⟩
    · rw [List.getElem?_append_right (by simp)]; simp
    · rw [new_eq, load_eq (f := false) (all := ds) (by simp) (by omega), List.drop_zero, List.take_of_length_le (by omega)]
      unfold M.app
      simp only [hb, Nat.ble_eq_true_of_le hl, cond_true, cond_false]
      simp
  · have hil : i < s.length := (List.getElem?_eq_some_iff.1 hs).1
    have hs2 : (s ++ [some (⟨false, ds⟩ : Blk)])[i]? = some (some (⟨false, cs⟩ : Blk)) := by rw [List.getElem?_append_left hil]; exact hs
    have hop : (s ++ [some (⟨false, ds⟩ : Blk)]).open? i = some cs := by unfold St.open?; rw [hs2]
    refine ⟨s.length + 1, (s ++ [some (⟨false, ds⟩ : Blk)]).set i none ++ [some (⟨false, cs ++ ds⟩ : Blk)], by omega, ⟨(set_pre (h.1.trans (.new _ _)) hi none).trans (.new _ _), .inr ⟨s.length + 1, rfl, by have := h.1.len; omega, ?_⟩⟩, (Pre.new _ _).kp.trans ((Kp.set hs2 none).trans (Pre.new _ _).kp), (But.pre _ (Pre.new _ _)).trans ((But.set _ i 0 none).trans (But.pre _ (Pre.new _ _))), fun K => ?_⟩
    · rw [List.getElem?_append_right (by simp)]; simp
    · rw [new_eq, load_eq (f := false) (all := ds) (by simp) (by omega), List.drop_zero, List.take_of_length_le (by omega)]
      unfold M.app
      simp only [hb, Nat.ble_eq_true_of_le hl, cond_true, cond_false, hop]
      rw [Nat.zero_add, Nat.ble_eq_true_of_le (by omega)]
      simp only [cond_true, List.drop_zero]
      rw [List.take_of_length_le (by omega)]
      simp
def HO (s0 s : St) (ds : List DV) (xs : List HeapV) : Prop :=
  ds.length = xs.length * 2 ∧ (∀ j x, xs[j]? = some x → ∃ z p, (z = 4 ∨ p = none) ∧ ds[j * 2]? = some (.str x.name) ∧ ds[j * 2 + 1]? = some (.slice z p x.ents.length) ∧ OB s0 s p (entsC x.ents)) ∧
  (∀ j k i z n z' n' o o', j < k → ds[j * 2 + 1]? = some (.slice z (some (i, o)) n) → ds[k * 2 + 1]? = some (.slice z' (some (i, o')) n') → False)
theorem HO.but {s0 s s' : St} {j : Option (Nat × Nat)} {ds : List DV} {xs : List HeapV} (h : HO s0 s ds xs) (k : But j s s') (hne : ∀ (i n : Nat) (x : HeapV), xs[n]? = some x → s[i]? = some (some ⟨false, entsC x.ents⟩) → ∀ o, j ≠ some (i, o)) : HO s0 s' ds xs := by
  refine ⟨h.1, fun n x e => ?_, h.2.2⟩
  obtain ⟨z, p, hz, h1, h2, h3⟩ := h.2.1 n x e
  refine ⟨z, p, hz, h1, h2, h3.but k fun i hi => ?_⟩
  rcases h3 with ⟨h4, _⟩ | ⟨i', h4, _, h6⟩
  · rw [h4] at hi; cases hi
  · rw [hi] at h4
    cases h4
    exact hne i n x e h6
theorem Heaps.of {s : St} : ∀ {xs : List HeapV} {ds : List DV}, ds.length = xs.length * 2 → (∀ j x, xs[j]? = some x → ∃ z p, (z = 4 ∨ p = none) ∧ ds[j * 2]? = some (.str x.name) ∧ ds[j * 2 + 1]? = some (.slice z p x.ents.length) ∧ Sl s p (entsC x.ents)) → Heaps s ds xs
  | [], ds, hl, _ => List.length_eq_zero_iff.1 hl
  | x :: r, ds, hl, h => by
    match ds, hl with
    | [d0], hl => exact absurd hl (by simp only [List.length_cons, List.length_nil]; omega)
    | d0 :: d1 :: t, hl =>
      obtain ⟨z, p, hz, h1, h2, h3⟩ := h 0 x rfl
      have h1 : some d0 = some (DV.str x.name) := h1
      have h2 : some d1 = some (DV.slice z p x.ents.length) := h2
      cases h1
      cases h2
      refine ⟨z, p, t, hz, rfl, h3, Heaps.of (by simp only [List.length_cons] at hl; omega) fun j y e => ?_⟩
      have := h (j + 1) y e
      rw [show (j + 1) * 2 = j * 2 + 2 by omega, show j * 2 + 2 + 1 = j * 2 + 1 + 2 by omega] at this
      exact this
theorem HO.heaps {s0 s : St} {ds : List DV} {xs : List HeapV} (h : HO s0 s ds xs) : Heaps s ds xs :=
  Heaps.of h.1 fun j x e => let ⟨z, p, hz, h1, h2, h3⟩ := h.2.1 j x e; ⟨z, p, hz, h1, h2, h3.sl⟩
structure RD (s0 s : St) (r : Nat) (x : StV) : Prop where
  pre : Pre s0 s
  ge : s0.length ≤ r
  cells : ∃ z1 p1 z2 p2 z3 p3 ds, s[r]? = some (some ⟨false, stC x z1 p1 z2 p2 z3 p3⟩) ∧ (z1 = 2 ∨ p1 = none) ∧ (z2 = 1 ∨ p2 = none) ∧ (z3 = 1 ∨ p3 = none) ∧ OB s0 s p1 ds ∧ HO s0 s ds x.heaps ∧ Fz s p2 (ints x.gens) ∧ Fz s p3 (ints x.free)
theorem RD.mono {s0 s s' : St} {r : Nat} {x : StV} (h : RD s0 s r x) (k : Pre s s') : RD s0 s' r x := by
  obtain ⟨z1, p1, z2, p2, z3, p3, ds, h1, h2, h3, h4, h5, h6, h7, h8⟩ := h.cells
  exact ⟨h.pre.trans k, h.ge, z1, p1, z2, p2, z3, p3, ds, k.get h1, h2, h3, h4, h5.but (But.pre none k) (fun _ _ _ => by simp), h6.but (But.pre none k) (fun _ _ _ _ _ _ => by simp), h7.pre k, h8.pre k⟩
theorem ds_ne {s0 s : St} {ds : List DV} {xs : List HeapV} (h : HO s0 s ds xs) (x : StV) (z1 : Nat) (p1 : Option (Nat × Nat)) (z2 : Nat) (p2 : Option (Nat × Nat)) (z3 : Nat) (p3 : Option (Nat × Nat)) : ds ≠ stC x z1 p1 z2 p2 z3 p3 := by
  intro e
  cases xs with
  | nil =>
    have := h.1
    rw [e] at this
    cases this
  | cons y r =>
    obtain ⟨_, _, _, h1, _⟩ := h.2.1 0 y rfl
    rw [e] at h1
    cases h1
theorem ents_ne (l : List EntV) (x : StV) (z1 : Nat) (p1 : Option (Nat × Nat)) (z2 : Nat) (p2 : Option (Nat × Nat)) (z3 : Nat) (p3 : Option (Nat × Nat)) : entsC l ≠ stC x z1 p1 z2 p2 z3 p3 := by
  intro e
  have := congrArg List.length e
  rw [entsC_len] at this
  have : l.length * 4 = 6 := this
  omega
theorem ds_ents {s0 s : St} {ds : List DV} {xs : List HeapV} (h : HO s0 s ds xs) (hx : 0 < xs.length) (l : List EntV) : ds ≠ entsC l := by
  intro e
  cases xs with
  | nil => cases hx
  | cons y r =>
    obtain ⟨_, _, _, h1, h2, _⟩ := h.2.1 0 y rfl
    rw [e] at h1
    cases l with
    | nil => cases h1
    | cons a l => cases h1
end Go.Gv.F

/- Reading a state's text: a line's words, taken: the program's function. -/
namespace Go.Gv.F
open Go.Gv
variable {β : Type}
theorem Sl.tail {s : St} {i o : Nat} {d : DV} {cs : List DV} (h : Sl s (some (i, o)) (d :: cs)) : Sl s (some (i, 1 + o)) cs := by
  obtain ⟨f, all, h1, h2, h3⟩ := h
  rw [List.length_cons] at h2 h3
  refine ⟨f, all, h1, by omega, ?_⟩
  have := congrArg (List.drop 1) h3
  rw [List.drop_take, List.drop_drop, Nat.add_sub_cancel] at this
  rw [Nat.add_comm 1 o]
  exact this
theorem OB.own {s0 s : St} {p : Option (Nat × Nat)} {cs : List DV} (h : OB s0 s p cs) (hp : Pre s0 s) : Own s0 s p cs := ⟨hp, h⟩
/-- The reader's block, changed. -/
theorem RD.set {s0 s : St} {r : Nat} {x y : StV} {z1 z2 z3 : Nat} {p1 p2 p3 : Option (Nat × Nat)} {ds : List DV} (hp : Pre s0 s) (hg : s0.length ≤ r) {z2' z3' : Nat} {p2' p3' : Option (Nat × Nat)}
    (h1 : s[r]? = some (some ⟨false, stC x z1 p1 z2 p2 z3 p3⟩)) (h2 : z1 = 2 ∨ p1 = none) (h3 : z2' = 1 ∨ p2' = none) (h4 : z3' = 1 ∨ p3' = none) (h5 : OB s0 s p1 ds) (h6 : HO s0 s ds x.heaps) (h7 : Fz s p2' (ints y.gens)) (h8 : Fz s p3' (ints y.free)) (hy : y.heaps = x.heaps) :
    RD s0 (s.set r (some ⟨false, stC y z1 p1 z2' p2' z3' p3'⟩)) r y ∧ Kp s (s.set r (some ⟨false, stC y z1 p1 z2' p2' z3' p3'⟩)) := by
  have hb := But.set s r 0 (some ⟨false, stC y z1 p1 z2' p2' z3' p3'⟩)
  have hk := Kp.set h1 (some ⟨false, stC y z1 p1 z2' p2' z3' p3'⟩)
  refine ⟨⟨set_pre hp hg _, hg, z1, p1, z2', p2', z3', p3', ds, get_set_self h1 _, h2, h3, h4, h5.but hb ?_, ?_, h7.kp hk, h8.kp hk⟩, hk⟩
  · intro i hi o e
    cases e
    rcases h5 with ⟨h9, _⟩ | ⟨i', h9, _, h10⟩
    · rw [h9] at hi; cases hi
    · rw [h9] at hi
      cases hi
      rw [h1] at h10
      injection h10 with e1
      injection e1 with e2
      injection e2 with _ e3
      exact ds_ne h6 _ _ _ _ _ _ _ e3.symm
  · rw [hy]
    refine h6.but hb fun i n g hg2 hs o e => ?_
    cases e
    rw [h1] at hs
    injection hs with e1
    injection e1 with e2
    injection e2 with _ e3
    exact ents_ne _ _ _ _ _ _ _ _ e3.symm
theorem addE_eq {x : StV} {g : HeapV} {e : EntV} (h : x.heaps[x.heaps.length - 1]? = some g) : addE x e = { x with heaps := x.heaps.set (x.heaps.length - 1) ⟨g.name, g.ents ++ [e]⟩ } := by
  unfold addE; rw [h]
theorem ev_reader_take {Bd : Bodies} (h : H_ledger_reader_take Bd) (n : Nat) (s0 s : St) (r : Nat) (x : StV) (ws : List (List UInt8)) (p : Option (Nat × Nat)) (hR : RD s0 s r x) (hs : Fz s p (ws.map .str)) (h0 : 0 < ws.length) (hw : ∀ w ∈ ws, w.length ≤ 50000) (hl : ws.length ≤ 50000)
    (hj : (Lib.join ws.tail [32]).length ≤ 100000000) (hh : x.heaps.length ≤ 50000) (he : ∀ g ∈ x.heaps, g.ents.length ≤ 50000) (hn : 50200 ≤ n) :
    Ok (fun o => ∃ s', o = (.val [], s') ∧ RD s0 s' r (takeL x ws) ∧ Kp s s') (run Bd n 151 [.ptr (some (r, 0)), .slice 1 p ws.length] s) := by
  obtain ⟨n, rfl⟩ : ∃ m, n = m + 2 := ⟨n - 2, by omega⟩
  rw [run_succ, h.eq]
  unfold b_ledger_reader_take
  simp only [J_p, J_l, D_nil]
  obtain ⟨w, tl, rfl⟩ : ∃ w tl, ws = w :: tl := by
    cases ws with
    | nil => cases h0
    | cons w tl => exact ⟨w, tl, rfl⟩
  obtain ⟨i, o, rfl⟩ := hs.1.some_of (by simp)
  have htl : Fz s (some (i, 1 + o)) (tl.map .str) := ⟨Sl.tail hs.1, fun i' o' e => by cases e; exact hs.2 i o rfl⟩
  have hwl := hw w List.mem_cons_self
  have hwt : ∀ v ∈ tl, v.length ≤ 50000 := fun v hv => hw v (List.mem_cons_of_mem _ hv)
  rw [List.length_cons] at hl
  rw [chk_of (decide_eq_true (by rw [List.length_cons]; omega)), show cutA true (some (i, o)) 1 = some (i, 1 + o) from rfl, show (w :: tl).length - 1 = tl.length from rfl]
  refine Ok.call (ev_ledger_numbers h.ledger_numbers (n + 1) 1 (some (i, 1 + o)) tl s (.inl rfl) htl.1 hwt (by omega) (by omega)) ?_
  rintro _ ⟨q, s1, rfl, hp1, hfq⟩
  refine ⟨_, s1, rfl, ?_⟩
  simp only [J_l, D_nil]
  have hR1 := hR.mono hp1
  have hs1 := hs.pre hp1
  have htl1 := htl.pre hp1
  rw [nn_some', chk_of (inB_lit0 h0), hs1.1.get (j := 0) (d := .str w) rfl]
  simp only [D_str]
  rw [show takeL x (w :: tl) = takeW x (w :: tl) w (numsF tl) from rfl]
  -- the end
  have done : ∀ s', RD s0 s' r (takeW x (w :: tl) w (numsF tl)) → Kp s1 s' → Ok (fun o => ∃ s', o = (.val [], s') ∧ RD s0 s' r (takeW x (w :: tl) w (numsF tl)) ∧ Kp s s') ((M.ret [] : M (List DV)) s') := by
    intro s' hr hk
    rw [ret_eq]
    exact .mk ⟨s', rfl, hr, hp1.kp.trans hk⟩
  have hq3 : ∀ j v, (numsF tl)[j]? = some v → ∃ a b, q = some (a, b) := fun j v e => by
    obtain ⟨a, b, e⟩ := hfq.1.some_of (by
      have := (List.getElem?_eq_some_iff.1 e).1
      simp only [ints, List.length_map]; omega)
    exact ⟨a, b, e⟩
  have get : ∀ (a b j : Nat) (s' : St) (K : DV → M (List DV)), q = some (a, b) → Pre s1 s' → j < (numsF tl).length → M.load1 a (j + b) K s' = K (.int .i64 ((numsF tl).getD j 0)) s' := by
    rintro a b j s' K rfl hp hj
    exact (hfq.1.mono hp).get (d := .int .i64 ((numsF tl).getD j 0)) (by simp [ints, List.getD_eq_getElem?_getD, hj]) K
  obtain ⟨z1, p1, z2, p2, z3, p3, ds, c1, c2, c3, c4, c5, c6, c7, c8⟩ := hR1.cells
  rw [join_eq]
  by_cases k1 : w = kYard
  · rw [show (w == bs [121, 97, 114, 100]) = true by rw [k1]; rfl, cond_true, join_eq]
    have etk : takeW x (w :: tl) w (numsF tl) = if (numsF tl).length = 3 then { x with blocks := (numsF tl).getD 0 0, slots := (numsF tl).getD 1 0, g := (numsF tl).getD 2 0 } else x := by unfold takeW; rw [if_pos k1]
    by_cases k3 : (numsF tl).length = 3
    · rw [show (((numsF tl).length : Int) == 3) = true by rw [k3]; rfl, cond_true]
      obtain ⟨a, b, hq⟩ := hq3 0 _ (List.getElem?_eq_getElem (by omega))
      rw [hq, nn_some', chk_of (by rw [k3]; rfl), get a b 0 s1 _ hq (.refl _) (by omega)]
      simp only [D_int]
      rw [nn_some', chk_of (by rw [k3]; rfl), get a b 1 s1 _ hq (.refl _) (by omega)]
      simp only [D_int]
      rw [nn_some', chk_of (by rw [k3]; rfl), get a b 2 s1 _ hq (.refl _) (by omega)]
      simp only [D_int]
      rw [nn_some', store_eq c1 (by show 0 + 3 ≤ 6; omega)]
      simp only [D_nil]
      rw [if_pos k3] at etk
      rw [etk] at done ⊢
      obtain ⟨r1, r2⟩ := RD.set (y := { x with blocks := (numsF tl).getD 0 0, slots := (numsF tl).getD 1 0, g := (numsF tl).getD 2 0 }) hR1.pre hR1.ge c1 c2 c3 c4 c5 c6 c7 c8 rfl
      exact done _ r1 r2
    · rw [show (((numsF tl).length : Int) == 3) = false from beq_eq_false_iff_ne.2 (by omega), cond_false]
      simp only [D_nil]
      rw [if_neg k3] at etk
      rw [etk] at done ⊢
      exact done s1 hR1 (fun _ _ h => h)
  rw [show (w == bs [121, 97, 114, 100]) = false from beq_eq_false_iff_ne.2 k1, cond_false, join_eq]
  by_cases k2 : w = kGens
  · rw [show (w == bs [103, 101, 110, 115]) = true by rw [k2]; rfl, cond_true]
    have etk : takeW x (w :: tl) w (numsF tl) = { x with gens := numsF tl } := by unfold takeW; rw [if_neg k1, if_pos k2]
    rw [nn_some', store_eq c1 (by show 0 + 4 + 1 ≤ 6; omega)]
    simp only [D_nil]
    rw [etk] at done ⊢
    obtain ⟨r1, r2⟩ := RD.set (y := { x with gens := numsF tl }) hR1.pre hR1.ge c1 c2 (z2' := 1) (p2' := q) (.inl rfl) c4 c5 c6 hfq c8 rfl
    exact done _ r1 r2
  rw [show (w == bs [103, 101, 110, 115]) = false from beq_eq_false_iff_ne.2 k2, cond_false, join_eq]
  by_cases k3 : w = kFree
  · rw [show (w == bs [102, 114, 101, 101]) = true by rw [k3]; rfl, cond_true]
    have etk : takeW x (w :: tl) w (numsF tl) = { x with free := numsF tl } := by unfold takeW; rw [if_neg k1, if_neg k2, if_pos k3]
    rw [nn_some', store_eq c1 (by show 0 + 5 + 1 ≤ 6; omega)]
    simp only [D_nil]
    rw [etk] at done ⊢
    obtain ⟨r1, r2⟩ := RD.set (y := { x with free := numsF tl }) hR1.pre hR1.ge c1 c2 c3 (z3' := 1) (p3' := q) (.inl rfl) c5 c6 c7 hfq rfl
    exact done _ r1 r2
  rw [show (w == bs [102, 114, 101, 101]) = false from beq_eq_false_iff_ne.2 k3, cond_false, join_eq]
  have hds := c6.1
  by_cases k4 : w = kQueue
  · rw [show (w == bs [113, 117, 101, 117, 101]) = true by rw [k4]; rfl, cond_true]
    have etk : takeW x (w :: tl) w (numsF tl) = { x with heaps := x.heaps ++ [⟨Lib.join tl [32], []⟩] } := by unfold takeW; rw [if_neg k1, if_neg k2, if_neg k3, if_pos k4]; rfl
    rw [nn_some', load1_eq c1 (d := .slice z1 p1 x.heaps.length) rfl]
    rw [D_slice_any 2 z1 p1 _ c2, chk_of (decide_eq_true (by rw [List.length_cons]; omega))]
    have hjn := ev_strings_Join h.strings_Join n (some (i, 1 + o)) tl [32] s1 htl1.1 (by omega) (by exact Nat.le_trans hj (by omega))
    rw [show bs [32] = [32] from rfl, callX_eq hjn (.refl _)]
    simp only [J_s, D_nil]
    obtain ⟨i2, s2, g0, g1, g2, g3, g4⟩ := (c5.own hR1.pre).push3 (β := List DV) (sz := 2) (n := x.heaps.length) (lim := 1759218604441) [.str (Lib.join tl [32]), .slice 0 none 0] (by omega) hds rfl (by omega)
    rw [g4]
    have hrs : ∀ o, p1 ≠ some (r, o) := by
      intro o' e
      rcases c5 with ⟨h9, _⟩ | ⟨i', h9, _, h10⟩
      · rw [h9] at e; cases e
      · rw [h9] at e
        cases e
        rw [c1] at h10
        injection h10 with e1
        injection e1 with e2
        injection e2 with _ e3
        exact ds_ne c6 _ _ _ _ _ _ _ e3.symm
    have c1' := g3 r _ c1 hrs
    rw [nn_some', store_eq c1' (by show 0 + 3 + 1 ≤ 6; omega)]
    rw [etk] at done ⊢
    have hi2 : i2 ≠ r := by
      have : r < s1.length := (List.getElem?_eq_some_iff.1 c1).1
      omega
    have hH : HO s0 s2 (ds ++ [.str (Lib.join tl [32]), .slice 0 none 0]) (x.heaps ++ [⟨Lib.join tl [32], []⟩]) := by
      have c6' : HO s0 s2 ds x.heaps := c6.but g3 fun i n g hg hi o e => by
        rcases c5 with ⟨h9, _⟩ | ⟨i', h9, _, h10⟩
        · rw [h9] at e; cases e
        · rw [h9] at e
          cases e
          rw [hi] at h10
          injection h10 with e1
          injection e1 with e2
          injection e2 with _ e3
          exact ds_ents c6 (by have := (List.getElem?_eq_some_iff.1 hg).1; omega) _ e3.symm
      have hnth : ∀ j y, (x.heaps ++ [(⟨Lib.join tl [32], []⟩ : HeapV)])[j]? = some y → (j < x.heaps.length ∧ x.heaps[j]? = some y) ∨ (j = x.heaps.length ∧ y = ⟨Lib.join tl [32], []⟩) := by
        intro j y e
        by_cases hj : j < x.heaps.length
        · rw [List.getElem?_append_left hj] at e
          exact .inl ⟨hj, e⟩
        · rw [List.getElem?_append_right (by omega)] at e
          have hj0 : j - x.heaps.length = 0 := by
            have := (List.getElem?_eq_some_iff.1 e).1
            simp only [List.length_cons, List.length_nil] at this
            omega
          rw [hj0] at e
          cases e
          exact .inr ⟨by omega, rfl⟩
      have hnewc : (ds ++ [DV.str (Lib.join tl [32]), .slice 0 none 0])[x.heaps.length * 2 + 1]? = some (.slice 0 none 0) := by
        rw [List.getElem?_append_right (by omega), show x.heaps.length * 2 + 1 - ds.length = 1 by omega]; rfl
      refine ⟨by rw [List.length_append, List.length_append, hds]; simp only [List.length_cons, List.length_nil]; omega, fun j y e => ?_, ?_⟩
      · rcases hnth j y e with ⟨hj, e⟩ | ⟨rfl, rfl⟩
        · obtain ⟨z, pp, hz, h1, h2, h3⟩ := c6'.2.1 j y e
          exact ⟨z, pp, hz, by rw [List.getElem?_append_left (by omega)]; exact h1, by rw [List.getElem?_append_left (by omega)]; exact h2, h3⟩
        · exact ⟨0, none, .inr rfl, by rw [List.getElem?_append_right (by omega), show x.heaps.length * 2 - ds.length = 0 by omega]; rfl, hnewc, .inl ⟨rfl, rfl⟩⟩
      · intro j k i z n z' n' o o' hjk h1 h2
        have hkl : k < x.heaps.length := by
          refine Classical.byContradiction fun hk => ?_
          have hkk := (List.getElem?_eq_some_iff.1 h2).1
          rw [List.length_append] at hkk
          simp only [List.length_cons, List.length_nil] at hkk
          have : k = x.heaps.length := by omega
          subst this
          rw [hnewc] at h2
          cases h2
        rw [List.getElem?_append_left (by omega)] at h1 h2
        exact c6'.2.2 j k i z n z' n' o o' hjk h1 h2
    have hbt := But.set s2 r 0 (some ⟨false, spl (stC x z1 p1 z2 p2 z3 p3) (0 + 3) [DV.slice 2 (some (i2, 0)) (x.heaps.length + 1)]⟩)
    have hk2 := Kp.set c1' (some ⟨false, spl (stC x z1 p1 z2 p2 z3 p3) (0 + 3) [DV.slice 2 (some (i2, 0)) (x.heaps.length + 1)]⟩)
    refine done _ ⟨set_pre g1.1 hR1.ge _, hR1.ge, 2, some (i2, 0), z2, p2, z3, p3, ds ++ [.str (Lib.join tl [32]), .slice 0 none 0], ?_, .inl rfl, c3, c4, ?_, ?_, (c7.kp g2).kp hk2, (c8.kp g2).kp hk2⟩ (g2.trans hk2)
    · rw [get_set_self c1' _]
      unfold stC
      rw [List.length_append]
      rfl
    · rcases g1.2 with ⟨h9, _⟩ | ⟨i', h9, h10, h11⟩
      · cases h9
      · cases h9
        refine .inr ⟨i2, rfl, h10, hbt i2 _ h11 fun o e => ?_⟩
        cases e
        exact hi2 rfl
    · refine hH.but hbt fun i n g hg hi o e => ?_
      cases e
      rw [c1'] at hi
      injection hi with e1
      injection e1 with e2
      injection e2 with _ e3
      exact ents_ne _ _ _ _ _ _ _ _ e3.symm
  rw [show (w == bs [113, 117, 101, 117, 101]) = false from beq_eq_false_iff_ne.2 k4, cond_false, join_eq]
  by_cases k5 : w = kEntry
  rotate_left
  · rw [show (w == bs [101, 110, 116, 114, 121]) = false from beq_eq_false_iff_ne.2 k5, cond_false]
    simp only [D_nil]
    have etk : takeW x (w :: tl) w (numsF tl) = x := by unfold takeW; rw [if_neg k1, if_neg k2, if_neg k3, if_neg k4, if_neg k5]
    rw [etk] at done ⊢
    exact done s1 hR1 (fun _ _ h => h)
  rw [show (w == bs [101, 110, 116, 114, 121]) = true by rw [k5]; rfl, cond_true]
  have etk : takeW x (w :: tl) w (numsF tl) = if 0 < x.heaps.length ∧ (w :: tl).length = 4 ∧ (numsF tl).length = 2 then addE x ⟨((handleF ((w :: tl).getD 1 [])).getD (0, 0)).1, ((handleF ((w :: tl).getD 1 [])).getD (0, 0)).2, (numsF tl).getD 0 0, (numsF tl).getD 1 0⟩ else x := by
    unfold takeW; rw [if_neg k1, if_neg k2, if_neg k3, if_neg k4, if_pos k5]
  have skip : ¬ (0 < x.heaps.length ∧ (w :: tl).length = 4 ∧ (numsF tl).length = 2) → Ok (fun o => ∃ s', o = (.val [], s') ∧ RD s0 s' r (takeW x (w :: tl) w (numsF tl)) ∧ Kp s s') ((M.ret [] : M (List DV)) s1) := by
    intro hno
    rw [if_neg hno] at etk
    rw [etk] at done ⊢
    exact done s1 hR1 (fun _ _ h => h)
  rw [nn_some', load1_eq c1 (d := .slice z1 p1 x.heaps.length) rfl, D_slice_any 2 z1 p1 _ c2, join_eq, wr64_of (by omega) (by omega)]
  by_cases e1 : 0 < x.heaps.length
  rotate_left
  · rw [decide_eq_false (show ¬ (x.heaps.length : Int) - 1 ≥ 0 by omega), cond_false]
    simp only [J_b, D_nil]
    rw [join_eq, cond_false]
    simp only [J_b, D_nil]
    rw [join_eq, cond_false]
    exact skip fun hh => e1 hh.1
  rw [decide_eq_true (show (x.heaps.length : Int) - 1 ≥ 0 by omega), cond_true]
  simp only [J_b, D_nil]
  rw [join_eq]
  by_cases e2 : (w :: tl).length = 4
  rotate_left
  · rw [show ((((w :: tl).length : Nat) : Int) == 4) = false from beq_eq_false_iff_ne.2 (by omega), cond_false]
    simp only [J_b, D_nil]
    rw [join_eq, cond_false]
    exact skip fun hh => e2 hh.2.1
  rw [show ((((w :: tl).length : Nat) : Int) == 4) = true by rw [e2]; rfl, cond_true]
  simp only [J_b, D_nil]
  rw [join_eq]
  by_cases e3 : (numsF tl).length = 2
  rotate_left
  · rw [show (((numsF tl).length : Int) == 2) = false from beq_eq_false_iff_ne.2 (by omega), cond_false]
    exact skip fun hh => e3 hh.2.2
  rw [show (((numsF tl).length : Int) == 2) = true by rw [e3]; rfl, cond_true, nn_some', chk_of (inB_lit1 (by omega)), hs1.1.get (j := 1) (d := .str ((w :: tl).getD 1 [])) (by
    rw [List.getElem?_map, List.getD_eq_getElem?_getD, List.getElem?_eq_getElem (by omega)]; rfl)]
  simp only [D_str]
  rw [if_pos ⟨e1, e2, e3⟩] at etk
  have hwl1 : ((w :: tl).getD 1 []).length ≤ 50000 := by
    rw [List.getD_eq_getElem?_getD, List.getElem?_eq_getElem (by omega)]
    exact hw _ (List.getElem_mem _)
  generalize (w :: tl).getD 1 [] = hw1 at *
  refine Ok.call (ev_ReadHandle h.digit_ReadHandle (n + 1) hw1 (by omega) (by omega) s1) ?_
  rintro _ ⟨s2, rfl, hp2⟩
  refine ⟨_, s2, rfl, ?_⟩
  rw [outH_eq]
  simp only [J_a, J_i, J_b, D_nil]
  obtain ⟨a, b, hq⟩ := hq3 0 _ (List.getElem?_eq_getElem (by omega))
  rw [hq, nn_some', chk_of (by rw [e3]; rfl), get a b 0 s2 _ hq hp2 (by omega)]
  simp only [D_int]
  rw [nn_some', chk_of (by rw [e3]; rfl), get a b 1 s2 _ hq hp2 (by omega)]
  simp only [D_int]
  have hR2 := hR1.mono hp2
  have c1 := hp2.get c1
  rw [nn_some', load1_eq c1 (d := .slice z1 p1 x.heaps.length) rfl, D_slice_any 2 z1 p1 _ c2]
  rw [nn_some', load1_eq c1 (d := .slice z1 p1 x.heaps.length) rfl, D_slice_any 2 z1 p1 _ c2]
  have c5 := c5.but (But.pre none hp2) (fun _ _ _ => by simp)
  have c6 := c6.but (But.pre none hp2) (fun _ _ _ _ _ _ => by simp)
  have c7 := c7.pre hp2
  have c8 := c8.pre hp2
  obtain ⟨ib, rfl, hib, hsb⟩ : ∃ i, p1 = some (i, 0) ∧ s0.length ≤ i ∧ s2[i]? = some (some ⟨false, ds⟩) := by
    rcases c5 with ⟨_, h9⟩ | h9
    · rw [h9] at hds; simp only [List.length_nil] at hds; omega
    · exact h9
  obtain ⟨m, hm⟩ : ∃ m, x.heaps.length = m + 1 := ⟨x.heaps.length - 1, by omega⟩
  obtain ⟨g, hg⟩ : ∃ g, x.heaps[m]? = some g := ⟨_, List.getElem?_eq_getElem (by omega)⟩
  have hge := he g (List.mem_of_getElem? hg)
  obtain ⟨z, p, hz, d1, d2, d3⟩ := c6.2.1 m g hg
  have hmi : ((m + 1 : Nat) : Int) - 1 = (m : Int) := by omega
  rw [nn_some', hm, hmi, chk_of (inB_of (by omega)), Int.toNat_natCast, load1_eq hsb (d := .slice z p g.ents.length) (by exact d2), D_slice_any 4 z p _ hz]
  have hpr : ∀ j o, p = some (j, o) → j ≠ r ∧ j ≠ ib := by
    rintro j o rfl
    rcases d3 with ⟨h9, _⟩ | ⟨i', h9, _, h10⟩
    · cases h9
    · cases h9
      refine ⟨fun hjr => ?_, fun hji => ?_⟩
      · subst hjr
        rw [c1] at h10
        injection h10 with e1
        injection e1 with e2
        injection e2 with _ e3
        exact ents_ne _ _ _ _ _ _ _ _ e3.symm
      · subst hji
        rw [hsb] at h10
        injection h10 with e1
        injection e1 with e2
        injection e2 with _ e3
        exact ds_ents c6 (by omega) _ e3
  have hap : apart p r = true := by
    unfold apart
    cases p with
    | none => rfl
    | some v =>
      obtain ⟨j, o⟩ := v
      have := (hpr j o rfl).1
      show (!Nat.beq r j) = true
      rw [Bool.not_eq_true', ← Bool.not_eq_true]
      intro hb
      exact this (Nat.eq_of_beq_eq_true hb).symm
  simp only [hap, chk_true]
  generalize hee : (⟨((handleF hw1).getD (0, 0)).1, ((handleF hw1).getD (0, 0)).2, (numsF tl).getD 0 0, (numsF tl).getD 1 0⟩ : EntV) = e at *
  have hec : [DV.int .i64 ((handleF hw1).getD (0, 0)).1, .int .i64 ((handleF hw1).getD (0, 0)).2, .int .i64 ((numsF tl).getD 0 0), .int .i64 ((numsF tl).getD 1 0)] = entC e := by rw [← hee]; rfl
  rw [hec]
  obtain ⟨i2, s3, g0, g1, g2, g3, g4⟩ := (d3.own hR2.pre).push3 (β := List DV) (sz := 4) (n := g.ents.length) (lim := 2199023255552) (entC e) (by omega) (entsC_len _) rfl (by omega)
  rw [g4]
  have hlt2 : ∀ {i : Nat} {b : Option Blk}, s2[i]? = some b → i < s2.length := fun h => (List.getElem?_eq_some_iff.1 h).1
  have hsb3 := g3 ib _ hsb (fun o e => (hpr ib o e).2 rfl)
  have hr3 := g3 r _ c1 (fun o e => (hpr r o e).1 rfl)
  have hir : ib ≠ r := by
    intro e
    rw [e, c1] at hsb
    injection hsb with e1
    injection e1 with e2
    injection e2 with _ e3
    exact ds_ne c6 _ _ _ _ _ _ _ e3.symm
  have hdl : m * 2 + 1 < ds.length := by omega
  have hspl : spl ds (m * 2 + 0 + 1) [DV.slice 4 (some (i2, 0)) (g.ents.length + 1)] = ds.set (m * 2 + 1) (.slice 4 (some (i2, 0)) (g.ents.length + 1)) := spl_set _ _ _ hdl
  rw [nn_some', chk_of (inB_of (by omega)), store_eq hsb3 (by simp only [List.length_cons, List.length_nil]; omega), hspl]
  rw [addE_eq (g := g) (by rw [hm]; exact hg), show x.heaps.length - 1 = m by omega] at etk
  rw [etk] at done ⊢
  have hk2 := Kp.set hsb3 (some ⟨false, ds.set (m * 2 + 1) (.slice 4 (some (i2, 0)) (g.ents.length + 1))⟩)
  have hbt := But.set s3 ib 0 (some ⟨false, ds.set (m * 2 + 1) (.slice 4 (some (i2, 0)) (g.ents.length + 1))⟩)
  have hib2 : i2 ≠ ib := by have := hlt2 hsb; omega
  have gown : s0.length ≤ i2 ∧ s3[i2]? = some (some ⟨false, entsC g.ents ++ entC e⟩) := by
    rcases g1.2 with ⟨h9, _⟩ | ⟨i', h9, h10, h11⟩
    · cases h9
    · cases h9; exact ⟨h10, h11⟩
  refine done _ ⟨set_pre g1.1 hib _, hR2.ge, z1, some (ib, 0), z2, p2, z3, p3, ds.set (m * 2 + 1) (.slice 4 (some (i2, 0)) (g.ents.length + 1)), ?_, c2, c3, c4, .inr ⟨ib, rfl, hib, get_set_self hsb3 _⟩, ?_, (c7.kp g2).kp hk2, (c8.kp g2).kp hk2⟩ (hp2.kp.trans (g2.trans hk2))
  · rw [List.getElem?_set_ne hir, hr3]
    unfold stC
    rw [List.length_set]
  · have hcell : ∀ j, j ≠ m * 2 + 1 → (ds.set (m * 2 + 1) (DV.slice 4 (some (i2, 0)) (g.ents.length + 1)))[j]? = ds[j]? := fun j hj => List.getElem?_set_ne (Ne.symm hj)
    have hnew : (ds.set (m * 2 + 1) (DV.slice 4 (some (i2, 0)) (g.ents.length + 1)))[m * 2 + 1]? = some (.slice 4 (some (i2, 0)) (g.ents.length + 1)) := by
      rw [List.getElem?_set_self hdl]
    refine ⟨by rw [List.length_set, List.length_set]; exact hds, fun j y ey => ?_, ?_⟩
    · by_cases hjm : j = m
      · subst hjm
        rw [List.getElem?_set_self (by omega)] at ey
        cases ey
        refine ⟨4, some (i2, 0), .inl rfl, by rw [hcell _ (by omega)]; exact d1, by rw [hnew, List.length_append]; rfl, .inr ⟨i2, rfl, gown.1, ?_⟩⟩
        refine hbt i2 _ ?_ (fun o e => by cases e; exact hib2 rfl)
        rw [gown.2, entsC_app]
        simp [entsC]
      · rw [List.getElem?_set_ne (Ne.symm hjm)] at ey
        obtain ⟨z', p', hz', f1, f2, f3⟩ := c6.2.1 j y ey
        refine ⟨z', p', hz', by rw [hcell _ (by omega)]; exact f1, by rw [hcell _ (by omega)]; exact f2, ?_⟩
        have f4 : OB s0 s3 p' (entsC y.ents) := f3.but g3 fun i hi o ep => by
          have hjl := (List.getElem?_eq_some_iff.1 ey).1
          rw [hi] at f2
          rw [ep] at d2
          exact c6.2.2 j m i z' _ z _ 0 o (by omega) f2 d2
        refine f4.but hbt fun i hi o ep => ?_
        cases ep
        rcases f4 with ⟨h9, _⟩ | ⟨i', h9, _, h10⟩
        · rw [h9] at hi; cases hi
        · rw [hi] at h9
          cases h9
          rw [hsb3] at h10
          injection h10 with e1
          injection e1 with e2
          injection e2 with _ e3
          exact ds_ents c6 (by omega) _ e3
    · intro j k i zj nj zk nk oj ok hjk h1 h2
      have hkl : k ≤ m := by
        have := (List.getElem?_eq_some_iff.1 h2).1
        rw [List.length_set] at this
        omega
      rw [hcell _ (by omega)] at h1
      by_cases hkm : k = m
      · subst hkm
        rw [hnew] at h2
        cases h2
        obtain ⟨y, ey⟩ : ∃ y, x.heaps[j]? = some y := ⟨_, List.getElem?_eq_getElem (by omega)⟩
        obtain ⟨z', p', hz', f1, f2, f3⟩ := c6.2.1 j y ey
        rw [h1] at f2
        cases f2
        rcases f3 with ⟨h9, _⟩ | ⟨i', h9, _, h10⟩
        · cases h9
        · cases h9
          have := hlt2 h10
          omega
      · rw [hcell _ (by omega)] at h2
        exact c6.2.2 j k i zj nj zk nk oj ok hjk h1 h2
end Go.Gv.F

/- Reading a state's text: the program's Read. -/
namespace Go.Gv.F
open Go.Gv
variable {β : Type}
def zeroS : StV := ⟨0, 0, 0, [], [], []⟩
def parseS (s : List UInt8) : StV := (cutB 10 s []).foldl (fun x l => takeL x (cutB 32 l [])) zeroS
theorem join_ne (w : List UInt8) {L : List (List UInt8)} (h : L ≠ []) (c : UInt8) : Lib.join (w :: L) [c] = w ++ c :: Lib.join L [c] := by
  cases L with
  | nil => exact absurd rfl h
  | cons v r =>
    rw [Lib.join_cons, Lib.join_cons]
    unfold Lib.joinTail
    rw [List.map_cons, List.flatten_cons]
    simp
theorem cutB_ne (c : UInt8) (s w : List UInt8) : cutB c s w ≠ [] := by
  have := cutB_pos c s w
  intro e
  rw [e] at this
  cases this
theorem join_cut (c : UInt8) : ∀ (s w : List UInt8), Lib.join (cutB c s w) [c] = w ++ s
  | [], w => by
    have e : cutB c [] w = [w] := rfl
    rw [e, Lib.join_one, List.append_nil]
  | x :: s, w => by
    have e : cutB c (x :: s) w = if x = c then w :: cutB c s [] else cutB c s (w ++ [x]) := by
      rw [cutB]
    rw [e]
    by_cases hx : x = c
    · rw [if_pos hx, join_ne _ (cutB_ne c s []), join_cut c s [], hx]
      rfl
    · rw [if_neg hx, join_cut c s (w ++ [x]), List.append_assoc]
      rfl
theorem join_tail_len (c : UInt8) (s : List UInt8) : (Lib.join (cutB c s []).tail [c]).length ≤ s.length := by
  have h := join_cut c s []
  rw [List.nil_append] at h
  cases hc : cutB c s [] with
  | nil => exact Nat.zero_le _
  | cons w r =>
    rw [hc] at h
    rw [List.tail_cons]
    cases r with
    | nil => exact Nat.zero_le _
    | cons v r =>
      rw [join_ne w (by simp)] at h
      have := congrArg List.length h
      rw [List.length_append, List.length_cons] at this
      omega
theorem readF_rng {w : List UInt8} {v : Int} (h : readF w = some v) : InR v := (show_read h).2
theorem numsF_rng (ws : List (List UInt8)) : ∀ v ∈ numsF ws, InR v := by
  intro v hv
  unfold numsF at hv
  obtain ⟨w, _, h⟩ := List.mem_filterMap.1 hv
  exact readF_rng h
theorem getD_rng {l : List Int} (h : ∀ v ∈ l, InR v) (j : Nat) : InR (l.getD j 0) := by
  rw [List.getD_eq_getElem?_getD]
  cases e : l[j]? with
  | none => exact ⟨by decide, by decide⟩
  | some v => exact h v (List.mem_of_getElem? e)
theorem numsF_len (ws : List (List UInt8)) : (numsF ws).length ≤ ws.length := List.length_filterMap_le _ _
theorem ents_le {l : List HeapV} {g : HeapV} (h : g ∈ l) : g.ents.length ≤ (entsOf l).length := by
  obtain ⟨i, hi, rfl⟩ := List.getElem_of_mem h
  have e := entsOf_take l (List.getElem?_eq_getElem hi)
  have := entsOf_le l (i + 1)
  rw [e, List.length_append] at this
  omega
theorem entsOf_app (a b : List HeapV) : entsOf (a ++ b) = entsOf a ++ entsOf b := by unfold entsOf; rw [List.map_append, List.flatten_append]
theorem set_split {l : List HeapV} {m : Nat} {g g' : HeapV} (h : l[m]? = some g) : l = l.take m ++ g :: l.drop (m + 1) ∧ l.set m g' = l.take m ++ g' :: l.drop (m + 1) := by
  obtain ⟨hm, rfl⟩ := List.getElem?_eq_some_iff.1 h
  refine ⟨?_, List.set_eq_take_append_cons_drop .. |>.trans (by rw [if_pos hm])⟩
  rw [List.getElem_cons_drop, List.take_append_drop]
structure PInv (m : Nat) (x : StV) : Prop where
  hl : x.heaps.length ≤ m
  el : (entsOf x.heaps).length ≤ m
  gl : x.gens.length ≤ 50000
  fl : x.free.length ≤ 50000
  nm : ∀ h ∈ x.heaps, h.name.length ≤ 50000
  rg : RngS x
theorem PInv.sz {m : Nat} {x : StV} (h : PInv m x) (hm : m ≤ 50000) : SzS x :=
  ⟨⟨by have := h.hl; omega, fun g hg => by have := ents_le hg; have := h.el; omega, h.nm⟩, by rw [entries_eq]; have := h.el; omega, h.gl, h.fl⟩
theorem PInv.zero : PInv 0 zeroS :=
  ⟨Nat.le_refl _, Nat.le_refl _, Nat.zero_le _, Nat.zero_le _, (fun h hh => nomatch hh), ⟨⟨by decide, by decide⟩, ⟨by decide, by decide⟩, ⟨by decide, by decide⟩, (fun v hv => nomatch hv), (fun v hv => nomatch hv), (fun h hh => nomatch hh)⟩⟩
theorem PInv.up {m m' : Nat} {x : StV} (h : PInv m x) (hm : m ≤ m') : PInv m' x :=
  ⟨by have := h.hl; omega, by have := h.el; omega, h.gl, h.fl, h.nm, h.rg⟩
theorem PInv.take {m : Nat} {x : StV} (h : PInv m x) (ws : List (List UInt8)) (hw : ws.length ≤ 50000) (hj : (Lib.join ws.tail [32]).length ≤ 50000) : PInv (m + 1) (takeL x ws) := by
  have hn := numsF_rng ws.tail
  have hnl : (numsF ws.tail).length ≤ 50000 := by
    have := numsF_len ws.tail
    rw [List.length_tail] at this
    omega
  have hr := h.rg
  have hu := h.up (Nat.le_succ m)
  unfold takeL takeW
  split
  · split
    · exact ⟨hu.hl, hu.el, hu.gl, hu.fl, hu.nm, ⟨getD_rng hn 0, getD_rng hn 1, getD_rng hn 2, hr.gens, hr.free, hr.ents⟩⟩
    · exact hu
  split
  · exact ⟨hu.hl, hu.el, hnl, hu.fl, hu.nm, ⟨hr.b, hr.s, hr.g, hn, hr.free, hr.ents⟩⟩
  split
  · exact ⟨hu.hl, hu.el, hu.gl, hnl, hu.nm, ⟨hr.b, hr.s, hr.g, hr.gens, hn, hr.ents⟩⟩
  split
  · refine ⟨by have := h.hl; rw [List.length_append]; simp only [List.length_cons, List.length_nil]; omega, by rw [entsOf_app]; have := h.el; rw [List.length_append]; show _ + 0 ≤ _; omega, hu.gl, hu.fl, fun g hg => ?_, ⟨hr.b, hr.s, hr.g, hr.gens, hr.free, fun g hg => ?_⟩⟩
    · rcases List.mem_append.1 hg with h1 | h1
      · exact h.nm g h1
      · rw [List.mem_singleton.1 h1]; exact hj
    · rcases List.mem_append.1 hg with h1 | h1
      · exact hr.ents g h1
      · rw [List.mem_singleton.1 h1]; intro e he; cases he
  split
  · split
    · rename_i hc
      have her : InR ((handleF (ws.getD 1 [])).getD (0, 0)).1 ∧ InR ((handleF (ws.getD 1 [])).getD (0, 0)).2 := by
        cases hh : handleF (ws.getD 1 []) with
        | none => exact ⟨⟨by decide, by decide⟩, ⟨by decide, by decide⟩⟩
        | some v =>
          obtain ⟨a, b⟩ := v
          have := handle_range hh
          exact ⟨⟨by show _ ≤ a; omega, this.1.2⟩, ⟨by show _ ≤ b; omega, this.2.2⟩⟩
      obtain ⟨g, hg⟩ : ∃ g, x.heaps[x.heaps.length - 1]? = some g := ⟨_, List.getElem?_eq_getElem (by omega)⟩
      rw [addE_eq hg]
      generalize hee : (⟨((handleF (ws.getD 1 [])).getD (0, 0)).1, ((handleF (ws.getD 1 [])).getD (0, 0)).2, (numsF ws.tail).getD 0 0, (numsF ws.tail).getD 1 0⟩ : EntV) = e
      have hev : InR e.slot ∧ InR e.gen ∧ InR e.key ∧ InR e.value := by rw [← hee]; exact ⟨her.1, her.2, getD_rng hn 0, getD_rng hn 1⟩
      have hs := set_split (g' := ⟨g.name, g.ents ++ [e]⟩) hg
      have hmem : ∀ g', g' ∈ x.heaps.set (x.heaps.length - 1) ⟨g.name, g.ents ++ [e]⟩ → g' ∈ x.heaps ∨ g' = ⟨g.name, g.ents ++ [e]⟩ := fun g' h => List.mem_or_eq_of_mem_set h
      refine ⟨by show (x.heaps.set _ _).length ≤ _; rw [List.length_set]; exact hu.hl, ?_, hu.gl, hu.fl, fun g' hg' => ?_, ⟨hr.b, hr.s, hr.g, hr.gens, hr.free, fun g' hg' => ?_⟩⟩
      · have h1 := h.el
        rw [hs.1, entsOf_app, List.length_append] at h1
        show (entsOf (x.heaps.set _ _)).length ≤ _
        rw [hs.2, entsOf_app, List.length_append]
        have e1 : ∀ (g : HeapV) l, entsOf (g :: l) = g.ents ++ entsOf l := fun _ _ => rfl
        rw [e1, List.length_append] at h1 ⊢
        simp only [List.length_append, List.length_cons, List.length_nil]
        omega
      · rcases hmem g' hg' with h1 | h1
        · exact h.nm g' h1
        · rw [h1]; exact h.nm g (List.mem_of_getElem? hg)
      · rcases hmem g' hg' with h1 | h1
        · exact hr.ents g' h1
        · rw [h1]
          intro e' he'
          rcases List.mem_append.1 he' with h2 | h2
          · exact hr.ents g (List.mem_of_getElem? hg) e' h2
          · rw [List.mem_singleton.1 h2]; exact hev
    · exact hu
  · exact hu
theorem parse_inv (s : List UInt8) (hs : s.length ≤ 40000) (i : Nat) : PInv i (((cutB 10 s []).take i).foldl (fun x l => takeL x (cutB 32 l [])) zeroS) := by
  induction i with
  | zero => exact PInv.zero
  | succ i ih =>
    by_cases hi : i < (cutB 10 s []).length
    · rw [List.take_succ_eq_append_getElem hi, List.foldl_append]
      have hl := cutB_mem 10 s [] _ (List.getElem_mem hi)
      generalize (cutB 10 s [])[i] = l at hl
      simp only [List.length_nil, Nat.zero_add] at hl
      have hc := cutB_len 32 l []
      have := count_le 32 l
      exact ih.take _ (by omega) (Nat.le_trans (join_tail_len 32 l) (by omega))
    · rw [List.take_of_length_le (by omega)]
      rw [List.take_of_length_le (by omega)] at ih
      exact ih.up (Nat.le_succ i)
theorem parse_pinv (s : List UInt8) (hs : s.length ≤ 40000) : PInv 40001 (parseS s) := by
  have h := parse_inv s hs 40001
  have hc := cutB_len 10 s []
  have := count_le 10 s
  rw [List.take_of_length_le (by omega)] at h
  exact h
theorem Heaps.frz {s : St} (k : Nat) : ∀ {ds : List DV} {xs : List HeapV}, Heaps s ds xs → Heaps (frzFrom k s) ds xs
  | _, [], h => h
  | _, _ :: _, ⟨z, p, t, hz, h1, h2, h3⟩ => ⟨z, p, t, hz, h1, h2.frz k, h3.frz k⟩
theorem StR.frz {s : St} {x : StV} {p1 p2 p3 : Option (Nat × Nat)} (h : StR s x p1 p2 p3) (k : Nat) : StR (frzFrom k s) x p1 p2 p3 :=
  let ⟨ds, h1, h2⟩ := h.hp
  ⟨⟨ds, h1.frz k, h2.frz k⟩, h.gn.frz k, h.fr.frz k⟩
theorem StR.zero (s : St) : StR s zeroS none none none := ⟨⟨[], rfl, rfl⟩, rfl, rfl⟩
/-- A state as an answer. -/
def StAns (s : St) (y : StV) (cells : List DV) : Prop := ∃ z1 p1 z2 p2 z3 p3, cells = stC y z1 p1 z2 p2 z3 p3 ∧ (z1 = 2 ∨ p1 = none) ∧ (z2 = 1 ∨ p2 = none) ∧ (z3 = 1 ∨ p3 = none) ∧ StR s y p1 p2 p3
def RdOk (s : List UInt8) : Prop := MayP (parseS s) ∧ textS (parseS s) = s
theorem ev_ledger_Read {Bd : Bodies} (h : H_ledger_Read Bd) (n : Nat) (s : List UInt8) (st : St) (ht : Tabs st) (hs : s.length ≤ 40000) (hn : 60000 ≤ n) :
    Ok (fun o => ∃ b cells s', o = (.val [.agg cells, .bool b], s') ∧ Pre st s' ∧ (b = true ↔ RdOk s) ∧ StAns s' (if b = true then parseS s else zeroS) cells) (run Bd n 135 [.str s] st) := by
  obtain ⟨n, rfl⟩ : ∃ m, n = m + 1 := ⟨n - 1, by omega⟩
  rw [run_succ, h.eq]
  unfold b_ledger_Read
  simp only [J_s, D_nil]
  rw [base_eq, new_eq]
  have hp0 : Pre st (st ++ [some ⟨false, [DV.int .i64 0, .int .i64 0, .int .i64 0, .slice 0 none 0, .slice 0 none 0, .slice 0 none 0]⟩]) := .new _ _
  have hr0 : RD st (st ++ [some ⟨false, [DV.int .i64 0, .int .i64 0, .int .i64 0, .slice 0 none 0, .slice 0 none 0, .slice 0 none 0]⟩]) st.length zeroS :=
    ⟨hp0, Nat.le_refl _, 0, none, 0, none, 0, none, [], by rw [List.getElem?_append_right (Nat.le_refl _), Nat.sub_self]; rfl, .inr rfl, .inr rfl, .inr rfl, .inl ⟨rfl, rfl⟩,
      ⟨rfl, (fun j x e => by cases e), (fun j k i z n z' n' o o' _ e => by cases e)⟩, Fz.nil _, Fz.nil _⟩
  generalize (st ++ [some ⟨false, [DV.int .i64 0, .int .i64 0, .int .i64 0, .slice 0 none 0, .slice 0 none 0, .slice 0 none 0]⟩]) = s0 at hp0 hr0
  have b10 : bs [10] = [10] := rfl
  have b32 : bs [32] = [32] := rfl
  rw [b10, b32]
  refine Ok.call (ev_strings_Split h.strings_Split n s 10 (by omega) (by omega) s0) ?_
  rintro _ ⟨a, s1, rfl, hp1, hfa⟩
  refine ⟨_, s1, rfl, ?_⟩
  simp only [J_l, D_nil]
  have hr1 := hr0.mono hp1
  have hcl := cutB_len 10 s []
  have hcc := count_le 10 s
  have hmem := cutB_mem 10 s []
  have hps : parseS s = (cutB 10 s []).foldl (fun x l => takeL x (cutB 32 l [])) zeroS := rfl
  have hpv := parse_pinv s hs
  have hpi := parse_inv s hs
  rw [join_eq]
  generalize cutB 10 s [] = L at *
  refine loop_rule _ (fun q y s => ∃ i : Nat, y = [.int .i64 i] ∧ i ≤ L.length ∧ L.length - i ≤ q ∧ RD st s st.length ((L.take i).foldl (fun x l => takeL x (cutB 32 l [])) zeroS) ∧ Fz s a (L.map .str)) ?_ L.length n _ _ ⟨0, rfl, Nat.zero_le _, by omega, hr1, hfa⟩ (by omega)
  rintro q _ s2 ⟨i, rfl, hi, hq, hR, hfl⟩ rec hrec
  simp only [J_i, D_nil]
  by_cases hlt : i < L.length
  · obtain ⟨i1, o1, rfl⟩ := hfl.1.some_of (by simp; omega)
    rw [decide_eq_true (show (i : Int) < (L.length : Int) by omega), cond_true, nn_some', chk_of (inB_of hlt), Int.toNat_natCast, hfl.1.get1 (d := .str L[i]) (by simp [hlt])]
    simp only [D_str]
    have hll := hmem _ (List.getElem_mem hlt)
    have htk : L.take (i + 1) = L.take i ++ [L[i]] := List.take_succ_eq_append_getElem hlt
    have hinv := hpi i
    generalize L[i] = l at hll htk
    simp only [List.length_nil, Nat.zero_add] at hll
    refine Ok.call (ev_strings_Split h.strings_Split n l 32 (by omega) (by omega) s2) ?_
    rintro _ ⟨aw, s3, rfl, hp3, hfw⟩
    refine ⟨_, s3, rfl, ?_⟩
    simp only [J_l, D_nil]
    have hc2 := cutB_len 32 l []
    have hc3 := count_le 32 l
    have hm2 := cutB_mem 32 l []
    have hj2 := join_tail_len 32 l
    refine Ok.call (ev_reader_take h.ledger_reader_take n st s3 st.length _ (cutB 32 l []) aw (hR.mono hp3) hfw (by omega) (fun w hw => by have := hm2 w hw; simp only [List.length_nil, Nat.zero_add] at this; omega) (by omega) (by omega) (by have := hinv.hl; omega) (fun g hg => by have := ents_le hg; have := hinv.el; omega) (by omega)) ?_
    rintro _ ⟨s4, rfl, hR4, hk4⟩
    refine ⟨_, s4, rfl, ?_⟩
    rw [wr64_of (by omega) (by omega)]
    simp only [D_nil]
    refine hrec (L.length - (i + 1)) _ _ (by omega) ⟨i + 1, rfl, by omega, by omega, ?_, (hfl.pre hp3).kp hk4⟩
    rw [htk, List.foldl_append]
    exact hR4
  rw [decide_eq_false (show ¬ (i : Int) < (L.length : Int) by omega), cond_false]
  have : i = L.length := by omega
  subst this
  rw [List.take_length, ← hps] at hR
  clear hrec rec
  have hpsz := hpv.sz (by omega)
  have hprg := hpv.rg
  have hok : RdOk s ↔ MayP (parseS s) ∧ textS (parseS s) = s := Iff.rfl
  generalize parseS s = y at *
  obtain ⟨z1, p1, z2, p2, z3, p3, ds, c1, c2, c3, c4, c5, c6, c7, c8⟩ := hR.cells
  have hstr : StR s2 y p1 p2 p3 := ⟨⟨ds, c5.sl, c6.heaps⟩, c7.1, c8.1⟩
  have ldr : ∀ s', Pre s2 s' → ∀ K : List DV → M (List DV), M.load st.length 0 6 K s' = K (stC y z1 p1 z2 p2 z3 p3) s' := fun s' hp K => by
    rw [load_eq (hp.get c1) (by show 0 + 6 ≤ 6; omega)]
    rfl
  rw [ldr s2 (.refl _)]
  unfold stC
  simp only [J_i, J_l_any 2 z1 p1 _ c2, J_l_any 1 z2 p2 _ c3, J_l_any 1 z3 p3 _ c4, D_nil]
  refine Ok.call (ev_ledger_Print h.ledger_Print n y 2 1 1 p1 p2 p3 s2 (ht.mono hR.pre) (.inl rfl) (.inl rfl) (.inl rfl) hstr hpsz hprg (by omega)) ?_
  rintro _ ⟨b, s3, rfl, hp3, hb⟩
  refine ⟨_, s3, rfl, ?_⟩
  unfold prOut
  simp only [J_s, J_b, D_nil]
  have hpst := hR.pre.trans hp3
  have no : ¬ RdOk s → Ok (fun o => ∃ b cells s', o = (.val [.agg cells, .bool b], s') ∧ Pre st s' ∧ (b = true ↔ RdOk s) ∧ StAns s' (if b = true then y else zeroS) cells) ((M.retF st.length [.agg [.int .i64 0, .int .i64 0, .int .i64 0, .slice 0 none 0, .slice 0 none 0, .slice 0 none 0], .bool false] : M (List DV)) s3) := by
    intro hno
    rw [retF_eq]
    exact .mk ⟨false, _, _, rfl, frz_pre hpst, by simp [hno], 0, none, 0, none, 0, none, rfl, .inr rfl, .inr rfl, .inr rfl, StR.zero _⟩
  rw [join_eq]
  cases b with
  | false =>
    rw [Bool.not_false, cond_true]
    simp only [J_b, D_nil]
    rw [cond_true]
    exact no fun hh => by cases hb.2 (hok.1 hh).1
  | true =>
    rw [Bool.not_true, cond_false]
    simp only [J_b, D_nil]
    by_cases he : textS y = s
    · rw [show ((if True then textS y else []) == s) = true by rw [if_pos trivial, he]; exact beq_self_eq_true _, Bool.not_true, cond_false, ldr s3 hp3]
      unfold stC
      simp only [J_i, J_l_any 2 z1 p1 _ c2, J_l_any 1 z2 p2 _ c3, J_l_any 1 z3 p3 _ c4, D_nil]
      rw [retF_eq]
      refine .mk ⟨true, _, _, rfl, frz_pre hpst, ?_, 2, p1, 1, p2, 1, p3, rfl, .inl rfl, .inl rfl, .inl rfl, (hstr.pre hp3).frz _⟩
      rw [hok]
      exact ⟨fun _ => ⟨hb.1 rfl, he⟩, fun _ => rfl⟩
    · rw [show ((if True then textS y else []) == s) = false by rw [if_pos trivial]; exact beq_eq_false_iff_ne.2 he, Bool.not_false, cond_true]
      exact no fun hh => he (hok.1 hh).2
end Go.Gv.F

/- A state's text, read, is the state. -/
namespace Go.Gv.F
open Go.Gv
/-- What a line does, for the lines that are written. -/
structure TakeSpec (T : StV → List UInt8 → StV) : Prop where
  yard : ∀ x a b c, InR a → InR b → InR c → T x (lnN kYard [a, b, c]) = { x with blocks := a, slots := b, g := c }
  gens : ∀ x l, (∀ v ∈ l, InR v) → T x (lnN kGens l) = { x with gens := l }
  free : ∀ x l, (∀ v ∈ l, InR v) → T x (lnN kFree l) = { x with free := l }
  queue : ∀ x nm, rightS nm = true → T x ([113, 117, 101, 117, 101, 32] ++ nm) = { x with heaps := x.heaps ++ [⟨nm, []⟩] }
  entry : ∀ x e, 0 < x.heaps.length → (0 ≤ e.slot ∧ 0 ≤ e.gen) → (InR e.slot ∧ InR e.gen ∧ InR e.key ∧ InR e.value) → T x (entL e) = addE x e
  none : ∀ x, T x [] = x
structure Good (x : StV) : Prop where
  rg : RngS x
  nm : ∀ h ∈ x.heaps, rightS h.name = true
  en : ∀ h ∈ x.heaps, ∀ e ∈ h.ents, 0 ≤ e.slot ∧ 0 ≤ e.gen
theorem MayP.good {x : StV} (h : MayP x) (rg : RngS x) : Good x := by
  refine ⟨rg, fun g hg => (h.right g hg).1, fun g hg e he => ?_⟩
  have hme : e ∈ entries x := List.mem_flatten.2 ⟨g.ents, List.mem_map.2 ⟨g, hg, rfl⟩, he⟩
  have h1 := h.range e.slot (List.mem_append_left _ (List.mem_map.2 ⟨e, hme, rfl⟩))
  have h2 := h.gen e hme
  have hv : genAt x e.slot ∈ x.gens := by
    unfold genAt
    rw [List.getD_eq_getElem?_getD, List.getElem?_eq_getElem (by omega)]
    exact List.getElem_mem _
  have h3 := (h.gens _ hv).1
  omega
theorem addE_snoc (x : StV) (A : List HeapV) (nm : List UInt8) (es : List EntV) (e : EntV) (h : x.heaps = A ++ [⟨nm, es⟩]) : addE x e = { x with heaps := A ++ [⟨nm, es ++ [e]⟩] } := by
  have hl : x.heaps.length - 1 = A.length := by rw [h]; simp
  rw [addE_eq (g := ⟨nm, es⟩) (by rw [hl, h]; simp), hl, h]
  simp
theorem fold_ents {T : StV → List UInt8 → StV} (hT : TakeSpec T) (A : List HeapV) (nm : List UInt8) : ∀ (l : List EntV) (es : List EntV) (x : StV), x.heaps = A ++ [⟨nm, es⟩] → (∀ e ∈ l, (0 ≤ e.slot ∧ 0 ≤ e.gen) ∧ (InR e.slot ∧ InR e.gen ∧ InR e.key ∧ InR e.value)) → (l.map entL).foldl T x = { x with heaps := A ++ [⟨nm, es ++ l⟩] }
  | [], es, x, hx, _ => by rw [List.append_nil, ← hx]; rfl
  | e :: l, es, x, hx, hl => by
    have he := hl e List.mem_cons_self
    rw [List.map_cons, List.foldl_cons, hT.entry x e (by rw [hx]; simp) he.1 he.2, addE_snoc x A nm es e hx, fold_ents hT A nm l (es ++ [e]) _ rfl fun e' he' => hl e' (List.mem_cons_of_mem _ he'), List.append_assoc]
    rfl
theorem fold_heaps {T : StV → List UInt8 → StV} (hT : TakeSpec T) : ∀ (l : List HeapV) (x : StV), (∀ h ∈ l, rightS h.name = true ∧ ∀ e ∈ h.ents, (0 ≤ e.slot ∧ 0 ≤ e.gen) ∧ (InR e.slot ∧ InR e.gen ∧ InR e.key ∧ InR e.value)) → (heapsL l).foldl T x = { x with heaps := x.heaps ++ l }
  | [], x, _ => by rw [List.append_nil]; rfl
  | g :: l, x, hl => by
    have hg := hl g List.mem_cons_self
    have e1 : heapsL (g :: l) = heapL g ++ heapsL l := rfl
    rw [e1, List.foldl_append]
    have e2 : heapL g = ([113, 117, 101, 117, 101, 32] ++ g.name) :: g.ents.map entL := rfl
    rw [e2, List.foldl_cons, hT.queue x g.name hg.1, fold_ents hT x.heaps g.name g.ents [] _ rfl hg.2, fold_heaps hT l _ fun h hh => hl h (List.mem_cons_of_mem _ hh), List.append_assoc]
    rfl
theorem right_not {s : List UInt8} (h : rightS s = true) {c : UInt8} (hc : c.toNat < 128) (hn : ofI (c.toNat : Int) = false) : c ∉ s := by
  intro hm
  have := (rns_mem hc s).2 hm
  have h2 := List.all_eq_true.1 (rightS_all h) _ this
  rw [hn] at h2
  cases h2
theorem show_dig (z : Int) : ∀ c ∈ showI z, c = 45 ∨ (48 ≤ c.toNat ∧ c.toNat ≤ 57) := by
  have dig : ∀ N : Nat, ∀ c ∈ decS N, 48 ≤ c.toNat ∧ c.toNat ≤ 57 := by
    intro N c hc
    rcases Nat.eq_zero_or_pos N with h | h
    · subst h
      rw [decS_one (by omega)] at hc
      rw [List.mem_singleton.1 hc]; decide
    · obtain ⟨d, l, h1, h2, h3, h4, _⟩ := first_digits N N (Nat.le_refl _) h
      rw [h4, show UInt8.ofNat (48 + d) :: l.map UInt8.ofNat = ((48 + d) :: l).map UInt8.ofNat from rfl, List.mem_map] at hc
      obtain ⟨r, hr, rfl⟩ := hc
      have hrd : isDig r = true := by
        rcases List.mem_cons.1 hr with rfl | hr
        · exact isDig_iff.2 (by omega)
        · exact h3 r hr
      have := isDig_iff.1 hrd
      have e1 : (UInt8.ofNat r).toNat = r := by simp; omega
      omega
  intro c hc
  unfold showI at hc
  split at hc
  · rcases List.mem_cons.1 hc with rfl | hc
    · exact .inl rfl
    · exact .inr (dig _ c hc)
  · exact .inr (dig _ c hc)
theorem show_not (z : Int) {c : UInt8} (hc : c ≠ 45) (hd : ¬ (48 ≤ c.toNat ∧ c.toNat ≤ 57)) : c ∉ showI z := fun h => by
  rcases show_dig z c h with h | h
  · exact hc h
  · exact hd h
theorem handle_not (a b : Int) {c : UInt8} (h46 : c ≠ 46) (hc : c ≠ 45) (hd : ¬ (48 ≤ c.toNat ∧ c.toNat ≤ 57)) : c ∉ showH a b := by
  unfold showH
  split
  · exact List.not_mem_nil
  · rw [List.mem_append, List.mem_append, List.mem_singleton]
    rintro ((h | h) | h)
    · exact show_not a hc hd h
    · exact h46 h
    · exact show_not b hc hd h
theorem lnN_not {w : List UInt8} {l : List Int} {c : UInt8} (hw : c ∉ w) (h32 : c ≠ 32) (hc : c ≠ 45) (hd : ¬ (48 ≤ c.toNat ∧ c.toNat ≤ 57)) : c ∉ lnN w l := by
  unfold lnN
  rw [List.mem_append]
  rintro (h | h)
  · exact hw h
  · obtain ⟨m, hm, hcm⟩ := List.mem_flatten.1 h
    obtain ⟨v, _, rfl⟩ := List.mem_map.1 hm
    rcases List.mem_cons.1 hcm with h | h
    · exact h32 h
    · exact show_not v hc hd h
theorem stL_not {x : StV} (h : Good x) : ∀ l ∈ stL x, (10 : UInt8) ∉ l := by
  have d : ¬ (48 ≤ (10 : UInt8).toNat ∧ (10 : UInt8).toNat ≤ 57) := by decide
  intro l hl
  unfold stL at hl
  rcases List.mem_append.1 hl with h1 | h1
  · unfold headL at h1
    simp only [List.mem_cons, List.not_mem_nil, or_false] at h1
    rcases h1 with rfl | rfl | rfl
    · exact lnN_not (by decide) (by decide) (by decide) d
    · exact lnN_not (by decide) (by decide) (by decide) d
    · exact lnN_not (by decide) (by decide) (by decide) d
  · unfold heapsL at h1
    obtain ⟨m, hm, hlm⟩ := List.mem_flatten.1 h1
    obtain ⟨g, hg, rfl⟩ := List.mem_map.1 hm
    unfold heapL at hlm
    rcases List.mem_cons.1 hlm with h4 | h4
    · rw [h4, List.mem_append]
      rintro (h5 | h5)
      · revert h5; decide
      · exact right_not (h.nm g hg) (by decide) (by decide) h5
    · obtain ⟨e, he, rfl⟩ := List.mem_map.1 h4
      unfold entL
      refine lnN_not ?_ (by decide) (by decide) d
      rw [List.mem_append]
      rintro (h5 | h5)
      · revert h5; decide
      · exact handle_not _ _ (by decide) (by decide) d h5
theorem parse_round {T : StV → List UInt8 → StV} (hT : TakeSpec T) {x : StV} (h : Good x) : (cutB 10 (textS x) []).foldl T zeroS = x := by
  unfold textS
  rw [cutB_text _ (stL_not h), List.foldl_append]
  unfold stL headL
  rw [List.foldl_append]
  have r := h.rg
  simp only [List.foldl_cons, List.foldl_nil]
  rw [show lnN [121, 97, 114, 100] [x.blocks, x.slots, x.g] = lnN kYard [x.blocks, x.slots, x.g] from rfl, hT.yard _ _ _ _ r.b r.s r.g, show lnN [103, 101, 110, 115] x.gens = lnN kGens x.gens from rfl, hT.gens _ _ r.gens, show lnN [102, 114, 101, 101] x.free = lnN kFree x.free from rfl, hT.free _ _ r.free,
    fold_heaps hT x.heaps _ fun g hg => ⟨h.nm g hg, fun e he => ⟨h.en g hg e he, r.ents g hg e he⟩⟩, hT.none]
  rfl
theorem cutB_many (c : UInt8) : ∀ (L : List (List UInt8)) (w acc : List UInt8), c ∉ w → (∀ v ∈ L, c ∉ v) → cutB c (w ++ (L.map fun v => c :: v).flatten) acc = (acc ++ w) :: L
  | [], w, acc, hw, _ => by rw [List.map_nil, List.flatten_nil, List.append_nil, cutB_none c w acc hw]
  | v :: L, w, acc, hw, hL => by
    rw [List.map_cons, List.flatten_cons, List.cons_append, cutB_line c w acc _ hw, cutB_many c L v [] (hL v List.mem_cons_self) fun u hu => hL u (List.mem_cons_of_mem _ hu)]
    rfl
theorem d32 : ¬ (48 ≤ (32 : UInt8).toNat ∧ (32 : UInt8).toNat ≤ 57) := by decide
theorem cut_lnN {w : List UInt8} (hw : (32 : UInt8) ∉ w) (l : List Int) : cutB 32 (lnN w l) [] = w :: l.map showI := by
  have e : lnN w l = w ++ ((l.map showI).map fun v => 32 :: v).flatten := by unfold lnN; rw [List.map_map]; rfl
  rw [e, cutB_many 32 _ w [] hw fun v hv => by
    obtain ⟨z, _, rfl⟩ := List.mem_map.1 hv
    exact show_not z (by decide) d32]
  rfl
theorem cut_entL (e : EntV) : cutB 32 (entL e) [] = [kEntry, showH e.slot e.gen, showI e.key, showI e.value] := by
  have h : entL e = kEntry ++ ([showH e.slot e.gen, showI e.key, showI e.value].map fun v => 32 :: v).flatten := by
    unfold entL lnN kEntry
    simp
  rw [h, cutB_many 32 _ kEntry [] (by decide) fun v hv => by
    simp only [List.mem_cons, List.not_mem_nil, or_false] at hv
    rcases hv with rfl | rfl | rfl
    · exact handle_not _ _ (by decide) (by decide) d32
    · exact show_not _ (by decide) d32
    · exact show_not _ (by decide) d32]
  rfl
theorem cut_queue {nm : List UInt8} (h : rightS nm = true) : cutB 32 ([113, 117, 101, 117, 101, 32] ++ nm) [] = [kQueue, nm] := by
  have e : [113, 117, 101, 117, 101, 32] ++ nm = kQueue ++ ([nm].map fun v => 32 :: v).flatten := by unfold kQueue; simp
  rw [e, cutB_many 32 _ kQueue [] (by decide) fun v hv => by
    rw [List.mem_singleton.1 hv]
    exact right_not h (by decide) (by decide)]
  rfl
theorem nums_show {l : List Int} (h : ∀ v ∈ l, InR v) : numsF (l.map showI) = l := by
  unfold numsF
  induction l with
  | nil => rfl
  | cons v l ih =>
    rw [List.map_cons, List.filterMap_cons_some (read_show v (h v List.mem_cons_self)), ih fun u hu => h u (List.mem_cons_of_mem _ hu)]
theorem read_handle {a b : Int} (ha : 0 ≤ a) (hb : 0 ≤ b) : readF (showH a b) = none := by
  cases h : readF (showH a b) with
  | none => rfl
  | some z =>
    have e := (show_read h).1
    have hm : (46 : UInt8) ∈ showH a b := by
      unfold showH
      rw [if_neg (by omega)]
      simp
    rw [e] at hm
    exact absurd rfl (show_nodot z 46 hm)
theorem take_spec : TakeSpec fun x l => takeL x (cutB 32 l []) where
  yard := fun x a b c ha hb hc => by
    have hr : ∀ v ∈ [a, b, c], InR v := fun v hv => by
      simp only [List.mem_cons, List.not_mem_nil, or_false] at hv
      rcases hv with rfl | rfl | rfl
      · exact ha
      · exact hb
      · exact hc
    show takeL x (cutB 32 (lnN kYard [a, b, c]) []) = _
    rw [cut_lnN (by decide)]
    unfold takeL
    rw [List.tail_cons, nums_show hr]
    rfl
  gens := fun x l hr => by
    show takeL x (cutB 32 (lnN kGens l) []) = _
    rw [cut_lnN (by decide)]
    unfold takeL
    rw [List.tail_cons, nums_show hr]
    rfl
  free := fun x l hr => by
    show takeL x (cutB 32 (lnN kFree l) []) = _
    rw [cut_lnN (by decide)]
    unfold takeL
    rw [List.tail_cons, nums_show hr]
    rfl
  queue := fun x nm h => by
    show takeL x (cutB 32 ([113, 117, 101, 117, 101, 32] ++ nm) []) = _
    rw [cut_queue h]
    show ({ x with heaps := x.heaps ++ [⟨Lib.join [nm] [32], []⟩] } : StV) = _
    rw [Lib.join_one]
  entry := fun x e hx hs hr => by
    show takeL x (cutB 32 (entL e) []) = _
    rw [cut_entL]
    unfold takeL
    have hn : numsF [showH e.slot e.gen, showI e.key, showI e.value] = [e.key, e.value] := by
      unfold numsF
      rw [List.filterMap_cons_none (read_handle hs.1 hs.2)]
      exact nums_show (l := [e.key, e.value]) fun v hv => by
        simp only [List.mem_cons, List.not_mem_nil, or_false] at hv
        rcases hv with rfl | rfl
        · exact hr.2.2.1
        · exact hr.2.2.2
    rw [List.tail_cons, hn]
    show (if 0 < x.heaps.length ∧ ([kEntry, showH e.slot e.gen, showI e.key, showI e.value] : List (List UInt8)).length = 4 ∧ ([e.key, e.value] : List Int).length = 2 then addE x ⟨((handleF (showH e.slot e.gen)).getD (0, 0)).1, ((handleF (showH e.slot e.gen)).getD (0, 0)).2, e.key, e.value⟩ else x) = _
    rw [if_pos ⟨hx, rfl, rfl⟩, handle_show ⟨hs.1, hr.1.2⟩ ⟨hs.2, hr.2.1.2⟩]
    rfl
  none := fun x => rfl
theorem parse_text {x : StV} (h : Good x) : parseS (textS x) = x := parse_round take_spec h
theorem rdOk_text {x : StV} (hm : MayP x) (rg : RngS x) : RdOk (textS x) := by
  have e := parse_text (hm.good rg)
  unfold RdOk
  rw [e]
  exact ⟨hm, rfl⟩
end Go.Gv.F

/- States as arguments; alike, small; the document's example. -/
namespace Go.Gv.F
open Go.Gv
def EntR (e : EntV) : Prop := InR e.slot ∧ InR e.gen ∧ InR e.key ∧ InR e.value
structure SmallP (x : StV) : Prop where
  h : x.heaps.length ≤ 8
  g : x.gens.length ≤ 60
  f : x.free.length ≤ 60
  b : x.blocks ≤ 400
  hs : ∀ h ∈ x.heaps, h.ents.length ≤ 40 ∧ h.name.length ≤ 60
theorem entsOf_small : ∀ (l : List HeapV), (∀ h ∈ l, h.ents.length ≤ 40) → (entsOf l).length ≤ l.length * 40
  | [], _ => Nat.le_refl _
  | g :: l, h => by
    have e : entsOf (g :: l) = g.ents ++ entsOf l := rfl
    have h1 := h g List.mem_cons_self
    have h2 := entsOf_small l fun x hx => h x (List.mem_cons_of_mem _ hx)
    rw [e, List.length_append, List.length_cons]
    omega
theorem SmallP.sz {x : StV} (h : SmallP x) : SzS x := by
  have h1 := entsOf_small x.heaps fun g hg => (h.hs g hg).1
  have h2 := h.h
  have h3 := h.g
  have h4 := h.f
  exact ⟨⟨by omega, fun g hg => by have := (h.hs g hg).1; omega, fun g hg => by have := (h.hs g hg).2; omega⟩, by rw [entries_eq]; omega, by omega, by omega⟩
theorem SmallP.text {x : StV} (h : SmallP x) (rg : RngS x) : (textS x).length ≤ 40000 := by
  have e1 : textS x = textL (headL x) ++ textL (heapsL x.heaps) := by unfold textS stL; rw [textL_app]
  have h1 := entsOf_small x.heaps fun g hg => (h.hs g hg).1
  have h2 := heapsL_count x.heaps
  have h3 := h.h
  have h4 := textL_len (heapsL x.heaps) 100 fun l hl => by
    unfold heapsL at hl
    obtain ⟨m, hm, hlm⟩ := List.mem_flatten.1 hl
    obtain ⟨g, hg, rfl⟩ := List.mem_map.1 hm
    unfold heapL at hlm
    rcases List.mem_cons.1 hlm with h4 | h4
    · rw [h4, List.length_append]
      have := (h.hs g hg).2
      simp only [List.length_cons, List.length_nil]
      omega
    · obtain ⟨e, he, rfl⟩ := List.mem_map.1 h4
      exact entL_len (rg.ents g hg e he)
  have h5 := textL_len (headL x) 1300 fun l hl => by
    unfold headL at hl
    simp only [List.mem_cons, List.not_mem_nil, or_false] at hl
    have hg := h.g
    have hf := h.f
    rcases hl with rfl | rfl | rfl
    · have := lnN_len [121, 97, 114, 100] [x.blocks, x.slots, x.g] (fun v hv => by
        simp only [List.mem_cons, List.not_mem_nil, or_false] at hv
        rcases hv with rfl | rfl | rfl
        · exact rg.b
        · exact rg.s
        · exact rg.g)
      simp only [List.length_cons, List.length_nil] at this
      omega
    · have := lnN_len [103, 101, 110, 115] x.gens rg.gens
      simp only [List.length_cons, List.length_nil] at *
      omega
    · have := lnN_len [102, 114, 101, 101] x.free rg.free
      simp only [List.length_cons, List.length_nil] at *
      omega
  have h6 : (headL x).length = 3 := rfl
  rw [h6] at h5
  rw [e1, List.length_append]
  omega
end Go.Gv.F

/- States alike; the document's example. -/
namespace Go.Gv.F
open Go.Gv
theorem ev_ref08_Entries {Bd : Bodies} (h : H_ref08_Entries Bd) (n za zb : Nat) (l m : List EntV) (p q : Option (Nat × Nat)) (st : St) (hza : za = 4 ∨ p = none) (hzb : zb = 4 ∨ q = none) (hp : Sl st p (entsC l)) (hq : Sl st q (entsC m)) (hl : l.length ≤ 50000) (hn : 50100 ≤ n) :
    Ok (fun o => ∃ b, o = (.val [.bool b], st) ∧ (b = true ↔ l = m)) (run Bd n 153 [.slice za p l.length, .slice zb q m.length] st) := by
  obtain ⟨n, rfl⟩ : ∃ m, n = m + 1 := ⟨n - 1, by omega⟩
  rw [run_succ, h.eq]
  unfold b_ref08_Entries
  simp only [J_l_any 4 za p _ hza, J_l_any 4 zb q _ hzb, D_nil]
  have no : l ≠ m → Ok (fun o => ∃ b, o = (.val [.bool b], st) ∧ (b = true ↔ l = m)) ((M.ret [.bool false] : M (List DV)) st) := by
    intro hm
    rw [ret_eq]
    exact .mk ⟨false, rfl, by simp [hm]⟩
  by_cases hlm : l.length = m.length
  rotate_left
  · rw [show ((l.length : Int) == (m.length : Int)) = false from beq_eq_false_iff_ne.2 (by omega), Bool.not_false, cond_true]
    exact no fun e => hlm (by rw [e])
  rw [show ((l.length : Int) == (m.length : Int)) = true by rw [hlm]; exact beq_self_eq_true _, Bool.not_true, cond_false, join_eq]
  refine loop_rule _ (fun k y s => ∃ i : Nat, y = [.int .i64 i] ∧ i ≤ l.length ∧ l.length - i ≤ k ∧ s = st ∧ ∀ j, j < i → l[j]? = m[j]?) ?_ l.length n _ _ ⟨0, rfl, Nat.zero_le _, by omega, rfl, fun j hj => absurd hj (Nat.not_lt_zero j)⟩ (by omega)
  rintro k _ s ⟨i, rfl, hi, hk, rfl, hall⟩ rec hrec
  simp only [J_i, D_nil]
  by_cases hlt : i < l.length
  · obtain ⟨i1, o1, rfl⟩ := hp.some_of (by rw [entsC_len]; omega)
    obtain ⟨i2, o2, rfl⟩ := hq.some_of (by rw [entsC_len]; omega)
    have e1 : l[i]? = some l[i] := List.getElem?_eq_getElem hlt
    have e2 : m[i]? = some m[i] := List.getElem?_eq_getElem (by omega)
    generalize l[i] = a at e1
    generalize m[i] = b at e2
    rw [decide_eq_true (show (i : Int) < (l.length : Int) by omega), cond_true, nn_some', chk_of (inB_of hlt), Int.toNat_natCast, ent_load hp e1]
    unfold entC
    simp only [J_i, D_nil]
    rw [nn_some', chk_of (inB_of (by omega)), ent_load hq e2]
    unfold entC
    simp only [J_i, D_nil]
    have hiff : ((a.slot == b.slot) && ((a.gen == b.gen) && ((a.key == b.key) && ((a.value == b.value) && true)))) = true ↔ a = b := by
      simp only [Bool.and_true, Bool.and_eq_true, beq_iff_eq]
      constructor
      · rintro ⟨h1, h2, h3, h4⟩
        cases a; cases b
        simp only at h1 h2 h3 h4
        subst h1 h2 h3 h4
        rfl
      · rintro rfl
        exact ⟨rfl, rfl, rfl, rfl⟩
    cases hb : ((a.slot == b.slot) && ((a.gen == b.gen) && ((a.key == b.key) && ((a.value == b.value) && true)))) with
    | false =>
      rw [Bool.not_false, cond_true]
      refine no fun e => ?_
      rw [← e, e1] at e2
      cases e2
      rw [hiff.2 rfl] at hb
      cases hb
    | true =>
      have := hiff.1 hb
      subst this
      rw [Bool.not_true, cond_false, wr64_of (by omega) (by omega)]
      refine hrec (l.length - (i + 1)) _ _ (by omega) ⟨i + 1, rfl, by omega, by omega, rfl, fun j hj => ?_⟩
      by_cases hji : j < i
      · exact hall j hji
      · have : j = i := by omega
        subst this
        rw [e1, e2]
  · rw [decide_eq_false (show ¬ (i : Int) < (l.length : Int) by omega), cond_false, ret_eq]
    refine .mk ⟨true, rfl, ?_⟩
    simp only [true_iff]
    refine List.ext_getElem? fun j => ?_
    by_cases hj : j < i
    · exact hall j hj
    · rw [List.getElem?_eq_none (by omega), List.getElem?_eq_none (by omega)]
theorem ev_ref01_Ints' {Bd : Bodies} (h : H_ref01_Ints Bd) (n : Nat) (ws vs : List Int) (a b : Option (Nat × Nat)) (st : St) (ha : Sl st a (ints ws)) (hb : Sl st b (ints vs)) (hn : 50100 ≤ n) (hs : ws.length ≤ 50000) :
    Ok (fun o => o = (.val [.bool (decide (ws = vs))], st)) (run Bd n 113 [.slice 1 a ws.length, .slice 1 b vs.length] st) := by
  obtain ⟨n, rfl⟩ : ∃ m, n = m + 1 := ⟨n - 1, by omega⟩
  rw [run_succ, h.eq]
  exact ints_ok _ n ws vs 1 1 a b st (.inl rfl) (.inl rfl) ha hb (by omega) (by omega)
theorem ev_ref26_Same {Bd : Bodies} (h : H_ref26_Same Bd) (n : Nat) (x y : StV) (z1 z2 z3 : Nat) (p1 p2 p3 : Option (Nat × Nat)) (z1' z2' z3' : Nat) (q1 q2 q3 : Option (Nat × Nat)) (st : St) (hz1 : z1 = 2 ∨ p1 = none) (hz2 : z2 = 1 ∨ p2 = none) (hz3 : z3 = 1 ∨ p3 = none)
    (hz1' : z1' = 2 ∨ q1 = none) (hz2' : z2' = 1 ∨ q2 = none) (hz3' : z3' = 1 ∨ q3 = none) (hx : StR st x p1 p2 p3) (hy : StR st y q1 q2 q3) (sz : SzS x) (hn : 50200 ≤ n) :
    Ok (fun o => ∃ b, o = (.val [.bool b], st) ∧ (b = true ↔ x = y)) (run Bd n 136 [.agg (stC x z1 p1 z2 p2 z3 p3), .agg (stC y z1' q1 z2' q2 z3' q3)] st) := by
  obtain ⟨n, rfl⟩ : ∃ m, n = m + 1 := ⟨n - 1, by omega⟩
  rw [run_succ, h.eq]
  unfold b_ref26_Same
  have ag : ∀ (v : StV) (z1 z2 z3 : Nat) (p1 p2 p3 : Option (Nat × Nat)) (l : List DV) (K : List DV → List DV → M (List DV)), J.a (.agg (stC v z1 p1 z2 p2 z3 p3) :: l) K = K (stC v z1 p1 z2 p2 z3 p3) l := fun _ _ _ _ _ _ _ _ _ => rfl
  simp only [ag]
  unfold stC
  simp only [J_i, J_l_any 2 z1 p1 _ hz1, J_l_any 1 z2 p2 _ hz2, J_l_any 1 z3 p3 _ hz3, J_l_any 2 z1' q1 _ hz1', J_l_any 1 z2' q2 _ hz2', J_l_any 1 z3' q3 _ hz3', D_nil]
  have no : x ≠ y → Ok (fun o => ∃ b, o = (.val [.bool b], st) ∧ (b = true ↔ x = y)) ((M.ret [.bool false] : M (List DV)) st) := by
    intro hm
    rw [ret_eq]
    exact .mk ⟨false, rfl, by simp [hm]⟩
  rw [join_eq]
  have hg : ((x.blocks == y.blocks) && ((x.slots == y.slots) && ((x.g == y.g) && true))) = true ↔ x.blocks = y.blocks ∧ x.slots = y.slots ∧ x.g = y.g := by
    simp only [Bool.and_true, Bool.and_eq_true, beq_iff_eq]
  cases hgb : ((x.blocks == y.blocks) && ((x.slots == y.slots) && ((x.g == y.g) && true))) with
  | false =>
    rw [Bool.not_false, cond_true]
    simp only [J_b, D_nil]
    rw [join_eq, cond_true]
    simp only [J_b, D_nil]
    rw [join_eq, cond_true]
    simp only [J_b, D_nil]
    rw [cond_true]
    refine no fun e => ?_
    rw [hg.2 ⟨by rw [e], by rw [e], by rw [e]⟩] at hgb
    cases hgb
  | true =>
  have hgeo := hg.1 hgb
  rw [Bool.not_true, cond_false]
  simp only [J_b, D_nil]
  rw [join_eq]
  by_cases hlen : x.heaps.length = y.heaps.length
  rotate_left
  · rw [show ((x.heaps.length : Int) == (y.heaps.length : Int)) = false from beq_eq_false_iff_ne.2 (by omega), Bool.not_false, cond_true]
    simp only [J_b, D_nil]
    rw [join_eq, cond_true]
    simp only [J_b, D_nil]
    rw [cond_true]
    exact no fun e => hlen (by rw [e])
  rw [show ((x.heaps.length : Int) == (y.heaps.length : Int)) = true by rw [hlen]; exact beq_self_eq_true _, Bool.not_true, cond_false]
  refine Ok.call (ev_ref01_Ints' h.ref01_Ints n x.gens y.gens p2 q2 st hx.gn hy.gn (by omega) sz.g) ?_
  rintro _ rfl
  refine ⟨_, st, rfl, ?_⟩
  simp only [J_b, D_nil]
  rw [join_eq]
  by_cases hgn : x.gens = y.gens
  rotate_left
  · rw [decide_eq_false hgn, Bool.not_false, cond_true]
    simp only [J_b, D_nil]
    rw [cond_true]
    exact no fun e => hgn (by rw [e])
  rw [decide_eq_true hgn, Bool.not_true, cond_false]
  refine Ok.call (ev_ref01_Ints' h.ref01_Ints n x.free y.free p3 q3 st hx.fr hy.fr (by omega) sz.f) ?_
  rintro _ rfl
  refine ⟨_, st, rfl, ?_⟩
  simp only [J_b, D_nil]
  by_cases hfr : x.free = y.free
  rotate_left
  · rw [decide_eq_false hfr, Bool.not_false, cond_true]
    exact no fun e => hfr (by rw [e])
  rw [decide_eq_true hfr, Bool.not_true, cond_false, join_eq]
  obtain ⟨ds, hs, hh⟩ := hx.hp
  obtain ⟨es, gs, gh⟩ := hy.hp
  have hsl := sz.h.len
  refine loop_rule _ (fun k v s => ∃ i : Nat, v = [.int .i64 i] ∧ i ≤ x.heaps.length ∧ x.heaps.length - i ≤ k ∧ s = st ∧ ∀ j, j < i → x.heaps[j]? = y.heaps[j]?) ?_ x.heaps.length n _ _ ⟨0, rfl, Nat.zero_le _, by omega, rfl, fun j hj => absurd hj (Nat.not_lt_zero j)⟩ (by omega)
  rintro k _ s ⟨i, rfl, hi, hk, rfl, hall⟩ rec hrec
  simp only [J_i, D_nil]
  by_cases hlt : i < x.heaps.length
  · obtain ⟨i1, o1, rfl⟩ := hs.some_of (by rw [hh.len]; omega)
    obtain ⟨i2, o2, rfl⟩ := gs.some_of (by rw [gh.len]; omega)
    have e1 : x.heaps[i]? = some x.heaps[i] := List.getElem?_eq_getElem hlt
    have e2 : y.heaps[i]? = some y.heaps[i] := List.getElem?_eq_getElem (by omega)
    generalize x.heaps[i] = a at e1
    generalize y.heaps[i] = b at e2
    have hae := sz.h.ents a (List.mem_of_getElem? e1)
    have noab : a ≠ b → x ≠ y := fun hab e => by
      rw [← e, e1] at e2
      cases e2
      exact hab rfl
    rw [decide_eq_true (show (i : Int) < (x.heaps.length : Int) by omega), cond_true, nn_some', chk_of (inB_of hlt), Int.toNat_natCast, heap_name hs hh e1]
    simp only [D_str]
    rw [nn_some', chk_of (inB_of (by omega)), heap_name gs gh e2]
    simp only [D_str]
    rw [join_eq]
    by_cases hnm : a.name = b.name
    rotate_left
    · rw [show (a.name == b.name) = false from beq_eq_false_iff_ne.2 hnm, Bool.not_false, cond_true]
      simp only [J_b, D_nil]
      rw [cond_true]
      exact no (noab fun e => hnm (by rw [e]))
    obtain ⟨pa, hpa, la⟩ := heap_ents (β := List DV) hs hh e1
    obtain ⟨pb, hpb, lb⟩ := heap_ents (β := List DV) gs gh e2
    rw [show (a.name == b.name) = true by rw [hnm]; exact beq_self_eq_true _, Bool.not_true, cond_false, nn_some', chk_of (inB_of hlt), la, nn_some', chk_of (inB_of (by omega)), lb]
    refine Ok.call (ev_ref08_Entries h.ref08_Entries n 4 4 a.ents b.ents pa pb s (.inl rfl) (.inl rfl) hpa hpb hae (by omega)) ?_
    rintro _ ⟨c, rfl, hc⟩
    refine ⟨_, s, rfl, ?_⟩
    simp only [J_b, D_nil]
    cases c with
    | false =>
      rw [Bool.not_false, cond_true]
      exact no (noab fun e => by cases hc.2 (by rw [e]))
    | true =>
      have hab : a = b := by
        have := hc.1 rfl
        cases a; cases b
        simp only at hnm this
        subst hnm this
        rfl
      rw [Bool.not_true, cond_false, wr64_of (by omega) (by omega)]
      refine hrec (x.heaps.length - (i + 1)) _ _ (by omega) ⟨i + 1, rfl, by omega, by omega, rfl, fun j hj => ?_⟩
      by_cases hji : j < i
      · exact hall j hji
      · have : j = i := by omega
        subst this
        rw [e1, e2, hab]
  · rw [decide_eq_false (show ¬ (i : Int) < (x.heaps.length : Int) by omega), cond_false, ret_eq]
    refine .mk ⟨true, rfl, ?_⟩
    simp only [true_iff]
    have hhp : x.heaps = y.heaps := List.ext_getElem? fun j => by
      by_cases hj : j < i
      · exact hall j hj
      · rw [List.getElem?_eq_none (by omega), List.getElem?_eq_none (by omega)]
    cases x; cases y
    simp only at hgeo hgn hfr hhp
    obtain ⟨h1, h2, h3⟩ := hgeo
    subst h1 h2 h3 hgn hfr hhp
    rfl
def exS : StV := ⟨16, 2, 3, [], [], []⟩
theorem exS_may : MayP exS where
  geom := by decide
  slots := by decide
  few := by decide
  right := fun h hh => nomatch hh
  order := fun i a b h => nomatch h
  nodup := List.nodup_nil
  range := fun k hk => nomatch hk
  gen := fun e he => nomatch he
  low := fun k hk => nomatch hk
  gens := fun v hv => nomatch hv
  rest := fun i hi => absurd hi (Nat.not_lt_zero i)
theorem exS_rng : RngS exS := ⟨⟨by decide, by decide⟩, ⟨by decide, by decide⟩, ⟨by decide, by decide⟩, (fun v hv => nomatch hv), (fun v hv => nomatch hv), (fun h hh => nomatch hh)⟩
theorem exS_small : SmallP exS := ⟨by decide, by decide, by decide, by decide, fun h hh => nomatch hh⟩
theorem show16 : showI 16 = [49, 54] := by
  unfold showI
  rw [if_neg (by decide), show Int.natAbs 16 = 16 from rfl, decS, if_neg (by decide), show 16 / 10 = 1 from rfl, decS_one (by omega)]
  rfl
theorem show2 : showI 2 = [50] := by unfold showI; rw [if_neg (by decide), show Int.natAbs 2 = 2 from rfl, decS_one (by omega)]; rfl
theorem exS_text : textS exS = [121, 97, 114, 100, 32, 49, 54, 32, 50, 32, 51, 10, 103, 101, 110, 115, 10, 102, 114, 101, 101, 10] := by
  unfold textS stL headL textL exS lnN
  simp only [List.map_cons, List.map_nil, show16, show2, show3]
  rfl
theorem ev_law33_awake {Bd : Bodies} (h : H_law33_awake Bd) (n : Nat) (hn : 70000 ≤ n) (st : St) (ht : Tabs st) : Ok (fun o => ∃ s', o = (.val [.bool true], s') ∧ Pre st s') (run Bd n 131 [] st) := by
  obtain ⟨n, rfl⟩ : ∃ m, n = m + 1 := ⟨n - 1, by omega⟩
  rw [run_succ, h.eq]
  unfold b_law33_awake
  simp only [D_nil]
  refine Ok.call (ev_ledger_Print h.ledger_Print n exS 0 0 0 none none none st ht (.inr rfl) (.inr rfl) (.inr rfl) ⟨⟨[], rfl, rfl⟩, rfl, rfl⟩ exS_small.sz exS_rng (by omega)) ?_
  rintro _ ⟨b, s1, rfl, hp1, hb⟩
  have := hb.2 exS_may
  subst this
  refine ⟨_, s1, rfl, ?_⟩
  have e1 : prOut true (textS exS) = [.str (textS exS), .bool true] := rfl
  rw [e1]
  simp only [J_s, J_b, D_nil]
  refine Ok.call (ev_ledger_Read h.ledger_Read n (textS exS) s1 (ht.mono hp1) (exS_small.text exS_rng) (by omega)) ?_
  rintro _ ⟨b, cells, s2, rfl, hp2, hb2, hst⟩
  have := hb2.2 (rdOk_text exS_may exS_rng)
  subst this
  rw [if_pos rfl, parse_text (exS_may.good exS_rng)] at hst
  obtain ⟨z1, p1, z2, p2, z3, p3, rfl, hz1, hz2, hz3, hr⟩ := hst
  refine ⟨_, s2, rfl, ?_⟩
  have ag : ∀ (l : List DV) (K : List DV → List DV → M (List DV)), J.a (.agg (stC exS z1 p1 z2 p2 z3 p3) :: l) K = K (stC exS z1 p1 z2 p2 z3 p3) l := fun _ _ => rfl
  rw [ag]
  unfold stC
  simp only [J_i, J_b, J_l_any 2 z1 p1 _ hz1, J_l_any 1 z2 p2 _ hz2, J_l_any 1 z3 p3 _ hz3, D_nil]
  rw [join_eq, cond_true]
  simp only [J_b, D_nil]
  rw [join_eq, cond_true, exS_text]
  simp only [J_b, D_nil]
  rw [join_eq, show ((([121, 97, 114, 100, 32, 49, 54, 32, 50, 32, 51, 10, 103, 101, 110, 115, 10, 102, 114, 101, 101, 10] : List UInt8) == bs [121, 97, 114, 100, 32, 49, 54, 32, 50, 32, 51, 10, 103, 101, 110, 115, 10, 102, 114, 101, 101, 10])) = true from rfl, cond_true]
  simp only [J_b, D_nil, ret_eq]
  exact .mk ⟨s2, rfl, hp1.trans hp2⟩
end Go.Gv.F

/- Reading a state's text: the document's Read. -/
namespace Go.Gv.F
open Go.Gv
variable {β : Type}
theorem take_snoc (s : List UInt8) (f i : Nat) (hf : f ≤ i) (hi : i < s.length) : (s.take (i + 1)).drop f = (s.take i).drop f ++ [s[i]] := by
  rw [List.take_succ_eq_append_getElem hi, List.drop_append_of_le_length (by rw [List.length_take]; omega)]
theorem ev_ref33_cut {Bd : Bodies} (h : H_ref33_cut Bd) (n : Nat) (s : List UInt8) (c : UInt8) (hn : s.length + 12 ≤ n) (hs : s.length < 1000000) (st : St) :
    Ok (CutAns c s st) (run Bd n 166 [.str s, .int .u8 (c.toNat : Int)] st) := by
  obtain ⟨n, rfl⟩ : ∃ m, n = m + 1 := ⟨n - 1, by omega⟩
  rw [run_succ, h.eq]
  unfold b_ref33_cut
  simp only [J_s, J_i, D_nil, base_eq]
  rw [join_eq]
  refine loop_rule _ (fun k x s2 => ∃ (i f z : Nat) (a : Option (Nat × Nat)) (acc : List (List UInt8)), x = [.slice z a acc.length, .int .i64 f, .int .i64 i] ∧ (z = 1 ∨ a = none) ∧ s.length + 1 - i ≤ k ∧ acc.length ≤ i ∧ i ≤ s.length + 1 ∧ f ≤ i ∧ Own st s2 a (acc.map .str) ∧
      ((i ≤ s.length ∧ acc ++ cutB c (s.drop i) ((s.take i).drop f) = cutB c s []) ∨ (i = s.length + 1 ∧ acc = cutB c s [])))
    ?_ (s.length + 1) n _ _ ⟨0, 0, 0, none, [], rfl, .inr rfl, by omega, Nat.le_refl _, by omega, Nat.le_refl _, Own.nil (Pre.refl _), .inl ⟨Nat.zero_le _, rfl⟩⟩ (by omega)
  rintro k _ s2 ⟨i, f, z, a, acc, rfl, hz, hk, hal, hi1, hfi, ho, hI⟩ rec hrec
  simp only [J_l_any 1 z a _ hz, J_i, D_nil]
  rcases hI with ⟨hi, hI⟩ | ⟨rfl, rfl⟩
  rotate_left
  · rw [decide_eq_false (show ¬ ((s.length + 1 : Nat) : Int) ≤ (s.length : Int) by omega), cond_false]
    simp only [J_l, D_nil, retF_eq]
    exact .mk ⟨a, _, rfl, frz_pre ho.1, ho.fz⟩
  rw [decide_eq_true (show (i : Int) ≤ (s.length : Int) by omega), cond_true, join_eq]
  -- a cut here
  have cut : acc ++ [(s.take i).drop f] ++ (if i < s.length then cutB c (s.drop (i + 1)) [] else []) = cutB c s [] → Ok (CutAns c s st) ((M.chk (decide (0 ≤ (i : Int)) && true) <|
      M.chk (decide (0 ≤ (f : Int)) && decide ((f : Int) ≤ (((i : Int).toNat : Nat) : Int))) <|
      M.new [.str ((s.take (i : Int).toNat).drop (f : Int).toNat)] fun i1 => M.load i1 0 1 fun cs => M.app 1 a acc.length cs 1 4398046511104 fun p =>
        (fun st => J.l 1 st fun out2 out2n st => J.i .i64 st fun from2 st => D.nil st <| rec [.slice 1 out2 out2n, .int .i64 from2, .int .i64 (wr64 ((i : Int) + 1))]) [.slice 1 p (acc.length + 1), .int .i64 (wr64 ((i : Int) + 1))]) s2) := by
    intro hc
    rw [chk_of (by simp), chk_of (by simp; omega)]
    simp only [Int.toNat_natCast]
    obtain ⟨p, s3, h1, h2⟩ := ho.push (β := List DV) (sz := 1) (n := acc.length) (lim := 4398046511104) [.str ((s.take i).drop f)] (Nat.succ_pos 0) (by simp) rfl (by omega)
    rw [h2]
    simp only [J_l, J_i, D_nil]
    rw [wr64_of (by omega) (by omega)]
    refine hrec (s.length + 1 - (i + 1)) _ _ (by omega) ⟨i + 1, i + 1, 1, p, acc ++ [(s.take i).drop f], by simp, .inl rfl, by omega, by simp; omega, by omega, Nat.le_refl _, by simpa using h1, ?_⟩
    by_cases hil : i < s.length
    · rw [if_pos hil] at hc
      refine .inl ⟨by omega, ?_⟩
      have e0 : (s.take (i + 1)).drop (i + 1) = [] := List.drop_eq_nil_of_le (by rw [List.length_take]; omega)
      rw [← hc, e0]
    · rw [if_neg hil, List.append_nil] at hc
      exact .inr ⟨by omega, hc⟩
  by_cases hil : i < s.length
  · have hdr : s.drop i = s[i] :: s.drop (i + 1) := List.drop_eq_getElem_cons hil
    rw [hdr, cutB] at hI
    rw [show ((i : Int) == (s.length : Int)) = false from beq_eq_false_iff_ne.2 (by omega), cond_false, chk_of (inB_of hil)]
    have cb : ((byteAt s (i : Int)) == (c.toNat : Int)) = decide (s[i] = c) := by
      rw [byteAt_eq, ocBeq s i hil c.toNat c.toNat_lt]
      simp
    rw [cb]
    simp only [J_b, D_nil]
    rw [join_eq]
    by_cases hc : s[i] = c
    · rw [if_pos hc] at hI
      rw [decide_eq_true hc, cond_true]
      exact cut (by rw [if_pos hil, ← hI]; simp)
    · rw [if_neg hc] at hI
      rw [decide_eq_false hc, cond_false]
      simp only [J_l, J_i, D_nil]
      rw [wr64_of (by omega) (by omega)]
      exact hrec (s.length + 1 - (i + 1)) _ _ (by omega) ⟨i + 1, f, 1, a, acc, rfl, .inl rfl, by omega, by omega, by omega, by omega, ho, .inl ⟨by omega, by rw [take_snoc s f i hfi hil]; exact hI⟩⟩
  · have : i = s.length := by omega
    rw [show ((i : Int) == (s.length : Int)) = true by rw [this]; exact beq_self_eq_true _, cond_true]
    simp only [J_b, D_nil]
    rw [join_eq, cond_true]
    refine cut ?_
    rw [if_neg hil, List.append_nil, ← hI, this, List.drop_length]
    rfl
theorem ev_ref33_ints {Bd : Bodies} (h : H_ref33_ints Bd) (n z : Nat) (p : Option (Nat × Nat)) (ws : List (List UInt8)) (st : St) (hz : z = 1 ∨ p = none) (hs : Sl st p (ws.map .str)) (hl : ws.length ≤ 50000) (hn : 50100 ≤ n) :
    Ok (fun o => ∃ q s', o = (.val [.slice 1 q (numsF ws).length], s') ∧ Pre st s' ∧ Fz s' q (ints (numsF ws))) (run Bd n 167 [.slice z p ws.length] st) := by
  obtain ⟨n, rfl⟩ : ∃ m, n = m + 1 := ⟨n - 1, by omega⟩
  rw [run_succ, h.eq]
  unfold b_ref33_ints
  simp only [J_l_any 1 z p _ hz, D_nil]
  rw [base_eq, join_eq]
  refine loop_rule _ (fun q y s => ∃ (i z : Nat) (a : Option (Nat × Nat)), y = [.slice z a (numsF (ws.take i)).length, .int .i64 i] ∧ (z = 1 ∨ a = none) ∧ i ≤ ws.length ∧ ws.length - i ≤ q ∧ Own st s a (ints (numsF (ws.take i)))) ?_ ws.length n _ _
    ⟨0, 0, none, rfl, .inr rfl, Nat.zero_le _, by omega, Own.nil (.refl _)⟩ (by omega)
  rintro q _ s ⟨i, z, a, rfl, hz, hi, hq, ho⟩ rec hrec
  simp only [J_l_any 1 z a _ hz, J_i, D_nil]
  by_cases hlt : i < ws.length
  · obtain ⟨i1, o1, rfl⟩ := hs.some_of (by simp; omega)
    rw [decide_eq_true (show (i : Int) < (ws.length : Int) by omega), cond_true, nn_some', chk_of (inB_of hlt), Int.toNat_natCast, (hs.mono ho.1).get1 (d := .str ws[i]) (by simp [hlt])]
    simp only [D_str]
    have htk : ws.take (i + 1) = ws.take i ++ [ws[i]] := List.take_succ_eq_append_getElem hlt
    have hnl : (numsF (ws.take i)).length ≤ i := by
      have := List.length_filterMap_le readF (ws.take i)
      rw [List.length_take] at this
      unfold numsF
      omega
    generalize ws[i] = w at htk
    refine Ok.call (ev_ref03_Read h.ref03_Read n w (by omega) s) ?_
    rintro _ ⟨s1, rfl, hp1⟩
    refine ⟨_, s1, rfl, ?_⟩
    rw [outR_eq]
    simp only [J_i, J_b, D_nil]
    rw [join_eq, wr64_of (by omega) (by omega)]
    cases hrw : readF w with
    | none =>
      have e : numsF (ws.take (i + 1)) = numsF (ws.take i) := by
        unfold numsF; rw [htk, List.filterMap_append]; simp [hrw]
      rw [show (none : Option Int).isSome = false from rfl, cond_false]
      simp only [J_l, D_nil]
      exact hrec (ws.length - (i + 1)) _ _ (by omega) ⟨i + 1, 1, a, by rw [e]; rfl, .inl rfl, by omega, by omega, by rw [e]; exact ho.mono hp1⟩
    | some v =>
      have e : numsF (ws.take (i + 1)) = numsF (ws.take i) ++ [v] := by
        unfold numsF; rw [htk, List.filterMap_append]; simp [hrw]
      rw [show (some v : Option Int).isSome = true from rfl, cond_true, show (some v : Option Int).getD 0 = v from rfl]
      obtain ⟨q2, s2, g1, g2⟩ := (ho.mono hp1).push (β := List DV) (sz := 1) (n := (numsF (ws.take i)).length) (lim := 8796093022208) [.int .i64 v] (Nat.succ_pos 0) (by simp [ints]) rfl (by omega)
      rw [g2]
      simp only [J_l, D_nil]
      refine hrec (ws.length - (i + 1)) _ _ (by omega) ⟨i + 1, 1, q2, by rw [e, List.length_append]; rfl, .inl rfl, by omega, by omega, ?_⟩
      rw [e]
      unfold ints
      rw [List.map_append]
      exact g1
  · rw [decide_eq_false (show ¬ (i : Int) < (ws.length : Int) by omega), cond_false]
    have : i = ws.length := by omega
    subst this
    rw [List.take_length] at ho ⊢
    simp only [J_l, D_nil, retF_eq]
    exact .mk ⟨a, _, rfl, frz_pre ho.1, ho.fz⟩
def takeR (x : StV) (ws : List (List UInt8)) : StV :=
  if ws.getD 0 [] = kYard ∧ (numsF ws).length = 3 then { x with blocks := (numsF ws).getD 0 0, slots := (numsF ws).getD 1 0, g := (numsF ws).getD 2 0 }
  else if ws.getD 0 [] = kGens then { x with gens := numsF ws }
  else if ws.getD 0 [] = kFree then { x with free := numsF ws }
  else if ws.getD 0 [] = kQueue ∧ ws.length = 2 then { x with heaps := x.heaps ++ [⟨ws.getD 1 [], []⟩] }
  else if ws.getD 0 [] = kEntry ∧ ws.length = 4 ∧ (numsF ws).length = 2 ∧ 0 < x.heaps.length then addE x ⟨((handleF (ws.getD 1 [])).getD (0, 0)).1, ((handleF (ws.getD 1 [])).getD (0, 0)).2, (numsF ws).getD 0 0, (numsF ws).getD 1 0⟩
  else x
def parseR (s : List UInt8) : StV := (cutB 10 s []).foldl (fun x l => takeR x (cutB 32 l [])) zeroS
theorem PInv.takeR {m : Nat} {x : StV} (h : PInv m x) (ws : List (List UInt8)) (hw : ws.length ≤ 50000) (hj : ∀ w ∈ ws, w.length ≤ 50000) : PInv (m + 1) (takeR x ws) := by
  have hn := numsF_rng ws
  have hnl : (numsF ws).length ≤ 50000 := by
    have := numsF_len ws
    omega
  have hr := h.rg
  have hu := h.up (Nat.le_succ m)
  unfold F.takeR
  split
  · exact ⟨hu.hl, hu.el, hu.gl, hu.fl, hu.nm, ⟨getD_rng hn 0, getD_rng hn 1, getD_rng hn 2, hr.gens, hr.free, hr.ents⟩⟩
  split
  · exact ⟨hu.hl, hu.el, hnl, hu.fl, hu.nm, ⟨hr.b, hr.s, hr.g, hn, hr.free, hr.ents⟩⟩
  split
  · exact ⟨hu.hl, hu.el, hu.gl, hnl, hu.nm, ⟨hr.b, hr.s, hr.g, hr.gens, hn, hr.ents⟩⟩
  split
  · refine ⟨by have := h.hl; rw [List.length_append]; simp only [List.length_cons, List.length_nil]; omega, by rw [entsOf_app]; have := h.el; rw [List.length_append]; show _ + 0 ≤ _; omega, hu.gl, hu.fl, fun g hg => ?_, ⟨hr.b, hr.s, hr.g, hr.gens, hr.free, fun g hg => ?_⟩⟩
    · rcases List.mem_append.1 hg with h1 | h1
      · exact h.nm g h1
      · rw [List.mem_singleton.1 h1]
        rename_i hc
        show (ws.getD 1 []).length ≤ 50000
        rw [List.getD_eq_getElem?_getD, List.getElem?_eq_getElem (by omega)]
        exact hj _ (List.getElem_mem _)
    · rcases List.mem_append.1 hg with h1 | h1
      · exact hr.ents g h1
      · rw [List.mem_singleton.1 h1]; intro e he; cases he
  split
  · rename_i hc
    have her : InR ((handleF (ws.getD 1 [])).getD (0, 0)).1 ∧ InR ((handleF (ws.getD 1 [])).getD (0, 0)).2 := by
      cases hh : handleF (ws.getD 1 []) with
      | none => exact ⟨⟨by decide, by decide⟩, ⟨by decide, by decide⟩⟩
      | some v =>
        obtain ⟨a, b⟩ := v
        have := handle_range hh
        exact ⟨⟨by show _ ≤ a; omega, this.1.2⟩, ⟨by show _ ≤ b; omega, this.2.2⟩⟩
    obtain ⟨g, hg⟩ : ∃ g, x.heaps[x.heaps.length - 1]? = some g := ⟨_, List.getElem?_eq_getElem (by omega)⟩
    rw [addE_eq hg]
    generalize hee : (⟨((handleF (ws.getD 1 [])).getD (0, 0)).1, ((handleF (ws.getD 1 [])).getD (0, 0)).2, (numsF ws).getD 0 0, (numsF ws).getD 1 0⟩ : EntV) = e
    have hev : InR e.slot ∧ InR e.gen ∧ InR e.key ∧ InR e.value := by rw [← hee]; exact ⟨her.1, her.2, getD_rng hn 0, getD_rng hn 1⟩
    have hs := set_split (g' := ⟨g.name, g.ents ++ [e]⟩) hg
    have hmem : ∀ g', g' ∈ x.heaps.set (x.heaps.length - 1) ⟨g.name, g.ents ++ [e]⟩ → g' ∈ x.heaps ∨ g' = ⟨g.name, g.ents ++ [e]⟩ := fun g' h => List.mem_or_eq_of_mem_set h
    refine ⟨by show (x.heaps.set _ _).length ≤ _; rw [List.length_set]; exact hu.hl, ?_, hu.gl, hu.fl, fun g' hg' => ?_, ⟨hr.b, hr.s, hr.g, hr.gens, hr.free, fun g' hg' => ?_⟩⟩
    · have h1 := h.el
      rw [hs.1, entsOf_app, List.length_append] at h1
      show (entsOf (x.heaps.set _ _)).length ≤ _
      rw [hs.2, entsOf_app, List.length_append]
      have e1 : ∀ (g : HeapV) l, entsOf (g :: l) = g.ents ++ entsOf l := fun _ _ => rfl
      rw [e1, List.length_append] at h1 ⊢
      simp only [List.length_append, List.length_cons, List.length_nil]
      omega
    · rcases hmem g' hg' with h1 | h1
      · exact h.nm g' h1
      · rw [h1]; exact h.nm g (List.mem_of_getElem? hg)
    · rcases hmem g' hg' with h1 | h1
      · exact hr.ents g' h1
      · rw [h1]
        intro e' he'
        rcases List.mem_append.1 he' with h2 | h2
        · exact hr.ents g (List.mem_of_getElem? hg) e' h2
        · rw [List.mem_singleton.1 h2]; exact hev
  · exact hu
theorem parseR_inv (s : List UInt8) (hs : s.length ≤ 40000) (i : Nat) : PInv i (((cutB 10 s []).take i).foldl (fun x l => takeR x (cutB 32 l [])) zeroS) := by
  induction i with
  | zero => exact PInv.zero
  | succ i ih =>
    by_cases hi : i < (cutB 10 s []).length
    · rw [List.take_succ_eq_append_getElem hi, List.foldl_append]
      have hl := cutB_mem 10 s [] _ (List.getElem_mem hi)
      generalize (cutB 10 s [])[i] = l at hl
      simp only [List.length_nil, Nat.zero_add] at hl
      have hc := cutB_len 32 l []
      have := count_le 32 l
      exact ih.takeR _ (by omega) fun w hw => by
        have := cutB_mem 32 l [] w hw
        simp only [List.length_nil, Nat.zero_add] at this
        omega
    · rw [List.take_of_length_le (by omega)]
      rw [List.take_of_length_le (by omega)] at ih
      exact ih.up (Nat.le_succ i)
theorem parseR_pinv (s : List UInt8) (hs : s.length ≤ 40000) : PInv 40001 (parseR s) := by
  have h := parseR_inv s hs 40001
  have hc := cutB_len 10 s []
  have := count_le 10 s
  rw [List.take_of_length_le (by omega)] at h
  exact h
theorem read_word {w : List UInt8} (h : ∃ c ∈ w, c ≠ 45 ∧ ¬ (48 ≤ c.toNat ∧ c.toNat ≤ 57)) : readF w = none := by
  obtain ⟨c, hc, h1, h2⟩ := h
  cases hr : readF w with
  | none => rfl
  | some z =>
    rw [(show_read hr).1] at hc
    exact absurd hc (show_not z h1 h2)
theorem nums_word {w : List UInt8} (h : readF w = none) (l : List (List UInt8)) : numsF (w :: l) = numsF l := by
  unfold numsF
  rw [List.filterMap_cons_none h]
theorem takeR_spec : TakeSpec fun x l => takeR x (cutB 32 l []) where
  yard := fun x a b c ha hb hc => by
    have hr : ∀ v ∈ [a, b, c], InR v := fun v hv => by
      simp only [List.mem_cons, List.not_mem_nil, or_false] at hv
      rcases hv with rfl | rfl | rfl
      · exact ha
      · exact hb
      · exact hc
    show takeR x (cutB 32 (lnN kYard [a, b, c]) []) = _
    rw [cut_lnN (by decide)]
    unfold takeR
    rw [nums_word (read_word ⟨121, by decide, by decide, by decide⟩), nums_show hr]
    rfl
  gens := fun x l hr => by
    show takeR x (cutB 32 (lnN kGens l) []) = _
    rw [cut_lnN (by decide)]
    unfold takeR
    rw [nums_word (read_word ⟨103, by decide, by decide, by decide⟩), nums_show hr, if_neg (fun h => absurd h.1 (by show ¬ kGens = kYard; decide))]
    rfl
  free := fun x l hr => by
    show takeR x (cutB 32 (lnN kFree l) []) = _
    rw [cut_lnN (by decide)]
    unfold takeR
    rw [nums_word (read_word ⟨102, by decide, by decide, by decide⟩), nums_show hr, if_neg (fun h => absurd h.1 (by show ¬ kFree = kYard; decide))]
    rfl
  queue := fun x nm h => by
    show takeR x (cutB 32 ([113, 117, 101, 117, 101, 32] ++ nm) []) = _
    rw [cut_queue h]
    unfold takeR
    rw [if_neg (fun h => absurd h.1 (by show ¬ kQueue = kYard; decide))]
    rfl
  entry := fun x e hx hs hr => by
    show takeR x (cutB 32 (entL e) []) = _
    rw [cut_entL]
    unfold takeR
    have hn : numsF [kEntry, showH e.slot e.gen, showI e.key, showI e.value] = [e.key, e.value] := by
      rw [nums_word (read_word ⟨101, by decide, by decide, by decide⟩), nums_word (read_handle hs.1 hs.2)]
      exact nums_show (l := [e.key, e.value]) fun v hv => by
        simp only [List.mem_cons, List.not_mem_nil, or_false] at hv
        rcases hv with rfl | rfl
        · exact hr.2.2.1
        · exact hr.2.2.2
    rw [hn, if_neg (fun h => absurd h.1 (by show ¬ kEntry = kYard; decide)), if_neg (by show ¬ kEntry = kGens; decide), if_neg (by show ¬ kEntry = kFree; decide), if_neg (fun h => absurd h.1 (by show ¬ kEntry = kQueue; decide)), if_pos ⟨rfl, rfl, rfl, hx⟩]
    show addE x ⟨((handleF (showH e.slot e.gen)).getD (0, 0)).1, ((handleF (showH e.slot e.gen)).getD (0, 0)).2, e.key, e.value⟩ = _
    rw [handle_show ⟨hs.1, hr.1.2⟩ ⟨hs.2, hr.2.1.2⟩]
    rfl
  none := fun x => rfl
theorem parseR_text {x : StV} (h : Good x) : parseR (textS x) = x := parse_round takeR_spec h
def RdOkR (s : List UInt8) : Prop := MayP (parseR s) ∧ textS (parseR s) = s
theorem rdOk_iff {s : List UInt8} (hs : s.length ≤ 40000) : (RdOk s ↔ RdOkR s) ∧ (RdOk s → parseS s = parseR s) := by
  have h1 : RdOk s → parseR s = parseS s := fun ⟨hm, e⟩ => by
    have := parseR_text (hm.good (parse_pinv s hs).rg)
    rw [e] at this
    exact this
  have h2 : RdOkR s → parseS s = parseR s := fun ⟨hm, e⟩ => by
    have := parse_text (hm.good (parseR_pinv s hs).rg)
    rw [e] at this
    exact this
  refine ⟨⟨fun h => ?_, fun h => ?_⟩, fun h => (h1 h).symm⟩
  · unfold RdOkR
    rw [h1 h]
    exact h
  · unfold RdOk
    rw [h2 h]
    exact h
theorem HO.push {s0 s : St} {ds : List DV} {xs : List HeapV} (h : HO s0 s ds xs) (nm : List UInt8) : HO s0 s (ds ++ [.str nm, .slice 0 none 0]) (xs ++ [⟨nm, []⟩]) := by
  have hds := h.1
  have hnth : ∀ j y, (xs ++ [(⟨nm, []⟩ : HeapV)])[j]? = some y → (j < xs.length ∧ xs[j]? = some y) ∨ (j = xs.length ∧ y = ⟨nm, []⟩) := by
    intro j y e
    by_cases hj : j < xs.length
    · rw [List.getElem?_append_left hj] at e
      exact .inl ⟨hj, e⟩
    · rw [List.getElem?_append_right (by omega)] at e
      have hj0 : j - xs.length = 0 := by
        have := (List.getElem?_eq_some_iff.1 e).1
        simp only [List.length_cons, List.length_nil] at this
        omega
      rw [hj0] at e
      cases e
      exact .inr ⟨by omega, rfl⟩
  have hnewc : (ds ++ [DV.str nm, .slice 0 none 0])[xs.length * 2 + 1]? = some (.slice 0 none 0) := by
    rw [List.getElem?_append_right (by omega), show xs.length * 2 + 1 - ds.length = 1 by omega]; rfl
  refine ⟨by rw [List.length_append, List.length_append, hds]; simp only [List.length_cons, List.length_nil]; omega, fun j y e => ?_, ?_⟩
  · rcases hnth j y e with ⟨hj, e⟩ | ⟨rfl, rfl⟩
    · obtain ⟨z, pp, hz, h1, h2, h3⟩ := h.2.1 j y e
      exact ⟨z, pp, hz, by rw [List.getElem?_append_left (by omega)]; exact h1, by rw [List.getElem?_append_left (by omega)]; exact h2, h3⟩
    · exact ⟨0, none, .inr rfl, by rw [List.getElem?_append_right (by omega), show xs.length * 2 - ds.length = 0 by omega]; rfl, hnewc, .inl ⟨rfl, rfl⟩⟩
  · intro j k i z n z' n' o o' hjk h1 h2
    have hkl : k < xs.length := by
      refine Classical.byContradiction fun hk => ?_
      have hkk := (List.getElem?_eq_some_iff.1 h2).1
      rw [List.length_append] at hkk
      simp only [List.length_cons, List.length_nil] at hkk
      have : k = xs.length := by omega
      subst this
      rw [hnewc] at h2
      cases h2
    rw [List.getElem?_append_left (by omega)] at h1 h2
    exact h.2.2 j k i z n z' n' o o' hjk h1 h2
theorem HO.upd {s0 s s6 : St} {ds : List DV} {xs : List HeapV} {m z ib i2 : Nat} {p : Option (Nat × Nat)} {g : HeapV} {e : EntV} (c6 : HO s0 s ds xs) (hm : xs.length = m + 1) (hg : xs[m]? = some g) (d2 : ds[m * 2 + 1]? = some (.slice z p g.ents.length)) (g0 : s.length ≤ i2) (g3 : But p s s6)
    (hsb : s[ib]? = some (some ⟨false, ds⟩)) (hsb6 : s6[ib]? = some (some ⟨false, ds⟩)) (gown : s0.length ≤ i2 ∧ s6[i2]? = some (some ⟨false, entsC (g.ents ++ [e])⟩)) :
    HO s0 (s6.set ib (some ⟨false, ds.set (m * 2 + 1) (.slice 4 (some (i2, 0)) (g.ents.length + 1))⟩)) (ds.set (m * 2 + 1) (.slice 4 (some (i2, 0)) (g.ents.length + 1))) (xs.set m ⟨g.name, g.ents ++ [e]⟩) := by
  have hds := c6.1
  have hdl : m * 2 + 1 < ds.length := by omega
  have hlt2 : ∀ {i : Nat} {b : Option Blk}, s[i]? = some b → i < s.length := fun h => (List.getElem?_eq_some_iff.1 h).1
  have hib2 : i2 ≠ ib := by have := hlt2 hsb; omega
  have hbt := But.set s6 ib 0 (some ⟨false, ds.set (m * 2 + 1) (.slice 4 (some (i2, 0)) (g.ents.length + 1))⟩)
  have hcell : ∀ j, j ≠ m * 2 + 1 → (ds.set (m * 2 + 1) (DV.slice 4 (some (i2, 0)) (g.ents.length + 1)))[j]? = ds[j]? := fun j hj => List.getElem?_set_ne (Ne.symm hj)
  have hnew : (ds.set (m * 2 + 1) (DV.slice 4 (some (i2, 0)) (g.ents.length + 1)))[m * 2 + 1]? = some (.slice 4 (some (i2, 0)) (g.ents.length + 1)) := by
    rw [List.getElem?_set_self hdl]
  obtain ⟨_, _, _, d1, _, _⟩ := c6.2.1 m g hg
  refine ⟨by rw [List.length_set, List.length_set]; exact hds, fun j y ey => ?_, ?_⟩
  · by_cases hjm : j = m
    · subst hjm
      rw [List.getElem?_set_self (by omega)] at ey
      cases ey
      refine ⟨4, some (i2, 0), .inl rfl, by rw [hcell _ (by omega)]; exact d1, by rw [hnew, List.length_append]; rfl, .inr ⟨i2, rfl, gown.1, ?_⟩⟩
      exact hbt i2 _ gown.2 (fun o e => by cases e; exact hib2 rfl)
    · rw [List.getElem?_set_ne (Ne.symm hjm)] at ey
      obtain ⟨z', p', hz', f1, f2, f3⟩ := c6.2.1 j y ey
      refine ⟨z', p', hz', by rw [hcell _ (by omega)]; exact f1, by rw [hcell _ (by omega)]; exact f2, ?_⟩
      have f4 : OB s0 s6 p' (entsC y.ents) := f3.but g3 fun i hi o ep => by
        have hjl := (List.getElem?_eq_some_iff.1 ey).1
        rw [hi] at f2
        rw [ep] at d2
        exact c6.2.2 j m i z' _ z _ 0 o (by omega) f2 d2
      refine f4.but hbt fun i hi o ep => ?_
      cases ep
      rcases f4 with ⟨h9, _⟩ | ⟨i', h9, _, h10⟩
      · rw [h9] at hi; cases hi
      · rw [hi] at h9
        cases h9
        rw [hsb6] at h10
        injection h10 with e1
        injection e1 with e2
        injection e2 with _ e3
        exact ds_ents c6 (by omega) _ e3
  · intro j k i zj nj zk nk oj ok hjk h1 h2
    have hkl : k ≤ m := by
      have := (List.getElem?_eq_some_iff.1 h2).1
      rw [List.length_set] at this
      omega
    rw [hcell _ (by omega)] at h1
    by_cases hkm : k = m
    · subst hkm
      rw [hnew] at h2
      cases h2
      obtain ⟨y, ey⟩ : ∃ y, xs[j]? = some y := ⟨_, List.getElem?_eq_getElem (by omega)⟩
      obtain ⟨z', p', hz', f1, f2, f3⟩ := c6.2.1 j y ey
      rw [h1] at f2
      cases f2
      rcases f3 with ⟨h9, _⟩ | ⟨i', h9, _, h10⟩
      · cases h9
      · cases h9
        have := hlt2 h10
        omega
    · rw [hcell _ (by omega)] at h2
      exact c6.2.2 j k i zj nj zk nk oj ok hjk h1 h2
end Go.Gv.F

/- The law of ledgers: any text. -/
namespace Go.Gv.F
open Go.Gv
variable {β : Type}
def RV (s0 s : St) (x : StV) (cells : List DV) : Prop :=
  ∃ z1 p1 z2 p2 z3 p3 ds, cells = stC x z1 p1 z2 p2 z3 p3 ∧ (z1 = 2 ∨ p1 = none) ∧ (z2 = 1 ∨ p2 = none) ∧ (z3 = 1 ∨ p3 = none) ∧ OB s0 s p1 ds ∧ HO s0 s ds x.heaps ∧ Fz s p2 (ints x.gens) ∧ Fz s p3 (ints x.free)
theorem ev_ref33_Read {Bd : Bodies} (h : H_ref33_Read Bd) (n : Nat) (s : List UInt8) (st : St) (hs : s.length ≤ 40000) (hn : 60000 ≤ n) :
    Ok (fun o => ∃ b cells s', o = (.val [.agg cells, .bool b], s') ∧ Pre st s' ∧ (b = true ↔ RdOkR s) ∧ StAns s' (if b = true then parseR s else zeroS) cells) (run Bd n 165 [.str s] st) := by
  obtain ⟨n, rfl⟩ : ∃ m, n = m + 1 := ⟨n - 1, by omega⟩
  rw [run_succ, h.eq]
  unfold b_ref33_Read
  simp only [J_s, D_nil]
  rw [base_eq]
  refine Ok.call (ev_ref33_cut h.ref33_cut n s 10 (by omega) (by omega) st) ?_
  rintro _ ⟨a, s1, rfl, hp1, hfa⟩
  refine ⟨_, s1, rfl, ?_⟩
  simp only [J_l, D_nil]
  have hcl := cutB_len 10 s []
  have hcc := count_le 10 s
  have hmem := cutB_mem 10 s []
  have hps : parseR s = (cutB 10 s []).foldl (fun x l => takeR x (cutB 32 l [])) zeroS := rfl
  have hpv := parseR_pinv s hs
  have hpi := parseR_inv s hs
  rw [join_eq]
  generalize cutB 10 s [] = L at *
  refine loop_rule _ (fun q y s => ∃ (i : Nat) (cells : List DV), y = [.agg cells, .int .i64 i] ∧ i ≤ L.length ∧ L.length - i ≤ q ∧ Pre st s ∧ RV st s ((L.take i).foldl (fun x l => takeR x (cutB 32 l [])) zeroS) cells ∧ Fz s a (L.map .str)) ?_ L.length n _ _
    ⟨0, _, rfl, Nat.zero_le _, by omega, hp1, ⟨0, none, 0, none, 0, none, [], rfl, .inr rfl, .inr rfl, .inr rfl, .inl ⟨rfl, rfl⟩, ⟨rfl, (fun j x e => by cases e), (fun j k i z n z' n' o o' _ e => by cases e)⟩, Fz.nil _, Fz.nil _⟩, hfa⟩ (by omega)
  rintro q _ s2 ⟨i, _, rfl, hi, hq, hp2, ⟨z1, p1, z2, p2, z3, p3, ds, rfl, c2, c3, c4, c5, c6, c7, c8⟩, hfl⟩ rec hrec
  have ag : ∀ (v : StV) (z1 z2 z3 : Nat) (p1 p2 p3 : Option (Nat × Nat)) (l : List DV) (K : List DV → List DV → M (List DV)), J.a (.agg (stC v z1 p1 z2 p2 z3 p3) :: l) K = K (stC v z1 p1 z2 p2 z3 p3) l := fun _ _ _ _ _ _ _ _ _ => rfl
  rw [ag]
  unfold stC
  simp only [J_i, J_l_any 2 z1 p1 _ c2, J_l_any 1 z2 p2 _ c3, J_l_any 1 z3 p3 _ c4, D_nil]
  by_cases hlt : i < L.length
  rotate_left
  · rw [decide_eq_false (show ¬ (i : Int) < (L.length : Int) by omega), cond_false]
    have : i = L.length := by omega
    subst this
    rw [List.take_length, ← hps] at *
    clear hrec rec
    have hpsz := hpv.sz (by omega)
    have hprg := hpv.rg
    have hok : RdOkR s ↔ MayP (parseR s) ∧ textS (parseR s) = s := Iff.rfl
    generalize parseR s = y at *
    have hstr : StR s2 y p1 p2 p3 := ⟨⟨ds, c5.sl, c6.heaps⟩, c7.1, c8.1⟩
    simp only [J_a, J_i, J_l, D_nil]
    refine Ok.call (ev_ref26_May h.ref26_May n y 2 1 1 p1 p2 p3 s2 (.inl rfl) (.inl rfl) (.inl rfl) hstr hpsz (by omega)) ?_
    rintro _ ⟨b, s3, rfl, hp3, hb⟩
    refine ⟨_, s3, rfl, ?_⟩
    simp only [J_b, D_nil]
    have no : ∀ s3, Pre st s3 → ¬ RdOkR s → Ok (fun o => ∃ b cells s', o = (.val [.agg cells, .bool b], s') ∧ Pre st s' ∧ (b = true ↔ RdOkR s) ∧ StAns s' (if b = true then y else zeroS) cells) ((M.retF st.length [.agg [.int .i64 0, .int .i64 0, .int .i64 0, .slice 0 none 0, .slice 0 none 0, .slice 0 none 0], .bool false] : M (List DV)) s3) := by
      intro s3 hpst hno
      rw [retF_eq]
      exact .mk ⟨false, _, _, rfl, frz_pre hpst, by simp [hno], 0, none, 0, none, 0, none, rfl, .inr rfl, .inr rfl, .inr rfl, StR.zero _⟩
    rw [join_eq]
    cases b with
    | false =>
      rw [Bool.not_false, cond_true]
      simp only [J_b, D_nil]
      rw [cond_true]
      exact no s3 (hp2.trans hp3) fun hh => by cases hb.2 (hok.1 hh).1
    | true =>
      rw [Bool.not_true, cond_false]
      refine Ok.call (ev_ref33_Print h.ref33_Print n y 2 1 1 p1 p2 p3 s3 (.inl rfl) (.inl rfl) (.inl rfl) (hstr.pre hp3) hpsz hprg (by omega)) ?_
      rintro _ ⟨s4, rfl, hp4⟩
      refine ⟨_, s4, rfl, ?_⟩
      have hp24 := hp3.trans hp4
      simp only [J_s, J_b, D_nil]
      by_cases he : textS y = s
      · rw [show (textS y == s) = true by rw [he]; exact beq_self_eq_true _, Bool.not_true, cond_false, retF_eq]
        refine .mk ⟨true, _, _, rfl, frz_pre (hp2.trans hp24), ?_, 2, p1, 1, p2, 1, p3, rfl, .inl rfl, .inl rfl, .inl rfl, (hstr.pre hp24).frz _⟩
        rw [hok]
        exact ⟨fun _ => ⟨hb.1 rfl, he⟩, fun _ => rfl⟩
      · rw [show (textS y == s) = false from beq_eq_false_iff_ne.2 he, Bool.not_false, cond_true]
        exact no s4 (hp2.trans hp24) fun hh => he (hok.1 hh).2
  obtain ⟨i1, o1, rfl⟩ := hfl.1.some_of (by simp; omega)
  rw [decide_eq_true (show (i : Int) < (L.length : Int) by omega), cond_true, nn_some', chk_of (inB_of hlt), Int.toNat_natCast, hfl.1.get1 (d := .str L[i]) (by simp [hlt])]
  simp only [D_str]
  have hll := hmem _ (List.getElem_mem hlt)
  have htk : L.take (i + 1) = L.take i ++ [L[i]] := List.take_succ_eq_append_getElem hlt
  have hinv := hpi i
  generalize L[i] = l at hll htk
  simp only [List.length_nil, Nat.zero_add] at hll
  refine Ok.call (ev_ref33_cut h.ref33_cut n l 32 (by omega) (by omega) s2) ?_
  rintro _ ⟨aw, s3, rfl, hp3, hfw⟩
  refine ⟨_, s3, rfl, ?_⟩
  simp only [J_l, D_nil]
  have hc2 := cutB_len 32 l []
  have hc3 := count_le 32 l
  have hm2 := cutB_mem 32 l []
  have hfold : (L.take (i + 1)).foldl (fun x l => takeR x (cutB 32 l [])) zeroS = takeR ((L.take i).foldl (fun x l => takeR x (cutB 32 l [])) zeroS) (cutB 32 l []) := by rw [htk, List.foldl_append]; rfl
  generalize (L.take i).foldl (fun x l => takeR x (cutB 32 l [])) zeroS = x at *
  have h0 : 0 < (cutB 32 l []).length := by omega
  generalize cutB 32 l [] = ws at *
  refine Ok.call (ev_ref33_ints h.ref33_ints n 1 aw ws s3 (.inl rfl) hfw.1 (by omega) (by omega)) ?_
  rintro _ ⟨qn, s4, rfl, hp4, hfq⟩
  refine ⟨_, s4, rfl, ?_⟩
  simp only [J_l, D_nil]
  have hp34 := hp3.trans hp4
  have hfl4 := hfl.pre hp34
  have hfw4 := hfw.pre hp4
  have c5 := c5.but (But.pre none hp34) (fun _ _ _ => by simp)
  have c6 := c6.but (But.pre none hp34) (fun _ _ _ _ _ _ => by simp)
  have c7 := c7.pre hp34
  have c8 := c8.pre hp34
  have hp24 := hp2.trans hp34
  -- the end of a round
  have done : ∀ (M : List DV) (s' : St) (p1 p2 p3 : Option (Nat × Nat)) (ds : List DV), M = stC (takeR x ws) 2 p1 1 p2 1 p3 → Pre st s' → Kp s4 s' → OB st s' p1 ds → HO st s' ds (takeR x ws).heaps → Fz s' p2 (ints (takeR x ws).gens) → Fz s' p3 (ints (takeR x ws).free) →
      Ok (fun o => ∃ b cells s', o = (.val [.agg cells, .bool b], s') ∧ Pre st s' ∧ (b = true ↔ RdOkR s) ∧ StAns s' (if b = true then parseR s else zeroS) cells) (rec [.agg M, .int .i64 (wr64 ((i : Int) + 1))] s') := by
    rintro M s' p1 p2 p3 ds rfl hp hk g1 g2 g3 g4
    rw [wr64_of (by omega) (by omega)]
    exact hrec (L.length - (i + 1)) _ _ (by omega) ⟨i + 1, _, rfl, by omega, by omega, hp, ⟨2, p1, 1, p2, 1, p3, ds, by rw [hfold], .inl rfl, .inl rfl, .inl rfl, g1, by rw [hfold]; exact g2, by rw [hfold]; exact g3, by rw [hfold]; exact g4⟩, hfl4.kp hk⟩
  -- the words
  obtain ⟨wi, wo, rfl⟩ := hfw4.1.some_of (by simp; omega)
  have getw : ∀ (j : Nat) (s' : St) (K : DV → M (List DV)), Pre s4 s' → j < ws.length → M.load1 wi (j + wo) K s' = K (.str (ws.getD j [])) s' := fun j s' K hp hj =>
    (hfw4.1.mono hp).get (d := .str (ws.getD j [])) (by rw [List.getElem?_map, List.getD_eq_getElem?_getD, List.getElem?_eq_getElem hj]; rfl) K
  have getw0 : ∀ (K : DV → M (List DV)), M.load1 wi (0 + wo) K s4 = K (.str (ws.getD 0 [])) s4 := fun K => getw 0 s4 K (.refl _) h0
  have hq3 : 0 < (numsF ws).length → ∃ a b, qn = some (a, b) := fun e => by
    obtain ⟨a, b, e⟩ := hfq.1.some_of (by simp only [ints, List.length_map]; omega)
    exact ⟨a, b, e⟩
  have get : ∀ (a b j : Nat) (s' : St) (K : DV → M (List DV)), qn = some (a, b) → Pre s4 s' → j < (numsF ws).length → M.load1 a (j + b) K s' = K (.int .i64 ((numsF ws).getD j 0)) s' := by
    rintro a b j s' K rfl hp hj
    exact (hfq.1.mono hp).get (d := .int .i64 ((numsF ws).getD j 0)) (by simp [ints, List.getD_eq_getElem?_getD, hj]) K
  have hw1 : (ws.getD 1 []).length ≤ 50000 := by
    rw [List.getD_eq_getElem?_getD]
    cases e : ws[1]? with
    | none => exact Nat.zero_le _
    | some w =>
      have := hm2 w (List.mem_of_getElem? e)
      simp only [List.length_nil, Nat.zero_add] at this
      show w.length ≤ 50000
      omega
  have hds := c6.1
  have hxl := hinv.hl
  have hxe := hinv.el
  rw [nn_some', chk_of (inB_lit0 h0), getw0]
  simp only [D_str]
  rw [join_bool]
  -- yard
  by_cases k1 : ws.getD 0 [] = kYard ∧ (numsF ws).length = 3
  · have etk : takeR x ws = { x with blocks := (numsF ws).getD 0 0, slots := (numsF ws).getD 1 0, g := (numsF ws).getD 2 0 } := by unfold takeR; rw [if_pos k1]
    have hb : (bif ws.getD 0 [] == bs [121, 97, 114, 100] then (((numsF ws).length : Int) == 3) else false) = true := by rw [k1.1, k1.2]; rfl
    rw [hb]
    simp only [J_b, D_nil]
    obtain ⟨a, b, hq⟩ := hq3 (by omega)
    rw [join_eq, cond_true, hq, nn_some', chk_of (by rw [k1.2]; rfl), get a b 0 s4 _ hq (.refl _) (by omega)]
    simp only [D_int]
    rw [nn_some', chk_of (by rw [k1.2]; rfl), get a b 1 s4 _ hq (.refl _) (by omega)]
    simp only [D_int]
    rw [nn_some', chk_of (by rw [k1.2]; rfl), get a b 2 s4 _ hq (.refl _) (by omega)]
    simp only [D_int, J_a, J_i, J_l, D_nil]
    rw [etk] at done
    exact done _ s4 p1 p2 p3 ds rfl hp24 (fun _ _ h => h) c5 c6 c7 c8
  have hb1 : (bif ws.getD 0 [] == bs [121, 97, 114, 100] then (((numsF ws).length : Int) == 3) else false) = false := by
    by_cases hy : ws.getD 0 [] = kYard
    · rw [show (((numsF ws).length : Int) == 3) = false from beq_eq_false_iff_ne.2 (fun e => k1 ⟨hy, by omega⟩)]
      cases (ws.getD 0 [] == bs [121, 97, 114, 100]) <;> rfl
    · rw [show (ws.getD 0 [] == bs [121, 97, 114, 100]) = false from beq_eq_false_iff_ne.2 hy]
      rfl
  rw [hb1]
  simp only [J_b, D_nil]
  rw [join_eq, cond_false, nn_some', chk_of (inB_lit0 h0), getw0]
  simp only [D_str]
  rw [join_eq]
  -- gens
  by_cases k2 : ws.getD 0 [] = kGens
  · have etk : takeR x ws = { x with gens := numsF ws } := by unfold takeR; rw [if_neg k1, if_pos k2]
    rw [show (ws.getD 0 [] == bs [103, 101, 110, 115]) = true by rw [k2]; rfl, cond_true]
    simp only [J_a, J_i, J_l, D_nil]
    rw [etk] at done
    exact done _ s4 p1 qn p3 ds rfl hp24 (fun _ _ h => h) c5 c6 hfq c8
  rw [show (ws.getD 0 [] == bs [103, 101, 110, 115]) = false from beq_eq_false_iff_ne.2 k2, cond_false, nn_some', chk_of (inB_lit0 h0), getw0]
  simp only [D_str]
  rw [join_eq]
  -- free
  by_cases k3 : ws.getD 0 [] = kFree
  · have etk : takeR x ws = { x with free := numsF ws } := by unfold takeR; rw [if_neg k1, if_neg k2, if_pos k3]
    rw [show (ws.getD 0 [] == bs [102, 114, 101, 101]) = true by rw [k3]; rfl, cond_true]
    simp only [J_a, J_i, J_l, D_nil]
    rw [etk] at done
    exact done _ s4 p1 p2 qn ds rfl hp24 (fun _ _ h => h) c5 c6 c7 hfq
  rw [show (ws.getD 0 [] == bs [102, 114, 101, 101]) = false from beq_eq_false_iff_ne.2 k3, cond_false, nn_some', chk_of (inB_lit0 h0), getw0]
  simp only [D_str]
  rw [join_bool]
  -- queue
  by_cases k4 : ws.getD 0 [] = kQueue ∧ ws.length = 2
  · have etk : takeR x ws = { x with heaps := x.heaps ++ [⟨ws.getD 1 [], []⟩] } := by unfold takeR; rw [if_neg k1, if_neg k2, if_neg k3, if_pos k4]
    have hb : (bif ws.getD 0 [] == bs [113, 117, 101, 117, 101] then ((ws.length : Int) == 2) else false) = true := by rw [k4.1, k4.2]; rfl
    rw [hb]
    simp only [J_b, D_nil]
    rw [join_eq, cond_true, nn_some', chk_of (inB_lit1 (by omega)), getw 1 s4 _ (.refl _) (by omega)]
    simp only [D_str]
    obtain ⟨i2, s5, g0, g1, g2, g3, g4⟩ := (c5.own hp24).push3 (β := List DV) (sz := 2) (n := x.heaps.length) (lim := 1759218604441) [.str (ws.getD 1 []), .slice 0 none 0] (by omega) hds rfl (by omega)
    rw [g4]
    simp only [J_a, J_i, J_l, D_nil]
    rw [etk] at done
    generalize ws.getD 1 [] = nm at *
    refine done _ s5 (some (i2, 0)) p2 p3 (ds ++ [.str nm, .slice 0 none 0]) (by unfold stC; rw [List.length_append]; rfl) g1.1 g2 ?_ ?_ (c7.kp g2) (c8.kp g2)
    · rcases g1.2 with ⟨h9, _⟩ | h9
      · cases h9
      · exact .inr h9
    · have c6' : HO st s5 ds x.heaps := c6.but g3 fun i n g hg hi o e => by
        rcases c5 with ⟨h9, _⟩ | ⟨i', h9, _, h10⟩
        · rw [h9] at e; cases e
        · rw [h9] at e
          cases e
          rw [hi] at h10
          injection h10 with e1
          injection e1 with e2
          injection e2 with _ e3
          exact ds_ents c6 (by have := (List.getElem?_eq_some_iff.1 hg).1; omega) _ e3.symm
      exact c6'.push nm
  have hb4 : (bif ws.getD 0 [] == bs [113, 117, 101, 117, 101] then ((ws.length : Int) == 2) else false) = false := by
    by_cases hy : ws.getD 0 [] = kQueue
    · rw [show ((ws.length : Int) == 2) = false from beq_eq_false_iff_ne.2 (fun e => k4 ⟨hy, by omega⟩)]
      cases (ws.getD 0 [] == bs [113, 117, 101, 117, 101]) <;> rfl
    · rw [show (ws.getD 0 [] == bs [113, 117, 101, 117, 101]) = false from beq_eq_false_iff_ne.2 hy]
      rfl
  rw [hb4]
  simp only [J_b, D_nil]
  rw [join_eq, cond_false, nn_some', chk_of (inB_lit0 h0), getw0]
  simp only [D_str]
  rw [join_eq]
  -- entry
  by_cases k5 : ws.getD 0 [] = kEntry ∧ ws.length = 4 ∧ (numsF ws).length = 2 ∧ 0 < x.heaps.length
  rotate_left
  · have etk : takeR x ws = x := by unfold takeR; rw [if_neg k1, if_neg k2, if_neg k3, if_neg k4, if_neg k5]
    rw [etk] at done
    have fin := done _ s4 p1 p2 p3 ds rfl hp24 (fun _ _ h => h) c5 c6 c7 c8
    by_cases e0 : ws.getD 0 [] = kEntry
    rotate_left
    · rw [show (ws.getD 0 [] == bs [101, 110, 116, 114, 121]) = false from beq_eq_false_iff_ne.2 e0, cond_false]
      simp only [J_b, D_nil]
      rw [join_eq, cond_false]
      simp only [J_b, D_nil]
      rw [join_eq, cond_false]
      simp only [J_b, D_nil]
      rw [join_eq, cond_false]
      simp only [J_a, J_i, J_l, D_nil]
      exact fin
    rw [show (ws.getD 0 [] == bs [101, 110, 116, 114, 121]) = true by rw [e0]; rfl, cond_true]
    simp only [J_b, D_nil]
    rw [join_eq]
    by_cases e2 : ws.length = 4
    rotate_left
    · rw [show ((ws.length : Int) == 4) = false from beq_eq_false_iff_ne.2 (by omega), cond_false]
      simp only [J_b, D_nil]
      rw [join_eq, cond_false]
      simp only [J_b, D_nil]
      rw [join_eq, cond_false]
      simp only [J_a, J_i, J_l, D_nil]
      exact fin
    rw [show ((ws.length : Int) == 4) = true by rw [e2]; rfl, cond_true]
    simp only [J_b, D_nil]
    rw [join_eq]
    by_cases e3 : (numsF ws).length = 2
    rotate_left
    · rw [show (((numsF ws).length : Int) == 2) = false from beq_eq_false_iff_ne.2 (by omega), cond_false]
      simp only [J_b, D_nil]
      rw [join_eq, cond_false]
      simp only [J_a, J_i, J_l, D_nil]
      exact fin
    rw [show (((numsF ws).length : Int) == 2) = true by rw [e3]; rfl, cond_true]
    simp only [J_b, D_nil]
    rw [join_eq, decide_eq_false (show ¬ (x.heaps.length : Int) > 0 from fun e => k5 ⟨e0, e2, e3, by omega⟩), cond_false]
    simp only [J_a, J_i, J_l, D_nil]
    exact fin
  obtain ⟨e0, e2, e3, e1⟩ := k5
  have etk : takeR x ws = addE x ⟨((handleF (ws.getD 1 [])).getD (0, 0)).1, ((handleF (ws.getD 1 [])).getD (0, 0)).2, (numsF ws).getD 0 0, (numsF ws).getD 1 0⟩ := by
    unfold takeR; rw [if_neg k1, if_neg k2, if_neg k3, if_neg k4, if_pos ⟨e0, e2, e3, e1⟩]
  rw [show (ws.getD 0 [] == bs [101, 110, 116, 114, 121]) = true by rw [e0]; rfl, cond_true]
  simp only [J_b, D_nil]
  rw [join_eq, show ((ws.length : Int) == 4) = true by rw [e2]; rfl, cond_true]
  simp only [J_b, D_nil]
  rw [join_eq, show (((numsF ws).length : Int) == 2) = true by rw [e3]; rfl, cond_true]
  simp only [J_b, D_nil]
  rw [join_eq, decide_eq_true (show (x.heaps.length : Int) > 0 by omega), cond_true, nn_some', chk_of (inB_lit1 (by omega)), getw 1 s4 _ (.refl _) (by omega)]
  simp only [D_str]
  generalize ws.getD 1 [] = hw at *
  refine Ok.call (ev_ref03_ReadHandle h.ref03_ReadHandle n hw (by omega) (by omega) s4) ?_
  rintro _ ⟨s5, rfl, hp5⟩
  refine ⟨_, s5, rfl, ?_⟩
  rw [outH_eq]
  simp only [J_a, J_i, J_b, D_nil]
  have c5 := c5.but (But.pre none hp5) (fun _ _ _ => by simp)
  have c6 := c6.but (But.pre none hp5) (fun _ _ _ _ _ _ => by simp)
  have c7 := c7.pre hp5
  have c8 := c8.pre hp5
  have hp25 := hp24.trans hp5
  obtain ⟨ib, rfl, hib, hsb⟩ : ∃ i, p1 = some (i, 0) ∧ st.length ≤ i ∧ s5[i]? = some (some ⟨false, ds⟩) := by
    rcases c5 with ⟨_, h9⟩ | h9
    · rw [h9] at hds; simp only [List.length_nil] at hds; omega
    · exact h9
  obtain ⟨m, hm⟩ : ∃ m, x.heaps.length = m + 1 := ⟨x.heaps.length - 1, by omega⟩
  obtain ⟨g, hg⟩ : ∃ g, x.heaps[m]? = some g := ⟨_, List.getElem?_eq_getElem (by omega)⟩
  have hge := ents_le (List.mem_of_getElem? hg)
  obtain ⟨z, p, hz, d1, d2, d3⟩ := c6.2.1 m g hg
  have hmi : ((m + 1 : Nat) : Int) - 1 = (m : Int) := by omega
  rw [nn_some', wr64_of (x := (x.heaps.length : Int) - 1) (by omega) (by omega), hm, hmi, chk_of (inB_of (by omega)), Int.toNat_natCast, load1_eq hsb (d := .slice z p g.ents.length) (by exact d2), D_slice_any 4 z p _ hz]
  obtain ⟨a, b, hq⟩ := hq3 (by omega)
  rw [hq, nn_some', chk_of (by rw [e3]; rfl), get a b 0 s5 _ hq hp5 (by omega)]
  simp only [D_int]
  rw [nn_some', chk_of (by rw [e3]; rfl), get a b 1 s5 _ hq hp5 (by omega)]
  simp only [D_int]
  generalize hee : (⟨((handleF hw).getD (0, 0)).1, ((handleF hw).getD (0, 0)).2, (numsF ws).getD 0 0, (numsF ws).getD 1 0⟩ : EntV) = e at *
  have hec : [DV.int .i64 ((handleF hw).getD (0, 0)).1, .int .i64 ((handleF hw).getD (0, 0)).2, .int .i64 ((numsF ws).getD 0 0), .int .i64 ((numsF ws).getD 1 0)] = entC e := by rw [← hee]; rfl
  rw [hec]
  obtain ⟨i2, s6, g0, g1, g2, g3, g4⟩ := (d3.own hp25).push3 (β := List DV) (sz := 4) (n := g.ents.length) (lim := 2199023255552) (entC e) (by omega) (entsC_len _) rfl (by omega)
  rw [g4]
  have hdl : m * 2 + 1 < ds.length := by omega
  have hspl : spl ds (m * 2 + 0 + 1) [DV.slice 4 (some (i2, 0)) (g.ents.length + 1)] = ds.set (m * 2 + 1) (.slice 4 (some (i2, 0)) (g.ents.length + 1)) := spl_set _ _ _ hdl
  have hpb : ∀ o, p ≠ some (ib, o) := by
    rintro o rfl
    rcases d3 with ⟨h9, _⟩ | ⟨i', h9, _, h10⟩
    · cases h9
    · cases h9
      rw [hsb] at h10
      injection h10 with e1
      injection e1 with e2
      injection e2 with _ e3
      exact ds_ents c6 (by omega) _ e3
  have hsb6 := g3 ib _ hsb hpb
  rw [nn_some', chk_of (inB_of (by omega)), store_eq hsb6 (by simp only [List.length_cons, List.length_nil]; omega), hspl]
  simp only [J_l, D_nil]
  rw [addE_eq (g := g) (by rw [hm]; exact hg), show x.heaps.length - 1 = m by omega] at etk
  have gown : st.length ≤ i2 ∧ s6[i2]? = some (some ⟨false, entsC (g.ents ++ [e])⟩) := by
    rcases g1.2 with ⟨h9, _⟩ | ⟨i', h9, h10, h11⟩
    · cases h9
    · cases h9
      refine ⟨h10, ?_⟩
      rw [h11, entsC_app]
      simp [entsC]
  rw [etk] at done
  have hk2 := Kp.set hsb6 (some ⟨false, ds.set (m * 2 + 1) (.slice 4 (some (i2, 0)) (g.ents.length + 1))⟩)
  exact done _ _ (some (ib, 0)) p2 p3 (ds.set (m * 2 + 1) (.slice 4 (some (i2, 0)) (g.ents.length + 1))) (by unfold stC; rw [List.length_set, hm]) (set_pre g1.1 hib _) (hp5.kp.trans (g2.trans hk2)) (.inr ⟨ib, rfl, hib, get_set_self hsb6 _⟩)
    (c6.upd hm hg d2 g0 g3 hsb hsb6 gown) ((c7.kp g2).kp hk2) ((c8.kp g2).kp hk2)
theorem law_law33_LedgerReads {Bd : Bodies} (h : H_law33_LedgerReads Bd) (s : St) (args : List DV) (_ : Frz s) (ht : Tabs s) (hr : RdA s [(false, .s)] args) : ∃ n s', run Bd n 164 args s = some (.val [.bool true], s') := by
  obtain ⟨_, _, _, ⟨l, rfl, _⟩, hr1, rfl, hd0⟩ := hr
  cases hr1
  cases hd0
  refine ok_true (n := 100000) ?_
  rw [run_succ, h.eq]
  unfold b_law33_LedgerReads
  simp only [J_s, D_nil]
  refine Ok.call (ev_law33_awake h.law33_awake 99999 (by omega) s ht) ?_
  rintro _ ⟨s1, rfl, hp1⟩
  refine ⟨_, s1, rfl, ?_⟩
  have ht1 := ht.mono hp1
  simp only [J_b, D_nil]
  rw [join_eq, Bool.not_true, cond_false]
  simp only [J_b, D_nil]
  by_cases hl : (l.length : Int) > 3000
  · rw [decide_eq_true hl, cond_true]
    refine Ok.call (ev_law33_awake h.law33_awake 99999 (by omega) s1 ht1) ?_
    rintro _ ⟨s2, rfl, hp2⟩
    refine ⟨_, s2, rfl, ?_⟩
    simp only [J_b, D_nil, ret_eq]
    exact .mk ⟨s2, rfl⟩
  rw [decide_eq_false hl, cond_false]
  have hl4 : l.length ≤ 40000 := by omega
  refine Ok.call (ev_ledger_Read h.ledger_Read 99999 l s1 ht1 hl4 (by omega)) ?_
  rintro _ ⟨b, cells, s2, rfl, hp2, hb, hst⟩
  refine ⟨_, s2, rfl, ?_⟩
  have hz := rdOk_iff hl4
  have hx1 : (if b = true then PInv 40001 (parseS l) else PInv 40001 zeroS) := by
    split
    · exact parse_pinv l hl4
    · exact PInv.zero.up (by omega)
  have hpv : PInv 40001 (if b = true then parseS l else zeroS) := by
    cases b with
    | true => exact hx1
    | false => exact hx1
  have hxt : b = true → MayP (if b = true then parseS l else zeroS) ∧ textS (if b = true then parseS l else zeroS) = l := fun e => by
    rw [if_pos e]
    exact hb.1 e
  have hxy : ∀ c : Bool, (c = true ↔ RdOkR l) → c = b ∧ (if b = true then parseS l else zeroS) = (if c = true then parseR l else zeroS) := fun c hc => by
    have e : c = b := by rw [Bool.eq_iff_iff, hc, hb, hz.1]
    refine ⟨e, ?_⟩
    subst e
    cases c with
    | false => rfl
    | true => rw [if_pos rfl, if_pos rfl]; exact hz.2 (hb.1 rfl)
  clear hx1
  generalize (if b = true then parseS l else zeroS) = x at *
  obtain ⟨z1, p1, z2, p2, z3, p3, rfl, hz1, hz2, hz3, hsx⟩ := hst
  have ag : ∀ (v : StV) (z1 z2 z3 : Nat) (p1 p2 p3 : Option (Nat × Nat)) (l : List DV) (K : List DV → List DV → M (List DV)), J.a (.agg (stC v z1 p1 z2 p2 z3 p3) :: l) K = K (stC v z1 p1 z2 p2 z3 p3) l := fun _ _ _ _ _ _ _ _ _ => rfl
  rw [ag]
  unfold stC
  simp only [J_i, J_b, J_l_any 2 z1 p1 _ hz1, J_l_any 1 z2 p2 _ hz2, J_l_any 1 z3 p3 _ hz3, D_nil]
  refine Ok.call (ev_ref33_Read h.ref33_Read 99999 l s2 hl4 (by omega)) ?_
  rintro _ ⟨c, cells, s3, rfl, hp3, hc, hst⟩
  refine ⟨_, s3, rfl, ?_⟩
  obtain ⟨rfl, hxe⟩ := hxy c hc
  rw [← hxe] at hst
  obtain ⟨w1, q1, w2, q2, w3, q3, rfl, hw1, hw2, hw3, hsy⟩ := hst
  rw [ag]
  unfold stC
  simp only [J_i, J_b, J_l_any 2 w1 q1 _ hw1, J_l_any 1 w2 q2 _ hw2, J_l_any 1 w3 q3 _ hw3, D_nil]
  have sz := hpv.sz (by omega)
  have beqs : ∀ b : Bool, (b == b) = true := fun b => by cases b <;> rfl
  rw [join_eq, beqs, Bool.not_true, cond_false]
  have hsx3 := hsx.pre hp3
  refine Ok.call (ev_ref26_Same h.ref26_Same 99999 x x 2 1 1 p1 p2 p3 2 1 1 q1 q2 q3 s3 (.inl rfl) (.inl rfl) (.inl rfl) (.inl rfl) (.inl rfl) (.inl rfl) hsx3 hsy sz (by omega)) ?_
  rintro _ ⟨e, rfl, he⟩
  have := he.2 rfl
  subst this
  refine ⟨_, s3, rfl, ?_⟩
  simp only [J_b, D_nil]
  rw [Bool.not_true, cond_false]
  refine Ok.call (ev_ledger_Print h.ledger_Print 99999 x 2 1 1 p1 p2 p3 s3 (ht1.mono (hp2.trans hp3)) (.inl rfl) (.inl rfl) (.inl rfl) hsx3 sz hpv.rg (by omega)) ?_
  rintro _ ⟨d, s4, rfl, hp4, hd⟩
  refine ⟨_, s4, rfl, ?_⟩
  unfold prOut
  simp only [J_s, J_b, D_nil]
  rw [join_eq]
  cases c with
  | false =>
    rw [Bool.not_false, cond_true]
    simp only [J_b, D_nil]
    rw [ret_eq]
    exact .mk ⟨s4, rfl⟩
  | true =>
    obtain ⟨hm, htx⟩ := hxt rfl
    have := hd.2 hm
    subst this
    rw [Bool.not_true, cond_false, join_eq, cond_true, if_pos rfl, htx, beq_self_eq_true]
    simp only [J_b, D_nil]
    rw [ret_eq]
    exact .mk ⟨s4, rfl⟩
end Go.Gv.F
