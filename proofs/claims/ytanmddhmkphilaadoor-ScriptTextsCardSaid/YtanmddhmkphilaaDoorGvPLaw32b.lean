/- The laws of lines: an act's, and a script's. -/
import Derived.Test.YtanmddhmkphilaaDoorGvPLine32
namespace Go.Gv.F
open Go.Gv

theorem showF_len {a : ActV} (hs : smallF a = true) (hr : ActR a) : (showF a).1.length ≤ 2440 := by
  unfold showF
  split
  · exact Nat.zero_le _
  · cases hf : cmds.find? fun c : Cmd => c.2.2 == a.dn with
    | none => exact Nat.zero_le _
    | some c =>
      have h1 := wordsA_small hs hr c (List.mem_of_find?_eq_some hf)
      show (if okW a (wordsA a c) then (Lib.join (wordsA a c) [32], true) else ([], false) : List UInt8 × Bool).1.length ≤ 2440
      cases hok : okW a (wordsA a c) with
      | false => rw [if_neg Bool.false_ne_true]; exact Nat.zero_le _
      | true =>
        rw [if_pos rfl]
        unfold okW at hok
        rw [Bool.and_eq_true, decide_eq_true_eq] at hok
        have := join_len 60 h1.2
        have := hok.1.1
        show (Lib.join (wordsA a c) [32]).length ≤ 2440
        omega

theorem law_law32_ScriptShows {Bd : Bodies} (h : H_law32_ScriptShows Bd) (s : St) (args : List DV) (_ : Frz s) (ht : Tabs s) (hr : RdA s [(true, actTy)] args) : ∃ n s', run Bd n 123 args s = some (.val [.bool true], s') := by
  obtain ⟨_, d, _, hx, hr2, rfl, hd⟩ := hr
  cases hr2
  obtain ⟨x, zx, p, rfl, hzx, hpx, hxr⟩ := rd_act hx
  have hd : d = .agg (actC x zx p) := hd
  subst hd
  refine ok_true (n := 10000) ?_
  rw [run_succ, h.eq]
  unfold b_law32_ScriptShows
  have ag : ∀ (v : ActV) (z : Nat) (r : Option (Nat × Nat)) (l : List DV) (K : List DV → List DV → M (List DV)), J.a (.agg (actC v z r) :: l) K = K (actC v z r) l := fun _ _ _ _ _ => rfl
  rw [ag]
  unfold actC
  simp only [J_i, J_s, J_l_any 1 zx p _ hzx, D_nil]
  refine Ok.call (ev_law32_awake h.law32_awake 9999 (by omega) s ht) ?_
  rintro _ ⟨s1, rfl, hp1⟩
  refine ⟨_, s1, rfl, ?_⟩
  simp only [J_b, D_nil]
  rw [join_eq, Bool.not_true, cond_false]
  refine Ok.call (Ok.mk' (ev_law32_Small h.law32_Small 9998 x 1 p (.inl rfl) s1)) ?_
  rintro _ rfl
  refine ⟨_, s1, rfl, ?_⟩
  simp only [J_b, D_nil]
  cases hsx : smallF x with
  | false =>
    rw [Bool.not_false, cond_true]
    refine Ok.call (ev_law32_awake h.law32_awake 9999 (by omega) s1 (ht.mono hp1)) ?_
    rintro _ ⟨s2, rfl, hp2⟩
    refine ⟨_, s2, rfl, ?_⟩
    simp only [J_b, D_nil, ret_eq]
    exact .mk ⟨s2, rfl⟩
  | true =>
  rw [Bool.not_true, cond_false]
  have hpx1 := hpx.mono hp1
  have ht1 := ht.mono hp1
  refine Ok.call (ev_script_Show h.script_Show 9999 x 1 p s1 ht1 (.inl rfl) hpx1 hxr hsx (by omega)) ?_
  rintro _ ⟨s2, rfl, hp2⟩
  refine ⟨_, s2, rfl, ?_⟩
  simp only [J_s, J_b, D_nil]
  refine Ok.call (ev_ref32_Line h.ref32_Line 9999 x 1 p s2 (.inl rfl) (hpx1.mono hp2) hxr hsx (by omega)) ?_
  rintro _ ⟨s3, rfl, hp3⟩
  refine ⟨_, s3, rfl, ?_⟩
  have hl := showF_len hsx hxr
  have hrl : (showF x).2 = true → readT (showF x).1 = ([x], 0, 0) := fun h2 => read_line (Prod.ext rfl h2) (by omega)
  generalize showF x = L at *
  obtain ⟨l, ok⟩ := L
  have beqs : ∀ b : Bool, (b == b) = true := fun b => by cases b <;> rfl
  simp only [J_s, J_b, D_nil]
  rw [join_eq, beqs, Bool.not_true, cond_false, beq_self_eq_true, Bool.not_true]
  simp only [J_b, D_nil]
  rw [cond_false]
  cases ok with
  | false =>
    rw [Bool.not_false, cond_true, ret_eq]
    exact .mk ⟨s3, rfl⟩
  | true =>
  rw [Bool.not_true, cond_false]
  have hrl := hrl rfl
  have hp23 := hp2.trans hp3
  refine Ok.call (ev_script_Read h.script_Read 9999 l (by omega) s3 (ht1.mono hp23)) ?_
  rintro _ ⟨z4, a4, ds, s4, rfl, hz4, hp4, hf4, hac⟩
  refine ⟨_, s4, rfl, ?_⟩
  rw [hrl] at hac ⊢
  simp only [J_l_any 8 z4 a4 _ hz4, J_i, D_nil]
  have hdl := hac.len
  obtain ⟨i, o, rfl⟩ := hf4.1.some_of (by rw [hdl]; show 0 < 1 * 8; omega)
  obtain ⟨b, hb, hfb⟩ := hac.get (j := 0) (x := x) rfl
  have hl50 : x.list.length ≤ 50 := by
    unfold smallF at hsx
    simp only [Bool.and_eq_true, decide_eq_true_eq] at hsx
    exact hsx.2.2
  have ld : ∀ K : List DV → M (List DV), M.load i (0 + o) 8 K s4 = K (actC x 1 b) s4 := fun K => by
    have := hf4.1.gets (k := 0) (n := 8) (by rw [hdl]; show 0 + 8 ≤ 1 * 8; omega) K
    rw [this]
    have hb : (ds.drop 0).take 8 = actC x 1 b := hb
    rw [hb]
  have hpx4 := hpx1.mono (hp23.trans hp4)
  have c1 : inB 0 ([x] : List ActV).length = true := rfl
  have c2 : ((([x] : List ActV).length : Int) == 1) = true := rfl
  rw [join_eq, show ((0 : Int) == 0) = true from rfl, cond_true]
  simp only [J_b, D_nil]
  rw [show (((0 : Nat) : Int) == 0) = true from rfl, join_eq, cond_true]
  simp only [J_b, D_nil]
  rw [c2, join_eq, cond_true, nn_some', c1, chk_true, ld]
  unfold actC
  simp only [J_i, J_s, J_l, D_nil]
  refine Ok.call (ev_ref32_Same h.ref32_Same 9999 x x 1 1 b p s4 (.inl rfl) (.inl rfl) hfb.1 hpx4 (by omega) (by omega)) ?_
  rintro _ rfl
  refine ⟨_, s4, rfl, ?_⟩
  simp only [sameF_refl, J_b, D_nil]
  rw [join_eq, cond_true, nn_some', chk_true, ld]
  unfold actC
  simp only [J_i, J_s, J_l, D_nil]
  refine Ok.call (ev_script_Same h.script_Same 9999 x x 1 1 b p s4 (.inl rfl) (.inl rfl) hfb.1 hpx4 (by omega) (by omega)) ?_
  rintro _ rfl
  refine ⟨_, s4, rfl, ?_⟩
  simp only [sameF_refl, J_b, D_nil, ret_eq]
  exact .mk ⟨s4, rfl⟩

/-! ### Lists of acts as arguments -/
theorem rd_act1 {s : St} {cs : List DV} (h : Rd s actTy cs) : ∃ x p, cs = actC x 1 p ∧ Sl s p (ints x.list) ∧ ActR x := by
  obtain ⟨x, z, p, e, hz, hs, hr⟩ := rd_act h
  refine ⟨x, p, ?_, hs, hr⟩
  subst e
  suffices hz1 : z = 1 by rw [hz1]
  obtain ⟨_, _, e1, ⟨dn, rfl, _, _⟩, ⟨_, _, rfl, ⟨nm, rfl, _⟩, ⟨_, _, rfl, ⟨ot, rfl, _⟩, ⟨_, _, rfl, ⟨_, _, rfl, ⟨h1, rfl, _, _⟩, ⟨_, _, rfl, ⟨h2, rfl, _, _⟩, hu⟩⟩, ⟨_, _, rfl, ⟨ky, rfl, _, _⟩, ⟨_, _, rfl, ⟨vl, rfl, _, _⟩, ⟨l, _, rfl, hl, hu2⟩⟩⟩⟩⟩⟩⟩ := h
  cases hu
  cases hu2
  rcases hl with hl | ⟨i, n, cs, hl, _⟩
  · rw [hl] at e1
    unfold actC at e1
    simp only [List.cons_append, List.nil_append, List.cons.injEq, DV.slice.injEq] at e1
    exact e1.2.2.2.2.2.2.2.1.1
  · rw [hl] at e1
    unfold actC at e1
    simp only [List.cons_append, List.nil_append, List.cons.injEq, DV.slice.injEq] at e1
    exact e1.2.2.2.2.2.2.2.1.1

theorem rd_actsL {s : St} (hf : Frz s) : ∀ (n : Nat) (cs : List DV), cs.length = n * 8 → (∀ j, j < n → Rd s actTy ((cs.drop (j * 8)).take 8)) → ∃ xs : List ActV, xs.length = n ∧ Acts s cs xs ∧ ∀ x ∈ xs, ActR x
  | 0, cs, hl, _ => ⟨[], rfl, List.eq_nil_of_length_eq_zero (by omega), fun x hx => by cases hx⟩
  | n + 1, cs, hl, h => by
    have h0 := h 0 (by omega)
    rw [Nat.zero_mul, List.drop_zero] at h0
    obtain ⟨x, p, e, hs, hr⟩ := rd_act1 h0
    obtain ⟨xs, g1, g2, g3⟩ := rd_actsL hf n (cs.drop 8) (by rw [List.length_drop]; omega) fun j hj => by
      have := h (j + 1) (by omega)
      rw [List.drop_drop, show 8 + j * 8 = (j + 1) * 8 by omega]
      exact this
    refine ⟨x :: xs, by simp [g1], ⟨p, cs.drop 8, by rw [← e, List.take_append_drop], hs.fz hf, g2⟩, fun y hy => ?_⟩
    rcases List.mem_cons.1 hy with rfl | hy
    · exact hr
    · exact g3 y hy

theorem rd_acts {s : St} (hf : Frz s) {d : DV} (h : Rd s (.sl actTy) [d]) : ∃ p xs ds, d = .slice 8 p (List.length xs) ∧ Sl s p ds ∧ Acts s ds xs ∧ ∀ x ∈ xs, ActR x := by
  rcases h with h | ⟨i, n, cs, h1, h2, h3, _, h5⟩
  · exact ⟨none, [], [], (List.cons.inj h).1, rfl, rfl, fun x hx => by cases hx⟩
  · obtain ⟨xs, g1, g2, g3⟩ := rd_actsL hf n cs h3 h5
    refine ⟨some (i, 0), xs, cs, ?_, ⟨true, cs, h2, by simp, by rw [List.drop_zero, List.take_length]⟩, g2, g3⟩
    rw [(List.cons.inj h1).1, g1]
    rfl

/-! ### Scripts -/
def linesA (xs : List ActV) : List (List UInt8) := xs.map fun x => (showF x).1
def allOk (xs : List ActV) : Bool := xs.all fun x => (showF x).2
def textF (xs : List ActV) : List UInt8 × Bool := if allOk xs = true ∧ (textL (linesA xs)).length ≤ 4000 then (textL (linesA xs), true) else ([], false)
theorem textL_snoc (ls : List (List UInt8)) (l : List UInt8) : textL (ls ++ [l]) = textL ls ++ (l ++ [10]) := by
  unfold textL
  rw [List.map_append, List.flatten_append, List.map_cons, List.map_nil, List.flatten_cons, List.flatten_nil, List.append_nil]
theorem textL_app (ls ms : List (List UInt8)) : textL (ls ++ ms) = textL ls ++ textL ms := by
  unfold textL
  rw [List.map_append, List.flatten_append]
theorem linesA_take (xs : List ActV) {i : Nat} (h : i < xs.length) : linesA (xs.take (i + 1)) = linesA (xs.take i) ++ [(showF xs[i]).1] := by
  unfold linesA
  rw [List.take_succ_eq_append_getElem h, List.map_append]
  rfl
theorem linesA_le (xs : List ActV) (i : Nat) : (textL (linesA (xs.take i))).length ≤ (textL (linesA xs)).length := by
  have e : linesA xs = linesA (xs.take i) ++ linesA (xs.drop i) := by
    unfold linesA
    rw [← List.map_append, List.take_append_drop]
  rw [e, textL_app, List.length_append]
  omega
theorem allOk_take (xs : List ActV) {i : Nat} (h : i < xs.length) : allOk (xs.take (i + 1)) = (allOk (xs.take i) && (showF xs[i]).2) := by
  unfold allOk
  rw [List.take_succ_eq_append_getElem h, List.all_append]
  simp
theorem allOk_mem {xs : List ActV} (h : allOk xs = true) {i : Nat} (hi : i < xs.length) : (showF xs[i]).2 = true := List.all_eq_true.1 h _ (List.getElem_mem hi)

theorem ev_script_Text {Bd : Bodies} (h : H_script_Text Bd) (n : Nat) (xs : List ActV) (z : Nat) (p : Option (Nat × Nat)) (ds : List DV) (st : St) (ht : Tabs st) (hz : z = 8 ∨ p = none) (hsl : Sl st p ds) (hac : Acts st ds xs)
    (hx : ∀ x ∈ xs, smallF x = true ∧ ActR x) (hn : xs.length + 3010 ≤ n) (hxl : xs.length ≤ 100000) :
    Ok (fun o => ∃ s', o = (.val [.str (textF xs).1, .bool (textF xs).2], s') ∧ Pre st s') (run Bd n 127 [.slice z p xs.length] st) := by
  obtain ⟨n, rfl⟩ : ∃ m, n = m + 1 := ⟨n - 1, by omega⟩
  rw [run_succ, h.eq]
  unfold b_script_Text
  simp only [J_l_any 8 z p _ hz, D_nil]
  rw [join_eq]
  have hdl := hac.len
  refine loop_rule _ (fun k x s => ∃ i : Nat, x = [.str (textL (linesA (xs.take i))), .int .i64 i] ∧ i ≤ xs.length ∧ xs.length - i ≤ k ∧ Pre st s ∧ allOk (xs.take i) = true ∧ (textL (linesA (xs.take i))).length ≤ 4000) ?_ xs.length n _ _ ⟨0, rfl, Nat.zero_le _, by omega, .refl _, rfl, Nat.zero_le _⟩ (by omega)
  rintro k _ s ⟨i, rfl, hi, hk, hp, hok, hlen⟩ rec hrec
  simp only [J_s, J_i, D_nil]
  by_cases hlt : i < xs.length
  · have e : decide ((i : Int) < (xs.length : Int)) = true := decide_eq_true (by omega)
    obtain ⟨q, o, rfl⟩ := hsl.some_of (by omega)
    obtain ⟨b, hb, hfb⟩ := hac.get (List.getElem?_eq_getElem hlt)
    have hxi := hx _ (List.getElem_mem hlt)
    have hsl' := showF_len hxi.1 hxi.2
    rw [e, cond_true, nn_some', chk_of (inB_of hlt), Int.toNat_natCast, (hsl.mono hp).gets (by omega), hb]
    unfold actC
    simp only [J_i, J_s, J_l, D_nil]
    refine Ok.call (ev_script_Show h.script_Show n xs[i] 1 b s (ht.mono hp) (.inl rfl) (hfb.pre hp).1 hxi.2 hxi.1 (by omega)) ?_
    rintro _ ⟨s1, rfl, hp1⟩
    refine ⟨_, s1, rfl, ?_⟩
    simp only [J_s, J_b, D_nil]
    have hfail : ¬ (allOk (xs.take (i + 1)) = true ∧ (textL (linesA (xs.take (i + 1)))).length ≤ 4000) → textF xs = ([], false) := by
      intro hno
      unfold textF
      rw [if_neg]
      rintro ⟨h1, h2⟩
      refine hno ⟨?_, Nat.le_trans (linesA_le xs _) h2⟩
      unfold allOk at h1 ⊢
      rw [List.all_eq_true] at h1 ⊢
      exact fun x hx => h1 x (List.mem_of_mem_take hx)
    have hF : textF xs = ([], false) → Ok (fun o : Out (List DV) × St => ∃ s', o = (.val [.str (textF xs).1, .bool (textF xs).2], s') ∧ Pre st s') ((M.ret [.str (bs []), .bool false] : M (List DV)) s1) := by
      intro e
      rw [e, ret_eq]
      exact .mk ⟨s1, rfl, hp.trans hp1⟩
    have hln : (textL (linesA (xs.take (i + 1)))).length = (textL (linesA (xs.take i))).length + ((showF xs[i]).1.length + 1) := by
      rw [linesA_take xs hlt, textL_snoc]
      simp
    rw [join_eq]
    cases hsk : (showF xs[i]).2 with
    | false =>
      rw [Bool.not_false, cond_true]
      simp only [J_b, D_nil]
      rw [cond_true]
      refine hF (hfail ?_)
      rw [allOk_take xs hlt, hsk, Bool.and_false]
      rintro ⟨h, _⟩
      cases h
    | true =>
      rw [Bool.not_true, cond_false]
      simp only [J_b, D_nil]
      have w1 : wr64 (((textL (linesA (xs.take i))).length : Int) + ((showF xs[i]).1.length : Int)) = ((textL (linesA (xs.take i))).length : Int) + ((showF xs[i]).1.length : Int) := wr64_of (by omega) (by omega)
      rw [w1, wr64_of (by omega) (by omega)]
      by_cases hov : (textL (linesA (xs.take (i + 1)))).length ≤ 4000
      · have e5 : decide (((textL (linesA (xs.take i))).length : Int) + ((showF xs[i]).1.length : Int) + 1 > 4000) = false := decide_eq_false (by omega)
        have b10 : (bs [10] : List UInt8) = [10] := rfl
        rw [e5, cond_false, b10, chk_of (Nat.ble_eq_true_of_le (by show _ + 1 ≤ _; omega)), chk_of (Nat.ble_eq_true_of_le (by rw [List.length_append]; show _ + (_ + 1) ≤ _; omega)), wr64_of (by omega) (by omega), ← textL_snoc, ← linesA_take xs hlt]
        exact hrec (xs.length - (i + 1)) _ _ (by omega) ⟨i + 1, rfl, by omega, by omega, hp.trans hp1, by rw [allOk_take xs hlt, hok, hsk]; rfl, hov⟩
      · have e5 : decide (((textL (linesA (xs.take i))).length : Int) + ((showF xs[i]).1.length : Int) + 1 > 4000) = true := decide_eq_true (by omega)
        rw [e5, cond_true]
        exact hF (hfail fun h => hov h.2)
  · have e : decide ((i : Int) < (xs.length : Int)) = false := decide_eq_false (by omega)
    rw [e, cond_false, ret_eq]
    rw [List.take_of_length_le (by omega)] at hok hlen ⊢
    have : textF xs = (textL (linesA xs), true) := by
      unfold textF
      rw [if_pos ⟨hok, hlen⟩]
    rw [this]
    exact .mk ⟨s, rfl, hp⟩

theorem law_law32_ScriptTexts {Bd : Bodies} (h : H_law32_ScriptTexts Bd) (s : St) (args : List DV) (hfr : Frz s) (ht : Tabs s) (hr : RdA s [(false, .sl actTy)] args) : ∃ n s', run Bd n 126 args s = some (.val [.bool true], s') := by
  obtain ⟨_, d, _, hx, hr2, rfl, hd⟩ := hr
  cases hr2
  cases hd
  obtain ⟨p, xs, ds, rfl, hsl, hac, hxr⟩ := rd_acts hfr hx
  refine ok_true (n := 10000) ?_
  rw [run_succ, h.eq]
  unfold b_law32_ScriptTexts
  simp only [J_l, D_nil]
  refine Ok.call (ev_law32_awake h.law32_awake 9999 (by omega) s ht) ?_
  rintro _ ⟨s1, rfl, hp1⟩
  refine ⟨_, s1, rfl, ?_⟩
  simp only [J_b, D_nil]
  have ht1 := ht.mono hp1
  rw [join_eq, Bool.not_true, cond_false]
  simp only [J_b, D_nil]
  by_cases h1 : xs.length > 60
  · have e : decide ((xs.length : Int) > 60) = true := decide_eq_true (by omega)
    rw [e, cond_true]
    refine Ok.call (ev_law32_awake h.law32_awake 9999 (by omega) s1 ht1) ?_
    rintro _ ⟨s2, rfl, hp2⟩
    refine ⟨_, s2, rfl, ?_⟩
    simp only [J_b, D_nil, ret_eq]
    exact .mk ⟨s2, rfl⟩
  have e1 : decide ((xs.length : Int) > 60) = false := decide_eq_false (by omega)
  rw [e1, cond_false, join_eq]
  have hdl := hac.len
  refine loop_rule _ (fun k x s2 => ∃ i : Nat, x = [.str (textL (linesA (xs.take i))), .bool (allOk (xs.take i)), .int .i64 i] ∧ i ≤ xs.length ∧ xs.length - i ≤ k ∧ Pre s1 s2 ∧ (∀ x ∈ xs.take i, smallF x = true) ∧ (textL (linesA (xs.take i))).length ≤ i * 2441)
    ?_ xs.length 9999 _ _ ⟨0, rfl, Nat.zero_le _, by omega, .refl _, (by simp), Nat.zero_le _⟩ (by omega)
  rintro k _ s2 ⟨i, rfl, hi, hk, hp2, hsm, hlen⟩ rec hrec
  simp only [J_s, J_b, J_i, D_nil]
  have hp12 := hp1.trans hp2
  by_cases hlt : i < xs.length
  · have e : decide ((i : Int) < (xs.length : Int)) = true := decide_eq_true (by omega)
    obtain ⟨q, o, rfl⟩ := hsl.some_of (by omega)
    obtain ⟨b, hb, hfb⟩ := hac.get (List.getElem?_eq_getElem hlt)
    have hxi := hxr _ (List.getElem_mem hlt)
    have ld : ∀ (K : List DV → M (List DV)) (s' : St), Pre s s' → M.load q (i * 8 + o) 8 K s' = K (actC xs[i] 1 b) s' := fun K s' hp => by
      rw [(hsl.mono hp).gets (by omega), hb]
    rw [e, cond_true, nn_some', chk_of (inB_of hlt), Int.toNat_natCast, ld _ _ hp12]
    unfold actC
    simp only [J_i, J_s, J_l, D_nil]
    refine Ok.call (Ok.mk' (ev_law32_Small h.law32_Small 9998 xs[i] 1 b (.inl rfl) s2)) ?_
    rintro _ rfl
    refine ⟨_, s2, rfl, ?_⟩
    simp only [J_b, D_nil]
    cases hsx : smallF xs[i] with
    | false =>
      rw [Bool.not_false, cond_true, ret_eq]
      exact .mk ⟨s2, rfl⟩
    | true =>
    have hsl' := showF_len hsx hxi
    rw [Bool.not_true, cond_false, nn_some', chk_of (inB_of hlt), ld _ _ hp12]
    unfold actC
    simp only [J_i, J_s, J_l, D_nil]
    refine Ok.call (ev_ref32_Line h.ref32_Line 9999 xs[i] 1 b s2 (.inl rfl) (hfb.pre hp12).1 hxi hsx (by omega)) ?_
    rintro _ ⟨s3, rfl, hp3⟩
    refine ⟨_, s3, rfl, ?_⟩
    simp only [J_s, J_b, D_nil]
    have b10 : (bs [10] : List UInt8) = [10] := rfl
    have hnew : (textL (linesA (xs.take i)) ++ (showF xs[i]).1) ++ [10] = textL (linesA (xs.take (i + 1))) := by
      rw [linesA_take xs hlt, textL_snoc, List.append_assoc]
    have hnl : (textL (linesA (xs.take (i + 1)))).length ≤ (i + 1) * 2441 := by
      rw [← hnew]
      simp only [List.length_append, List.length_singleton]
      omega
    refine join_rule (fun x s => s3 = s ∧ x = [.bool (allOk (xs.take (i + 1)))]) ?_ ?_
    · rintro _ _ ⟨rfl, rfl⟩
      simp only [J_b, D_nil]
      rw [b10, chk_of (Nat.ble_eq_true_of_le (by omega)), chk_of (Nat.ble_eq_true_of_le (by rw [List.length_append]; show _ + 1 ≤ _; omega)), hnew, wr64_of (by omega) (by omega)]
      refine hrec (xs.length - (i + 1)) _ _ (by omega) ⟨i + 1, rfl, by omega, by omega, hp2.trans hp3, fun y hy => ?_, hnl⟩
      rw [List.take_succ_eq_append_getElem hlt] at hy
      rcases List.mem_append.1 hy with h | h
      · exact hsm y h
      · rw [List.mem_singleton.1 h]; exact hsx
    · intro jk hjk
      have hok := allOk_take xs hlt
      cases ha : allOk (xs.take i) with
      | true =>
        rw [cond_true]
        exact hjk _ _ ⟨rfl, by rw [hok, ha, Bool.true_and]⟩
      | false =>
        rw [cond_false]
        exact hjk _ _ ⟨rfl, by rw [hok, ha, Bool.false_and]⟩
  · have e : decide ((i : Int) < (xs.length : Int)) = false := decide_eq_false (by omega)
    have hix : xs.take i = xs := List.take_of_length_le (by omega)
    rw [hix] at hsm hlen ⊢
    rw [e, cond_false]
    refine Ok.call (ev_script_Text h.script_Text 9999 xs 8 p ds s2 (ht.mono hp12) (.inl rfl) (hsl.mono hp12) (hac.kp hp12.kp) (fun x hx => ⟨hsm x hx, hxr x hx⟩) (by omega) (by omega)) ?_
    rintro _ ⟨s3, rfl, hp3⟩
    refine ⟨_, s3, rfl, ?_⟩
    have hp13 := hp12.trans hp3
    simp only [J_s, J_b, D_nil]
    refine join_rule (fun x s => s3 = s ∧ x = [.bool (!(allOk xs && decide ((textL (linesA xs)).length ≤ 4000)))]) ?_ ?_
    rotate_left
    · intro jk hjk
      cases ha : allOk xs with
      | false =>
        rw [Bool.not_false, cond_true]
        exact hjk _ _ ⟨rfl, by rw [ha]; rfl⟩
      | true =>
        rw [Bool.not_true, cond_false]
        refine hjk _ _ ⟨rfl, ?_⟩
        rw [ha, Bool.true_and]
        have : decide (((textL (linesA xs)).length : Int) > 4000) = !decide ((textL (linesA xs)).length ≤ 4000) := by
          rw [← decide_not, decide_eq_decide]
          omega
        rw [this]
    rintro _ _ ⟨rfl, rfl⟩
    simp only [J_b, D_nil]
    by_cases hgood : allOk xs = true ∧ (textL (linesA xs)).length ≤ 4000
    · have htf : textF xs = (textL (linesA xs), true) := by unfold textF; rw [if_pos hgood]
      rw [hgood.1, decide_eq_true hgood.2, htf]
      rw [Bool.true_and, Bool.not_true, cond_false]
      have hrt : readT (textL (linesA xs)) = (xs ++ [zeroA], 0, 0) := read_text (fun x hx => List.all_eq_true.1 hgood.1 x hx) hgood.2
      generalize textL (linesA xs) = T at *
      refine Ok.call (ev_script_Read h.script_Read 9999 T (by omega) s3 (ht.mono hp13)) ?_
      rintro _ ⟨z4, a4, ds4, s4, rfl, hz4, hp4, hf4, hac4⟩
      refine ⟨_, s4, rfl, ?_⟩
      rw [hrt] at hac4 ⊢
      have hac4 : Acts s4 ds4 (xs ++ [zeroA]) := hac4
      simp only [J_l_any 8 z4 a4 _ hz4, J_i, D_nil]
      have hd4 := hac4.len
      have hll : (xs ++ [zeroA]).length = xs.length + 1 := by simp
      rw [hll] at hd4
      obtain ⟨i4, o4, rfl⟩ := hf4.1.some_of (by omega)
      have hp14 := hp13.trans hp4
      have eT : (T == T) = true := beq_self_eq_true T
      have ei : ((0 : Int) == 0) = true := rfl
      have en : (((0 : Nat) : Int) == 0) = true := rfl
      simp only [eT, ei, en, Bool.not_true]
      rw [join_eq, cond_false]
      simp only [J_b, D_nil]
      rw [join_eq, cond_false]
      simp only [J_b, D_nil]
      rw [join_eq, cond_false]
      simp only [J_b, D_nil]
      have w1 : wr64 ((xs.length : Int) + 1) = ((xs.length + 1 : Nat) : Int) := wr64_of (by omega) (by omega)
      rw [join_eq, cond_false, w1, hll, beq_self_eq_true, Bool.not_true]
      simp only [J_b, D_nil]
      obtain ⟨b0, hb0, hfb0⟩ := hac4.get (j := xs.length) (x := zeroA) (by simp)
      rw [join_eq, cond_false, nn_some', chk_of (inB_of (by omega)), Int.toNat_natCast, hf4.1.gets (by omega), hb0]
      unfold actC
      simp only [J_i, J_s, J_l, D_nil]
      refine Ok.call (ev_ref32_Same h.ref32_Same 9999 zeroA zeroA 1 0 b0 none s4 (.inl rfl) (.inr rfl) hfb0.1 (Sl.nil _) (by show 0 + 3 ≤ 9999; omega) (by show 0 < 1000000; omega)) ?_
      rintro _ rfl
      refine ⟨_, s4, rfl, ?_⟩
      simp only [sameF_refl, J_b, D_nil]
      rw [Bool.not_true, cond_false, join_eq]
      refine loop_rule _ (fun k x s9 => ∃ i : Nat, x = [.int .i64 i] ∧ i ≤ xs.length ∧ xs.length - i ≤ k ∧ s9 = s4) ?_ xs.length 9999 _ _ ⟨0, rfl, Nat.zero_le _, by omega, rfl⟩ (by omega)
      rintro k _ s9 ⟨i, rfl, hi, hk, rfl⟩ rec hrec
      simp only [J_i, D_nil]
      by_cases hlt : i < xs.length
      · have e : decide ((i : Int) < (xs.length : Int)) = true := decide_eq_true (by omega)
        obtain ⟨q, o, rfl⟩ := hsl.some_of (by omega)
        obtain ⟨b5, g5, f5⟩ := hac4.get (j := i) (x := xs[i]) (by rw [List.getElem?_append_left hlt]; exact List.getElem?_eq_getElem hlt)
        obtain ⟨b8, g8, f8⟩ := hac.get (List.getElem?_eq_getElem hlt)
        have hxl : xs[i].list.length ≤ 50 := by
          have := hsm _ (List.getElem_mem hlt)
          unfold smallF at this
          simp only [Bool.and_eq_true, decide_eq_true_eq] at this
          exact this.2.2
        rw [e, cond_true, nn_some', chk_of (inB_of (by omega)), Int.toNat_natCast, hf4.1.gets (by omega), g5]
        unfold actC
        simp only [J_i, J_s, J_l, D_nil]
        rw [nn_some', chk_of (inB_of hlt), (hsl.mono hp14).gets (by omega), g8]
        unfold actC
        simp only [J_i, J_s, J_l, D_nil]
        refine Ok.call (ev_ref32_Same h.ref32_Same 9999 xs[i] xs[i] 1 1 b5 b8 s9 (.inl rfl) (.inl rfl) f5.1 (f8.pre hp14).1 (by omega) (by omega)) ?_
        rintro _ rfl
        refine ⟨_, s9, rfl, ?_⟩
        simp only [sameF_refl, J_b, D_nil]
        rw [Bool.not_true, cond_false, wr64_of (by omega) (by omega)]
        exact hrec (xs.length - (i + 1)) _ _ (by omega) ⟨i + 1, rfl, by omega, by omega, rfl⟩
      · have e : decide ((i : Int) < (xs.length : Int)) = false := decide_eq_false (by omega)
        rw [e, cond_false, ret_eq]
        exact .mk ⟨_, rfl⟩
    · have htf : textF xs = ([], false) := by unfold textF; rw [if_neg hgood]
      have hb : (allOk xs && decide ((textL (linesA xs)).length ≤ 4000)) = false := by
        cases ha : allOk xs with
        | false => rfl
        | true => rw [Bool.true_and, decide_eq_false_iff_not]; exact fun h => hgood ⟨ha, h⟩
      rw [hb, htf, Bool.not_false, cond_true, join_eq, cond_true]
      simp only [J_b, D_nil, ret_eq]
      exact .mk ⟨s3, rfl⟩
end Go.Gv.F
