/- The line of an act: the program's and the document's. -/
import Derived.Test.YtanmddhmkphilaaDoorGvPShowF
import Derived.Test.YtanmddhmkphilaaDoorGvPRead4
import Derived.Test.YtanmddhmkphilaaDoorGvBSw
import Derived.Test.YtanmddhmkphilaaDoorGvPJoin
namespace Go.Gv.F
open Go.Gv

theorem app_zero {β : Type} (sz : Nat) (a : Option (Nat × Nat)) (n : Nat) (ds : List DV) (lim : Nat) (K : Option (Nat × Nat) → M β) (s : St) : M.app sz a n ds 0 lim K s = K a s := rfl

theorem giveW_small {a : ActV} (hs : smallF a = true) (hr : ActR a) (c : Nat) : (giveW a c).length ≤ 50 ∧ ∀ w ∈ giveW a c, w.length ≤ 60 := by
  unfold smallF at hs
  simp only [Bool.and_eq_true, decide_eq_true_eq] at hs
  obtain ⟨h1, h2, h3, h4, h5, h6⟩ := hr
  have one : ∀ (w : List UInt8), w.length ≤ 60 → ([w] : List (List UInt8)).length ≤ 50 ∧ ∀ x ∈ [w], x.length ≤ 60 := fun w hw => ⟨by simp, fun x hx => by rw [List.mem_singleton.1 hx]; exact hw⟩
  unfold giveW
  split
  · exact one _ hs.1
  split
  · exact one _ hs.2.1
  split
  · exact one _ (Nat.le_trans (showI_len _ h4) (by omega))
  split
  · exact one _ (Nat.le_trans (showI_len _ h5) (by omega))
  split
  · exact one _ (Nat.le_trans (showH_len h2 h3) (by omega))
  · refine ⟨by rw [List.length_map]; exact hs.2.2, fun x hx => ?_⟩
    obtain ⟨z, hz, rfl⟩ := List.mem_map.1 hx
    exact Nat.le_trans (showI_len _ (h6 z hz)) (by omega)

/-- What a function that tells words answers. -/
def SlAns (W : List (List UInt8)) (st : St) (o : Out (List DV) × St) : Prop := ∃ q s', o = (.val [.slice 1 q W.length], s') ∧ Pre st s' ∧ Sl s' q (W.map .str)

theorem give_one {st s : St} (hp : Pre st s) (w : List UInt8) : Ok (SlAns [w] st) ((M.new [.str w] fun i => M.retF st.length [.slice 1 (some (i, 0)) 1] : M (List DV)) s) := by
  rw [new_eq, retF_eq]
  exact .mk ⟨_, _, rfl, frz_pre (hp.trans (.new _ _)), (sl_new s [DV.str w]).frz _⟩

theorem ev_give {Bd : Bodies} (h : H_script_give Bd) (n : Nat) (a : ActV) (z c : Nat) (p : Option (Nat × Nat)) (st : St) (ht : Tabs st) (hz : z = 1 ∨ p = none) (hsl : Sl st p (ints a.list)) (hr : ActR a) (hl : a.list.length ≤ 1000) (hn : 1100 ≤ n) :
    Ok (SlAns (giveW a c) st) (run Bd n 129 [.agg (actC a z p), .int .i32 c] st) := by
  obtain ⟨n, rfl⟩ : ∃ m, n = m + 1 := ⟨n - 1, by omega⟩
  rw [run_succ, h.eq]
  unfold b_script_give actC
  simp only [J_a, J_i, J_s, J_l_any 1 z p _ hz, D_nil, base_eq]
  have eb : ∀ k : Nat, ((c : Int) == (k : Int)) = decide (c = k) := fun k => by rw [natBeq]; rfl
  have e110 : ((c : Int) == 110) = decide (c = 110) := eb 110
  have e111 : ((c : Int) == 111) = decide (c = 111) := eb 111
  have e107 : ((c : Int) == 107) = decide (c = 107) := eb 107
  have e118 : ((c : Int) == 118) = decide (c = 118) := eb 118
  have e104 : ((c : Int) == 104) = decide (c = 104) := eb 104
  simp only [e110, e111, e107, e118, e104]
  obtain ⟨r1, r2, r3, r4, r5, r6⟩ := hr
  unfold giveW
  by_cases c1 : c = 110
  · rw [decide_eq_true c1, cond_true, if_pos c1]
    exact give_one (.refl _) _
  rw [decide_eq_false c1, cond_false, if_neg c1]
  by_cases c2 : c = 111
  · rw [decide_eq_true c2, cond_true, if_pos c2]
    exact give_one (.refl _) _
  rw [decide_eq_false c2, cond_false, if_neg c2]
  by_cases c3 : c = 107
  · rw [decide_eq_true c3, cond_true, if_pos c3]
    refine Ok.call (ev_digit_Show h.digit_Show n a.key r4 (by omega) st ht) ?_
    rintro _ ⟨s1, rfl, hp⟩
    refine ⟨_, s1, rfl, ?_⟩
    simp only [J_s, D_nil]
    exact give_one hp _
  rw [decide_eq_false c3, cond_false, if_neg c3]
  by_cases c4 : c = 118
  · rw [decide_eq_true c4, cond_true, if_pos c4]
    refine Ok.call (ev_digit_Show h.digit_Show n a.value r5 (by omega) st ht) ?_
    rintro _ ⟨s1, rfl, hp⟩
    refine ⟨_, s1, rfl, ?_⟩
    simp only [J_s, D_nil]
    exact give_one hp _
  rw [decide_eq_false c4, cond_false, if_neg c4]
  by_cases c5 : c = 104
  · rw [decide_eq_true c5, cond_true, if_pos c5]
    refine Ok.call (ev_ShowHandle h.digit_ShowHandle n a.h1 a.h2 r2 r3 (by omega) st ht) ?_
    rintro _ ⟨s1, rfl, hp⟩
    refine ⟨_, s1, rfl, ?_⟩
    simp only [J_s, D_nil]
    exact give_one hp _
  rw [decide_eq_false c5, cond_false, if_neg c5, join_eq]
  refine loop_rule _ (fun k x s => ∃ (i z : Nat) (q : Option (Nat × Nat)), x = [.slice z q i, .int .i64 i] ∧ (z = 1 ∨ q = none) ∧ i ≤ a.list.length ∧ a.list.length - i ≤ k ∧ Own st s q (((a.list.take i).map showI).map .str)) ?_ a.list.length n _ _ ⟨0, 0, none, rfl, .inr rfl, Nat.zero_le _, by omega, Own.nil (.refl _)⟩ (by omega)
  rintro k _ s ⟨i, z, q, rfl, hz, hi, hk, ho⟩ rec hrec
  simp only [J_l_any 1 z q _ hz, J_i, D_nil]
  by_cases hlt : i < a.list.length
  · have e : decide ((i : Int) < (a.list.length : Int)) = true := decide_eq_true (by omega)
    obtain ⟨p1, o1, rfl⟩ := hsl.some_of (by simp [ints]; omega)
    have hg : (ints a.list)[i]? = some (.int .i64 a.list[i]) := by simp [ints, hlt]
    simp only [e, cond_true, nn_some', chk_of (inB_of hlt), Int.toNat_natCast]
    rw [(hsl.mono ho.1).get1 hg]
    simp only [D_int]
    refine Ok.call (ev_digit_Show h.digit_Show n a.list[i] (r6 _ (List.getElem_mem hlt)) (by omega) s (ht.mono ho.1)) ?_
    rintro _ ⟨s1, rfl, hp⟩
    refine ⟨_, s1, rfl, ?_⟩
    simp only [J_s, D_nil]
    obtain ⟨q2, s2, g1, g2⟩ := (ho.mono hp).push (β := List DV) (sz := 1) (n := i) (lim := 4398046511104) [.str (showI a.list[i])] (Nat.succ_pos 0) (by simp; omega) rfl (by omega)
    rw [g2, wr64_of (by omega) (by omega)]
    refine hrec (a.list.length - (i + 1)) _ _ (by omega) ⟨i + 1, 1, q2, rfl, .inl rfl, by omega, by omega, ?_⟩
    rw [List.take_succ_eq_append_getElem hlt, List.map_append, List.map_append]
    exact g1
  · have e : decide ((i : Int) < (a.list.length : Int)) = false := decide_eq_false (by omega)
    have him : i = a.list.length := by omega
    subst him
    rw [List.take_length] at ho
    rw [e, cond_false]
    simp only [J_l, D_nil, retF_eq]
    exact .mk ⟨q, _, by rw [List.length_map], frz_pre ho.1, ho.sl.frz _⟩

theorem ev_Show_1 {Bd : Bodies} (h : H_script_Show_1 Bd) (n : Nat) (c : Cmd) (a : ActV) (i : Nat) (z : Nat) (p : Option (Nat × Nat)) (s : St) (hi : s[i]? = some (some ⟨false, actC a z p⟩)) :
    run Bd (n + 1) 128 ([] ++ [DV.agg (cmdD c)] ++ [DV.ptr (some (i, 0))]) s = some (.val [.bool (c.2.2 == a.dn)], s) := by
  rw [run_succ, h.eq]
  unfold b_script_Show_1 cmdD
  simp only [List.nil_append, List.cons_append, J_a, J_s, J_i, J_p, D_nil, nn_some']
  rw [load1_eq (d := .int .i64 a.dn) hi rfl]
  simp only [D_int, ret_eq]

theorem wordsA_small {a : ActV} (hs : smallF a = true) (hr : ActR a) (c : Cmd) (hc : c ∈ cmds) : (wordsA a c).length ≤ 151 ∧ ∀ w ∈ wordsA a c, w.length ≤ 60 := by
  have h3 := cmds_small c hc
  have hw : c.1.length ≤ 60 := by
    have : ∀ c ∈ cmds, c.1.length ≤ 60 := by decide
    exact this c hc
  unfold wordsA
  have key : ∀ (l : List UInt8), ((l.map fun b => giveW a b.toNat).flatten).length ≤ l.length * 50 ∧ ∀ w ∈ (l.map fun b => giveW a b.toNat).flatten, w.length ≤ 60 := by
    intro l
    induction l with
    | nil => exact ⟨by simp, fun w hw => by cases hw⟩
    | cons b l ih =>
      have h1 := giveW_small hs hr b.toNat
      rw [List.map_cons, List.flatten_cons]
      refine ⟨by simp only [List.length_append, List.length_cons]; omega, fun w hw => ?_⟩
      rcases List.mem_append.1 hw with h | h
      · exact h1.2 w h
      · exact ih.2 w h
  have k := key c.2.1
  refine ⟨by simp only [List.length_cons]; omega, fun w hw' => ?_⟩
  rcases List.mem_cons.1 hw' with rfl | h
  · exact hw
  · exact k.2 w h

/-- What a function that tells an act's line answers. -/
def ShowAns (a : ActV) (st : St) (o : Out (List DV) × St) : Prop := ∃ s', o = (.val [.str (showF a).1, .bool (showF a).2], s') ∧ Pre st s'

theorem ev_script_Show {Bd : Bodies} (h : H_script_Show Bd) (n : Nat) (a : ActV) (z : Nat) (p : Option (Nat × Nat)) (st : St) (ht : Tabs st) (hz : z = 1 ∨ p = none) (hsl : Sl st p (ints a.list)) (hr : ActR a) (hs : smallF a = true) (hn : 3000 ≤ n) :
    Ok (ShowAns a st) (run Bd n 124 [.agg (actC a z p)] st) := by
  obtain ⟨n, rfl⟩ : ∃ m, n = m + 2 := ⟨n - 2, by omega⟩
  have hll : a.list.length ≤ 50 := by
    unfold smallF at hs
    simp only [Bool.and_eq_true, decide_eq_true_eq] at hs
    exact hs.2.2
  rw [run_succ, h.eq]
  unfold b_script_Show
  have ag : ∀ (l : List DV) (K : List DV → List DV → M (List DV)), J.a (.agg (actC a z p) :: l) K = K (actC a z p) l := fun _ _ => rfl
  rw [ag]
  unfold actC
  simp only [J_i, J_s, J_l_any 1 z p _ hz, D_nil]
  rw [new_eq]
  have hpa := Pre.new st (some ⟨false, actC a 1 p⟩)
  have hga : (st ++ [some (⟨false, actC a 1 p⟩ : Blk)] : St)[st.length]? = some (some ⟨false, actC a 1 p⟩) := by simp
  show Ok _ (M.load st.length 0 8 _ (st ++ [some ⟨false, actC a 1 p⟩]))
  generalize (st ++ [some (⟨false, actC a 1 p⟩ : Blk)] : St) = sa at hpa hga
  have hla : ∀ (K : List DV → M (List DV)) (s : St), Pre sa s → M.load st.length 0 8 K s = K (actC a 1 p) s := fun K s hp => by
    rw [load_eq (hp.get hga) (by rw [actC_len]; omega)]
    rfl
  rw [hla _ _ (.refl _)]
  unfold actC
  simp only [J_i, J_s, J_l, D_nil]
  have hsa := hsl.mono hpa
  have hta := ht.mono hpa
  refine Ok.call (ev_script_Same h.script_Same (n + 1) a zeroA 1 0 p none sa (.inl rfl) (.inr rfl) hsa (Sl.nil _) (by omega) (by omega)) ?_
  rintro _ rfl
  refine ⟨_, sa, rfl, ?_⟩
  simp only [J_b, D_nil]
  have hsf : showF a = if sameF a zeroA then ([], true) else match cmds.find? fun c : Cmd => c.2.2 == a.dn with
    | none => ([], false)
    | some c => if okW a (wordsA a c) then (Lib.join (wordsA a c) [32], true) else ([], false) := rfl
  cases h0 : sameF a zeroA with
  | true =>
    rw [h0, if_pos rfl] at hsf
    rw [cond_true, ret_eq]
    exact .mk ⟨sa, by rw [hsf], hpa⟩
  | false =>
  rw [h0, if_neg (by decide)] at hsf
  rw [cond_false]
  refine Ok.call (ev_script_find h.script_find n 128 [] [.ptr (some (st.length, 0))] sa hta (fun c => c.2.2 == a.dn) (by omega) fun c _ => by
    obtain ⟨m, rfl⟩ : ∃ m, n = m + 1 := ⟨n - 1, by omega⟩
    exact ev_Show_1 h.script_Show_1 m c a st.length 1 p sa hga) ?_
  rintro _ rfl
  refine ⟨_, sa, rfl, ?_⟩
  cases hf : cmds.find? fun c : Cmd => c.2.2 == a.dn with
  | none =>
    rw [hf] at hsf
    have hsf : showF a = ([], false) := hsf
    unfold foundD zeroCmd
    simp only [J_a, J_s, J_i, J_b, D_nil]
    rw [Bool.not_false, cond_true, ret_eq]
    refine .mk ⟨sa, ?_, hpa⟩
    rw [hsf]
  | some c =>
  rw [hf] at hsf
  have hsf : showF a = if okW a (wordsA a c) then (Lib.join (wordsA a c) [32], true) else ([], false) := hsf
  have hcm : c ∈ cmds := List.mem_of_find?_eq_some hf
  have hsm := wordsA_small hs hr c hcm
  unfold foundD cmdD
  simp only [J_a, J_s, J_i, J_b, D_nil]
  rw [Bool.not_true, cond_false]
  rw [new_eq, join_eq]
  refine loop_rule _ (fun k x s => ∃ (i : Nat) (q : Option (Nat × Nat)) (W : List (List UInt8)), x = [.slice 1 q W.length, .nat i] ∧ i ≤ c.2.1.length ∧ c.2.1.length - i ≤ k ∧ Own sa s q (W.map .str) ∧ W ++ ((c.2.1.drop i).map fun b => giveW a b.toNat).flatten = wordsA a c)
    ?_ c.2.1.length (n + 1) _ _ ⟨0, some (sa.length, 0), [c.1], rfl, Nat.zero_le _, by omega, ⟨.new _ _, .inr ⟨sa.length, rfl, Nat.le_refl _, by simp⟩⟩, rfl⟩ (by have := cmds_small c hcm; omega)
  rintro k _ s ⟨i, q, W, rfl, hi, hk, ho, hI⟩ rec hrec
  simp only [J_l, J_n, D_nil]
  have hWl : W.length ≤ 151 := by
    have := congrArg List.length hI
    rw [List.length_append] at this
    omega
  by_cases hlt : i < c.2.1.length
  · have e : Nat.blt i c.2.1.length = true := by rw [Nat.blt_eq]; exact hlt
    have hdec := dec_ascii hlt (cmds_ascii c hcm _ (List.getElem_mem hlt))
    rw [List.drop_eq_getElem_cons hlt, List.map_cons, List.flatten_cons, ← List.append_assoc] at hI
    rw [e, cond_true]
    rw [hla _ _ ho.1]
    unfold actC
    simp only [J_i, J_s, J_l, D_nil, runeAt, runeW, hdec]
    refine Ok.call (ev_give h.script_give (n + 1) a 1 c.2.1[i].toNat p s (hta.mono ho.1) (.inl rfl) (hsa.mono ho.1) hr (by omega) (by omega)) ?_
    rintro _ ⟨q4, s4, rfl, hp4, hs4⟩
    refine ⟨_, s4, rfl, ?_⟩
    simp only [J_l, D_nil]
    have hgl := giveW_small hs hr c.2.1[i].toNat
    generalize giveW a c.2.1[i].toNat = G at hI hs4 hgl
    have ho4 := ho.mono hp4
    rw [show G.length * 1 = (G.map DV.str).length by simp, rd_eq hs4]
    by_cases hG : G.length = 0
    · have : G = [] := List.eq_nil_of_length_eq_zero hG
      subst this
      rw [List.append_nil] at hI
      rw [show ([] : List (List UInt8)).length = 0 from rfl, app_zero]
      exact hrec (c.2.1.length - (i + 1)) _ _ (by omega) ⟨i + 1, q, W, rfl, by omega, by omega, ho4, hI⟩
    · obtain ⟨q5, s5, g1, g2⟩ := ho4.app (β := List DV) (sz := 1) (n := W.length) (m := G.length) (lim := 4398046511104) (ds := G.map .str) (Nat.succ_pos 0) (by simp) (by omega) (by omega)
      rw [g2]
      exact hrec (c.2.1.length - (i + 1)) _ _ (by omega) ⟨i + 1, q5, W ++ G, by rw [List.length_append], by omega, by omega, by rw [List.map_append]; exact g1, hI⟩
  · have e : Nat.blt i c.2.1.length = false := by
      cases hb : Nat.blt i c.2.1.length with
      | false => rfl
      | true => rw [Nat.blt_eq] at hb; exact absurd hb hlt
    rw [e, cond_false]
    rw [List.drop_of_length_le (by omega), List.map_nil, List.flatten_nil, List.append_nil] at hI
    subst hI
    generalize hWW : wordsA a c = W at *
    have hws := ho.sl
    refine Ok.call (ev_lex_Join h.lex_Join (n + 1) 1 q W s (.inl rfl) hws (fun w hw => by have := hsm.2 w hw; omega) (by omega)) ?_
    rintro _ rfl
    have hokd : okW a W = (decide (W.length ≤ 40 ∧ ∀ w ∈ W, IsWord w) && ((parseF W).2 == 0 && sameF a (parseF W).1)) := rfl
    obtain ⟨L, jb, hja, hjb, hL⟩ : ∃ L jb, joinAns W = [.str L, .bool jb] ∧ jb = decide (W.length ≤ 40 ∧ ∀ w ∈ W, IsWord w) ∧ (jb = true → L = Lib.join W [32]) := by
      unfold joinAns
      by_cases hc : W.length ≤ 40 ∧ ∀ w ∈ W, IsWord w
      · rw [if_pos hc]
        exact ⟨_, _, rfl, (decide_eq_true hc).symm, fun _ => rfl⟩
      · rw [if_neg hc]
        exact ⟨_, _, rfl, (decide_eq_false hc).symm, fun h => by cases h⟩
    rw [← hjb] at hokd
    clear hjb
    rw [hja]
    refine ⟨_, s, rfl, ?_⟩
    simp only [J_s, J_b, D_nil]
    refine Ok.call (ev_script_Parse h.script_Parse (n + 1) 1 q W s (hta.mono ho.1) (.inl rfl) hws (by omega) (by omega) fun w hw => by have := hsm.2 w hw; omega) ?_
    rintro _ ⟨z6, p6, s6, rfl, hz6, hp6, hf6⟩
    refine ⟨_, s6, rfl, ?_⟩
    generalize parseF W = Y at hf6 hokd
    obtain ⟨y, ey⟩ := Y
    simp only at hf6 hokd
    unfold actC
    simp only [J_a, J_i, J_s, J_l_any 1 z6 p6 _ hz6, D_nil]
    have hps6 := ho.1.trans hp6
    have hno : okW a W = false → Ok (ShowAns a st) ((M.ret [.str (bs []), .bool false] : M (List DV)) s6) := by
      intro hok
      rw [hok, if_neg Bool.false_ne_true] at hsf
      rw [ret_eq]
      refine .mk ⟨s6, ?_, hpa.trans hps6⟩
      rw [hsf]
    rw [join_eq]
    cases jb with
    | false =>
      rw [Bool.not_false, cond_true]
      simp only [J_b, D_nil]
      rw [join_eq, cond_true]
      simp only [J_b, D_nil]
      rw [cond_true]
      exact hno (by rw [hokd]; rfl)
    | true =>
      rw [Bool.not_true, cond_false]
      simp only [J_b, D_nil]
      rw [join_eq]
      cases hey : (ey == 0) with
      | false =>
        rw [Bool.not_false, cond_true]
        simp only [J_b, D_nil]
        rw [cond_true]
        exact hno (by rw [hokd, hey]; rfl)
      | true =>
        rw [Bool.not_true, cond_false, hla _ _ hps6]
        unfold actC
        simp only [J_i, J_s, J_l, D_nil]
        refine Ok.call (ev_script_Same h.script_Same (n + 1) a y 1 1 p p6 s6 (.inl rfl) (.inl rfl) (hsa.mono hps6) hf6.1 (by omega) (by omega)) ?_
        rintro _ rfl
        refine ⟨_, s6, rfl, ?_⟩
        simp only [J_b, D_nil]
        have hok : okW a W = sameF a y := by rw [hokd, hey]; rfl
        cases hsy : sameF a y with
        | false =>
          rw [hsy] at hok
          rw [Bool.not_false, cond_true]
          exact hno hok
        | true =>
          rw [hsy] at hok
          rw [hok, if_pos rfl] at hsf
          rw [Bool.not_true, cond_false, ret_eq, hL rfl]
          refine .mk ⟨s6, ?_, hpa.trans hps6⟩
          rw [hsf]
end Go.Gv.F
