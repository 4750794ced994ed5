/- The act of words: the document's parser. -/
import Derived.Test.YtanmddhmkphilaaDoorGvPParse
namespace Go.Gv.F
open Go.Gv

def low (c : UInt8) : UInt8 := if c = 78 then 110 else if c = 79 then 111 else if c = 75 then 107 else if c = 86 then 118 else if c = 72 then 104 else c
def tabN : List (List UInt8) := [] :: cmds.map (·.1)
def tabW : List (List UInt8) := [[], [], [], [], [78], [78], [78, 75, 86], [78], [78], [78, 72, 75], [78, 72], [78, 79], [72], [78], [78], [], [86], [42], [42], [], []]
def letters : List UInt8 := [78, 79, 75, 86, 72, 42]

def tabOk (i : Nat) : Bool := decide (cmds[i]? = some (cmds.getD i ([], [], 0))) && (decide (tabN[i + 1]? = some (cmds.getD i ([], [], 0)).1) && (decide (tabW[i + 1]? = some (tabW.getD (i + 1) [])) &&
    (decide ((tabW.getD (i + 1) []).map low = (cmds.getD i ([], [], 0)).2.1) && ((tabW.getD (i + 1) []).all (fun b => decide (b ∈ letters)) && ((decide (tabW.getD (i + 1) [] = [42]) == decide ((cmds.getD i ([], [], 0)).2.1 = [42])) && decide ((cmds.getD i ([], [], 0)).2.2 = ((i + 1 : Nat) : Int)))))))
theorem tab_ok : (List.range 20).all tabOk = true := by decide +kernel
theorem ref_tab (i : Nat) (hi : i < 20) : cmds[i]? = some (cmds.getD i ([], [], 0)) ∧ tabN[i + 1]? = some (cmds.getD i ([], [], 0)).1 ∧ tabW[i + 1]? = some (tabW.getD (i + 1) []) ∧
    (tabW.getD (i + 1) []).map low = (cmds.getD i ([], [], 0)).2.1 ∧ (∀ b ∈ tabW.getD (i + 1) [], b ∈ letters) ∧ (tabW.getD (i + 1) [] = [42] ↔ (cmds.getD i ([], [], 0)).2.1 = [42]) ∧ (cmds.getD i ([], [], 0)).2.2 = ((i + 1 : Nat) : Int) := by
  have h := List.all_eq_true.1 tab_ok i (List.mem_range.2 hi)
  unfold tabOk at h
  simp only [Bool.and_eq_true, decide_eq_true_eq, List.all_eq_true, beq_iff_eq, decide_eq_decide] at h
  exact h

theorem ev_ref32_table {Bd : Bodies} (h : H_ref32_table Bd) (n : Nat) (st : St) :
    Ok (fun o => ∃ a b s', o = (.val [.slice 1 (some (a, 0)) 21, .slice 1 (some (b, 0)) 21], s') ∧ Pre st s' ∧ Sl s' (some (a, 0)) (tabN.map .str) ∧ Sl s' (some (b, 0)) (tabW.map .str)) (run Bd (n + 1) 112 [] st) := by
  rw [run_succ, h.eq]
  unfold b_ref32_table
  simp only [D_nil, base_eq]
  rw [new_eq, new_eq, retF_eq]
  have e1 : ∀ s : St, Sl (s ++ [some ⟨false, tabN.map DV.str⟩]) (some (s.length, 0)) (tabN.map .str) := fun s => ⟨false, tabN.map .str, by simp, by simp, by rw [List.drop_zero, List.take_length]⟩
  have e2 : ∀ s : St, Sl (s ++ [some ⟨false, tabW.map DV.str⟩]) (some (s.length, 0)) (tabW.map .str) := fun s => ⟨false, tabW.map .str, by simp, by simp, by rw [List.drop_zero, List.take_length]⟩
  exact .mk ⟨_, _, _, rfl, frz_pre ((Pre.new _ _).trans (.new _ _)), ((e1 st).mono (.new _ _)).frz _, (e2 _).frz _⟩

theorem low_map (m : Nat) : (List.replicate m (42 : UInt8)).map low = List.replicate m 42 := by rw [List.map_replicate]; rfl

theorem ev_ref32_Parse {Bd : Bodies} (h : H_ref32_Parse Bd) (n z : Nat) (p : Option (Nat × Nat)) (ws : List (List UInt8)) (st : St) (hz : z = 1 ∨ p = none) (hsl : Sl st p (ws.map .str)) (hn : ws.length + 60 ≤ n) (hl : ws.length < 100000)
    (hw : ∀ w ∈ ws, w.length + 110 ≤ n ∧ w.length < 100000) : Ok (ParseAns ws st) (run Bd n 103 [.slice z p ws.length] st) := by
  obtain ⟨n, rfl⟩ : ∃ m, n = m + 2 := ⟨n - 2, by omega⟩
  rw [run_succ, h.eq]
  unfold b_ref32_Parse
  simp only [J_l_any 1 z p _ hz, D_nil, base_eq]
  match ws, hsl, hn, hl, hw with
  | [], _, _, _, _ =>
    have e : (((([] : List (List UInt8)).length : Nat) : Int) == 0) = true := rfl
    rw [e, cond_true]
    exact parse_zero rfl (.refl _)
  | w :: r, hsl, hn, hl, hw =>
  have e : ((((w :: r).length : Nat) : Int) == 0) = false := by rw [beq_eq_false_iff_ne]; simp only [List.length_cons]; omega
  rw [e, cond_false]
  have hrl : (w :: r).length = r.length + 1 := rfl
  obtain ⟨q, o, rfl⟩ := hsl.some_of (by simp)
  refine Ok.call (ev_ref32_table h.ref32_table n st) ?_
  rintro _ ⟨ta, tb, s1, rfl, hp1, hN, hWt⟩
  refine ⟨_, s1, rfl, ?_⟩
  simp only [J_l, D_nil]
  have hpf : parseF (w :: r) = match cmds.find? fun c => c.1 == w with
    | none => (zeroA, 42)
    | some c => parseC c r := rfl
  rw [join_eq]
  have hcl : cmds.length = 20 := rfl
  refine loop_rule _ (fun k x s2 => ∃ (i z : Nat), x = [.agg (actC zeroA z none), .int .i64 i] ∧ 1 ≤ i ∧ i ≤ 21 ∧ 21 - i ≤ k ∧ s2 = s1 ∧ ∀ j c, j + 1 < i → cmds[j]? = some c → (c.1 == w) = false)
    ?_ 21 (n + 1) _ _ ⟨1, 0, rfl, Nat.le_refl _, by omega, by omega, rfl, fun j c hj => by omega⟩ (by omega)
  rintro k _ s2 ⟨i, z, rfl, hi1, hi, hk, rfl, hI⟩ rec hrec
  unfold actC
  simp only [J_a, J_i, J_s, J_l_nil, D_nil]
  by_cases hlt : i < 21
  · have e : decide ((i : Int) < ((21 : Nat) : Int)) = true := decide_eq_true (by omega)
    obtain ⟨i, rfl⟩ : ∃ m, i = m + 1 := ⟨i - 1, by omega⟩
    obtain ⟨t1, t2, t3, t4, t5, t6, t7⟩ := ref_tab i (by omega)
    generalize cmds.getD i ([], [], 0) = c at *
    generalize tabW.getD (i + 1) [] = u at *
    have hsl1 := hsl.mono hp1
    rw [e, cond_true, join_eq]
    simp only [nn_some', chk_of (inB_of hlt), Int.toNat_natCast]
    rw [hN.get1 (d := .str c.1) (by simp [t2])]
    simp only [D_str]
    rw [chk_of (show inB 0 (w :: r).length = true by unfold inB; simp), hsl1.get (j := 0) (d := .str w) rfl]
    simp only [D_str]
    cases hcw : (c.1 == w) with
    | false =>
      rw [Bool.not_false, cond_true]
      simp only [J_a, J_i, J_s, J_l_nil, D_nil]
      rw [wr64_of (by omega) (by omega)]
      refine hrec (21 - (i + 2)) _ _ (by omega) ⟨i + 2, 1, rfl, by omega, by omega, by omega, rfl, fun j c' hj e => ?_⟩
      rcases Nat.lt_or_ge (j + 1) (i + 1) with h | h
      · exact hI j c' h e
      · rw [show j = i by omega, t1] at e
        cases e
        exact hcw
    | true =>
    rw [Bool.not_true, cond_false]
    have hf : (cmds.find? fun c => c.1 == w) = some c := find_step cmds i (fun j c' hj e => hI j c' (by omega) e) c t1 hcw
    rw [hf] at hpf
    rw [hWt.get1 (d := .str u) (by simp [t3])]
    simp only [D_str]
    have bq : (bs [42] : List UInt8) = [42] := rfl
    simp only [bq]
    have hwn : wr64 (((w :: r).length : Int) - 1) = (r.length : Int) := by rw [hrl, wr64_of (by omega) (by omega)]; omega
    rw [hwn]
    refine join_rule (fun x s => s2 = s ∧ ∃ W, x = [.str W] ∧ W.map low = wantsOf c r.length ∧ ∀ b ∈ W, b ∈ letters) ?_ ?_
    rotate_left
    · intro jk hjk
      by_cases hu : u = [42]
      · have e1 : (u == [42]) = true := by rw [hu]; rfl
        rw [e1, cond_true, join_eq]
        refine loop_rule _ (fun k x s => ∃ m : Nat, x = [.str (List.replicate m 42), .int .i64 ((m + 1 : Nat) : Int)] ∧ m ≤ r.length ∧ r.length - m ≤ k ∧ s2 = s) ?_ r.length (n + 1) _ _ ⟨0, rfl, Nat.zero_le _, by omega, rfl⟩ (by omega)
        rintro k' _ _ ⟨m, rfl, hm, hk', rfl⟩ rec3 hrec3
        simp only [J_s, J_i, D_nil]
        by_cases hml : m < r.length
        · have e2 : decide (((m + 1 : Nat) : Int) < ((w :: r).length : Int)) = true := decide_eq_true (by rw [hrl]; omega)
          rw [e2, cond_true, chk_of (Nat.ble_eq_true_of_le (by simp; omega)), wr64_of (by omega) (by omega)]
          refine hrec3 (r.length - (m + 1)) _ _ (by omega) ⟨m + 1, ?_, by omega, by omega, rfl⟩
          rw [← List.replicate_succ']; rfl
        · have e2 : decide (((m + 1 : Nat) : Int) < ((w :: r).length : Int)) = false := decide_eq_false (by rw [hrl]; omega)
          rw [e2, cond_false]
          refine hjk _ _ ⟨rfl, _, rfl, ?_, fun b hb => ?_⟩
          · rw [show m = r.length by omega, low_map]
            unfold wantsOf
            rw [if_pos (t6.1 hu)]
          · rw [List.eq_of_mem_replicate hb]; decide
      · have e1 : (u == [42]) = false := beq_eq_false_iff_ne.2 hu
        rw [e1, cond_false]
        refine hjk _ _ ⟨rfl, u, rfl, ?_, t5⟩
        unfold wantsOf
        rw [if_neg fun hx => hu (t6.2 hx), t4]
    · rintro _ _ ⟨rfl, W, rfl, hWw, hWl⟩
      simp only [J_s, D_nil]
      have hWlen : (wantsOf c r.length).length = W.length := by rw [← hWw, List.length_map]
      have hpf : parseF (w :: r) = parseC c r := hpf
      unfold parseC at hpf
      rw [← hWw, List.length_map] at hpf
      by_cases hWr : W.length = r.length
      · have e2 : ((W.length : Int) == (r.length : Int)) = true := by rw [natBeq]; simpa using hWr
        rw [e2, Bool.not_true, cond_false, join_eq]
        rw [if_pos hWr] at hpf
        refine loop_rule _ (fun k x s => ∃ (m z1 z2 : Nat) (p2 : Option (Nat × Nat)) (y : ActV), x = [.agg (actC zeroA z1 none), .agg (actC y z2 p2), .int .i64 m] ∧ (z2 = 1 ∨ p2 = none) ∧ m ≤ W.length ∧ W.length - m ≤ k ∧ y.list.length ≤ m ∧ Own st s p2 (ints y.list) ∧
            parseGo ((W.map low).drop m) (r.drop m) y = parseGo (W.map low) r { zeroA with dn := c.2.2 })
          ?_ W.length (n + 1) _ _ ⟨0, 1, 0, none, { zeroA with dn := c.2.2 }, ?_, .inr rfl, Nat.zero_le _, by omega, Nat.le_refl _, Own.nil hp1, rfl⟩ (by omega)
        rotate_left
        · rw [t7]; rfl
        rintro k' _ s3 ⟨m, z1, z2, p2, y, rfl, hz2, hm, hk', hyl, ho, hI2⟩ rec2 hrec2
        unfold actC
        simp only [J_a, J_i, J_s, J_l_nil, J_l_any 1 z2 p2 _ hz2, D_nil]
        by_cases hml : m < W.length
        · have e3 : decide ((m : Int) < (W.length : Int)) = true := decide_eq_true (by omega)
          have hmr : m < r.length := by omega
          have hgr : ((w :: r).map DV.str)[m + 1]? = some (.str r[m]) := by simp [hmr]
          have hwr := hw r[m] (List.mem_cons_of_mem _ (List.getElem_mem hmr))
          have wm : wr64 ((m : Int) + 1) = ((m + 1 : Nat) : Int) := wr64_of (by omega) (by omega)
          have ld : ∀ (K : DV → M (List DV)) (s' : St), Pre st s' → M.load1 q ((m + 1) * 1 + o) K s' = K (.str r[m]) s' := fun K s' hp => (hsl.mono hp).get1 hgr K
          simp only [e3, cond_true, wm, chk_of (inB_of (show m + 1 < (w :: r).length by rw [hrl]; omega)), Int.toNat_natCast]
          rw [ld _ _ ho.1]
          simp only [D_str]
          refine Ok.call (ev_ref03_Read h.ref03_Read (n + 1) r[m] (by omega) s3) ?_
          rintro _ ⟨s4, rfl, hp4⟩
          rw [outR_eq]
          refine ⟨_, s4, rfl, ?_⟩
          simp only [J_i, J_b, D_nil]
          have ho4 := ho.mono hp4
          rw [ld _ _ ho4.1]
          simp only [D_str]
          refine Ok.call (ev_ref03_ReadHandle h.ref03_ReadHandle (n + 1) r[m] (by omega) (by omega) s4) ?_
          rintro _ ⟨s5, rfl, hp5⟩
          rw [outH_eq]
          refine ⟨_, s5, rfl, ?_⟩
          simp only [J_a, J_i, J_b, D_nil, chk_of (inB_of hml)]
          have ho5 := ho4.mono hp5
          have hstep := parseGo_step (W := W.map low) (i := m) (by rw [List.length_map]; exact hml) hmr y
          rw [List.getElem_map] at hstep
          refine join_rule (fun x s => ∃ (y' : ActV) (z' : Nat) (p' : Option (Nat × Nat)) (ok : Bool), x = [.agg (actC y' z' p'), .bool ok] ∧ (z' = 1 ∨ p' = none) ∧ takeF y (low W[m]).toNat r[m] = (y', ok) ∧ Own st s p' (ints y'.list)) ?_ ?_
          · rintro _ s6 ⟨y', z', p', ok, rfl, hz', htk, ho6⟩
            unfold actC
            simp only [J_a, J_i, J_s, J_b, J_l_any 1 z' p' _ hz', D_nil]
            have hlen := takeF_len y (low W[m]).toNat r[m]
            rw [htk] at hstep hlen
            cases ok with
            | false =>
              rw [Bool.not_false, cond_true]
              rw [if_neg (by simp)] at hstep
              refine parse_zero ?_ ho6.1
              rw [hpf, ← hI2, hstep]
            | true =>
              rw [Bool.not_true, cond_false]
              rw [if_pos rfl] at hstep
              simp only at hlen
              exact hrec2 (W.length - (m + 1)) _ _ (by omega) ⟨m + 1, 1, 1, p', y', rfl, .inl rfl, by omega, by omega, by omega, ho6, by rw [← hI2, hstep]⟩
          · intro jk5 hjk
            have hbv := oc_toNat hml
            have hlet := hWl _ (List.getElem_mem hml)
            generalize W[m] = b at hbv hlet hjk
            simp only [hbv]
            unfold letters at hlet
            simp only [List.mem_cons, List.not_mem_nil, or_false] at hlet
            have t78 : ((UInt8.toNat 78 : Nat) : Int) = 78 := rfl
            have t79 : ((UInt8.toNat 79 : Nat) : Int) = 79 := rfl
            have t75 : ((UInt8.toNat 75 : Nat) : Int) = 75 := rfl
            have t86 : ((UInt8.toNat 86 : Nat) : Int) = 86 := rfl
            have t72 : ((UInt8.toNat 72 : Nat) : Int) = 72 := rfl
            have t42 : ((UInt8.toNat 42 : Nat) : Int) = 42 := rfl
            rcases hlet with rfl | rfl | rfl | rfl | rfl | rfl
            · simp only [t78, Int.reduceBEq, cond_true]
              rw [ld _ _ ho5.1]
              simp only [D_str]
              refine Ok.call (ev_ref31_Plain h.ref31_Plain (n + 1) r[m] (by omega) (by omega) s5) ?_
              rintro _ ⟨s6, rfl, hp6⟩
              refine ⟨_, s6, rfl, ?_⟩
              simp only [J_b, D_nil]
              exact hjk _ _ ⟨{ y with name := r[m] }, 1, p2, _, rfl, .inl rfl, by rw [← plainOf_eq]; rfl, ho5.mono hp6⟩
            · simp only [t79, Int.reduceBEq, cond_true, cond_false, join_eq]
              rw [ld _ _ ho5.1]
              simp only [D_str]
              refine Ok.call (ev_ref31_Plain h.ref31_Plain (n + 1) r[m] (by omega) (by omega) s5) ?_
              rintro _ ⟨s6, rfl, hp6⟩
              refine ⟨_, s6, rfl, ?_⟩
              simp only [J_a, J_i, J_s, J_l, J_b, D_nil]
              exact hjk _ _ ⟨{ y with other := r[m] }, 1, p2, _, rfl, .inl rfl, by rw [← plainOf_eq]; rfl, ho5.mono hp6⟩
            · simp only [t75, Int.reduceBEq, cond_true, cond_false, join_eq, J_a, J_i, J_s, J_l, J_b, D_nil]
              exact hjk _ _ ⟨{ y with key := (readF r[m]).getD 0 }, 1, p2, _, rfl, .inl rfl, rfl, ho5⟩
            · simp only [t86, Int.reduceBEq, cond_true, cond_false, join_eq, J_a, J_i, J_s, J_l, J_b, D_nil]
              exact hjk _ _ ⟨{ y with value := (readF r[m]).getD 0 }, 1, p2, _, rfl, .inl rfl, rfl, ho5⟩
            · simp only [t72, Int.reduceBEq, cond_true, cond_false, join_eq, J_a, J_i, J_s, J_l, J_b, D_nil]
              exact hjk _ _ ⟨{ y with h1 := ((handleF r[m]).getD (0, 0)).1, h2 := ((handleF r[m]).getD (0, 0)).2 }, 1, p2, _, rfl, .inl rfl, rfl, ho5⟩
            · simp only [t42, Int.reduceBEq, cond_true, cond_false, join_eq]
              obtain ⟨p6, s6, g1, g2⟩ := ho5.push (β := List DV) (sz := 1) (n := y.list.length) (lim := 8796093022208) [.int .i64 ((readF r[m]).getD 0)] (Nat.succ_pos 0) (by simp [ints]) rfl (by omega)
              rw [g2]
              simp only [J_a, J_i, J_s, J_l, J_b, D_nil]
              have g1' : Own st s6 p6 (ints (y.list ++ [(readF r[m]).getD 0])) := by simpa [ints] using g1
              refine hjk _ _ ⟨{ y with list := y.list ++ [(readF r[m]).getD 0] }, 1, p6, _, ?_, .inl rfl, rfl, g1'⟩
              unfold actC
              simp only [List.length_append, List.length_singleton]
        · have e3 : decide ((m : Int) < (W.length : Int)) = false := decide_eq_false (by omega)
          rw [e3, cond_false]
          rw [parseGo_end (by rw [List.length_map]; omega)] at hI2
          rw [← hI2] at hpf
          simp only [J_l, D_nil, retF_eq]
          refine .mk ⟨1, p2, _, ?_, .inl rfl, frz_pre ho.1, ?_⟩
          · rw [hpf]; rfl
          · rw [hpf]; exact ho.fz
      · have e2 : ((W.length : Int) == (r.length : Int)) = false := by rw [natBeq]; simpa using hWr
        rw [e2, Bool.not_false, cond_true]
        rw [if_neg hWr] at hpf
        exact parse_zero hpf hp1
  · have e : decide ((i : Int) < ((21 : Nat) : Int)) = false := decide_eq_false (by omega)
    rw [e, cond_false]
    refine parse_zero ?_ hp1
    have hf : (cmds.find? fun c => c.1 == w) = none := by
      rw [List.find?_eq_none]
      intro c hc
      obtain ⟨j, hj, e⟩ := List.getElem_of_mem hc
      rw [hI j c (by omega) (by rw [← e]; exact List.getElem?_eq_getElem _)]
      simp
    rw [hpf, hf]
end Go.Gv.F
