/- Lines and the words of each line; the law LexSplits answers true. -/
import Derived.Test.YtanmddhmkphilaaDoorGvPSplit
namespace Go.Gv.F
open Go.Gv

theorem ev_lex_Lines {Bd : Bodies} (h : H_lex_Lines Bd) (n : Nat) (s : List UInt8) (hn : s.length + 12 ≤ n) (hs : s.length < 1000000) (st : St) :
    Ok (CutAns 10 s st) (run Bd n 43 [.str s] st) := by
  obtain ⟨n, rfl⟩ : ∃ m, n = m + 1 := ⟨n - 1, by omega⟩
  rw [run_succ, h.eq]
  unfold b_lex_Lines
  simp only [J_s, D_nil, base_eq]
  have b10 : (bs [10] : List UInt8) = [10] := rfl
  rw [b10]
  refine Ok.call (ev_strings_Split h.strings_Split n s 10 (by omega) hs st) ?_
  rintro _ ⟨a, s1, rfl, hp, hf⟩
  refine ⟨_, s1, rfl, ?_⟩
  simp only [J_l, D_nil, retF_eq]
  exact .mk ⟨a, _, rfl, frz_pre hp, hf.kp (frz_kp _ _)⟩

theorem ev_ref31_Lines {Bd : Bodies} (h : H_ref31_Lines Bd) (n : Nat) (s : List UInt8) (hn : s.length + 12 ≤ n) (hs : s.length < 1000000) (st : St) :
    Ok (CutAns 10 s st) (run Bd n 44 [.str s] st) := by
  obtain ⟨n, rfl⟩ : ∃ m, n = m + 1 := ⟨n - 1, by omega⟩
  rw [run_succ, h.eq]
  unfold b_ref31_Lines
  simp only [J_s, D_nil, base_eq]
  rw [join_eq]
  refine loop_rule _ (fun k x s2 => ∃ (i z : Nat) (a : Option (Nat × Nat)) (acc : List (List UInt8)) (w : List UInt8), x = [.slice z a acc.length, .str w, .int .i64 i] ∧ (z = 1 ∨ a = none) ∧ i ≤ s.length ∧ s.length - i ≤ k ∧ w.length ≤ i ∧ acc.length ≤ i ∧ Own st s2 a (acc.map .str) ∧ acc ++ cutB 10 (s.drop i) w = cutB 10 s [])
    ?_ s.length n _ _ ⟨0, 0, none, [], [], rfl, .inr rfl, Nat.zero_le _, by omega, Nat.le_refl _, Nat.le_refl _, Own.nil (Pre.refl _), rfl⟩ (by omega)
  rintro k _ s2 ⟨i, z, a, acc, w, rfl, hz, hi, hk, hwl, hal, ho, hI⟩ rec hrec
  simp only [J_l_any 1 z a _ hz, J_s, J_i, D_nil]
  by_cases hlt : i < s.length
  · have e : decide ((i : Int) < (s.length : Int)) = true := decide_eq_true (by omega)
    have hdr : s.drop i = s[i] :: s.drop (i + 1) := List.drop_eq_getElem_cons hlt
    have c10 : ((byteAt s (i : Int)) == 10) = decide (s[i] = 10) := by rw [byteAt_eq]; exact ocBeq s i hlt 10 (by omega)
    rw [hdr, cutB] at hI
    simp only [e, cond_true, chk_of (inB_of hlt), c10]
    rw [join_eq]
    by_cases hc : s[i] = 10
    · rw [if_pos hc] at hI
      rw [decide_eq_true hc, cond_true]
      obtain ⟨p, s3, h1, h2⟩ := ho.push (β := List DV) (sz := 1) (n := acc.length) (lim := 4398046511104) [.str w] (Nat.succ_pos 0) (by simp) rfl (by omega)
      rw [h2]
      simp only [J_l, J_s, D_nil]
      rw [wr64_of (by omega) (by omega)]
      exact hrec (s.length - (i + 1)) _ _ (by omega) ⟨i + 1, 1, p, acc ++ [w], [], by simp, .inl rfl, by omega, by omega, Nat.zero_le _, by simp; omega, by simpa using h1, by rw [← hI]; simp⟩
    · rw [if_neg hc] at hI
      rw [decide_eq_false hc, cond_false, wr64_of (by omega) (by omega)]
      have e1 : ((i : Int) + 1).toNat = i + 1 := by omega
      simp only [e1, Int.toNat_natCast]
      rw [slice1 s i hlt, chk_of (by simp; omega), chk_of (by simp; omega), chk_of (Nat.ble_eq_true_of_le (by show _ + 1 ≤ _; omega))]
      simp only [J_l, J_s, D_nil]
      exact hrec (s.length - (i + 1)) _ _ (by omega) ⟨i + 1, 1, a, acc, w ++ [s[i]], rfl, .inl rfl, by omega, by omega, by simp; omega, by omega, ho, hI⟩
  · have e : decide ((i : Int) < (s.length : Int)) = false := decide_eq_false (by omega)
    have him : i = s.length := by omega
    subst him
    rw [List.drop_length, cutB] at hI
    simp only [e, cond_false, J_l, J_s, D_nil]
    obtain ⟨p, s3, h1, h2⟩ := ho.push (β := List DV) (sz := 1) (n := acc.length) (lim := 4398046511104) [.str w] (Nat.succ_pos 0) (by simp) rfl (by omega)
    rw [h2, retF_eq]
    have h1' : Own st s3 p ((acc ++ [w]).map .str) := by simpa using h1
    rw [hI] at h1'
    refine .mk ⟨p, _, ?_, frz_pre h1.1, h1'.fz⟩
    rw [← hI]; simp

/-! ### The words of each line -/
def goW : List (List UInt8) → Nat → List (List (List UInt8)) → List (List (List UInt8)) × Nat × Int
  | [], _, acc => (acc, 0, 0)
  | l :: r, i, acc => if (wordsOf l).1 = 0 then goW r (i + 1) (acc ++ [(wordsOf l).2]) else ([], i + 1, (wordsOf l).1)
def splitOf (s : List UInt8) : List (List (List UInt8)) × Nat × Int := if 4000 < s.length then ([], 0, 40) else goW (cutB 10 s []) 0 []

theorem goW_spec : ∀ (L : List (List UInt8)) (i : Nat) (acc : List (List (List UInt8))) (r : List (List (List UInt8)) × Nat × Int), goW L i acc = r →
    (r.2.2 = 0 ∧ (∀ l ∈ L, (wordsOf l).1 = 0) ∧ r.2.1 = 0 ∧ r.1 = acc ++ L.map fun l => (wordsOf l).2) ∨ (r.2.2 ≠ 0 ∧ r.1 = [] ∧ ∃ j l, L[j]? = some l ∧ (∀ l' ∈ L.take j, (wordsOf l').1 = 0) ∧ (wordsOf l).1 = r.2.2 ∧ r.2.1 = i + j + 1)
  | [], i, acc, r, h => by subst h; exact .inl ⟨rfl, fun l h => (by cases h), rfl, by simp [goW]⟩
  | l :: L, i, acc, r, h => by
    rw [goW] at h
    split at h
    · rename_i h0
      rcases goW_spec L (i + 1) _ r h with ⟨h1, h2, h3, h4⟩ | ⟨h1, h2, j, l', h3, h4, h5, h6⟩
      · refine .inl ⟨h1, fun x hx => ?_, h3, by rw [h4]; simp⟩
        rcases List.mem_cons.1 hx with rfl | hx
        · exact h0
        · exact h2 x hx
      · refine .inr ⟨h1, h2, j + 1, l', h3, fun x hx => ?_, h5, by omega⟩
        rw [List.take_succ_cons] at hx
        rcases List.mem_cons.1 hx with rfl | hx
        · exact h0
        · exact h4 x hx
    · rename_i h0
      subst h
      exact .inr ⟨h0, rfl, 0, l, rfl, fun x hx => (by simp at hx), rfl, rfl⟩

noncomputable def splitB (cl cw : List DV → M (List DV)) (n : Nat) (args : List DV) : M (List DV) :=
  J.s args fun s args =>
  D.nil args <|
  M.base fun b0 =>
  bif decide ((s.length : Int) > 4000) then
    M.retF b0 [.slice 0 none 0, .int .i64 0, .int .i64 40]
  else
    M.call (cl [.str s]) fun ds =>
    J.l 1 ds fun x xn ds =>
    D.nil ds <|
    M.join (fun st =>
      J.l 1 st fun out outn st =>
      D.nil st <|
      M.retF b0 [.slice 1 out outn, .int .i64 0, .int .i64 0]) fun jk1 =>
    M.loop (fun rec1 st =>
      J.l 1 st fun out1 out1n st =>
      J.i .i64 st fun x1 st =>
      D.nil st <|
      bif decide (x1 < (xn : Int)) then
        M.nn x fun i o =>
        M.chk (inB x1 xn) <|
        M.load1 i (x1.toNat * 1 + o) fun d =>
        D.str d fun x2 =>
        M.call (cw [.str x2]) fun ds =>
        J.l 1 ds fun x3 x3n ds =>
        J.i .i64 ds fun x4 ds =>
        D.nil ds <|
        bif !(x4 == 0) then
          M.retF b0 [.slice 0 none 0, .int .i64 (wr64 (x1 + 1)), .int .i64 x4]
        else
          M.new [.slice 1 x3 x3n] fun i1 =>
          M.load i1 0 1 fun cs =>
          M.app 1 out1 out1n cs 1 2932031007402 fun p =>
          rec1 [.slice 1 p (out1n + 1), .int .i64 (wr64 (x1 + 1))]
      else
        jk1 [.slice 1 out1 out1n]) n [.slice 0 none 0, .int .i64 0]
theorem lex_Split_eq (c : Oracle) (n : Nat) (args : List DV) : b_lex_Split c n args = splitB (c 43) (c 2) n args := rfl
theorem ref31_Split_eq (c : Oracle) (n : Nat) (args : List DV) : b_ref31_Split c n args = splitB (c 44) (c 3) n args := rfl

/-- What a function that cuts a text into lines and words answers. -/
def SplitAns (s : List UInt8) (st : St) (o : Out (List DV) × St) : Prop :=
  ∃ z a ds s', o = (.val [.slice z a (splitOf s).1.length, .int .i64 (splitOf s).2.1, .int .i64 (splitOf s).2.2], s') ∧ (z = 1 ∨ a = none) ∧ Pre st s' ∧ Fz s' a ds ∧ Rows s' ds ((splitOf s).1.map (·.map .str))

theorem split_ok {cl cw : List DV → M (List DV)} (n : Nat) (s : List UInt8) (hn : 4010 ≤ n) (st : St) (hl : s.length ≤ 4000 → ∀ st, Ok (CutAns 10 s st) (cl [.str s] st))
    (hw : ∀ l st, l.length ≤ 4000 → Ok (WordsAns2 l st) (cw [.str l] st)) : Ok (SplitAns s st) (splitB cl cw n [.str s] st) := by
  unfold splitB
  simp only [J_s, D_nil, base_eq]
  by_cases h4 : 4000 < s.length
  · have e : decide ((s.length : Int) > 4000) = true := decide_eq_true (by omega)
    have es : splitOf s = ([], 0, 40) := by unfold splitOf; rw [if_pos h4]
    rw [e, cond_true, retF_eq]
    refine .mk ⟨0, none, [], _, by rw [es]; rfl, .inr rfl, frz_pre (.refl _), Fz.nil _, by rw [es]; exact Rows.nil _⟩
  have e : decide ((s.length : Int) > 4000) = false := decide_eq_false (by omega)
  have es : splitOf s = goW (cutB 10 s []) 0 [] := by unfold splitOf; rw [if_neg h4]
  rw [e, cond_false]
  refine Ok.call (hl (by omega) st) ?_
  rintro _ ⟨la, s1, rfl, hp1, hf1⟩
  refine ⟨_, s1, rfl, ?_⟩
  have hmem := cutB_mem 10 s []
  have hcnt := cutB_len 10 s []
  have hcl := count_le 10 s
  generalize cutB 10 s [] = L at *
  simp only [J_l, D_nil]
  rw [join_eq]
  refine loop_rule _ (fun k x s2 => ∃ (i z : Nat) (a : Option (Nat × Nat)) (ds : List DV) (acc : List (List (List UInt8))), x = [.slice z a acc.length, .int .i64 i] ∧ (z = 1 ∨ a = none) ∧ i ≤ L.length ∧ L.length - i ≤ k ∧ acc.length = i ∧ Own st s2 a ds ∧ Kp s1 s2 ∧ Rows s2 ds (acc.map (·.map .str)) ∧ goW (L.drop i) i acc = splitOf s)
    ?_ L.length n _ _ ⟨0, 0, none, [], [], rfl, .inr rfl, Nat.zero_le _, by omega, rfl, Own.nil hp1, Kp.refl _, Rows.nil _, by rw [es]; rfl⟩ (by omega)
  rintro k _ s2 ⟨i, z, a, ds, acc, rfl, hz, hi, hk, rfl, ho, hkp, hrows, hI⟩ rec hrec
  simp only [J_l_any 1 z a _ hz, J_i, D_nil]
  have hdl : ds.length = acc.length := by rw [hrows.1, List.length_map]
  have hfl := hf1.kp hkp
  by_cases hlt : acc.length < L.length
  · have e : decide ((acc.length : Int) < (L.length : Int)) = true := decide_eq_true (by omega)
    have hg : L[acc.length]? = some L[acc.length] := List.getElem?_eq_getElem hlt
    obtain ⟨p, o, rfl⟩ := hfl.1.some_of (by simp; omega)
    have hml := hmem _ (List.getElem_mem hlt)
    rw [List.length_nil] at hml
    rw [List.drop_eq_getElem_cons hlt, goW] at hI
    simp only [e, cond_true, nn_some', chk_of (inB_of hlt), Int.toNat_natCast]
    rw [hfl.1.get1 (d := .str L[acc.length]) (by simp [hg])]
    simp only [D_str]
    refine Ok.call (hw L[acc.length] s2 (by omega)) ?_
    rintro _ ⟨z3, a3, s3, rfl, hz3, hp3, hf3⟩
    refine ⟨_, s3, rfl, ?_⟩
    simp only [J_l_any 1 z3 a3 _ hz3, J_i, D_nil]
    have wi : wr64 ((acc.length : Int) + 1) = ((acc.length + 1 : Nat) : Int) := wr64_of (by omega) (by omega)
    by_cases hw0 : (wordsOf L[acc.length]).1 = 0
    · rw [if_pos hw0] at hI
      have eb : ((wordsOf L[acc.length]).1 == 0) = true := by rw [hw0]; rfl
      rw [eb]
      simp only [Bool.not_true, cond_false]
      obtain ⟨q, s4, h1, h3, h2⟩ := (ho.mono hp3).push2 (β := List DV) (sz := 1) (n := acc.length) (lim := 2932031007402) [.slice 1 a3 (wordsOf L[acc.length]).2.length] (Nat.succ_pos 0) (by omega) rfl (by omega)
      rw [h2, wi]
      refine hrec (L.length - (acc.length + 1)) _ _ (by omega) ⟨acc.length + 1, 1, q, _, acc ++ [(wordsOf L[acc.length]).2], by simp, .inl rfl, by omega, by omega, by simp, h1, hkp.trans (hp3.kp.trans h3), ?_, hI⟩
      have := ((hrows.kp (hp3.kp.trans h3)).push (cs := (wordsOf L[acc.length]).2.map .str) (n := (wordsOf L[acc.length]).2.length) (by simp) (hf3.kp h3))
      rw [List.map_append]
      exact this
    · rw [if_neg hw0] at hI
      have eb : ((wordsOf L[acc.length]).1 == 0) = false := beq_eq_false_iff_ne.2 hw0
      rw [eb]
      simp only [Bool.not_false, cond_true, retF_eq]
      rw [wi]
      refine .mk ⟨0, none, [], _, by rw [← hI]; rfl, .inr rfl, frz_pre (ho.1.trans hp3), Fz.nil _, by rw [← hI]; exact Rows.nil _⟩
  · have e : decide ((acc.length : Int) < (L.length : Int)) = false := decide_eq_false (by omega)
    rw [List.drop_eq_nil_of_le (by omega), goW] at hI
    rw [e, cond_false]
    simp only [J_l, D_nil, retF_eq]
    refine .mk ⟨1, a, ds, _, by rw [← hI]; rfl, .inl rfl, frz_pre ho.1, ho.fz, ?_⟩
    rw [← hI]
    exact hrows.kp (frz_kp _ _)

theorem ev_lex_Split {Bd : Bodies} (h : H_lex_Split Bd) (n : Nat) (s : List UInt8) (hn : 4020 ≤ n) (st : St) : Ok (SplitAns s st) (run Bd n 45 [.str s] st) := by
  obtain ⟨n, rfl⟩ : ∃ m, n = m + 1 := ⟨n - 1, by omega⟩
  rw [run_succ, h.eq, lex_Split_eq]
  exact split_ok n s (by omega) st (fun hl st => ev_lex_Lines h.lex_Lines n s (by omega) (by omega) st) fun l st hl => ev_lex_Words2 h.lex_Words n l (by omega) (by omega) st
theorem ev_ref31_Split {Bd : Bodies} (h : H_ref31_Split Bd) (n : Nat) (s : List UInt8) (hn : 4020 ≤ n) (st : St) : Ok (SplitAns s st) (run Bd n 46 [.str s] st) := by
  obtain ⟨n, rfl⟩ : ∃ m, n = m + 1 := ⟨n - 1, by omega⟩
  rw [run_succ, h.eq, ref31_Split_eq]
  exact split_ok n s (by omega) st (fun hl st => ev_ref31_Lines h.ref31_Lines n s (by omega) (by omega) st) fun l st hl => ev_ref31_Words2 h.ref31_Words n l (by omega) (by omega) st

theorem law_law31_LexSplits {Bd : Bodies} (h : H_law31_LexSplits Bd) (s : St) (args : List DV) (_ : Frz s) (_ : Tabs s) (hr : RdA s [(false, .s)] args) : ∃ n s', run Bd n 42 args s = some (.val [.bool true], s') := by
  obtain ⟨_, _, _, ⟨t, rfl, _⟩, hr1, rfl, hd0⟩ := hr
  cases hr1
  cases hd0
  suffices hs : Ok (fun o => ∃ s', o = (.val [.bool true], s')) (run Bd 10000 42 [.str t] s) by
    obtain ⟨o, e, s', rfl⟩ := hs
    exact ⟨10000, s', e⟩
  rw [run_succ, h.eq]
  unfold b_law31_LexSplits
  simp only [J_s, D_nil]
  refine Ok.call (ev_law31_awake h.law31_awake 9999 (by omega) s) ?_
  rintro _ ⟨s1, rfl, hp1⟩
  refine ⟨_, s1, rfl, ?_⟩
  simp only [J_b, D_nil, Bool.not_true, cond_false]
  rw [join_eq]
  simp only [J_b, D_nil]
  by_cases h1 : t.length > 5000
  · have e : decide ((t.length : Int) > 5000) = true := decide_eq_true (by omega)
    rw [e, cond_true]
    refine Ok.call (ev_law31_awake h.law31_awake 9999 (by omega) s1) ?_
    rintro _ ⟨s2, rfl, hp2⟩
    refine ⟨_, s2, rfl, ?_⟩
    simp only [J_b, D_nil, ret_eq]
    exact .mk ⟨s2, rfl⟩
  have e1 : decide ((t.length : Int) > 5000) = false := decide_eq_false (by omega)
  rw [e1, cond_false]
  refine Ok.call (ev_lex_Lines h.lex_Lines 9999 t (by omega) (by omega) s1) ?_
  rintro _ ⟨a2, s2, rfl, hp2, hf2⟩
  refine ⟨_, s2, rfl, ?_⟩
  simp only [J_l, D_nil]
  refine Ok.call (ev_ref31_Lines h.ref31_Lines 9999 t (by omega) (by omega) s2) ?_
  rintro _ ⟨a3, s3, rfl, hp3, hf3⟩
  refine ⟨_, s3, rfl, ?_⟩
  simp only [J_l, D_nil]
  have hcnt := cutB_len 10 t []
  have hcl := count_le 10 t
  refine Ok.call (ev_ref31_Same h.ref31_Same 9999 _ _ a2 a3 s3 (hf2.pre hp3).1 hf3.1 (by omega) (by omega)) ?_
  rintro _ rfl
  refine ⟨_, s3, rfl, ?_⟩
  simp only [J_b, D_nil, decide_true, Bool.not_true, cond_false]
  refine Ok.call (ev_lex_Split h.lex_Split 9999 t (by omega) s3) ?_
  rintro _ ⟨z5, a5, ds5, s5, rfl, hz5, hp5, hf5, hr5⟩
  refine ⟨_, s5, rfl, ?_⟩
  simp only [J_l_any 1 z5 a5 _ hz5, J_i, D_nil]
  refine Ok.call (ev_ref31_Split h.ref31_Split 9999 t (by omega) s5) ?_
  rintro _ ⟨z8, a8, ds8, s8, rfl, hz8, hp8, hf8, hr8⟩
  refine ⟨_, s8, rfl, ?_⟩
  have hlen : (splitOf t).1.length ≤ 5001 := by
    unfold splitOf
    split
    · exact Nat.zero_le _
    · rcases goW_spec _ _ _ _ rfl with ⟨_, _, _, h4⟩ | ⟨_, h2, _⟩
      · rw [h4]; simp; omega
      · rw [h2]; exact Nat.zero_le _
  have hrl : ∀ l ∈ (splitOf t).1, l.length ≤ 40 := by
    unfold splitOf
    split
    · intro l hl; cases hl
    · rcases goW_spec _ _ _ _ rfl with ⟨_, h2, _, h4⟩ | ⟨_, h2, _⟩
      · rw [h4]
        intro l hl
        simp only [List.nil_append, List.mem_map] at hl
        obtain ⟨x, hx, rfl⟩ := hl
        have := h2 x hx
        unfold wordsOf at this ⊢
        split
        · exact Nat.zero_le _
        · split
          · exact Nat.zero_le _
          · simp only; omega
      · rw [h2]; intro l hl; cases hl
  generalize (splitOf t) = X at *
  obtain ⟨X, at', er⟩ := X
  simp only at hlen hrl hf5 hr5 hf8 hr8
  have hr5 := hr5.kp hp8.kp
  have hf5 := hf5.pre hp8
  simp only [J_l_any 1 z8 a8 _ hz8, J_i, D_nil, beq_self_eq_true, Bool.not_true, cond_false]
  rw [join_eq]
  simp only [J_b, D_nil, cond_false]
  rw [join_eq]
  simp only [J_b, D_nil, cond_false]
  rw [join_eq]
  have l5 : ds5.length = X.length := by rw [hr5.1, List.length_map]
  have l8 : ds8.length = X.length := by rw [hr8.1, List.length_map]
  refine loop_rule _ (fun k x s9 => ∃ i : Nat, x = [.int .i64 i] ∧ i ≤ X.length ∧ X.length - i ≤ k ∧ s9 = s8) ?_ X.length 9999 _ _ ⟨0, rfl, Nat.zero_le _, by omega, rfl⟩ (by omega)
  rintro k _ s9 ⟨i, rfl, hi, hk, rfl⟩ rec hrec
  simp only [J_i, D_nil]
  by_cases hlt : i < X.length
  · have e : decide ((i : Int) < (X.length : Int)) = true := decide_eq_true (by omega)
    have hg : X[i]? = some X[i] := List.getElem?_eq_getElem hlt
    obtain ⟨p5, o5, rfl⟩ := hf5.1.some_of (by omega)
    obtain ⟨p8, o8, rfl⟩ := hf8.1.some_of (by omega)
    obtain ⟨b5, g5, f5⟩ := hr5.2 i (X[i].map .str) (by rw [List.getElem?_map, hg]; rfl)
    obtain ⟨b8, g8, f8⟩ := hr8.2 i (X[i].map .str) (by rw [List.getElem?_map, hg]; rfl)
    simp only [e, cond_true, nn_some', chk_of (inB_of hlt), Int.toNat_natCast]
    rw [hf5.1.get1 g5]
    simp only [D_slice]
    rw [hf8.1.get1 g8]
    simp only [D_slice, List.length_map]
    have := hrl _ (List.getElem_mem hlt)
    refine Ok.call (ev_ref31_Same h.ref31_Same 9999 _ _ b5 b8 s9 f5.1 f8.1 (by omega) (by omega)) ?_
    rintro _ rfl
    refine ⟨_, s9, rfl, ?_⟩
    simp only [J_b, D_nil, decide_true, Bool.not_true, cond_false]
    rw [wr64_of (by omega) (by omega)]
    exact hrec (X.length - (i + 1)) _ _ (by omega) ⟨i + 1, rfl, by omega, by omega, rfl⟩
  · have e : decide ((i : Int) < (X.length : Int)) = false := decide_eq_false (by omega)
    simp only [e, cond_false, ret_eq]
    exact .mk ⟨_, rfl⟩
end Go.Gv.F
