/- lex.Join joins words by blanks; the law LexJoins answers true. -/
import Derived.Test.YtanmddhmkphilaaDoorGvPJoinA
import Derived.Test.YtanmddhmkphilaaDoorGvBLj
namespace Go.Gv.F
open Go.Gv

theorem ev_strings_Join {Bd : Bodies} (h : H_strings_Join Bd) (n : Nat) (a : Option (Nat × Nat)) (ws : List (List UInt8)) (sep : List UInt8) (st : St) (hsl : Sl st a (ws.map .str))
    (h1 : ws.length ≤ 140737488355328) (h2 : (Lib.join ws sep).length ≤ 140737488355328) : run Bd (n + 1) 14 [.slice 1 a ws.length, .str sep] st = some (.val [.str (Lib.join ws sep)], st) := by
  rw [run_succ, h.eq]
  unfold lib_Join
  have hl : ws.length = (ws.map DV.str).length := by simp
  simp only
  rw [hl, rd_eq hsl]
  simp only [strsOf_map]
  rw [Nat.ble_eq_true_of_le (by rw [← hl]; exact h1), Nat.ble_eq_true_of_le h2]
  rfl

/-- What lex.Join answers. -/
def joinAns (ws : List (List UInt8)) : List DV := if ws.length ≤ 40 ∧ ∀ w ∈ ws, IsWord w then [.str (Lib.join ws [32]), .bool true] else [.str [], .bool false]

theorem ev_lex_Join {Bd : Bodies} (h : H_lex_Join Bd) (n z : Nat) (a : Option (Nat × Nat)) (ws : List (List UInt8)) (st : St) (hz : z = 1 ∨ a = none) (hsl : Sl st a (ws.map .str)) (hw : ∀ w ∈ ws, w.length ≤ 1000) (hn : 1010 ≤ n) :
    Ok (fun o => o = (.val (joinAns ws), st)) (run Bd n 8 [.slice z a ws.length] st) := by
  obtain ⟨n, rfl⟩ : ∃ m, n = m + 2 := ⟨n - 2, by omega⟩
  rw [run_succ, h.eq]
  unfold b_lex_Join
  simp only [J_l_any 1 z a _ hz, D_nil]
  by_cases h40 : ws.length > 40
  · have e : decide ((ws.length : Int) > 40) = true := decide_eq_true (by omega)
    rw [e]
    simp only [cond_true, ret_eq]
    refine .mk ?_
    unfold joinAns
    rw [if_neg (by omega)]
  have e : decide ((ws.length : Int) > 40) = false := decide_eq_false (by omega)
  rw [e]
  simp only [cond_false]
  rw [join_eq]
  refine loop_rule _ (fun k x s1 => ∃ i : Nat, x = [.int .i64 i] ∧ i ≤ ws.length ∧ ws.length - i ≤ k ∧ s1 = st ∧ ∀ w ∈ ws.take i, IsWord w) ?_ ws.length (n + 1) _ _ ⟨0, rfl, Nat.zero_le _, by omega, rfl, by simp⟩ (by omega)
  rintro k _ s1 ⟨i, rfl, hi, hk, rfl, hpl⟩ rec hrec
  simp only [J_i, D_nil]
  by_cases hlt : i < ws.length
  · have e : decide ((i : Int) < (ws.length : Int)) = true := decide_eq_true (by omega)
    have hg : ws[i]? = some ws[i] := List.getElem?_eq_getElem hlt
    obtain ⟨p, o, rfl⟩ := hsl.some_of (by simp; omega)
    have hwi := hw _ (List.getElem_mem hlt)
    simp only [e, cond_true, nn_some', chk_of (inB_of hlt), Int.toNat_natCast]
    rw [hsl.get1 (d := .str ws[i]) (by simp [hg])]
    simp only [D_str]
    refine Ok.call (ev_lex_Plain h.lex_Plain (n + 1) ws[i] (by omega) s1) ?_
    rintro _ rfl
    refine ⟨_, s1, rfl, ?_⟩
    simp only [J_b, D_nil, plainOf_eq]
    by_cases hp : IsWord ws[i]
    · rw [decide_eq_true hp]
      simp only [Bool.not_true, cond_false]
      rw [wr64_of (by omega) (by omega)]
      refine hrec (ws.length - (i + 1)) _ _ (by omega) ⟨i + 1, rfl, by omega, by omega, rfl, fun w hw' => ?_⟩
      rw [List.take_succ_eq_append_getElem hlt] at hw'
      rcases List.mem_append.1 hw' with h | h
      · exact hpl w h
      · rw [List.mem_singleton.1 h]; exact hp
    · rw [decide_eq_false hp]
      simp only [Bool.not_false, cond_true, ret_eq]
      refine .mk ?_
      unfold joinAns
      rw [if_neg fun hh => hp (hh.2 _ (List.getElem_mem hlt))]
  · have e : decide ((i : Int) < (ws.length : Int)) = false := decide_eq_false (by omega)
    have him : i = ws.length := by omega
    subst him
    rw [List.take_length] at hpl
    simp only [e, cond_false]
    have hjl := join_len 1000 hw
    have b32 : (bs [32] : List UInt8) = [32] := rfl
    rw [b32, call_eq (ev_strings_Join h.strings_Join n a ws [32] s1 hsl (by omega) (by omega))]
    simp only [J_s, D_nil, ret_eq]
    refine .mk ?_
    unfold joinAns
    rw [if_pos ⟨by omega, hpl⟩]

theorem law_law31_LexJoins {Bd : Bodies} (h : H_law31_LexJoins Bd) (s : St) (args : List DV) (_ : Frz s) (hr : RdA s [(false, .sl .s)] args) : ∃ n s', run Bd n 7 args s = some (.val [.bool true], s') := by
  obtain ⟨_, d0, _, hr0, hr1, rfl, hd0⟩ := hr
  cases hr1
  cases hd0
  obtain ⟨a, ws, ⟨z, hz, rfl⟩, hsl⟩ := rd_strs hr0
  suffices hs : Ok (fun o => ∃ s', o = (.val [.bool true], s')) (run Bd 10000 7 [.slice z a ws.length] s) by
    obtain ⟨o, e, s', rfl⟩ := hs
    exact ⟨10000, s', e⟩
  rw [run_succ, h.eq]
  unfold b_law31_LexJoins
  simp only [J_l_any 1 z a _ hz, D_nil]
  refine Ok.call (ev_law31_awake h.law31_awake 9999 (by omega) s) ?_
  rintro _ ⟨s1, rfl, hp1⟩
  refine ⟨_, s1, rfl, ?_⟩
  simp only [J_b, D_nil, Bool.not_true, cond_false]
  rw [join_eq]
  simp only [J_b, D_nil]
  by_cases h1 : ws.length > 60
  · have e : decide ((ws.length : Int) > 60) = true := decide_eq_true (by omega)
    rw [e]
    simp only [cond_true]
    refine Ok.call (ev_law31_awake h.law31_awake 9999 (by omega) s1) ?_
    rintro _ ⟨s2, rfl, hp2⟩
    refine ⟨_, s2, rfl, ?_⟩
    simp only [J_b, D_nil, ret_eq]
    exact .mk ⟨s2, rfl⟩
  have e1 : decide ((ws.length : Int) > 60) = false := decide_eq_false (by omega)
  rw [e1]
  simp only [cond_false]
  rw [join_eq]
  refine loop_rule _ (fun k x s2 => ∃ i : Nat, x = [.bool (decide (ws.length ≤ 40 ∧ ∀ w ∈ ws.take i, IsWord w)), .int .i64 i] ∧ i ≤ ws.length ∧ ws.length - i ≤ k ∧ Pre s s2 ∧ (∀ w ∈ ws.take i, w.length ≤ 100))
    ?_ ws.length 9999 _ _ ⟨0, ?_, Nat.zero_le _, by omega, hp1, by simp⟩ (by omega)
  rotate_left
  · have : decide ((ws.length : Int) ≤ 40) = decide (ws.length ≤ 40 ∧ ∀ w ∈ ws.take 0, IsWord w) := by
      rw [decide_eq_decide]
      simp
      omega
    rw [this]; rfl
  rintro k _ s2 ⟨i, rfl, hi, hk, hp2, hwl⟩ rec hrec
  simp only [J_i, J_b, D_nil]
  by_cases hlt : i < ws.length
  · have e : decide ((i : Int) < (ws.length : Int)) = true := decide_eq_true (by omega)
    have hg : ws[i]? = some ws[i] := List.getElem?_eq_getElem hlt
    obtain ⟨p, o, rfl⟩ := hsl.some_of (by simp; omega)
    have ld : ∀ (K : DV → M (List DV)) (s' : St), Pre s s' → M.load1 p (i * 1 + o) K s' = K (.str ws[i]) s' := fun K s' hp => (hsl.mono hp).get1 (d := .str ws[i]) (by simp [hg]) K
    simp only [e, cond_true, nn_some', chk_of (inB_of hlt), Int.toNat_natCast]
    rw [ld _ _ hp2]
    simp only [D_str]
    by_cases hw1 : ws[i].length > 100
    · have e : decide ((ws[i].length : Int) > 100) = true := decide_eq_true (by omega)
      simp only [e, cond_true, ret_eq]
      exact .mk ⟨s2, rfl⟩
    have e5 : decide ((ws[i].length : Int) > 100) = false := decide_eq_false (by omega)
    simp only [e5, cond_false]
    rw [ld _ _ hp2]
    simp only [D_str]
    obtain ⟨_, e6, rfl⟩ := ev_lex_Plain h.lex_Plain 9999 ws[i] (by omega) s2
    rw [callX_eq e6 (Pre.refl _)]
    simp only [J_b, D_nil]
    rw [ld _ _ hp2]
    simp only [D_str]
    refine Ok.call (ev_ref31_Plain h.ref31_Plain 9999 ws[i] (by omega) (by omega) s2) ?_
    rintro _ ⟨s3, rfl, hp3⟩
    refine ⟨_, s3, rfl, ?_⟩
    have hp3' := hp2.trans hp3
    have beqs : ∀ b : Bool, (b == b) = true := fun b => by cases b <;> rfl
    simp only [J_b, D_nil, plainOf_eq, beqs, Bool.not_true, cond_false]
    rw [join_eq]
    have hts : ws.take (i + 1) = ws.take i ++ [ws[i]] := List.take_succ_eq_append_getElem hlt
    have nxt : ∀ (b : Bool) (s4 : St), Pre s s4 → b = decide (ws.length ≤ 40 ∧ ∀ w ∈ ws.take (Nat.succ i), IsWord w) → Ok (fun o => ∃ s', o = (.val [.bool true], s')) (rec [.bool b, .int .i64 (wr64 ((i : Int) + 1))] s4) := by
      rintro b s4 hp4 rfl
      rw [wr64_of (by omega) (by omega)]
      refine hrec (ws.length - (i + 1)) _ _ (by omega) ⟨i + 1, rfl, by omega, by omega, hp4, fun w hw' => ?_⟩
      rw [hts] at hw'
      rcases List.mem_append.1 hw' with h | h
      · exact hwl w h
      · rw [List.mem_singleton.1 h]; omega
    by_cases hok : ws.length ≤ 40 ∧ ∀ w ∈ ws.take i, IsWord w
    · rw [decide_eq_true hok]
      simp only [cond_true]
      rw [ld _ _ hp3']
      simp only [D_str]
      refine Ok.call (ev_ref31_Plain h.ref31_Plain 9999 ws[i] (by omega) (by omega) s3) ?_
      rintro _ ⟨s4, rfl, hp4⟩
      refine ⟨_, s4, rfl, ?_⟩
      simp only [J_b, D_nil]
      refine nxt _ s4 (hp3'.trans hp4) ?_
      rw [decide_eq_decide, show ws.take (Nat.succ i) = _ from hts]
      constructor
      · refine fun hx => ⟨hok.1, fun w hw' => ?_⟩
        rcases List.mem_append.1 hw' with h | h
        · exact hok.2 w h
        · rw [List.mem_singleton.1 h]; exact hx
      · exact fun hx => hx.2 _ (List.mem_append_right _ (List.mem_singleton.2 rfl))
    · rw [decide_eq_false hok]
      simp only [cond_false, J_b, D_nil]
      refine nxt _ s3 hp3' ?_
      rw [eq_comm, decide_eq_false_iff_not]
      exact fun hx => hok ⟨hx.1, fun w hw' => hx.2 w (by rw [show ws.take (Nat.succ i) = _ from hts]; exact List.mem_append_left _ hw')⟩
  · have e : decide ((i : Int) < (ws.length : Int)) = false := decide_eq_false (by omega)
    have hin : i = ws.length := by omega
    subst hin
    rw [List.take_length] at *
    simp only [e, cond_false]
    refine Ok.call (ev_lex_Join h.lex_Join 9999 1 a ws s2 (.inl rfl) (hsl.mono hp2) (fun w hw => by have := hwl w hw; omega) (by omega)) ?_
    rintro _ rfl
    unfold joinAns
    by_cases hok : ws.length ≤ 40 ∧ ∀ w ∈ ws, IsWord w
    · rw [if_pos hok, decide_eq_true hok]
      refine ⟨_, s2, rfl, ?_⟩
      simp only [J_s, J_b, D_nil, Bool.not_true, cond_false]
      have hjl := join_len 100 hwl
      refine Ok.call (ev_lex_Words h.lex_Words 9999 (Lib.join ws [32]) (by omega) (by omega) s2) ?_
      rintro _ ⟨z1, a1, s3, rfl, hz1, hp3, hsl1⟩
      refine ⟨_, s3, rfl, ?_⟩
      rw [wordsOf_join hok.2 hok.1] at hsl1 ⊢
      simp only [J_l_any 1 z1 a1 _ hz1, J_i, D_nil]
      rw [join_eq]
      have e0 : ((0 : Int) == 0) = true := rfl
      simp only [e0, cond_true, J_b, D_nil]
      rw [join_eq]
      refine Ok.call (ev_ref31_Same h.ref31_Same 9999 ws ws a1 a s3 hsl1 (hsl.mono (hp2.trans hp3)) (by omega) (by omega)) ?_
      rintro _ rfl
      refine ⟨_, s3, rfl, ?_⟩
      simp only [J_b, D_nil, decide_true, ret_eq]
      exact .mk ⟨s3, rfl⟩
    · rw [if_neg hok, decide_eq_false hok]
      refine ⟨_, s2, rfl, ?_⟩
      simp only [J_s, J_b, D_nil, Bool.not_false, cond_true]
      rw [join_eq]
      simp only [J_b, D_nil, ret_eq]
      exact .mk ⟨s2, rfl⟩
end Go.Gv.F
