/- The acts of a text: the program's reader and the document's; the law ScriptReads answers true. -/
import Derived.Test.YtanmddhmkphilaaDoorGvPActs
import Derived.Test.YtanmddhmkphilaaDoorGvBSr
namespace Go.Gv.F
open Go.Gv

noncomputable def readB (cl cp : List DV → M (List DV)) (n : Nat) (args : List DV) : M (List DV) :=
  J.s args fun s args =>
  D.nil args <|
  M.base fun b0 =>
  M.call (cl [.str s]) fun ds =>
  J.l 1 ds fun x xn ds =>
  J.i .i64 ds fun x1 ds =>
  J.i .i64 ds fun x2 ds =>
  D.nil ds <|
  bif !(x2 == 0) then
    M.retF b0 [.slice 0 none 0, .int .i64 x1, .int .i64 x2]
  else
    M.join (fun st =>
      J.l 8 st fun out outn st =>
      D.nil st <|
      M.retF b0 [.slice 8 out outn, .int .i64 0, .int .i64 0]) fun jk1 =>
    M.loop (fun rec1 st =>
      J.l 8 st fun out1 out1n st =>
      J.i .i64 st fun x3 st =>
      D.nil st <|
      bif decide (x3 < (xn : Int)) then
        M.nn x fun i o =>
        M.chk (inB x3 xn) <|
        M.load1 i (x3.toNat * 1 + o) fun d =>
        D.slice 1 d fun x4 x4n =>
        M.call (cp [.slice 1 x4 x4n]) fun ds =>
        J.a ds fun cs ds =>
        J.i .i64 cs fun x5 r =>
        J.s r fun x6 r =>
        J.s r fun x7 r =>
        J.i .i64 r fun x8 r =>
        J.i .i64 r fun x9 r =>
        J.i .i64 r fun x10 r =>
        J.i .i64 r fun x11 r =>
        J.l 1 r fun x12 x12n r =>
        D.nil r <|
        J.i .i64 ds fun x13 ds =>
        D.nil ds <|
        bif !(x13 == 0) then
          M.retF b0 [.slice 0 none 0, .int .i64 (wr64 (x3 + 1)), .int .i64 x13]
        else
          M.new [.int .i64 x5, .str x6, .str x7, .int .i64 x8, .int .i64 x9, .int .i64 x10, .int .i64 x11, .slice 1 x12 x12n] fun i1 =>
          M.load i1 0 8 fun cs1 =>
          M.app 8 out1 out1n cs1 1 733007751850 fun p =>
          rec1 [.slice 8 p (out1n + 1), .int .i64 (wr64 (x3 + 1))]
      else
        jk1 [.slice 8 out1 out1n]) n [.slice 0 none 0, .int .i64 0]
theorem script_Read_eq (c : Oracle) (n : Nat) (args : List DV) : b_script_Read c n args = readB (c 45) (c 102) n args := rfl
theorem ref32_Read_eq (c : Oracle) (n : Nat) (args : List DV) : b_ref32_Read c n args = readB (c 46) (c 103) n args := rfl

theorem read_ok {cl cp : List DV → M (List DV)} (n : Nat) (s : List UInt8) (hn : 4010 ≤ n) (st : St) (ht : Tabs st) (hl : Ok (SplitAns s st) (cl [.str s] st))
    (hp : ∀ (p : Option (Nat × Nat)) (ws : List (List UInt8)) (st : St), Tabs st → Sl st p (ws.map .str) → ws.length ≤ 40 → (∀ w ∈ ws, w.length ≤ 4000) → Ok (ParseAns ws st) (cp [.slice 1 p ws.length] st)) : Ok (ReadAns s st) (readB cl cp n [.str s] st) := by
  unfold readB
  simp only [J_s, D_nil, base_eq]
  refine Ok.call hl ?_
  rintro _ ⟨z0, la, lds, s1, rfl, hz0, hp1, hf1, hrw⟩
  refine ⟨_, s1, rfl, ?_⟩
  have hsm := splitOf_small s
  have hrt : readT s = if (splitOf s).2.2 = 0 then goR (splitOf s).1 0 [] else ([], (splitOf s).2.1, (splitOf s).2.2) := rfl
  generalize (splitOf s) = X at *
  obtain ⟨X, at', er⟩ := X
  simp only at hsm hrt hf1 hrw
  simp only [J_l_any 1 z0 la _ hz0, J_i, D_nil]
  by_cases he : er = 0
  · rw [if_pos he] at hrt
    have eb : (er == 0) = true := by rw [he]; rfl
    rw [eb, Bool.not_true, cond_false, join_eq]
    have ll : lds.length = X.length := by rw [hrw.1, List.length_map]
    refine loop_rule _ (fun k x s2 => ∃ (i z : Nat) (a : Option (Nat × Nat)) (ds : List DV) (acc : List ActV), x = [.slice z a acc.length, .int .i64 i] ∧ (z = 8 ∨ a = none) ∧ i ≤ X.length ∧ X.length - i ≤ k ∧ acc.length = i ∧ Own st s2 a ds ∧ Kp s1 s2 ∧ Acts s2 ds acc ∧ goR (X.drop i) i acc = readT s)
      ?_ X.length n _ _ ⟨0, 0, none, [], [], rfl, .inr rfl, Nat.zero_le _, by omega, rfl, Own.nil hp1, Kp.refl _, rfl, by rw [hrt]; rfl⟩ (by omega)
    rintro k _ s2 ⟨i, z, a, ds, acc, rfl, hz, hi, hk, rfl, ho, hkp, hacts, hI⟩ rec hrec
    simp only [J_l_any 8 z a _ hz, J_i, D_nil]
    have hdl := hacts.len
    have hfl := hf1.kp hkp
    by_cases hlt : acc.length < X.length
    · have e : decide ((acc.length : Int) < (X.length : Int)) = true := decide_eq_true (by omega)
      have hg : X[acc.length]? = some X[acc.length] := List.getElem?_eq_getElem hlt
      obtain ⟨q, o, rfl⟩ := hfl.1.some_of (by omega)
      obtain ⟨b5, g5, f5⟩ := (hrw.kp hkp).2 acc.length (X[acc.length].map .str) (by rw [List.getElem?_map, hg]; rfl)
      have hml := hsm.2 _ (List.getElem_mem hlt)
      rw [List.drop_eq_getElem_cons hlt, goR] at hI
      simp only [e, cond_true, nn_some', chk_of (inB_of hlt), Int.toNat_natCast]
      rw [hfl.1.get1 g5]
      simp only [D_slice, List.length_map]
      refine Ok.call (hp b5 X[acc.length] s2 (ht.mono ho.1) f5.1 hml.1 hml.2) ?_
      rintro _ ⟨z3, p3, s3, rfl, hz3, hp3, hf3⟩
      refine ⟨_, s3, rfl, ?_⟩
      generalize hY : parseF X[acc.length] = Y at hI hf3
      obtain ⟨y, ey⟩ := Y
      simp only at hI hf3
      unfold actC
      simp only [J_a, J_i, J_s, J_l_any 1 z3 p3 _ hz3, D_nil]
      have wi : wr64 ((acc.length : Int) + 1) = ((acc.length + 1 : Nat) : Int) := wr64_of (by omega) (by omega)
      by_cases hw0 : ey = 0
      · rw [if_pos hw0] at hI
        have eb : (ey == 0) = true := by rw [hw0]; rfl
        rw [eb, Bool.not_true, cond_false]
        obtain ⟨q4, s4, h1, h3, h2⟩ := (ho.mono hp3).push2 (β := List DV) (sz := 8) (n := acc.length) (lim := 733007751850) (actC y 1 p3) (by omega) (by omega) rfl (by omega)
        unfold actC at h2
        rw [h2, wi]
        refine hrec (X.length - (acc.length + 1)) _ _ (by omega) ⟨acc.length + 1, 8, q4, _, acc ++ [y], by simp, .inl rfl, by omega, by omega, by simp, h1, hkp.trans (hp3.kp.trans h3), ?_, hI⟩
        exact (hacts.kp (hp3.kp.trans h3)).push (hf3.kp h3)
      · rw [if_neg hw0] at hI
        have eb : (ey == 0) = false := beq_eq_false_iff_ne.2 hw0
        rw [eb, Bool.not_false, cond_true, retF_eq, wi]
        refine .mk ⟨0, none, [], _, by rw [← hI]; rfl, .inr rfl, frz_pre (ho.1.trans hp3), Fz.nil _, by rw [← hI]; rfl⟩
    · have e : decide ((acc.length : Int) < (X.length : Int)) = false := decide_eq_false (by omega)
      rw [List.drop_eq_nil_of_le (by omega), goR] at hI
      rw [e, cond_false]
      simp only [J_l, D_nil, retF_eq]
      refine .mk ⟨8, a, ds, _, by rw [← hI]; rfl, .inl rfl, frz_pre ho.1, ho.fz, ?_⟩
      rw [← hI]
      exact hacts.kp (frz_kp _ _)
  · rw [if_neg he] at hrt
    have eb : (er == 0) = false := beq_eq_false_iff_ne.2 he
    rw [eb, Bool.not_false, cond_true, retF_eq]
    refine .mk ⟨0, none, [], _, by rw [hrt]; rfl, .inr rfl, frz_pre hp1, Fz.nil _, by rw [hrt]; rfl⟩

theorem ev_script_Read {Bd : Bodies} (h : H_script_Read Bd) (n : Nat) (s : List UInt8) (hn : 4200 ≤ n) (st : St) (ht : Tabs st) : Ok (ReadAns s st) (run Bd n 121 [.str s] st) := by
  obtain ⟨n, rfl⟩ : ∃ m, n = m + 1 := ⟨n - 1, by omega⟩
  rw [run_succ, h.eq, script_Read_eq]
  exact read_ok n s (by omega) st ht (ev_lex_Split h.lex_Split n s (by omega) st) fun p ws st ht hs hl hw => ev_script_Parse h.script_Parse n 1 p ws st ht (.inl rfl) hs (by omega) (by omega) fun w h => by have := hw w h; omega
theorem ev_ref32_Read {Bd : Bodies} (h : H_ref32_Read Bd) (n : Nat) (s : List UInt8) (hn : 4200 ≤ n) (st : St) (ht : Tabs st) : Ok (ReadAns s st) (run Bd n 122 [.str s] st) := by
  obtain ⟨n, rfl⟩ : ∃ m, n = m + 1 := ⟨n - 1, by omega⟩
  rw [run_succ, h.eq, ref32_Read_eq]
  exact read_ok n s (by omega) st ht (ev_ref31_Split h.ref31_Split n s (by omega) st) fun p ws st ht hs hl hw => ev_ref32_Parse h.ref32_Parse n 1 p ws st (.inl rfl) hs (by omega) (by omega) fun w h => by have := hw w h; omega

theorem law_law32_ScriptReads {Bd : Bodies} (h : H_law32_ScriptReads Bd) (s : St) (args : List DV) (_ : Frz s) (ht : Tabs s) (hr : RdA s [(false, .s)] args) : ∃ n s', run Bd n 120 args s = some (.val [.bool true], s') := by
  obtain ⟨_, _, _, ⟨t, rfl, _⟩, hr1, rfl, hd0⟩ := hr
  cases hr1
  cases hd0
  refine ok_true (n := 10000) ?_
  rw [run_succ, h.eq]
  unfold b_law32_ScriptReads
  simp only [J_s, D_nil]
  refine Ok.call (ev_law32_awake h.law32_awake 9999 (by omega) s ht) ?_
  rintro _ ⟨s1, rfl, hp1⟩
  refine ⟨_, s1, rfl, ?_⟩
  simp only [J_b, D_nil, Bool.not_true, cond_false]
  rw [join_eq]
  simp only [J_b, D_nil]
  by_cases h1 : t.length > 4200
  · have e : decide ((t.length : Int) > 4200) = true := decide_eq_true (by omega)
    rw [e, cond_true]
    refine Ok.call (ev_law32_awake h.law32_awake 9999 (by omega) s1 (ht.mono hp1)) ?_
    rintro _ ⟨s2, rfl, hp2⟩
    refine ⟨_, s2, rfl, ?_⟩
    simp only [J_b, D_nil, ret_eq]
    exact .mk ⟨s2, rfl⟩
  have e1 : decide ((t.length : Int) > 4200) = false := decide_eq_false (by omega)
  rw [e1, cond_false]
  refine Ok.call (ev_script_Read h.script_Read 9999 t (by omega) s1 (ht.mono hp1)) ?_
  rintro _ ⟨z5, a5, ds5, s5, rfl, hz5, hp5, hf5, hr5⟩
  refine ⟨_, s5, rfl, ?_⟩
  simp only [J_l_any 8 z5 a5 _ hz5, J_i, D_nil]
  refine Ok.call (ev_ref32_Read h.ref32_Read 9999 t (by omega) s5 (ht.mono (hp1.trans hp5))) ?_
  rintro _ ⟨z8, a8, ds8, s8, rfl, hz8, hp8, hf8, hr8⟩
  refine ⟨_, s8, rfl, ?_⟩
  have hsm := readT_small t
  generalize (readT t) = X at *
  obtain ⟨X, at', er⟩ := X
  simp only at hsm hf5 hr5 hf8 hr8
  have hr5 := hr5.kp hp8.kp
  have hf5 := hf5.pre hp8
  simp only [J_l_any 8 z8 a8 _ hz8, J_i, D_nil, beq_self_eq_true, Bool.not_true, cond_false]
  rw [join_eq]
  simp only [J_b, D_nil, cond_false]
  rw [join_eq]
  simp only [J_b, D_nil, cond_false]
  rw [join_eq]
  have l5 := hr5.len
  have l8 := hr8.len
  refine loop_rule _ (fun k x s9 => ∃ i : Nat, x = [.int .i64 i] ∧ i ≤ X.length ∧ X.length - i ≤ k ∧ s9 = s8) ?_ X.length 9999 _ _ ⟨0, rfl, Nat.zero_le _, by omega, rfl⟩ (by omega)
  rintro k _ s9 ⟨i, rfl, hi, hk, rfl⟩ rec hrec
  simp only [J_i, D_nil]
  by_cases hlt : i < X.length
  · have e : decide ((i : Int) < (X.length : Int)) = true := decide_eq_true (by omega)
    have hg : X[i]? = some X[i] := List.getElem?_eq_getElem hlt
    obtain ⟨p5, o5, rfl⟩ := hf5.1.some_of (by omega)
    obtain ⟨p8, o8, rfl⟩ := hf8.1.some_of (by omega)
    obtain ⟨b5, g5, f5⟩ := hr5.get hg
    obtain ⟨b8, g8, f8⟩ := hr8.get hg
    simp only [e, cond_true, nn_some', chk_of (inB_of hlt), Int.toNat_natCast]
    rw [hf5.1.gets (by omega), g5]
    unfold actC
    simp only [J_i, J_s, J_l, D_nil]
    rw [hf8.1.gets (by omega), g8]
    unfold actC
    simp only [J_i, J_s, J_l, D_nil]
    have hxl := hsm.2 _ (List.getElem_mem hlt)
    refine Ok.call (ev_ref32_Same h.ref32_Same 9999 X[i] X[i] 1 1 b5 b8 s9 (.inl rfl) (.inl rfl) f5.1 f8.1 (by omega) (by omega)) ?_
    rintro _ rfl
    refine ⟨_, s9, rfl, ?_⟩
    simp only [sameF_refl, J_b, D_nil, Bool.not_true, cond_false]
    rw [wr64_of (by omega) (by omega)]
    exact hrec (X.length - (i + 1)) _ _ (by omega) ⟨i + 1, rfl, by omega, by omega, rfl⟩
  · have e : decide ((i : Int) < (X.length : Int)) = false := decide_eq_false (by omega)
    rw [e, cond_false, ret_eq]
    exact .mk ⟨_, rfl⟩
end Go.Gv.F
