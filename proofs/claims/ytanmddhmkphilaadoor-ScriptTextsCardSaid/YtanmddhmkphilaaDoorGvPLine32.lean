/- The line of an act: the document's. -/
import Derived.Test.YtanmddhmkphilaaDoorGvPShow32
namespace Go.Gv.F
open Go.Gv

theorem join_snoc (W : List (List UInt8)) (w : List UInt8) : Lib.join (W ++ [w]) [32] = if W = [] then w else Lib.join W [32] ++ 32 :: w := by
  cases W with
  | nil => exact Lib.join_one w [32]
  | cons x r =>
    rw [if_neg (by simp), List.cons_append, Lib.join_cons, Lib.join_cons]
    unfold Lib.joinTail
    rw [List.map_append, List.flatten_append, List.append_assoc, List.map_cons, List.map_nil, List.flatten_cons, List.flatten_nil, List.append_nil]
    rfl

theorem find_dn {c : Cmd} {i : Nat} (hi : i < 20) (hc : cmds[i]? = some c) : (cmds.find? fun x : Cmd => x.2.2 == ((i + 1 : Nat) : Int)) = some c := by
  refine find_step cmds i (fun j x hj hx => ?_) c hc ?_
  · obtain ⟨t1, _, _, _, _, _, t7⟩ := ref_tab j (by omega)
    rw [t1] at hx
    cases hx
    rw [t7, beq_eq_false_iff_ne]
    omega
  · obtain ⟨t1, _, _, _, _, _, t7⟩ := ref_tab i hi
    rw [t1] at hc
    cases hc
    rw [t7]
    exact beq_self_eq_true _
theorem find_out {d : Int} (h : d ≤ 0 ∨ 21 ≤ d) : (cmds.find? fun x : Cmd => x.2.2 == d) = none := by
  rw [List.find?_eq_none]
  intro x hx
  obtain ⟨j, hj, e⟩ := List.getElem_of_mem hx
  have hj : j < 20 := hj
  obtain ⟨t1, _, _, _, _, _, t7⟩ := ref_tab j hj
  have hx2 : cmds[j]? = some x := by rw [← e]; exact List.getElem?_eq_getElem _
  rw [t1] at hx2
  cases hx2
  rw [t7, beq_iff_eq]
  omega

/-- What the line is joined of, and told. -/
def lineOk (a : ActV) (W : List (List UInt8)) : Bool := ((wordsOf (Lib.join W [32])).1 == 0 && (parseF (wordsOf (Lib.join W [32])).2).2 == 0) && (decide ((wordsOf (Lib.join W [32])).2 = W) && sameF a (parseF (wordsOf (Lib.join W [32])).2).1)
theorem lineOk_eq (a : ActV) (W : List (List UInt8)) : lineOk a W = okW a W := by
  unfold lineOk okW
  by_cases h : W.length ≤ 40 ∧ ∀ w ∈ W, IsWord w
  · rw [(line_iff W).2 h, decide_eq_true h]
    simp
  · rw [decide_eq_false h, Bool.false_and]
    by_cases h1 : (wordsOf (Lib.join W [32])).1 = 0
    · have h2 : ¬ (wordsOf (Lib.join W [32])).2 = W := fun h2 => h ((line_iff W).1 (Prod.ext h1 h2))
      rw [decide_eq_false h2, Bool.false_and, Bool.and_false]
    · have : ((wordsOf (Lib.join W [32])).1 == 0) = false := beq_eq_false_iff_ne.2 h1
      rw [this, Bool.false_and, Bool.false_and]

theorem ev_ref32_Line {Bd : Bodies} (h : H_ref32_Line Bd) (n : Nat) (a : ActV) (z : Nat) (p : Option (Nat × Nat)) (st : St) (hz : z = 1 ∨ p = none) (hsl : Sl st p (ints a.list)) (hr : ActR a) (hs : smallF a = true) (hn : 9800 ≤ n) :
    Ok (ShowAns a st) (run Bd n 125 [.agg (actC a z p)] st) := by
  obtain ⟨n, rfl⟩ : ∃ m, n = m + 2 := ⟨n - 2, by omega⟩
  have hll : a.list.length ≤ 50 := by
    unfold smallF at hs
    simp only [Bool.and_eq_true, decide_eq_true_eq] at hs
    exact hs.2.2
  rw [run_succ, h.eq]
  unfold b_ref32_Line
  have ag : ∀ (l : List DV) (K : List DV → List DV → M (List DV)), J.a (.agg (actC a z p) :: l) K = K (actC a z p) l := fun _ _ => rfl
  rw [ag]
  unfold actC
  simp only [J_i, J_s, J_l_any 1 z p _ hz, D_nil]
  refine Ok.call (ev_ref32_table h.ref32_table n st) ?_
  rintro _ ⟨ta, tb, s1, rfl, hp1, hN, hWt⟩
  refine ⟨_, s1, rfl, ?_⟩
  simp only [J_l, D_nil]
  have hsf : showF a = if sameF a zeroA then ([], true) else match cmds.find? fun c : Cmd => c.2.2 == a.dn with
    | none => ([], false)
    | some c => if okW a (wordsA a c) then (Lib.join (wordsA a c) [32], true) else ([], false) := rfl
  have nz : a.dn ≠ 0 → sameF a zeroA = false := by
    intro hd
    cases hx : sameF a zeroA with
    | false => rfl
    | true => exact absurd (congrArg ActV.dn (sameF_eq hx)) hd
  -- out of range
  have hout : (a.dn < 0 ∨ 21 ≤ a.dn) → Ok (ShowAns a st) ((M.ret [.str (bs []), .bool false] : M (List DV)) s1) := by
    intro hd
    rw [nz (by omega), if_neg Bool.false_ne_true, find_out (by omega)] at hsf
    have hsf : showF a = ([], false) := hsf
    rw [ret_eq]
    refine .mk ⟨s1, ?_, hp1⟩
    rw [hsf]
  rw [join_eq]
  by_cases hneg : a.dn < 0
  · rw [decide_eq_true hneg, cond_true]
    simp only [J_b, D_nil]
    rw [join_eq, cond_true]
    simp only [J_b, D_nil]
    rw [cond_true]
    exact hout (.inl hneg)
  rw [decide_eq_false hneg, cond_false]
  simp only [J_b, D_nil]
  rw [join_eq]
  by_cases hbig : 21 ≤ a.dn
  · have e : decide (a.dn ≥ ((21 : Nat) : Int)) = true := decide_eq_true (by omega)
    rw [e, cond_true]
    simp only [J_b, D_nil]
    rw [cond_true]
    exact hout (.inr hbig)
  have e : decide (a.dn ≥ ((21 : Nat) : Int)) = false := decide_eq_false (by omega)
  have e60 : decide ((a.list.length : Int) > 60) = false := decide_eq_false (by omega)
  rw [e, cond_false, e60]
  simp only [J_b, D_nil]
  rw [cond_false]
  clear hout
  obtain ⟨d, hd⟩ : ∃ d : Nat, a.dn = (d : Int) := ⟨a.dn.toNat, by omega⟩
  have hd21 : d < 21 := by omega
  obtain ⟨u, hu⟩ : ∃ u, tabW[d]? = some u := ⟨_, List.getElem?_eq_getElem (by exact hd21)⟩
  obtain ⟨nm, hnm⟩ : ∃ u, tabN[d]? = some u := ⟨_, List.getElem?_eq_getElem (by exact hd21)⟩
  -- which words they are
  obtain ⟨W0, hW0, hlet, hans⟩ : ∃ W0 : List (List UInt8), (W0 = if 0 < d then [nm] else []) ∧ (∀ b ∈ u, b ∈ letters) ∧
      (∀ W, W = W0 ++ (u.map fun b => giveW a (low b).toNat).flatten → showF a = if okW a W then (Lib.join W [32], true) else ([], false)) ∧ (∀ w ∈ W0, w.length ≤ 60) ∧ u.length ≤ 3 := by
    rcases Nat.eq_zero_or_pos d with h0 | h0
    · subst h0
      have hu0 : u = [] := by have : tabW[0]? = some [] := rfl; rw [this] at hu; cases hu; rfl
      subst hu0
      refine ⟨[], by rw [if_neg (by omega)], (fun b hb => by cases hb), ?_, (fun w hw => by cases hw), by simp⟩
      rintro W rfl
      rw [hd, find_out (by omega)] at hsf
      rw [hsf]
      have hok : okW a ([] ++ ([].map fun b : UInt8 => giveW a (low b).toNat).flatten) = sameF a zeroA := by
        show okW a [] = _
        unfold okW
        rw [decide_eq_true ⟨Nat.zero_le _, fun w hw => by cases hw⟩]
        rfl
      rw [hok]
      rfl
    · obtain ⟨i, rfl⟩ : ∃ i, d = i + 1 := ⟨d - 1, by omega⟩
      obtain ⟨t1, t2, t3, t4, t5, t6, t7⟩ := ref_tab i (by omega)
      generalize cmds.getD i ([], [], 0) = c at *
      have hg : tabW.getD (i + 1) [] = u := by rw [List.getD_eq_getElem?_getD, hu]; rfl
      rw [hg] at t4 t5 t6
      rw [hnm] at t2
      cases t2
      have hcm : c ∈ cmds := List.mem_of_getElem? t1
      refine ⟨[c.1], by rw [if_pos (by omega)], t5, ?_, ?_, ?_⟩
      · rintro W rfl
        rw [nz (by omega), if_neg Bool.false_ne_true, hd, find_dn (by omega) t1] at hsf
        have e : [c.1] ++ (u.map fun b => giveW a (low b).toNat).flatten = wordsA a c := by
          unfold wordsA
          rw [← t4, List.map_map]
          rfl
        rw [e]
        exact hsf
      · intro w hw
        rw [List.mem_singleton.1 hw]
        have : ∀ c ∈ cmds, c.1.length ≤ 60 := by decide
        exact this c hcm
      · have := cmds_small c hcm
        rw [← t4, List.length_map] at this
        exact this
  obtain ⟨hans, hW0l, hul⟩ := hans
  clear hsf nz
  have hneg' : ¬ a.dn < 0 := hneg
  refine join_rule (fun x s => ∃ (z0 : Nat) (q0 : Option (Nat × Nat)), x = [.slice z0 q0 W0.length] ∧ (z0 = 1 ∨ q0 = none) ∧ Own s1 s q0 (W0.map .str)) ?_ ?_
  rotate_left
  · intro jk hjk
    by_cases h0 : 0 < d
    · rw [if_pos h0] at hW0
      have e0 : decide (a.dn > 0) = true := decide_eq_true (by omega)
      rw [e0, cond_true, nn_some', chk_of (by unfold inB; rw [hd]; simp; omega), hd, Int.toNat_natCast, hN.get1 (d := .str nm) (by simp [hnm])]
      simp only [D_str]
      obtain ⟨q1, s2, g1, g2⟩ := (Own.nil (s0 := s1) (.refl s1)).push (β := List DV) (sz := 1) (n := 0) (lim := 4398046511104) [.str nm] (Nat.succ_pos 0) rfl rfl (by omega)
      rw [g2]
      exact hjk _ _ ⟨1, q1, by rw [hW0]; rfl, .inl rfl, by rw [hW0]; exact g1⟩
    · rw [if_neg h0] at hW0
      have e0 : decide (a.dn > 0) = false := decide_eq_false (by omega)
      rw [e0, cond_false]
      exact hjk _ _ ⟨0, none, by rw [hW0]; rfl, .inr rfl, by rw [hW0]; exact Own.nil (.refl _)⟩
  rintro _ s2 ⟨z0, q0, rfl, hz0, ho0⟩
  have hl0 : W0.length ≤ 1 := by rw [hW0]; split <;> simp
  simp only [J_l_any 1 z0 q0 _ hz0, D_nil]
  -- all words
  refine join_rule (fun x s => ∃ (q : Option (Nat × Nat)), x = [.slice 1 q (W0 ++ (u.map fun b => giveW a (low b).toNat).flatten).length] ∧ Own s1 s q ((W0 ++ (u.map fun b => giveW a (low b).toNat).flatten).map .str)) ?_ ?_
  rotate_left
  · intro jk hjk
    have hld : ∀ (K : DV → M (List DV)) (s : St), Pre s1 s → M.load1 tb (a.dn.toNat * 1 + 0) K s = K (.str u) s := fun K s hp => by
      rw [hd, Int.toNat_natCast]
      exact (hWt.mono hp).get1 (d := .str u) (by simp [hu]) K
    have hck : ∀ K : M (List DV), M.chk (inB a.dn 21) K = K := fun K => chk_of (by unfold inB; rw [hd]; simp; omega) K
    refine loop_rule _ (fun k x s => ∃ (i zq : Nat) (q : Option (Nat × Nat)) (W : List (List UInt8)), x = [.slice zq q W.length, .int .i64 i] ∧ (zq = 1 ∨ q = none) ∧ i ≤ u.length ∧ u.length - i ≤ k ∧ Own s1 s q (W.map .str) ∧ W.length ≤ 1 + i * 50 ∧ W ++ ((u.drop i).map fun b => giveW a (low b).toNat).flatten = W0 ++ (u.map fun b => giveW a (low b).toNat).flatten)
      ?_ u.length (n + 1) _ _ ⟨0, 1, q0, W0, rfl, .inl rfl, Nat.zero_le _, by omega, ho0, by omega, by rw [List.drop_zero]⟩ (by omega)
    rintro k _ s3 ⟨i, zq, q, W, rfl, hzq, hi, hk, ho, hWl, hI⟩ rec hrec
    simp only [J_l_any 1 zq q _ hzq, J_i, D_nil, nn_some', hck]
    rw [hld _ _ ho.1]
    simp only [D_str]
    by_cases hlt : i < u.length
    · have e3 : decide ((i : Int) < (u.length : Int)) = true := decide_eq_true (by omega)
      rw [List.drop_eq_getElem_cons hlt, List.map_cons, List.flatten_cons, ← List.append_assoc] at hI
      have hgl := giveW_small hs hr (low u[i]).toNat
      rw [e3, cond_true]
      refine join_rule (fun x s => ∃ (q' : Option (Nat × Nat)), x = [.slice 1 q' (W ++ giveW a (low u[i]).toNat).length] ∧ Own s1 s q' ((W ++ giveW a (low u[i]).toNat).map .str)) ?_ ?_
      · rintro _ s4 ⟨q', rfl, ho'⟩
        simp only [J_l, D_nil]
        rw [wr64_of (by omega) (by omega)]
        exact hrec (u.length - (i + 1)) _ _ (by omega) ⟨i + 1, 1, q', _, rfl, .inl rfl, by omega, by omega, ho', by simp only [List.length_append]; omega, hI⟩
      · intro jk10 hj10
        rw [hld _ _ ho.1]
        simp only [D_str]
        rw [chk_of (inB_of hlt), join_eq, join_eq]
        have hbv := oc_toNat hlt
        have hl5 := hlet _ (List.getElem_mem hlt)
        generalize u[i] = b at hbv hl5 hj10 hgl
        rw [hbv]
        unfold letters at hl5
        simp only [List.mem_cons, List.not_mem_nil, or_false] at hl5
        obtain ⟨r1, r2, r3, r4, r5, r6⟩ := hr
        rcases hl5 with rfl | rfl | rfl | rfl | rfl | rfl
        · rw [show ((UInt8.toNat 78 : Nat) : Int) = 78 from rfl]
          rw [show ((78 : Int) == 78) = true from rfl, cond_true]
          have hg : giveW a (low 78).toNat = [a.name] := rfl
          rw [hg] at hj10
          obtain ⟨q', s5, g1, g2⟩ := ho.push (β := List DV) (sz := 1) (n := W.length) (lim := 4398046511104) [.str (a.name)] (Nat.succ_pos 0) (by simp) rfl (by omega)
          rw [g2]
          simp only [J_l, D_nil]
          exact hj10 _ _ ⟨q', by simp, by simpa using g1⟩
        · rw [show ((UInt8.toNat 79 : Nat) : Int) = 79 from rfl]
          rw [show ((79 : Int) == 78) = false from rfl, cond_false, join_eq]
          rw [show ((79 : Int) == 79) = true from rfl, cond_true]
          have hg : giveW a (low 79).toNat = [a.other] := rfl
          rw [hg] at hj10
          obtain ⟨q', s5, g1, g2⟩ := ho.push (β := List DV) (sz := 1) (n := W.length) (lim := 4398046511104) [.str (a.other)] (Nat.succ_pos 0) (by simp) rfl (by omega)
          rw [g2]
          simp only [J_l, D_nil]
          exact hj10 _ _ ⟨q', by simp, by simpa using g1⟩
        · rw [show ((UInt8.toNat 75 : Nat) : Int) = 75 from rfl]
          rw [show ((75 : Int) == 78) = false from rfl, cond_false, join_eq]
          rw [show ((75 : Int) == 79) = false from rfl, cond_false, join_eq]
          rw [show ((75 : Int) == 75) = true from rfl, cond_true]
          have hg : giveW a (low 75).toNat = [showI a.key] := rfl
          rw [hg] at hj10
          refine Ok.call (ev_ref03_Show h.ref03_Show (n + 1) a.key r4 (by omega) s3) ?_
          rintro _ ⟨s4, rfl, hp4⟩
          refine ⟨_, s4, rfl, ?_⟩
          simp only [J_s, D_nil]
          obtain ⟨q', s5, g1, g2⟩ := (ho.mono hp4).push (β := List DV) (sz := 1) (n := W.length) (lim := 4398046511104) [.str (showI a.key)] (Nat.succ_pos 0) (by simp) rfl (by omega)
          rw [g2]
          simp only [J_l, D_nil]
          exact hj10 _ _ ⟨q', by simp, by simpa using g1⟩
        · rw [show ((UInt8.toNat 86 : Nat) : Int) = 86 from rfl]
          rw [show ((86 : Int) == 78) = false from rfl, cond_false, join_eq]
          rw [show ((86 : Int) == 79) = false from rfl, cond_false, join_eq]
          rw [show ((86 : Int) == 75) = false from rfl, cond_false, join_eq]
          rw [show ((86 : Int) == 86) = true from rfl, cond_true]
          have hg : giveW a (low 86).toNat = [showI a.value] := rfl
          rw [hg] at hj10
          refine Ok.call (ev_ref03_Show h.ref03_Show (n + 1) a.value r5 (by omega) s3) ?_
          rintro _ ⟨s4, rfl, hp4⟩
          refine ⟨_, s4, rfl, ?_⟩
          simp only [J_s, D_nil]
          obtain ⟨q', s5, g1, g2⟩ := (ho.mono hp4).push (β := List DV) (sz := 1) (n := W.length) (lim := 4398046511104) [.str (showI a.value)] (Nat.succ_pos 0) (by simp) rfl (by omega)
          rw [g2]
          simp only [J_l, D_nil]
          exact hj10 _ _ ⟨q', by simp, by simpa using g1⟩
        · rw [show ((UInt8.toNat 72 : Nat) : Int) = 72 from rfl]
          rw [show ((72 : Int) == 78) = false from rfl, cond_false, join_eq]
          rw [show ((72 : Int) == 79) = false from rfl, cond_false, join_eq]
          rw [show ((72 : Int) == 75) = false from rfl, cond_false, join_eq]
          rw [show ((72 : Int) == 86) = false from rfl, cond_false, join_eq]
          rw [show ((72 : Int) == 72) = true from rfl, cond_true]
          have hg : giveW a (low 72).toNat = [showH a.h1 a.h2] := rfl
          rw [hg] at hj10
          refine Ok.call (ev_ref03_Handle h.ref03_Handle (n + 1) a.h1 a.h2 r2 r3 (by omega) s3) ?_
          rintro _ ⟨s4, rfl, hp4⟩
          refine ⟨_, s4, rfl, ?_⟩
          simp only [J_s, D_nil]
          obtain ⟨q', s5, g1, g2⟩ := (ho.mono hp4).push (β := List DV) (sz := 1) (n := W.length) (lim := 4398046511104) [.str (showH a.h1 a.h2)] (Nat.succ_pos 0) (by simp) rfl (by omega)
          rw [g2]
          simp only [J_l, D_nil]
          exact hj10 _ _ ⟨q', by simp, by simpa using g1⟩
        · rw [show ((UInt8.toNat 42 : Nat) : Int) = 42 from rfl]
          rw [show ((42 : Int) == 78) = false from rfl, cond_false, join_eq]
          rw [show ((42 : Int) == 79) = false from rfl, cond_false, join_eq]
          rw [show ((42 : Int) == 75) = false from rfl, cond_false, join_eq]
          rw [show ((42 : Int) == 86) = false from rfl, cond_false, join_eq]
          rw [show ((42 : Int) == 72) = false from rfl, cond_false, join_eq]
          rw [show ((42 : Int) == 42) = true from rfl, cond_true]
          have hg : giveW a (low 42).toNat = a.list.map showI := rfl
          rw [hg] at hj10 hgl
          rw [join_eq]
          refine loop_rule _ (fun k x s => ∃ (m : Nat) (q' : Option (Nat × Nat)), x = [.slice 1 q' (W.length + m), .int .i64 m] ∧ m ≤ a.list.length ∧ a.list.length - m ≤ k ∧ Own s1 s q' ((W ++ (a.list.take m).map showI).map .str)) ?_ a.list.length (n + 1) _ _ ⟨0, q, rfl, Nat.zero_le _, by omega, by simpa using ho⟩ (by omega)
          rintro k' _ s4 ⟨m, q', rfl, hm, hk', ho4⟩ rec3 hrec3
          simp only [J_l, J_i, D_nil]
          by_cases hml : m < a.list.length
          · have e4 : decide ((m : Int) < (a.list.length : Int)) = true := decide_eq_true (by omega)
            obtain ⟨p1, o1, rfl⟩ := hsl.some_of (by simp [ints]; omega)
            have hgi : (ints a.list)[m]? = some (.int .i64 a.list[m]) := by simp [ints, hml]
            rw [e4, cond_true, nn_some', chk_of (inB_of hml), Int.toNat_natCast, (hsl.mono (hp1.trans ho4.1)).get1 hgi]
            simp only [D_int]
            refine Ok.call (ev_ref03_Show h.ref03_Show (n + 1) a.list[m] (r6 _ (List.getElem_mem hml)) (by omega) s4) ?_
            rintro _ ⟨s5, rfl, hp5⟩
            refine ⟨_, s5, rfl, ?_⟩
            simp only [J_s, D_nil]
            obtain ⟨q6, s6, g1, g2⟩ := (ho4.mono hp5).push (β := List DV) (sz := 1) (n := W.length + m) (lim := 4398046511104) [.str (showI a.list[m])] (Nat.succ_pos 0) (by simp; omega) rfl (by omega)
            rw [g2, wr64_of (by omega) (by omega)]
            refine hrec3 (a.list.length - (m + 1)) _ _ (by omega) ⟨m + 1, q6, rfl, by omega, by omega, ?_⟩
            have e5 : W ++ (a.list.take (m + 1)).map showI = (W ++ (a.list.take m).map showI) ++ [showI a.list[m]] := by
              rw [List.take_succ_eq_append_getElem hml, List.map_append, List.append_assoc]; rfl
            rw [e5, List.map_append]
            exact g1
          · have e4 : decide ((m : Int) < (a.list.length : Int)) = false := decide_eq_false (by omega)
            have hmm : m = a.list.length := by omega
            subst hmm
            rw [List.take_length] at ho4
            rw [e4, cond_false]
            exact hj10 _ _ ⟨q', by simp, ho4⟩
    · have e3 : decide ((i : Int) < (u.length : Int)) = false := decide_eq_false (by omega)
      rw [List.drop_of_length_le (by omega), List.map_nil, List.flatten_nil, List.append_nil] at hI
      rw [e3, cond_false]
      exact hjk _ _ ⟨q, by rw [hI], by rw [← hI]; exact ho⟩
  rintro _ s3 ⟨q, rfl, ho⟩
  have hans := hans _ rfl
  have hWs : (W0 ++ (u.map fun b => giveW a (low b).toNat).flatten).length ≤ 151 ∧ ∀ w ∈ W0 ++ (u.map fun b => giveW a (low b).toNat).flatten, w.length ≤ 60 := by
    have key : ∀ (l : List UInt8), ((l.map fun b => giveW a (low b).toNat).flatten).length ≤ l.length * 50 ∧ ∀ w ∈ (l.map fun b => giveW a (low b).toNat).flatten, w.length ≤ 60 := by
      intro l
      induction l with
      | nil => exact ⟨by simp, fun w hw => by cases hw⟩
      | cons b l ih =>
        have h1 := giveW_small hs hr (low b).toNat
        rw [List.map_cons, List.flatten_cons]
        refine ⟨by simp only [List.length_append, List.length_cons]; omega, fun w hw => ?_⟩
        rcases List.mem_append.1 hw with h | h
        · exact h1.2 w h
        · exact ih.2 w h
    have k := key u
    refine ⟨by rw [List.length_append]; omega, fun w hw => ?_⟩
    rcases List.mem_append.1 hw with h | h
    · exact hW0l w h
    · exact k.2 w h
  generalize (W0 ++ (u.map fun b => giveW a (low b).toNat).flatten) = W at *
  simp only [J_l, D_nil]
  have hws := ho.sl
  have hjl := join_len 60 hWs.2
  -- the line
  refine join_rule (fun x s => s3 = s ∧ x = [.str (Lib.join W [32])]) ?_ ?_
  rotate_left
  · intro jk hjk
    refine loop_rule _ (fun k x s => ∃ i : Nat, x = [.str (Lib.join (W.take i) [32]), .int .i64 i] ∧ i ≤ W.length ∧ W.length - i ≤ k ∧ s3 = s) ?_ W.length (n + 1) _ _ ⟨0, rfl, Nat.zero_le _, by omega, rfl⟩ (by omega)
    rintro k _ _ ⟨i, rfl, hi, hk, rfl⟩ rec hrec
    simp only [J_s, J_i, D_nil]
    by_cases hlt : i < W.length
    · have e4 : decide ((i : Int) < (W.length : Int)) = true := decide_eq_true (by omega)
      have hg : W[i]? = some W[i] := List.getElem?_eq_getElem hlt
      obtain ⟨p1, o1, rfl⟩ := hws.some_of (by simp; omega)
      have hti := join_len 60 (ws := W.take i) fun w hw => hWs.2 w (List.mem_of_mem_take hw)
      rw [List.length_take, Nat.min_eq_left hi] at hti
      have hwi := hWs.2 _ (List.getElem_mem hlt)
      have hsn := join_snoc (W.take i) W[i]
      rw [← List.take_succ_eq_append_getElem hlt] at hsn
      rw [e4, cond_true]
      refine join_rule (fun x s => s3 = s ∧ ∃ l : List UInt8, x = [.str l] ∧ l.length ≤ 9300 ∧ l ++ W[i] = Lib.join (W.take (Nat.succ i)) [32]) ?_ ?_
      · rintro _ _ ⟨rfl, l, rfl, hl, hle⟩
        simp only [J_s, D_nil, nn_some', chk_of (inB_of hlt), Int.toNat_natCast]
        rw [hws.get1 (d := .str W[i]) (by simp [hg])]
        simp only [D_str]
        rw [chk_of (Nat.ble_eq_true_of_le (by omega)), wr64_of (by omega) (by omega), hle]
        exact hrec (W.length - (i + 1)) _ _ (by omega) ⟨i + 1, rfl, by omega, by omega, rfl⟩
      · intro jk9 hj9
        by_cases h0 : 0 < i
        · have e5 : decide ((i : Int) > 0) = true := decide_eq_true (by omega)
          have hne : W.take i ≠ [] := by
            intro e
            have := congrArg List.length e
            rw [List.length_take, List.length_nil] at this
            omega
          rw [if_neg hne] at hsn
          have b32 : (bs [32] : List UInt8) = [32] := rfl
          rw [e5, cond_true, b32, chk_of (Nat.ble_eq_true_of_le (by show _ + 1 ≤ _; omega))]
          refine hj9 _ _ ⟨rfl, _, rfl, by simp; omega, ?_⟩
          rw [List.append_assoc]
          exact hsn.symm
        · have e5 : decide ((i : Int) > 0) = false := decide_eq_false (by omega)
          have hi0 : i = 0 := by omega
          subst hi0
          rw [e5, cond_false]
          refine hj9 _ _ ⟨rfl, _, rfl, by omega, ?_⟩
          rw [List.take_zero] at hsn ⊢
          rw [if_pos rfl] at hsn
          exact hsn.symm
    · have e4 : decide ((i : Int) < (W.length : Int)) = false := decide_eq_false (by omega)
      rw [e4, cond_false, List.take_of_length_le (by omega)]
      exact hjk _ _ ⟨rfl, rfl⟩
  rintro _ _ ⟨rfl, rfl⟩
  simp only [J_s, D_nil]
  have hle := lineOk_eq a W
  have hld : lineOk a W = (((wordsOf (Lib.join W [32])).1 == 0 && (parseF (wordsOf (Lib.join W [32])).2).2 == 0) && (decide ((wordsOf (Lib.join W [32])).2 = W) && sameF a (parseF (wordsOf (Lib.join W [32])).2).1)) := rfl
  have hwl := words_len (Lib.join W [32])
  generalize Lib.join W [32] = L at *
  refine Ok.call (ev_ref31_Words h.ref31_Words (n + 1) L (by omega) (by omega) s3) ?_
  rintro _ ⟨z4, q4, s4, rfl, hz4, hp4, hs4⟩
  refine ⟨_, s4, rfl, ?_⟩
  have hl40 : (wordsOf L).2.length ≤ 40 := by
    unfold wordsOf
    split
    · exact Nat.zero_le _
    · split
      · exact Nat.zero_le _
      · simp only; omega
  generalize wordsOf L = X at *
  obtain ⟨ex, X⟩ := X
  simp only at hld hwl hs4 hl40
  simp only [J_l_any 1 z4 q4 _ hz4, J_i, D_nil]
  refine Ok.call (ev_ref32_Parse h.ref32_Parse (n + 1) 1 q4 X s4 (.inl rfl) hs4 (by omega) (by omega) fun w hw => by have := hwl w hw; omega) ?_
  rintro _ ⟨z6, p6, s6, rfl, hz6, hp6, hf6⟩
  refine ⟨_, s6, rfl, ?_⟩
  generalize parseF X = Y at *
  obtain ⟨y, ey⟩ := Y
  simp only at hld hf6
  unfold actC
  simp only [J_a, J_i, J_s, J_l_any 1 z6 p6 _ hz6, D_nil]
  have hall : Pre st s6 := ((hp1.trans ho.1).trans hp4).trans hp6
  have hno : lineOk a W = false → Ok (ShowAns a st) ((M.ret [.str (bs []), .bool false] : M (List DV)) s6) := by
    intro hok
    rw [← hle, hok, if_neg Bool.false_ne_true] at hans
    rw [ret_eq]
    refine .mk ⟨s6, ?_, hall⟩
    rw [hans]
  rw [join_eq]
  cases hex : (ex == 0) with
  | false =>
    rw [Bool.not_false, cond_true]
    simp only [J_b, D_nil]
    rw [join_eq, cond_true]
    simp only [J_b, D_nil]
    rw [join_eq, cond_true]
    simp only [J_b, D_nil]
    rw [cond_true]
    exact hno (by rw [hld, hex]; rfl)
  | true =>
  rw [Bool.not_true, cond_false]
  simp only [J_b, D_nil]
  rw [join_eq]
  cases hey : (ey == 0) with
  | false =>
    rw [Bool.not_false, cond_true]
    simp only [J_b, D_nil]
    rw [join_eq, cond_true]
    simp only [J_b, D_nil]
    rw [cond_true]
    exact hno (by rw [hld, hex, hey]; rfl)
  | true =>
  rw [Bool.not_true, cond_false]
  refine Ok.call (ev_ref31_Same h.ref31_Same (n + 1) X W q4 q s6 (hs4.mono hp6) (hws.mono (hp4.trans hp6)) (by omega) (by omega)) ?_
  rintro _ rfl
  refine ⟨_, s6, rfl, ?_⟩
  simp only [J_b, D_nil]
  rw [join_eq]
  by_cases hXW : X = W
  · rw [decide_eq_true hXW] at hld ⊢
    rw [Bool.not_true, cond_false]
    refine Ok.call (ev_ref32_Same h.ref32_Same (n + 1) a y 1 1 p p6 s6 (.inl rfl) (.inl rfl) (hsl.mono hall) hf6.1 (by omega) (by omega)) ?_
    rintro _ rfl
    refine ⟨_, s6, rfl, ?_⟩
    simp only [J_b, D_nil]
    rw [hex, hey] at hld
    cases hsy : sameF a y with
    | false =>
      rw [hsy] at hld
      rw [Bool.not_false, cond_true]
      exact hno hld
    | true =>
      rw [hsy] at hld
      have hld : lineOk a W = true := hld
      rw [← hle, hld, if_pos rfl] at hans
      rw [Bool.not_true, cond_false, ret_eq]
      refine .mk ⟨s6, ?_, hall⟩
      rw [hans]
  · rw [decide_eq_false hXW] at hld ⊢
    rw [Bool.not_false, cond_true]
    simp only [J_b, D_nil]
    rw [cond_true]
    exact hno (by rw [hld, hex, hey]; rfl)
end Go.Gv.F
