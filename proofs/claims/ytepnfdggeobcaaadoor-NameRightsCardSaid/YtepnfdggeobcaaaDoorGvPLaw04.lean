/- The laws of names. -/
import Derived.Test.YtepnfdggeobcaaaDoorGvPShow
namespace Go.Gv.F

theorem hex32 : hexS 32 = [50, 48] := by
  rw [hexS, if_neg (by decide), hexS, if_pos (by decide)]
  decide
theorem show_cons {s : List UInt8} (h : 0 < s.length) : showS s = seen s 0 ++ showS (s.drop (dec s 0).2) := by
  have := show_at (s := s) (p := 0) h
  rwa [List.drop_zero, Nat.zero_add] at this
theorem show_a_b : showS [97, 32, 98] = [97, 60, 50, 48, 62, 98] := by
  have d1 : dec [97, 32, 98] 0 = (97, 1) := by decide +kernel
  have d2 : dec [32, 98] 0 = (32, 1) := by decide +kernel
  have d3 : dec [98] 0 = (98, 1) := by decide +kernel
  have o1 : ofI ((97 : Nat) : Int) = true := by decide
  have o2 : ofI ((32 : Nat) : Int) = false := by decide
  have o3 : ofI ((98 : Nat) : Int) = true := by decide
  rw [show_cons (by decide)]
  unfold seen
  rw [d1]
  simp only
  rw [if_pos o1]
  show [97] ++ showS [32, 98] = _
  rw [show_cons (by decide)]
  unfold seen
  rw [d2]
  simp only
  rw [o2, if_neg (by decide), hex32]
  show [97] ++ ([60, 50, 48, 62] ++ showS [98]) = _
  rw [show_cons (by decide)]
  unfold seen
  rw [d3]
  simp only
  rw [if_pos o3]
  show [97] ++ ([60, 50, 48, 62] ++ ([98] ++ showS [])) = _
  rw [show_nil]
  rfl

theorem right1 : rightS [97, 98] = true := by unfold rightS; rw [rns_F 2 _ (by decide)]; decide +kernel
theorem right2 : rightS [230, 151, 165, 230, 156, 172] = true := by unfold rightS; rw [rns_F 6 _ (by decide)]; decide +kernel
theorem right3 : rightS [97, 32, 98] = false := by unfold rightS; rw [rns_F 3 _ (by decide)]; decide +kernel
theorem right4 : rightS [] = false := by unfold rightS; rw [rns_F 0 _ (by decide)]; decide +kernel
theorem right5 : rightS [49, 50, 51, 52, 53, 54, 55, 56, 57] = false := by unfold rightS; rw [rns_F 9 _ (by decide)]; decide +kernel

theorem right_call {Bd : Bodies} (h : H_name_Right Bd) (n : Nat) (s : List UInt8) (hn : s.length + 12 ≤ n) (hs : s.length < 100000) (st : St) : run Bd n 26 [.str s] st = some (.val [.bool (rightS s)], st) := by
  obtain ⟨o, e, rfl⟩ := ev_name_Right h n s hn hs st
  exact e

theorem ev_law04_awake {Bd : Bodies} (h : H_law04_awake Bd) (n : Nat) (hn : 140 ≤ n) (st : St) (ht : Tabs st) : Ok (fun o => ∃ s', o = (.val [.bool true], s') ∧ Pre st s') (run Bd n 25 [] st) := by
  obtain ⟨n, rfl⟩ : ∃ m, n = m + 1 := ⟨n - 1, by omega⟩
  rw [run_succ, h.eq]
  unfold b_law04_awake
  have c1 : run Bd n 26 [.str (bs [97, 98])] st = _ := right_call h.name_Right n _ (by show 2 + 12 ≤ n; omega) (by decide) st
  have c2 : run Bd n 26 [.str (bs [230, 151, 165, 230, 156, 172])] st = _ := right_call h.name_Right n _ (by show 6 + 12 ≤ n; omega) (by decide) st
  have c3 : run Bd n 26 [.str (bs [97, 32, 98])] st = _ := right_call h.name_Right n _ (by show 3 + 12 ≤ n; omega) (by decide) st
  have c4 : run Bd n 26 [.str (bs [])] st = _ := right_call h.name_Right n _ (by show 0 + 12 ≤ n; omega) (by decide) st
  have c5 : run Bd n 26 [.str (bs [49, 50, 51, 52, 53, 54, 55, 56, 57])] st = _ := right_call h.name_Right n _ (by show 9 + 12 ≤ n; omega) (by decide) st
  rw [show rightS (bs [97, 98]) = true from right1] at c1
  rw [show rightS (bs [230, 151, 165, 230, 156, 172]) = true from right2] at c2
  rw [show rightS (bs [97, 32, 98]) = false from right3] at c3
  rw [show rightS (bs []) = false from right4] at c4
  rw [show rightS (bs [49, 50, 51, 52, 53, 54, 55, 56, 57]) = false from right5] at c5
  simp only [D_nil, call_eq c1, call_eq c2, call_eq c3, call_eq c4, call_eq c5, J_b, join_eq, cond_true, Bool.not_false]
  refine Ok.call (ev_name_Show h.name_Show n (bs [97, 32, 98]) (by show 3 + 120 ≤ n; omega) (by decide) st ht) ?_
  rintro _ ⟨s1, rfl, hp⟩
  refine ⟨_, s1, rfl, ?_⟩
  simp only [J_s, D_nil, J_b, ret_eq]
  rw [show (showS (bs [97, 32, 98]) == bs [97, 60, 50, 48, 62, 98]) = true by rw [show showS (bs [97, 32, 98]) = _ from show_a_b]; rfl]
  exact .mk ⟨s1, rfl, hp⟩

theorem i32_range {n : Int} (h : IntKind.min .i32 ≤ n ∧ n ≤ IntKind.max .i32) : -2147483648 ≤ n ∧ n ≤ 2147483647 := by
  have e1 : IntKind.min .i32 = -2147483648 := by decide
  have e2 : IntKind.max .i32 = 2147483647 := by decide
  rw [e1, e2] at h
  exact h

theorem ok_true {Bd : Bodies} {n g : Nat} {args : List DV} {s : St} (h : Ok (fun o => ∃ s', o = (.val [.bool true], s')) (run Bd n g args s)) : ∃ n s', run Bd n g args s = some (.val [.bool true], s') := by
  obtain ⟨o, e, s', rfl⟩ := h
  exact ⟨n, s', e⟩

theorem law_law04_NameRights {Bd : Bodies} (h : H_law04_NameRights Bd) (s : St) (args : List DV) (_ : Frz s) (ht : Tabs s) (hr : RdA s [(false, .s), (false, .i .i32)] args) : ∃ n s', run Bd n 24 args s = some (.val [.bool true], s') := by
  obtain ⟨_, _, _, ⟨l, rfl, _⟩, ⟨_, _, _, ⟨r, rfl, hr1, hr2⟩, rfl, rfl, hd2⟩, rfl, hd⟩ := hr
  cases hd
  cases hd2
  have hrr := i32_range ⟨hr1, hr2⟩
  refine ok_true (n := 1000) ?_
  rw [run_succ, h.eq]
  unfold b_law04_NameRights
  simp only [J_s, J_i, D_nil]
  refine Ok.call (ev_law04_awake h.law04_awake 999 (by omega) s ht) ?_
  rintro _ ⟨s1, rfl, hp1⟩
  refine ⟨_, s1, rfl, ?_⟩
  simp only [J_b, D_nil, Bool.not_true, cond_false, join_eq]
  by_cases hl : l.length > 300
  · have e : decide ((l.length : Int) > 300) = true := decide_eq_true (by omega)
    simp only [e, cond_true]
    refine Ok.call (ev_law04_awake h.law04_awake 999 (by omega) s1 (ht.mono hp1)) ?_
    rintro _ ⟨s2, rfl, hp2⟩
    refine ⟨_, s2, rfl, ?_⟩
    simp only [J_b, D_nil, ret_eq]
    exact .mk ⟨s2, rfl⟩
  · have e : decide ((l.length : Int) > 300) = false := decide_eq_false (by omega)
    simp only [e, cond_false]
    rw [call_eq (right_call h.name_Right 999 l (by omega) (by omega) s1)]
    simp only [J_b, D_nil]
    refine Ok.call (ev_ref04_Right h.ref04_Right 999 l (by omega) (by omega) s1) ?_
    rintro _ ⟨s2, rfl, hp2⟩
    refine ⟨_, s2, rfl, ?_⟩
    simp only [J_b, D_nil, beq_self_eq_true, cond_true]
    rw [call_eq (ev_name_Of h.name_Of 991 r s2)]
    simp only [J_b, D_nil]
    rw [wr64_of (by omega) (by omega), call_eq (ev_ref04_Of h.ref04_Of 998 r s2)]
    simp only [J_b, D_nil, beq_self_eq_true, ret_eq]
    exact .mk ⟨s2, rfl⟩
end Go.Gv.F
