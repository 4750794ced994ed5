/- Names. -/
import Derived.Test.YtanmddhmkphilaaDoorGvPLex
import Derived.Test.YtanmddhmkphilaaDoorGvZLaw
import Derived.Test.YtanmddhmkphilaaDoorGvBNa4
namespace Go.Gv.F

theorem loop_succ {β : Type} (F : (List DV → M β) → List DV → M β) (m : Nat) (st : List DV) : M.loop F (m + 1) st = F (M.loop F m) st := rfl
theorem D_len {β : Type} {cs : List DV} {n : Nat} (h : cs.length = n) (K : M β) : D.len cs n K = K := by
  unfold D.len; rw [h]; simp

/-- May a name have this rune? -/
def ofI (r : Int) : Bool := (decide (r ≥ 97) && decide (r ≤ 122)) || ((decide (r ≥ 65) && decide (r ≤ 90)) || ((decide (r ≥ 48) && decide (r ≤ 57)) || (r == 45 || (r == 95 || (decide (r ≥ 161) && decide (r ≤ 65519))))))

theorem ev_ref04_Of {Bd : Bodies} (h : H_ref04_Of Bd) (n : Nat) (r : Int) (st : St) : run Bd (n + 1) 29 [.int .i64 r] st = some (.val [.bool (ofI r)], st) := by
  rw [run_succ, h.eq]
  unfold b_ref04_Of ofI
  simp only [J_i, D_nil, join_bool, J_b, ret_eq, Bool.cond_true_left, Bool.cond_false_right, Bool.or_assoc]

def spansL : List DV := [.int .i32 97, .int .i32 122, .int .i32 65, .int .i32 90, .int .i32 48, .int .i32 57, .int .i32 45, .int .i32 45, .int .i32 95, .int .i32 95, .int .i32 161, .int .i32 65519]
theorem ev_name_spans {Bd : Bodies} (h : H_name_spans Bd) (n : Nat) (st : St) : run Bd (n + 1) 54 [] st = some (.val [.agg spansL], st) := by
  rw [run_succ, h.eq]; rfl

theorem ev_name_Of {Bd : Bodies} (h : H_name_Of Bd) (n : Nat) (r : Int) (st : St) : run Bd (n + 8) 28 [.int .i32 r] st = some (.val [.bool (ofI r)], st) := by
  rw [run_succ, h.eq]
  unfold b_name_Of
  simp only [J_i, D_nil]
  rw [call_eq (ev_name_spans h.name_spans (n + 6) st)]
  simp only [J_a, D_nil, D_len (show spansL.length = 12 from rfl)]
  have step : ∀ (rec : List DV → M (List DV)) (i : Nat) (lo hi : Int), i < 6 → (spansL.drop (i * 2)).take 2 = [.int .i32 lo, .int .i32 hi] →
      (fun (x : Int) => M.chk (inB x 6) (D.len ((spansL.drop (x.toNat * 2)).take 2) 2 (D.nth ((spansL.drop (x.toNat * 2)).take 2) 0 fun d => D.int .i32 d fun x1 =>
        M.join (fun st => J.b st fun b1 st => D.nil st <| bif b1 then M.ret [.bool true] else rec [.int .i64 (wr64 (x + 1))]) fun jk2 =>
        bif decide (r ≥ x1) then D.nth ((spansL.drop (x.toNat * 2)).take 2) 1 fun d1 => D.int .i32 d1 fun x2 => jk2 [.bool (decide (r ≤ x2))] else jk2 [.bool false]))) (i : Int) =
      bif (decide (r ≥ lo) && decide (r ≤ hi)) then M.ret [.bool true] else rec [.int .i64 ((i + 1 : Nat) : Int)] := by
    intro rec i lo hi hi6 hd
    simp only [Int.toNat_natCast, hd, chk_of (inB_of hi6), D_len (show ([.int .i32 lo, .int .i32 hi] : List DV).length = 2 from rfl), wr64_of (x := (i : Int) + 1) (by omega) (by omega)]
    unfold D.nth
    simp only [List.getElem?_cons_zero, List.getElem?_cons_succ, D_int, join_bool, J_b, D_nil, Bool.cond_false_right]
    rfl
  have fin : ∀ (l : List (Int × Int)) (i m : Nat), i + l.length = 6 → (∀ (k : Nat) p, l[k]? = some p → (spansL.drop ((i + k) * 2)).take 2 = [.int .i32 p.1, .int .i32 p.2]) → l.length < m →
      M.loop (fun (rec1 : List DV → M (List DV)) st => J.i .i64 st fun x st => D.nil st <| bif decide (x < 6) then M.chk (inB x 6) (D.len ((spansL.drop (x.toNat * 2)).take 2) 2 (D.nth ((spansL.drop (x.toNat * 2)).take 2) 0 fun d => D.int .i32 d fun x1 =>
        M.join (fun st => J.b st fun b1 st => D.nil st <| bif b1 then M.ret [.bool true] else rec1 [.int .i64 (wr64 (x + 1))]) fun jk2 =>
        bif decide (r ≥ x1) then D.nth ((spansL.drop (x.toNat * 2)).take 2) 1 fun d1 => D.int .i32 d1 fun x2 => jk2 [.bool (decide (r ≤ x2))] else jk2 [.bool false])) else (D.nil [] <| M.ret [.bool false])) m [.int .i64 (i : Int)] st
      = some (.val [.bool (l.any fun p => decide (r ≥ p.1) && decide (r ≤ p.2))], st) := by
    intro l
    induction l with
    | nil =>
      intro i m hi _ hm
      obtain ⟨m, rfl⟩ : ∃ k, m = k + 1 := ⟨m - 1, by simp at hm; omega⟩
      simp only [List.length_nil, Nat.add_zero] at hi
      subst hi
      rw [loop_succ]
      simp only [J_i, D_nil]
      rfl
    | cons p l ih =>
      intro i m hi hp hm
      simp only [List.length_cons] at hi hm
      obtain ⟨m, rfl⟩ : ∃ k, m = k + 1 := ⟨m - 1, by omega⟩
      rw [loop_succ]
      simp only [J_i, D_nil]
      rw [decide_eq_true (show (i : Int) < 6 by omega), cond_true]
      refine (congrFun (step _ i p.1 p.2 (by omega) (by have := hp 0 p rfl; simpa using this)) st).trans ?_
      rw [List.any_cons]
      cases hb : (decide (r ≥ p.1) && decide (r ≤ p.2)) with
      | true => rfl
      | false =>
        rw [cond_false, Bool.false_or]
        exact ih (i + 1) m (by omega) (fun k q hq => by have := hp (k + 1) q (by simpa using hq); rwa [show i + (k + 1) = i + 1 + k by omega] at this) (by omega)
  have e : ofI r = [((97 : Int), (122 : Int)), (65, 90), (48, 57), (45, 45), (95, 95), (161, 65519)].any fun p => decide (r ≥ p.1) && decide (r ≤ p.2) := by
    unfold ofI
    have e1 : (r == 45) = (decide (r ≥ 45) && decide (r ≤ 45)) := by rw [Bool.eq_iff_iff]; simp only [beq_iff_eq, Bool.and_eq_true, decide_eq_true_eq]; omega
    have e2 : (r == 95) = (decide (r ≥ 95) && decide (r ≤ 95)) := by rw [Bool.eq_iff_iff]; simp only [beq_iff_eq, Bool.and_eq_true, decide_eq_true_eq]; omega
    rw [e1, e2]
    simp only [List.any_cons, List.any_nil, Bool.or_false]
  rw [e, join_eq]
  refine fin _ 0 (n + 7) rfl (fun k p hp => ?_) (by simp)
  match k, hp with
  | 0, hp => cases hp; rfl
  | 1, hp => cases hp; rfl
  | 2, hp => cases hp; rfl
  | 3, hp => cases hp; rfl
  | 4, hp => cases hp; rfl
  | 5, hp => cases hp; rfl
  | k + 6, hp => simp at hp

/-! ### Which texts are names -/
def rightS (s : List UInt8) : Bool := decide (0 < (rns s).length) && (decide ((rns s).length ≤ 8) && (rns s).all fun r => ofI r)

theorem ev_ref04_Right {Bd : Bodies} (h : H_ref04_Right Bd) (n : Nat) (s : List UInt8) (hn : s.length + 6 ≤ n) (hs : s.length < 100000) (st : St) :
    Ok (fun o => ∃ s', o = (.val [.bool (rightS s)], s') ∧ Pre st s') (run Bd n 27 [.str s] st) := by
  obtain ⟨n, rfl⟩ : ∃ m, n = m + 3 := ⟨n - 3, by omega⟩
  rw [run_succ, h.eq]
  unfold b_ref04_Right
  simp only [J_s, D_nil]
  refine Ok.call (ev_ref04_Runes h.ref04_Runes (n + 2) s (by omega) (by omega) st) ?_
  rintro _ ⟨a, s1, rfl, hp1, hsl⟩
  refine ⟨_, s1, rfl, ?_⟩
  have hrl := rns_len s
  simp only [J_l, D_nil, join_bool, J_b]
  rw [join_eq]
  have e0 : (bif decide (((rns s).length : Int) > 0) then decide (((rns s).length : Int) ≤ 8) else false) = (decide (0 < (rns s).length) && decide ((rns s).length ≤ 8)) := by
    rw [Bool.cond_false_right]
    congr 1
    · rw [Bool.eq_iff_iff]; simp only [decide_eq_true_eq]; omega
    · rw [Bool.eq_iff_iff]; simp only [decide_eq_true_eq]; omega
  rw [e0]
  refine loop_rule _ (fun k x s2 => ∃ (i : Nat) (b : Bool), x = [.bool b, .int .i64 i] ∧ i ≤ (rns s).length ∧ (rns s).length - i ≤ k ∧ s2 = s1 ∧ (b && ((rns s).drop i).all fun r => ofI r) = rightS s)
    ?_ (rns s).length (n + 2) _ _ ⟨0, _, rfl, Nat.zero_le _, by omega, rfl, by rw [List.drop_zero]; unfold rightS; rw [Bool.and_assoc]⟩ (by omega)
  rintro k _ s2 ⟨i, b, rfl, hi, hk, rfl, hb⟩ rec hrec
  simp only [J_b, J_i, D_nil]
  by_cases hlt : i < (rns s).length
  · rw [decide_eq_true (show (i : Int) < ((rns s).length : Int) by omega), cond_true]
    have hr : (rns s)[i]? = some (rns s)[i] := List.getElem?_eq_getElem hlt
    rw [List.drop_eq_getElem_cons hlt, List.all_cons] at hb
    rw [join_eq]
    cases b with
    | false =>
      simp only [cond_false, J_b, D_nil]
      exact hrec (k - 1) _ _ (by omega) ⟨i + 1, false, by rw [wr64_of (by omega) (by omega)]; rfl, by omega, by omega, rfl, by rw [← hb]; simp⟩
    | true =>
      obtain ⟨j, o, rfl⟩ := hsl.some_of (by simp; omega)
      simp only [cond_true, nn_some', chk_of (inB_of hlt), Int.toNat_natCast]
      rw [hsl.get1 (d := ic (rns s)[i]) (by simp [hr])]
      unfold ic
      simp only [D_int]
      rw [call_eq (ev_ref04_Of h.ref04_Of (n + 1) _ s2)]
      simp only [J_b, D_nil]
      exact hrec (k - 1) _ _ (by omega) ⟨i + 1, _, by rw [wr64_of (by omega) (by omega)]; rfl, by omega, by omega, rfl, by rw [← hb]; simp⟩
  · rw [decide_eq_false (show ¬ (i : Int) < ((rns s).length : Int) by omega), cond_false, ret_eq]
    rw [List.drop_of_length_le (by omega)] at hb
    simp only [List.all_nil, Bool.and_true] at hb
    exact .mk ⟨s2, by rw [hb], hp1⟩

theorem rns_at {s : List UInt8} {p : Nat} (h : p < s.length) : rns (s.drop p) = (dec s p).1 :: rns (s.drop (p + (dec s p).2)) := by
  rw [rns_cons (by simp; omega), dec_drop, Nat.add_zero, List.drop_drop]

theorem ev_name_Right {Bd : Bodies} (h : H_name_Right Bd) (n : Nat) (s : List UInt8) (hn : s.length + 12 ≤ n) (hs : s.length < 100000) (st : St) :
    Ok (fun o => o = (.val [.bool (rightS s)], st)) (run Bd n 26 [.str s] st) := by
  obtain ⟨n, rfl⟩ : ∃ m, n = m + 9 := ⟨n - 9, by omega⟩
  rw [run_succ, h.eq]
  unfold b_name_Right
  simp only [J_s, D_nil]
  rw [join_eq]
  refine loop_rule _ (fun k x s2 => ∃ (p c : Nat), x = [.int .i64 c, .nat p] ∧ p ≤ s.length ∧ s.length - p ≤ k ∧ s2 = st ∧ c ≤ 8 ∧ (decide (0 < c + (rns (s.drop p)).length) && (decide (c + (rns (s.drop p)).length ≤ 8) && (rns (s.drop p)).all fun r => ofI r)) = rightS s)
    ?_ s.length (n + 8) _ _ ⟨0, 0, rfl, Nat.zero_le _, by omega, rfl, by omega, by simp only [Nat.zero_add, List.drop_zero]; rfl⟩ (by omega)
  rintro k _ s2 ⟨p, c, rfl, hp, hk, rfl, hc, hb⟩ rec hrec
  simp only [J_i, J_n, D_nil]
  by_cases hlt : p < s.length
  · have hw := dec_pos s p
    have hle := dec_le s p hlt
    rw [rns_at hlt] at hb
    simp only [List.length_cons, List.all_cons] at hb
    have hblt : Nat.blt p s.length = true := by rw [Nat.blt_eq]; exact hlt
    simp only [hblt, cond_true, runeAt, runeW, wr64_of (x := (c : Int) + 1) (by omega) (by omega), join_eq, J_b, D_nil]
    by_cases h8 : c = 8
    · subst h8
      rw [decide_eq_false (show ¬ 8 + ((rns (s.drop (p + (dec s p).2))).length + 1) ≤ 8 by omega)] at hb
      simp only [Bool.false_and, Bool.and_false] at hb
      have e : decide (((8 : Nat) : Int) + 1 > 8) = true := rfl
      simp only [e, cond_true, ret_eq]
      exact .mk (by rw [hb])
    · have e : decide ((c : Int) + 1 > 8) = false := decide_eq_false (by omega)
      simp only [e, cond_false]
      rw [call_eq (ev_name_Of h.name_Of n _ s2)]
      simp only [J_b, D_nil]
      cases ho : ofI ((dec s p).1 : Int) with
      | false =>
        simp only [Bool.not_false, cond_true, ret_eq]
        rw [ho] at hb
        simp only [Bool.false_and, Bool.and_false] at hb
        exact .mk (by rw [hb])
      | true =>
        simp only [Bool.not_true, cond_false]
        rw [ho] at hb
        refine hrec (s.length - (p + (dec s p).2)) _ _ (by omega) ⟨p + (dec s p).2, c + 1, rfl, hle, by omega, rfl, by omega, ?_⟩
        rw [← hb, show c + 1 + (rns (s.drop (p + (dec s p).2))).length = c + ((rns (s.drop (p + (dec s p).2))).length + 1) by omega]
        simp
  · have e : Nat.blt p s.length = false := by rw [Bool.eq_false_iff]; intro h; rw [Nat.blt_eq] at h; exact hlt h
    simp only [e, cond_false, ret_eq]
    rw [List.drop_of_length_le (by omega), rns_nil] at hb
    refine .mk ?_
    rw [← hb]
    have : decide ((c : Int) > 0) = decide (0 < c) := by rw [Bool.eq_iff_iff]; simp only [decide_eq_true_eq]; omega
    rw [this]
    simp [hc]
end Go.Gv.F
