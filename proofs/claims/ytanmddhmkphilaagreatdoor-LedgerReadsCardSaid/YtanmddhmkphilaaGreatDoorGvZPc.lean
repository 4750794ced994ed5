/- Words, joined, are the words again: plain facts. -/
import Derived.Test.YtanmddhmkphilaaGreatDoorGvZPa
import Derived.Lib.Join
import Derived.Test.YtanmddhmkphilaaGreatDoorGvZBod
import Derived.Test.YtanmddhmkphilaaGreatDoorGvZPb
import Derived.Lib.IndexLaws
namespace Go.Gv.F
open Go.Gv
theorem rns_oct {c : Nat} (hc : c < 128) (s : List UInt8) : (c ∈ rns s) ↔ ∃ j, j < s.length ∧ oc s j = c := by
  by_cases h : s.length = 0
  · rw [rns, dif_pos h]
    exact ⟨fun h => (by cases h), fun ⟨j, hj, _⟩ => (by omega)⟩
  · have ih := rns_oct hc (s.drop (dec s 0).2)
    have hp := dec_pos s 0
    rw [rns_cons (by omega), List.mem_cons, ih]
    rcases dec_cases s 0 (by omega) with ⟨h1, h2, h3⟩ | ⟨h1, h2, h3⟩
    · constructor
      · rintro (e | ⟨j, hj, e⟩)
        · exact ⟨0, by omega, by rw [h3, e]⟩
        · rw [oc_drop] at e
          rw [List.length_drop] at hj
          exact ⟨_, by omega, e⟩
      · rintro ⟨j, hj, e⟩
        by_cases h0 : j = 0
        · subst h0; exact .inl (by rw [← e, h3])
        · exact .inr ⟨j - 1, by rw [List.length_drop]; omega, by rw [oc_drop, h2, show 1 + (j - 1) = j by omega]; exact e⟩
    · constructor
      · rintro (e | ⟨j, hj, e⟩)
        · omega
        · rw [oc_drop] at e
          rw [List.length_drop] at hj
          exact ⟨_, by omega, e⟩
      · rintro ⟨j, hj, e⟩
        by_cases h0 : j < (dec s 0).2
        · have := h3 j h0
          rw [Nat.zero_add] at this
          omega
        · exact .inr ⟨j - (dec s 0).2, by rw [List.length_drop]; omega, by rw [oc_drop, show (dec s 0).2 + (j - (dec s 0).2) = j by omega]; exact e⟩
termination_by s.length
decreasing_by
  have := dec_pos s 0
  simp only [List.length_drop]
  omega
theorem rns_mem {c : UInt8} (hc : c.toNat < 128) (s : List UInt8) : c.toNat ∈ rns s ↔ c ∈ s := by
  rw [rns_oct hc]
  constructor
  · rintro ⟨j, hj, e⟩
    rw [oc_get hj] at e
    rw [← UInt8.toNat_inj.1 e]
    exact List.getElem_mem hj
  · intro h
    obtain ⟨j, hj, e⟩ := List.getElem_of_mem h
    exact ⟨j, hj, by rw [oc_get hj, e]⟩
end Go.Gv.F

/- lex.Join joins words by blanks; the law LexJoins answers true. -/
namespace Go.Gv.F
open Go.Gv
theorem ev_strings_Join {Bd : Bodies} (h : H_strings_Join Bd) (n : Nat) (a : Option (Nat × Nat)) (ws : List (List UInt8)) (sep : List UInt8) (st : St) (hsl : Sl st a (ws.map .str))
    (h1 : ws.length ≤ 140737488355328) (h2 : (Lib.join ws sep).length ≤ 140737488355328) : run Bd (n + 1) 14 [.slice 1 a ws.length, .str sep] st = some (.val [.str (Lib.join ws sep)], st) := by
  rw [run_succ, h.eq]
  unfold lib_Join
  have hl : ws.length = (ws.map DV.str).length := by simp
  simp only
  rw [hl, rd_eq hsl]
  simp only [strsOf_map]
  rw [Nat.ble_eq_true_of_le (by rw [← hl]; exact h1), Nat.ble_eq_true_of_le h2]
  rfl
end Go.Gv.F

/- Lines: strings.Split at one octet, and the document's; the words of each line. -/
namespace Go.Gv.F
open Go.Gv
def cutB (c : UInt8) : List UInt8 → List UInt8 → List (List UInt8)
  | [], w => [w]
  | x :: r, w => if x = c then w :: cutB c r [] else cutB c r (w ++ [x])
theorem cutB_acc (c : UInt8) : ∀ (s w : List UInt8), ∃ h t, cutB c s [] = h :: t ∧ cutB c s w = (w ++ h) :: t
  | [], w => ⟨[], [], rfl, by simp [cutB]⟩
  | x :: r, w => by
    by_cases hx : x = c
    · exact ⟨[], cutB c r [], by rw [cutB, if_pos hx], by rw [cutB, if_pos hx, List.append_nil]⟩
    · obtain ⟨h, t, h1, h2⟩ := cutB_acc c r (w ++ [x])
      obtain ⟨h', t', h1', h2'⟩ := cutB_acc c r ([] ++ [x])
      rw [h1] at h1'
      cases h1'
      exact ⟨x :: h, t, by rw [cutB, if_neg hx, h2']; rfl, by rw [cutB, if_neg hx, h2]; simp⟩
theorem cutB_len (c : UInt8) : ∀ (s w : List UInt8), (cutB c s w).length = Lib.countByte s c + 1
  | [], w => rfl
  | x :: r, w => by
    unfold Lib.countByte
    rw [cutB, List.count_cons]
    by_cases hx : x = c
    · subst hx
      have := cutB_len x r []
      unfold Lib.countByte at this
      simp [this]
    · have := cutB_len c r (w ++ [x])
      unfold Lib.countByte at this
      rw [if_neg hx, this]
      simp [hx]
theorem cutB_pos (c : UInt8) (s w : List UInt8) : 0 < (cutB c s w).length := by rw [cutB_len]; omega
theorem count_le (c : UInt8) (s : List UInt8) : Lib.countByte s c ≤ s.length := List.count_le_length
theorem cutB_mem (c : UInt8) : ∀ (s w : List UInt8), ∀ l ∈ cutB c s w, l.length ≤ w.length + s.length
  | [], w, l, h => by rw [cutB, List.mem_singleton] at h; subst h; simp
  | x :: r, w, l, h => by
    rw [cutB] at h
    split at h
    · rcases List.mem_cons.1 h with rfl | h
      · omega
      · have := cutB_mem c r [] l h
        simp only [List.length_nil, List.length_cons] at this ⊢
        omega
    · have := cutB_mem c r (w ++ [x]) l h
      simp only [List.length_append, List.length_cons, List.length_nil] at this ⊢
      omega
theorem cutB_idx (c : UInt8) : ∀ (s : List UInt8), cutB c s [] = if Lib.indexByte s c = -1 then [s] else s.take (Lib.indexByte s c).toNat :: cutB c (s.drop ((Lib.indexByte s c).toNat + 1)) []
  | [] => rfl
  | b :: l => by
    have ih := cutB_idx c l
    have hge := Lib.indexByte_ge l c
    rw [cutB, Lib.indexByte]
    by_cases hb : b = c
    · subst hb
      simp
    · rw [if_neg hb]
      have hbq : (b == c) = false := beq_eq_false_iff_ne.2 hb
      rw [hbq]
      obtain ⟨h, t, h1, h2⟩ := cutB_acc c l ([] ++ [b])
      rw [h2]
      rw [h1] at ih
      by_cases hi : Lib.indexByte l c = -1
      · have hiq : (Lib.indexByte l c == -1) = true := by rw [hi]; rfl
        rw [if_pos hi] at ih
        cases ih
        simp [hiq]
      · have hiq : (Lib.indexByte l c == -1) = false := beq_eq_false_iff_ne.2 hi
        rw [if_neg hi] at ih
        cases ih
        rw [hiq]
        simp only [Bool.false_eq_true, if_false]
        rw [if_neg (by omega), show (Lib.indexByte l c + 1).toNat = (Lib.indexByte l c).toNat + 1 by omega]
        rfl
theorem cutB_ge2 {c : UInt8} {s : List UInt8} (h : 2 ≤ (cutB c s []).length) : 0 ≤ Lib.indexByte s c ∧ cutB c s [] = s.take (Lib.indexByte s c).toNat :: cutB c (s.drop ((Lib.indexByte s c).toNat + 1)) [] := by
  have e := cutB_idx c s
  have hge := Lib.indexByte_ge s c
  by_cases hi : Lib.indexByte s c = -1
  · rw [if_pos hi] at e; rw [e] at h; simp at h
  · rw [if_neg hi] at e
    exact ⟨by omega, e⟩
theorem cutB_one {c : UInt8} {s : List UInt8} (h : (cutB c s []).length = 1) : cutB c s [] = [s] := by
  have e := cutB_idx c s
  by_cases hi : Lib.indexByte s c = -1
  · rw [if_pos hi] at e; exact e
  · rw [if_neg hi] at e
    rw [e] at h
    have := cutB_pos c (s.drop ((Lib.indexByte s c).toNat + 1)) []
    simp only [List.length_cons] at h
    omega
theorem byteAt_one (c : UInt8) : byteAt [c] 0 = (c.toNat : Int) := rfl
theorem toU8 (c : UInt8) : ((c.toNat : Int)).toNat.toUInt8 = c := by simp
theorem ev_IndexByteC {Bd : Bodies} (h : H_stringslite_IndexByte Bd) (n : Nat) (s : List UInt8) (c : UInt8) (st : St) : run Bd (n + 2) 88 [.str s, .int .u8 (c.toNat : Int)] st = some (.val [.int .i64 (Lib.indexByte s c)], st) := by
  have e : run Bd (n + 1) 89 [.str s, .int .u8 (c.toNat : Int)] st = some (.val [.int .i64 (Lib.indexByte s c)], st) := by
    rw [run_succ, h.bytealg_IndexByteString.eq]
    unfold nat_IndexByteString
    simp only [toU8, ret_eq]
  rw [run_succ, h.eq]
  unfold b_stringslite_IndexByte
  simp only [J_s, J_i, D_nil]
  rw [call_eq e]
  simp only [J_i, D_nil, ret_eq]
theorem ev_IndexC {Bd : Bodies} (h : H_stringslite_Index Bd) (n : Nat) (s : List UInt8) (c : UInt8) (st : St) : run Bd (n + 3) 84 [.str s, .str [c]] st = some (.val [.int .i64 (Lib.indexByte s c)], st) := by
  rw [run_succ, h.eq]
  unfold b_stringslite_Index
  have e0 : ((([c] : List UInt8).length : Int) == 0) = false := rfl
  have e1 : ((([c] : List UInt8).length : Int) == 1) = true := rfl
  have e2 : inB 0 ([c] : List UInt8).length = true := rfl
  simp only [J_s, D_nil, e0, cond_false, join_eq, J_b]
  cases hs : (([c] : List UInt8) == s) with
  | true =>
    have : [c] = s := by simpa using hs
    subst this
    simp only [cond_true, ret_eq]
    have : Lib.indexByte [c] c = 0 := by unfold Lib.indexByte; simp
    rw [this]
  | false =>
    simp only [cond_false, e1, cond_true, e2, chk_true, byteAt_one]
    rw [call_eq (ev_IndexByteC h.stringslite_IndexByte n s c st)]
    simp only [J_i, D_nil, ret_eq]
theorem ev_strings_Index {Bd : Bodies} (h : H_strings_Index Bd) (n : Nat) (s : List UInt8) (c : UInt8) (st : St) : run Bd (n + 4) 74 [.str s, .str [c]] st = some (.val [.int .i64 (Lib.indexByte s c)], st) := by
  rw [run_succ, h.eq]
  unfold b_strings_Index
  simp only [J_s, D_nil]
  rw [call_eq (ev_IndexC h.stringslite_Index n s c st)]
  simp only [J_i, D_nil, ret_eq]
theorem ev_strings_Count {Bd : Bodies} (h : H_strings_Count Bd) (n : Nat) (s : List UInt8) (c : UInt8) (st : St) : run Bd (n + 2) 75 [.str s, .str [c]] st = some (.val [.int .i64 (Lib.countByte s c : Nat)], st) := by
  have e : run Bd (n + 1) 83 [.str s, .int .u8 (c.toNat : Int)] st = some (.val [.int .i64 (Lib.countByte s c : Nat)], st) := by
    rw [run_succ, h.bytealg_CountString.eq]
    unfold nat_CountString
    simp only [toU8, ret_eq]
  rw [run_succ, h.eq]
  unfold b_strings_Count
  have e0 : ((([c] : List UInt8).length : Int) == 0) = false := rfl
  have e1 : ((([c] : List UInt8).length : Int) == 1) = true := rfl
  have e2 : inB 0 ([c] : List UInt8).length = true := rfl
  simp only [J_s, D_nil, e0, e1, cond_false, cond_true, e2, chk_true, byteAt_one]
  rw [call_eq e]
  simp only [J_i, D_nil, ret_eq]
/-- What a function that cuts a text answers. -/
def CutAns (c : UInt8) (s : List UInt8) (st : St) (o : Out (List DV) × St) : Prop :=
  ∃ a s', o = (.val [.slice 1 a (cutB c s []).length], s') ∧ Pre st s' ∧ Fz s' a ((cutB c s []).map .str)
theorem rep_one (n : Nat) (d : DV) : rep n [d] = List.replicate n d := by
  unfold rep
  induction n with
  | zero => rfl
  | succ n ih => rw [List.replicate_succ, List.replicate_succ, List.flatten_cons, ih]; rfl
theorem ev_genSplit {Bd : Bodies} (h : H_strings_genSplit Bd) (n : Nat) (s : List UInt8) (c : UInt8) (hn : s.length + 10 ≤ n) (hs : s.length < 1000000) (st : St) :
    Ok (CutAns c s st) (run Bd n 65 [.str s, .str [c], .int .i64 0, .int .i64 (-1)] st) := by
  obtain ⟨n, rfl⟩ : ∃ m, n = m + 6 := ⟨n - 6, by omega⟩
  rw [run_succ, h.eq]
  unfold b_strings_genSplit
  have e0 : (([c] : List UInt8) == bs []) = false := rfl
  have e1 : ((-1 : Int) == 0) = false := rfl
  have e2 : decide ((-1 : Int) < 0) = true := rfl
  have hL := cutB_len c s []
  have hcl := count_le c s
  generalize hLL : cutB c s [] = L at hL
  simp only [J_s, J_i, D_nil, base_eq, e0, e1, cond_false]
  rw [join_eq]
  simp only [e2, cond_true]
  rw [call_eq (ev_strings_Count h.strings_Count (n + 3) s c st)]
  simp only [J_i, D_nil]
  have hw : wr64 ((s.length : Int) + 1) = (s.length : Int) + 1 := wr64_of (by omega) (by omega)
  have hw2 : wr64 ((Lib.countByte s c : Int) + 1) = (L.length : Int) := by rw [wr64_of (by omega) (by omega)]; omega
  have hmin : (if (s.length : Int) + 1 < (L.length : Int) then (s.length : Int) + 1 else (L.length : Int)) = (L.length : Int) := if_neg (by omega)
  simp only [hw, hw2, hmin, Int.toNat_natCast]
  rw [chk_of (by simp; omega), rep_one, new_eq, join_eq]
  have wN : wr64 ((L.length : Int) - 1) = (L.length : Int) - 1 := wr64_of (by omega) (by omega)
  have fin : ∀ (i : Nat) (w : List UInt8), i + 1 = L.length → L.take i ++ [w] = L → Ok (CutAns c s st) ((M.chk (inB (i : Int) L.length) <| M.store st.length ((i : Int).toNat * 1) [.str w] <|
          M.chk (decide (0 ≤ wr64 ((i : Int) + 1)) && decide (wr64 ((i : Int) + 1) ≤ (L.length : Int))) <|
          M.retF st.length [.slice 1 (some (st.length, 0)) ((wr64 ((i : Int) + 1)).toNat)] : M (List DV)) (st ++ [some ⟨false, (L.take i).map .str ++ List.replicate (L.length - i) (.str (bs []))⟩])) := by
    intro i w hi hw'
    rw [chk_of (inB_of (by omega)), Int.toNat_natCast, Nat.mul_one, store_new _ (by simp; omega), wr64_of (by omega) (by omega), chk_of (by simp; omega), retF_eq]
    refine .mk ?_
    have hset : ((L.take i).map DV.str ++ List.replicate (L.length - i) (DV.str (bs []))).set i (.str w) = L.map DV.str := by
      rw [show L.length - i = 1 by omega, List.set_append_right _ _ (by simp; omega)]
      have : i - ((L.take i).map DV.str).length = 0 := by simp; omega
      rw [this]
      have e : L.map DV.str = (L.take i ++ [w]).map DV.str := by rw [hw']
      rw [e, List.map_append]
      rfl
    rw [hset]
    have ho : Own st (st ++ [some ⟨false, L.map DV.str⟩]) (some (st.length, 0)) (L.map .str) := ⟨.new _ _, .inr ⟨st.length, rfl, Nat.le_refl _, by simp⟩⟩
    refine ⟨some (st.length, 0), _, ?_, frz_pre ho.1, ?_⟩
    · rw [hLL, show ((i : Int) + 1).toNat = L.length by omega]
    · rw [hLL]; exact ho.fz
  refine loop_rule _ (fun k x s2 => ∃ (i : Nat) (r : List UInt8), x = [.str r, .int .i64 i] ∧ i + 1 ≤ L.length ∧ L.length - i ≤ k ∧ r.length ≤ s.length ∧ L.drop i = cutB c r [] ∧ s2 = st ++ [some ⟨false, (L.take i).map .str ++ List.replicate (L.length - i) (.str (bs []))⟩])
    ?_ L.length (n + 5) _ _ ⟨0, s, rfl, by omega, by omega, Nat.le_refl _, by rw [List.drop_zero, hLL], rfl⟩ (by omega)
  rintro k _ s2 ⟨i, r, rfl, hi, hk, hr, hd, rfl⟩ rec hrec
  have hdl : (cutB c r []).length = L.length - i := by rw [← hd, List.length_drop]
  simp only [J_s, J_i, D_nil, wN]
  by_cases hlt : i + 1 < L.length
  · have e : decide ((i : Int) < (L.length : Int) - 1) = true := decide_eq_true (by omega)
    obtain ⟨h0, hcut⟩ := cutB_ge2 (c := c) (s := r) (by omega)
    have hix : (Lib.indexByte r c).toNat < r.length := by
      have := (Lib.indexByte_some (l := r) (c := c) (o := (Lib.indexByte r c).toNat) (by omega)).1
      exact (List.getElem?_eq_some_iff.1 this).1
    simp only [e, cond_true]
    rw [call_eq (ev_strings_Index h.strings_Index (n + 1) r c _)]
    simp only [J_i, D_nil]
    have en : decide (Lib.indexByte r c < 0) = false := decide_eq_false (by omega)
    have w1 : wr64 (Lib.indexByte r c + 0) = Lib.indexByte r c := by rw [Int.add_zero]; exact wr64_of (by omega) (by omega)
    have w2 : wr64 (Lib.indexByte r c + (([c] : List UInt8).length : Int)) = Lib.indexByte r c + 1 := wr64_of (by show _ ≤ Lib.indexByte r c + 1; omega) (by show Lib.indexByte r c + 1 < _; omega)
    simp only [en, cond_false, w1, w2]
    rw [chk_of (by simp; omega), chk_of (inB_of (by omega)), Int.toNat_natCast, Nat.mul_one, store_new _ (by simp; omega), chk_of (by simp; omega), wr64_of (by omega) (by omega)]
    rw [hcut] at hd
    have hLi : L[i]? = some (r.take (Lib.indexByte r c).toNat) := by
      have := congrArg (fun l => l[0]?) hd
      simpa using this
    have hil : i < L.length := by omega
    rw [List.getElem?_eq_getElem hil] at hLi
    have hLi := Option.some.inj hLi
    refine hrec (L.length - (i + 1)) _ _ (by omega) ⟨i + 1, _, rfl, by omega, by omega, ?_, ?_, ?_⟩
    · rw [List.length_drop]; omega
    · rw [show (Lib.indexByte r c + 1).toNat = (Lib.indexByte r c).toNat + 1 by omega, ← List.tail_drop, hd]
      rfl
    · congr 4
      rw [List.take_succ_eq_append_getElem hil, hLi, List.map_append, show L.length - i = (L.length - (i + 1)) + 1 by omega, List.replicate_succ, List.set_append_right _ _ (by simp; omega)]
      have : i - ((L.take i).map DV.str).length = 0 := by simp; omega
      rw [this, List.append_assoc]
      rfl
  · have e : decide ((i : Int) < (L.length : Int) - 1) = false := decide_eq_false (by omega)
    simp only [e, cond_false]
    refine fin i r (by omega) ?_
    rw [cutB_one (by omega)] at hd
    rw [← hd, List.take_append_drop]
theorem ev_strings_Split {Bd : Bodies} (h : H_strings_Split Bd) (n : Nat) (s : List UInt8) (c : UInt8) (hn : s.length + 11 ≤ n) (hs : s.length < 1000000) (st : St) :
    Ok (CutAns c s st) (run Bd n 58 [.str s, .str [c]] st) := by
  obtain ⟨n, rfl⟩ : ∃ m, n = m + 1 := ⟨n - 1, by omega⟩
  rw [run_succ, h.eq]
  unfold b_strings_Split
  simp only [J_s, D_nil, base_eq]
  refine Ok.call (ev_genSplit h.strings_genSplit n s c (by omega) hs st) ?_
  rintro _ ⟨a, s1, rfl, hp, hf⟩
  refine ⟨_, s1, rfl, ?_⟩
  simp only [J_l, D_nil, retF_eq]
  exact .mk ⟨a, _, rfl, frz_pre hp, hf.kp (frz_kp _ _)⟩
end Go.Gv.F

/- Lines and the words of each line; the law LexSplits answers true. -/
namespace Go.Gv.F
open Go.Gv
end Go.Gv.F
