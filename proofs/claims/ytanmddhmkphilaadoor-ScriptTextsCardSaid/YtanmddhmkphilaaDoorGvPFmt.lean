/- Numbers as texts: base 16. -/
import Derived.Test.YtanmddhmkphilaaDoorGvPName
namespace Go.Gv.F

/-- The laid tables lie where they should. -/
def Tabs (s : St) : Prop := ∀ (i : Nat) (b : Option Blk), tabs[i]? = some b → s[i]? = some b
theorem Tabs.mono {s s' : St} (h : Tabs s) (k : Pre s s') : Tabs s' := fun i b e => k.get (h i b e)

def digs : List UInt8 := [48, 49, 50, 51, 52, 53, 54, 55, 56, 57, 97, 98, 99, 100, 101, 102, 103, 104, 105, 106, 107, 108, 109, 110, 111, 112, 113, 114, 115, 116, 117, 118, 119, 120, 121, 122]
def dg (n : Nat) : UInt8 := digs.getD n 0
def hexS (n : Nat) : List UInt8 := if n < 16 then [dg n] else hexS (n / 16) ++ [dg (n % 16)]
termination_by n
decreasing_by omega

theorem ov_nil (cs : List DV) : ov cs [] = cs := by cases cs <;> rfl
theorem spl_set (d : DV) : ∀ (cs : List DV) (p : Nat), p < cs.length → spl cs p [d] = cs.set p d
  | [], p, h => by cases h
  | c :: cs, 0, _ => by show d :: ov cs [] = _; rw [ov_nil]; rfl
  | c :: cs, p + 1, h => by show c :: spl cs p [d] = _; rw [spl_set d cs p (by simpa using h)]; rfl
theorem octets_cells : ∀ (l : List UInt8), octets (byteCells l) = some l
  | [] => rfl
  | b :: l => by
    show (octets (byteCells l)).map (UInt8.ofNat _ :: ·) = _
    rw [octets_cells l]
    simp
theorem D_oct (l : List UInt8) {β : Type} (K : List UInt8 → M β) : D.oct (byteCells l) K = K l := by unfold D.oct; rw [octets_cells]

theorem store_new {β : Type} {st : St} {cs : List DV} {p : Nat} (d : DV) (hp : p < cs.length) (K : M β) : M.store st.length p [d] K (st ++ [some ⟨false, cs⟩]) = K (st ++ [some ⟨false, cs.set p d⟩]) := by
  unfold M.store St.open?
  simp only [List.getElem?_concat_length, List.length_singleton, Nat.ble_eq_true_of_le (show p + 1 ≤ cs.length by omega), cond_true, spl_set d cs p hp]
  rw [List.set_append_right _ _ (Nat.le_refl _), Nat.sub_self]
  rfl
theorem load_new {β : Type} {st : St} {cs : List DV} {o n : Nat} (h : o + n ≤ cs.length) (K : List DV → M β) : M.load st.length o n K (st ++ [some ⟨false, cs⟩]) = K ((cs.drop o).take n) (st ++ [some ⟨false, cs⟩]) :=
  load_eq (f := false) (all := cs) (by simp) h K

theorem ev_TrailingZeros {Bd : Bodies} (h : H_bits_TrailingZeros Bd) (n : Nat) (st : St) (ht : Tabs st) : run Bd (n + 2) 80 [.int .u64 16] st = some (.val [.int .i64 4], st) := by
  have e : run Bd (n + 1) 86 [.int .u64 16] st = some (.val [.int .i64 4], st) := by
    rw [run_succ, h.bits_TrailingZeros64.eq16]
    rw [load1_eq (i := 2) (f := true) (all := tab2) (d := .int .u8 4) (ht 2 _ rfl) rfl]
    simp only [D_int, ret_eq]
    rfl
  rw [run_succ, h.eq]
  unfold b_bits_TrailingZeros
  simp only [J_i, D_nil]
  rw [call_eq e]
  rfl
theorem ev_isPowerOfTwo {Bd : Bodies} (h : H_strconv_isPowerOfTwo Bd) (n : Nat) (st : St) : run Bd (n + 1) 79 [.int .i64 16] st = some (.val [.bool true], st) := by
  rw [run_succ, h.eq]
  unfold b_strconv_isPowerOfTwo
  simp only [J_i, D_nil, ret_eq]
  have : ((bits .and .i64 16 (wr64 (16 - 1))) == 0) = true := by decide +kernel
  rw [this]

theorem and15 (u : Nat) (h : u < 18446744073709551616) : bits .and .u64 (u : Int) 15 = ((u % 16 : Nat) : Int) := by
  have e : ((BitVec.ofInt 64 (u : Int)) &&& (BitVec.ofInt 64 15)).toNat = u % 16 := by
    rw [BitVec.toNat_and, BitVec.toNat_ofInt, BitVec.toNat_ofInt]
    have e1 : ((u : Int) % ((2 ^ 64 : Nat) : Int)).toNat = u := by omega
    have e2 : ((15 : Int) % ((2 ^ 64 : Nat) : Int)).toNat = 2 ^ 4 - 1 := by decide
    rw [e1, e2, Nat.and_two_pow_sub_one_eq_mod]
  show IntKind.wrap .u64 (((BitVec.ofInt 64 (u : Int)) &&& (BitVec.ofInt 64 15)).toNat : Int) = _
  rw [e]
  exact IntWalk.u64_in _ (by omega)

theorem ev_formatBits {Bd : Bodies} (h : H_strconv_formatBits Bd) (n : Nat) (u : Nat) (hu : u < 18446744073709551616) (hn : 100 ≤ n) (st : St) (ht : Tabs st) :
    Ok (fun o => ∃ s', o = (.val [.slice 0 none 0, .str (hexS u)], s') ∧ Pre st s') (run Bd n 71 [.slice 0 none 0, .int .u64 u, .int .i64 16, .bool false, .bool false] st) := by
  obtain ⟨n, rfl⟩ : ∃ m, n = m + 3 := ⟨n - 3, by omega⟩
  rw [run_succ, h.eq]
  unfold b_strconv_formatBits
  simp only [J_l_nil, J_i, J_b, D_nil, base_eq]
  have d1 : decide ((16 : Int) < 2) = false := rfl
  have d2 : ((16 : Int) == 10) = false := rfl
  have d3 : decide ((16 : Int) > 36) = false := rfl
  simp only [d1, d2, d3, cond_false, join_eq, J_b, J_i, D_nil]
  rw [new_eq, call_eq (ev_isPowerOfTwo h.strconv_isPowerOfTwo (n + 1) _)]
  simp only [J_b, D_nil, cond_true]
  have w1 : IntKind.wrap .u64 16 = 16 := by decide
  have w2 : IntKind.wrap .u64 (16 - 1) = 15 := by decide
  have w3 : IntKind.wrap .u64 4 = 4 := by decide
  simp only [w1, w2]
  rw [call_eq (ev_TrailingZeros h.bits_TrailingZeros n _ (ht.mono (.new _ _)))]
  simp only [J_i, D_nil, w3]
  refine loop_rule _ (fun k x s2 => ∃ (v i : Nat) (cs : List DV) (ds : List UInt8), x = [.int .u64 v, .int .i64 i] ∧ i = k ∧ 50 ≤ i ∧ i ≤ 65 ∧ v < 16 ^ (i - 49) ∧ cs.length = 65 ∧ cs.drop i = byteCells ds ∧ hexS u = hexS v ++ ds ∧ s2 = st ++ [some ⟨false, cs⟩])
    ?_ 65 (n + 2) _ _ ⟨u, 65, _, [], rfl, rfl, by omega, by omega, by simpa using hu, rfl, rfl, by simp, rfl⟩ (by omega)
  rintro k _ s2 ⟨v, i, cs, ds, rfl, rfl, h1, h2, hv, hl, hd, hx, rfl⟩ rec hrec
  simp only [J_i, D_nil]
  have hv64 : v < 18446744073709551616 := Nat.lt_of_lt_of_le hv (by
    have : (18446744073709551616 : Nat) = 16 ^ 16 := by decide
    rw [this]; exact Nat.pow_le_pow_right (by omega) (by omega))
  have hi1 : wr64 ((i : Int) - 1) = ((i - 1 : Nat) : Int) := by rw [wr64_of (by omega) (by omega)]; omega
  have hoc : ∀ x : Nat, byteAt (bs [48, 49, 50, 51, 52, 53, 54, 55, 56, 57, 97, 98, 99, 100, 101, 102, 103, 104, 105, 106, 107, 108, 109, 110, 111, 112, 113, 114, 115, 116, 117, 118, 119, 120, 121, 122]) (x : Int) = ((dg x).toNat : Int) := fun x => byteAt_eq _ x
  have hset : ∀ x : Nat, (cs.set (i - 1) (.int .u8 ((dg x).toNat : Int))).drop (i - 1) = byteCells (dg x :: ds) := by
    intro x
    rw [List.drop_eq_getElem_cons (by simp; omega)]
    simp only [List.getElem_set_self]
    rw [List.drop_set_of_lt (by omega), show i - 1 + 1 = i by omega, hd]
    rfl
  by_cases h16 : v < 16
  · rw [decide_eq_false (show ¬ ((v : Int) ≥ 16) by omega), cond_false]
    have hin : inB (v : Int) (bs [48, 49, 50, 51, 52, 53, 54, 55, 56, 57, 97, 98, 99, 100, 101, 102, 103, 104, 105, 106, 107, 108, 109, 110, 111, 112, 113, 114, 115, 116, 117, 118, 119, 120, 121, 122]).length = true := inB_of (by show v < 36; omega)
    simp only [chk_of hin, hi1, chk_of (inB_of (show i - 1 < 65 by omega)), hoc, Int.toNat_natCast, Nat.mul_one, Nat.add_zero]
    rw [store_new _ (by omega), load_new (by simp; omega), chk_of (by simp only [Bool.and_eq_true, decide_eq_true_eq]; omega), load_new (by simp; omega), hset v]
    rw [List.take_of_length_le (by have := congrArg List.length hd; simp [byteCells] at this ⊢; omega), D_oct]
    rw [retF_eq]
    rw [hx, show hexS v = [dg v] by rw [hexS, if_pos h16]]
    exact .mk ⟨_, rfl, frz_pre (.new _ _)⟩
  · rw [decide_eq_true (show (v : Int) ≥ 16 by omega), cond_true]
    have hm : v % 16 < 16 := Nat.mod_lt _ (by omega)
    have hin : inB ((v % 16 : Nat) : Int) (bs [48, 49, 50, 51, 52, 53, 54, 55, 56, 57, 97, 98, 99, 100, 101, 102, 103, 104, 105, 106, 107, 108, 109, 110, 111, 112, 113, 114, 115, 116, 117, 118, 119, 120, 121, 122]).length = true := inB_of (by show v % 16 < 36; omega)
    simp only [and15 v hv64, chk_of hin, hi1, chk_of (inB_of (show i - 1 < 65 by omega)), hoc, Int.toNat_natCast, Nat.mul_one, Nat.add_zero]
    rw [store_new _ (by omega)]
    have hp : v < 16 ^ (i - 1 - 49) * 16 := by rw [← Nat.pow_succ, show (i - 1 - 49).succ = i - 49 by omega]; exact hv
    have h51 : 51 ≤ i := by
      rcases Nat.lt_or_ge i 51 with h | h
      · have : i = 50 := by omega
        subst this
        simp at hv
        omega
      · exact h
    have hdiv : (v : Int).fdiv (2 ^ (min (4 : Int).toNat 64)) = ((v / 16 : Nat) : Int) := by
      have e : (2 : Int) ^ (min (4 : Int).toNat 64) = ((16 : Nat) : Int) := by decide
      rw [e, ← Int.ofNat_fdiv]
    have hchk : decide ((0 : Int) ≤ 4) = true := rfl
    rw [hchk, chk_true, hdiv]
    refine hrec (i - 1) _ _ (by omega) ⟨v / 16, i - 1, _, dg (v % 16) :: ds, rfl, rfl, by omega, by omega, (Nat.div_lt_iff_lt_mul (by omega)).2 hp, by simpa using hl, hset _, ?_, rfl⟩
    rw [hx, show hexS v = hexS (v / 16) ++ [dg (v % 16)] by rw [hexS, if_neg h16]]
    simp

theorem ev_FormatInt {Bd : Bodies} (h : H_strconv_FormatInt Bd) (n : Nat) (u : Nat) (hu : u < 4611686018427387904) (hn : 110 ≤ n) (st : St) (ht : Tabs st) :
    Ok (fun o => ∃ s', o = (.val [.str (hexS u)], s') ∧ Pre st s') (run Bd n 55 [.int .i64 u, .int .i64 16] st) := by
  obtain ⟨n, rfl⟩ : ∃ m, n = m + 2 := ⟨n - 2, by omega⟩
  rw [run_succ, h.eq]
  unfold b_strconv_FormatInt
  simp only [J_i, D_nil]
  have : Ok (fun o => ∃ s', o = (.val [.str (hexS u)], s') ∧ Pre st s') (run Bd (n + 1) 63 [.int .i64 u, .int .i64 16] st) := by
    rw [run_succ, h.strconv_FormatInt_.eq]
    unfold b_strconv_FormatInt_
    simp only [J_i, D_nil]
    have d2 : ((16 : Int) == 10) = false := rfl
    rw [d2, cond_false, IntWalk.u64_in _ (by omega), decide_eq_false (show ¬ ((u : Int) < 0) by omega)]
    refine Ok.call (ev_formatBits h.strconv_FormatInt_.strconv_formatBits n u (by omega) (by omega) st ht) ?_
    rintro _ ⟨s1, rfl, hp⟩
    refine ⟨_, s1, rfl, ?_⟩
    simp only [J_l_nil, J_s, D_nil, ret_eq]
    exact .mk ⟨s1, rfl, hp⟩
  refine Ok.call this ?_
  rintro _ ⟨s1, rfl, hp⟩
  refine ⟨_, s1, rfl, ?_⟩
  simp only [J_s, D_nil, ret_eq]
  exact .mk ⟨s1, rfl, hp⟩
end Go.Gv.F
