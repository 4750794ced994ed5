/- Texts that can be seen. -/
import Derived.Test.YtanmddhmkphilaaDoorGvPFmt
namespace Go.Gv.F

theorem take_oc (s : List UInt8) (p k : Nat) (hk : p + k ≤ s.length) : (s.drop p).take k = (List.range k).map fun j => UInt8.ofNat (oc s (p + j)) := by
  apply List.ext_getElem
  · simp; omega
  · intro j h1 h2
    simp only [List.length_take, List.length_drop] at h1
    simp only [List.getElem_take, List.getElem_drop, List.getElem_map, List.getElem_range]
    rw [oc_get (by omega)]; simp

/-- A number's octets. -/
def encF (c : Nat) : List UInt8 := if c < 128 then [UInt8.ofNat c] else if c < 2048 then [UInt8.ofNat (192 + c / 64), UInt8.ofNat (128 + c % 64)]
    else if c < 65536 then [UInt8.ofNat (224 + c / 4096), UInt8.ofNat (128 + c / 64 % 64), UInt8.ofNat (128 + c % 64)]
    else [UInt8.ofNat (240 + c / 262144), UInt8.ofNat (128 + c / 4096 % 64), UInt8.ofNat (128 + c / 64 % 64), UInt8.ofNat (128 + c % 64)]
theorem enc_def (r : Int) : enc r = encF (if Utf8.valid r = true then r.toNat else Utf8.runeError) := by
  unfold enc Utf8.encode
  simp only []
  generalize (if Utf8.valid r = true then r.toNat else Utf8.runeError) = c
  have g1 : ∀ x, (⟨#[x]⟩ : ByteArray).data.toList = [x] := fun _ => rfl
  have g2 : ∀ x y, (⟨#[x, y]⟩ : ByteArray).data.toList = [x, y] := fun _ _ => rfl
  have g3 : ∀ x y z, (⟨#[x, y, z]⟩ : ByteArray).data.toList = [x, y, z] := fun _ _ _ => rfl
  have g4 : ∀ x y z u, (⟨#[x, y, z, u]⟩ : ByteArray).data.toList = [x, y, z, u] := fun _ _ _ _ => rfl
  unfold encF
  by_cases h1 : c < 128
  · rw [if_pos h1, if_pos h1, g1]
  rw [if_neg h1, if_neg h1]
  by_cases h2 : c < 2048
  · rw [if_pos h2, if_pos h2, g2]
  rw [if_neg h2, if_neg h2]
  by_cases h3 : c < 65536
  · rw [if_pos h3, if_pos h3, g3]
  rw [if_neg h3, if_neg h3, g4]
theorem enc_eq (c : Nat) (hv : c < 55296 ∨ (57344 ≤ c ∧ c ≤ 1114111)) : enc (c : Int) = encF c := by
  have v : ∀ r : Int, (0 ≤ r ∧ r < 55296) ∨ (57344 ≤ r ∧ r ≤ 1114111) → Utf8.valid r = true := by
    intro r h
    unfold Utf8.valid
    simp only [Bool.or_eq_true, Bool.and_eq_true, decide_eq_true_eq]
    exact h
  rw [enc_def, if_pos (v c (by omega)), Int.toNat_natCast]

theorem dec_lt (s : List UInt8) (i : Nat) : (dec s i).1 < 2097152 := by
  have h0 := oc_lt s i
  rw [dec_eq]
  repeat' split
  all_goals (simp only; omega)

/-- A rune that isn't the sign of a fault is encoded as it was. -/
theorem enc_take (s : List UInt8) (p : Nat) (hp : p < s.length) (hr : (dec s p).1 ≠ 65533) : enc ((dec s p).1 : Int) = (s.drop p).take (dec s p).2 := by
  have hle := dec_le s p hp
  rw [take_oc s p _ hle]
  revert hr
  have h0 := oc_lt s p
  rw [dec_eq]
  by_cases c0 : oc s p < 128
  · rw [if_pos c0]
    intro _
    rw [enc_eq _ (.inl (by simp only; omega))]
    unfold encF
    rw [if_pos (by simpa using c0)]
    rfl
  rw [if_neg c0]
  by_cases c1 : (194 ≤ oc s p ∧ oc s p ≤ 223) ∧ (128 ≤ oc s (p + 1) ∧ oc s (p + 1) ≤ 191)
  · rw [if_pos c1]
    intro _
    simp only
    rw [enc_eq _ (.inl (by omega))]
    unfold encF
    rw [if_neg (by omega), if_pos (by omega)]
    have e1 : 192 + ((oc s p - 192) * 64 + (oc s (p + 1) - 128)) / 64 = oc s p := by omega
    have e2 : 128 + ((oc s p - 192) * 64 + (oc s (p + 1) - 128)) % 64 = oc s (p + 1) := by omega
    rw [e1, e2]
    rfl
  rw [if_neg c1]
  by_cases c2 : (224 ≤ oc s p ∧ oc s p ≤ 239) ∧ ((if oc s p = 224 then 160 else 128) ≤ oc s (p + 1) ∧ oc s (p + 1) ≤ (if oc s p = 237 then 159 else 191)) ∧ (128 ≤ oc s (p + 2) ∧ oc s (p + 2) ≤ 191)
  · rw [if_pos c2]
    intro _
    obtain ⟨a1, ⟨b1, b2⟩, d1⟩ := c2
    have hb : 128 ≤ oc s (p + 1) ∧ oc s (p + 1) ≤ 191 ∧ (oc s p = 224 → 160 ≤ oc s (p + 1)) ∧ (oc s p = 237 → oc s (p + 1) ≤ 159) := by
      split at b1 <;> split at b2 <;> omega
    simp only
    rw [enc_eq _ (by omega)]
    unfold encF
    rw [if_neg (by omega), if_neg (by omega), if_pos (by omega)]
    have e1 : 224 + ((oc s p - 224) * 4096 + (oc s (p + 1) - 128) * 64 + (oc s (p + 2) - 128)) / 4096 = oc s p := by omega
    have e2 : 128 + ((oc s p - 224) * 4096 + (oc s (p + 1) - 128) * 64 + (oc s (p + 2) - 128)) / 64 % 64 = oc s (p + 1) := by omega
    have e3 : 128 + ((oc s p - 224) * 4096 + (oc s (p + 1) - 128) * 64 + (oc s (p + 2) - 128)) % 64 = oc s (p + 2) := by omega
    rw [e1, e2, e3]
    rfl
  rw [if_neg c2]
  by_cases c3 : (240 ≤ oc s p ∧ oc s p ≤ 244) ∧ ((if oc s p = 240 then 144 else 128) ≤ oc s (p + 1) ∧ oc s (p + 1) ≤ (if oc s p = 244 then 143 else 191)) ∧ (128 ≤ oc s (p + 2) ∧ oc s (p + 2) ≤ 191) ∧ (128 ≤ oc s (p + 3) ∧ oc s (p + 3) ≤ 191)
  · rw [if_pos c3]
    intro _
    obtain ⟨a1, ⟨b1, b2⟩, d1, e1⟩ := c3
    have hb : 128 ≤ oc s (p + 1) ∧ oc s (p + 1) ≤ 191 ∧ (oc s p = 240 → 144 ≤ oc s (p + 1)) ∧ (oc s p = 244 → oc s (p + 1) ≤ 143) := by
      split at b1 <;> split at b2 <;> omega
    simp only
    rw [enc_eq _ (by omega)]
    unfold encF
    rw [if_neg (by omega), if_neg (by omega), if_neg (by omega)]
    have e1 : 240 + ((oc s p - 240) * 262144 + (oc s (p + 1) - 128) * 4096 + (oc s (p + 2) - 128) * 64 + (oc s (p + 3) - 128)) / 262144 = oc s p := by omega
    have e2 : 128 + ((oc s p - 240) * 262144 + (oc s (p + 1) - 128) * 4096 + (oc s (p + 2) - 128) * 64 + (oc s (p + 3) - 128)) / 4096 % 64 = oc s (p + 1) := by omega
    have e3 : 128 + ((oc s p - 240) * 262144 + (oc s (p + 1) - 128) * 4096 + (oc s (p + 2) - 128) * 64 + (oc s (p + 3) - 128)) / 64 % 64 = oc s (p + 2) := by omega
    have e4 : 128 + ((oc s p - 240) * 262144 + (oc s (p + 1) - 128) * 4096 + (oc s (p + 2) - 128) * 64 + (oc s (p + 3) - 128)) % 64 = oc s (p + 3) := by omega
    rw [e1, e2, e3, e4]
    rfl
  rw [if_neg c3]
  intro h
  exact absurd rfl h

/-! ### In hexadecimal -/
theorem hexS_len : ∀ (k n : Nat), n < 16 ^ (k + 1) → (hexS n).length ≤ k + 1
  | k, n, h => by
    rw [hexS]
    split
    · simp
    · rename_i h16
      match k, h with
      | 0, h => simp at h; omega
      | k + 1, h =>
        have := hexS_len k (n / 16) ((Nat.div_lt_iff_lt_mul (by omega)).2 (by rw [← Nat.pow_succ]; exact h))
        simp only [List.length_append, List.length_singleton]
        omega

theorem ev_ref04_hex {Bd : Bodies} (h : Bd 56 = b_ref04_hex) (st : St) : ∀ (k n r : Nat), r < 16 ^ (k + 1) → k ≤ 10 → k < n → run Bd n 56 [.int .i64 r] st = some (.val [.str (hexS r)], st)
  | k, 0, r, _, _, hn => absurd hn (Nat.not_lt_zero k)
  | k, n + 1, r, hr, hk, hn => by
    have hbig : r < 4611686018427387904 := Nat.lt_of_lt_of_le hr (by
      have : (16 : Nat) ^ (k + 1) ≤ 16 ^ 11 := Nat.pow_le_pow_right (by omega) (by omega)
      have e : (16 : Nat) ^ 11 = 17592186044416 := by decide
      omega)
    rw [run_succ, h]
    unfold b_ref04_hex
    have hm : (r : Int).tmod 16 = ((r % 16 : Nat) : Int) := rfl
    have hd : (r : Int).tdiv 16 = ((r / 16 : Nat) : Int) := rfl
    have hm16 : r % 16 < 16 := Nat.mod_lt _ (by omega)
    have hw : wr64 (((r % 16 : Nat) : Int) + 1) = ((r % 16 + 1 : Nat) : Int) := by rw [wr64_of (by omega) (by omega)]; rfl
    have hw2 : wr64 ((r / 16 : Nat) : Int) = ((r / 16 : Nat) : Int) := wr64_of (by omega) (by omega)
    have hl : (bs [48, 49, 50, 51, 52, 53, 54, 55, 56, 57, 97, 98, 99, 100, 101, 102]).length = 16 := rfl
    simp only [J_i, D_nil, hm, hd, hw, hw2, hl, Int.toNat_natCast]
    rw [chk_of (by simp only [Bool.and_eq_true, decide_eq_true_eq]; omega), chk_of (by simp only [Bool.and_eq_true, decide_eq_true_eq]; omega)]
    have hdig : ((bs [48, 49, 50, 51, 52, 53, 54, 55, 56, 57, 97, 98, 99, 100, 101, 102]).take (r % 16 + 1)).drop (r % 16) = [dg (r % 16)] := by
      have all : ∀ m, m < 16 → ((bs [48, 49, 50, 51, 52, 53, 54, 55, 56, 57, 97, 98, 99, 100, 101, 102]).take (m + 1)).drop m = [dg m] := by decide +kernel
      exact all _ hm16
    rw [hdig]
    by_cases h16 : r < 16
    · rw [decide_eq_true (show (r : Int) < 16 by omega), cond_true, ret_eq, hexS, if_pos h16, Nat.mod_eq_of_lt h16]
    · rw [decide_eq_false (show ¬ (r : Int) < 16 by omega), cond_false]
      match k, hr, hn, hk with
      | 0, hr, _, _ => simp at hr; omega
      | k + 1, hr, hn, hk =>
        have hr' : r / 16 < 16 ^ (k + 1) := (Nat.div_lt_iff_lt_mul (by omega)).2 (by rw [← Nat.pow_succ]; exact hr)
        rw [call_eq (ev_ref04_hex h st k n (r / 16) hr' (by omega) (by omega))]
        have := hexS_len k (r / 16) hr'
        simp only [J_s, D_nil]
        rw [chk_of (Nat.ble_eq_true_of_le (by simp; omega)), ret_eq]
        rw [show hexS r = hexS (r / 16) ++ [dg (r % 16)] by rw [hexS, if_neg h16]]

/-! ### A text that can be seen -/
def seen (s : List UInt8) (p : Nat) : List UInt8 := if ofI ((dec s p).1 : Int) then (s.drop p).take (dec s p).2 else 60 :: (hexS (dec s p).1 ++ [62])
def showS (s : List UInt8) : List UInt8 := if _h : s.length = 0 then [] else seen s 0 ++ showS (s.drop (dec s 0).2)
termination_by s.length
decreasing_by
  have := dec_pos s 0
  simp only [List.length_drop]
  omega
theorem show_nil : showS [] = [] := by rw [showS]; rfl
theorem show_at {s : List UInt8} {p : Nat} (h : p < s.length) : showS (s.drop p) = seen s p ++ showS (s.drop (p + (dec s p).2)) := by
  rw [showS, dif_neg (by simp; omega)]
  unfold seen
  rw [dec_drop, List.drop_drop, List.drop_drop, Nat.add_zero]
theorem seen_len (s : List UInt8) (p : Nat) : (seen s p).length ≤ 8 := by
  have := dec_pos s p
  have h2 := hexS_len 5 (dec s p).1 (by have := dec_lt s p; have e : (16 : Nat) ^ (5 + 1) = 16777216 := by decide
                                        omega)
  unfold seen
  split
  · simp; omega
  · simp; omega
theorem ofI_ne {r : Nat} (h : ofI (r : Int) = true) : r ≠ 65533 := by
  rintro rfl
  revert h; decide

theorem ev_ref04_Show {Bd : Bodies} (h : H_ref04_Show Bd) (n : Nat) (s : List UInt8) (hn : s.length + 12 ≤ n) (hs : s.length < 100000) (st : St) :
    Ok (fun o => o = (.val [.str (showS s)], st)) (run Bd n 32 [.str s] st) := by
  obtain ⟨n, rfl⟩ : ∃ m, n = m + 10 := ⟨n - 10, by omega⟩
  rw [run_succ, h.eq]
  unfold b_ref04_Show
  simp only [J_s, D_nil]
  rw [join_eq]
  refine loop_rule _ (fun k x s2 => ∃ (p : Nat) (out : List UInt8), x = [.str (s.drop p), .str out] ∧ p ≤ s.length ∧ s.length - p ≤ k ∧ s2 = st ∧ out.length ≤ 8 * p ∧ showS s = out ++ showS (s.drop p))
    ?_ s.length (n + 9) _ _ ⟨0, [], rfl, Nat.zero_le _, by omega, rfl, Nat.zero_le _, by simp⟩ (by omega)
  rintro k _ s2 ⟨p, out, rfl, hp, hk, rfl, ho, hx⟩ rec hrec
  simp only [J_s, D_nil]
  by_cases hlt : p < s.length
  · have hl : 0 < (s.drop p).length := by simp; omega
    rw [decide_eq_true (show (((s.drop p).length : Nat) : Int) > 0 by omega), cond_true]
    have hw := dec_pos s p
    have hle := dec_le s p hlt
    have hd : dec (s.drop p) 0 = dec s p := by rw [dec_drop, Nat.add_zero]
    have hsl := seen_len s p
    rw [call_eq (ev_ref04_First h.ref04_First (n + 7) (s.drop p) hl s2)]
    simp only [J_i, D_nil, hd]
    rw [call_eq (ev_ref04_Of h.ref04_Of (n + 8) _ s2)]
    simp only [J_b, D_nil, join_eq, J_s]
    rw [show_at hlt, ← List.append_assoc] at hx
    have hdl : (s.drop p).length = s.length - p := List.length_drop
    have hgo : ∀ out' : List UInt8, out' = out ++ seen s p → Ok (fun o => o = (.val [.str (showS s)], s2)) ((M.chk (decide (0 ≤ ((dec s p).2 : Int)) && decide (((dec s p).2 : Int) ≤ ((s.drop p).length : Int))) (rec [.str ((s.drop p).drop ((dec s p).2 : Int).toNat), .str out'])) s2) := by
      rintro _ rfl
      rw [chk_of (by simp only [Bool.and_eq_true, decide_eq_true_eq]; omega), Int.toNat_natCast, List.drop_drop]
      exact hrec (s.length - (p + (dec s p).2)) _ _ (by omega) ⟨p + (dec s p).2, _, rfl, hle, by omega, rfl, by simp only [List.length_append]; omega, hx⟩
    have hsn : seen s p = if ofI ((dec s p).1 : Int) then (s.drop p).take (dec s p).2 else 60 :: (hexS (dec s p).1 ++ [62]) := rfl
    cases hof : ofI ((dec s p).1 : Int) with
    | true =>
      rw [hof, if_pos rfl] at hsn
      simp only [cond_true, Int.toNat_natCast]
      rw [chk_of (by simp only [Bool.and_eq_true, decide_eq_true_eq]; omega), chk_of (Nat.ble_eq_true_of_le (by simp only [List.length_take]; omega))]
      exact hgo _ (by rw [hsn])
    | false =>
      rw [hof, if_neg (by simp)] at hsn
      simp only [cond_false]
      have hdl2 := dec_lt s p
      have h16 : (16 : Nat) ^ (5 + 1) = 16777216 := by decide
      have hhl := hexS_len 5 (dec s p).1 (by omega)
      rw [chk_of (Nat.ble_eq_true_of_le (by show out.length + 1 ≤ _; omega)), call_eq (ev_ref04_hex h.ref04_hex.eq s2 5 (n + 9) _ (by omega) (by omega) (by omega))]
      simp only [J_s, D_nil]
      rw [chk_of (Nat.ble_eq_true_of_le (by simp only [List.length_append]; show out.length + 1 + _ ≤ _; omega)), chk_of (Nat.ble_eq_true_of_le (by simp only [List.length_append]; show out.length + 1 + _ + 1 ≤ _; omega))]
      exact hgo _ (by rw [hsn]; simp [bs])
  · have he : s.drop p = [] := List.drop_of_length_le (by omega)
    rw [he] at hx ⊢
    rw [show_nil, List.append_nil] at hx
    have e : decide (((([] : List UInt8).length : Nat) : Int) > 0) = false := rfl
    rw [e, cond_false, ret_eq, hx]
    exact .mk rfl

theorem ev_name_Show {Bd : Bodies} (h : H_name_Show Bd) (n : Nat) (s : List UInt8) (hn : s.length + 120 ≤ n) (hs : s.length < 100000) (st : St) (ht : Tabs st) :
    Ok (fun o => ∃ s', o = (.val [.str (showS s)], s') ∧ Pre st s') (run Bd n 31 [.str s] st) := by
  obtain ⟨n, rfl⟩ : ∃ m, n = m + 9 := ⟨n - 9, by omega⟩
  rw [run_succ, h.eq]
  unfold b_name_Show
  simp only [J_s, D_nil]
  rw [join_eq]
  refine loop_rule _ (fun k x s2 => ∃ (p : Nat) (out : List UInt8), x = [.str out, .nat p] ∧ p ≤ s.length ∧ s.length - p ≤ k ∧ Pre st s2 ∧ out.length ≤ 8 * p ∧ showS s = out ++ showS (s.drop p))
    ?_ s.length (n + 8) _ _ ⟨0, [], rfl, Nat.zero_le _, by omega, .refl st, Nat.zero_le _, by simp⟩ (by omega)
  rintro k _ s2 ⟨p, out, rfl, hp, hk, hpre, ho, hx⟩ rec hrec
  simp only [J_s, J_n, D_nil]
  by_cases hlt : p < s.length
  · have hblt : Nat.blt p s.length = true := by rw [Nat.blt_eq]; exact hlt
    have hw := dec_pos s p
    have hle := dec_le s p hlt
    have hsl := seen_len s p
    simp only [hblt, cond_true, runeAt, runeW]
    rw [call_eq (ev_name_Of h.name_Of n _ s2)]
    simp only [J_b, D_nil, join_eq, J_s]
    rw [show_at hlt, ← List.append_assoc] at hx
    have hsn : seen s p = if ofI ((dec s p).1 : Int) then (s.drop p).take (dec s p).2 else 60 :: (hexS (dec s p).1 ++ [62]) := rfl
    have hdl2 := dec_lt s p
    cases hof : ofI ((dec s p).1 : Int) with
    | true =>
      rw [hof, if_pos rfl] at hsn
      rw [cond_true]
      rw [enc_take s p hlt (ofI_ne hof), ← hsn, chk_of (Nat.ble_eq_true_of_le (by omega))]
      exact hrec (s.length - (p + (dec s p).2)) _ _ (by omega) ⟨p + (dec s p).2, _, rfl, hle, by omega, hpre, by simp only [List.length_append]; omega, hx⟩
    | false =>
      rw [hof, if_neg (by simp)] at hsn
      rw [cond_false]
      have h16 : (16 : Nat) ^ (5 + 1) = 16777216 := by decide
      have hhl := hexS_len 5 (dec s p).1 (by omega)
      rw [wr64_of (by omega) (by omega)]
      refine Ok.call (ev_FormatInt h.strconv_FormatInt (n + 8) _ (by omega) (by omega) s2 (ht.mono hpre)) ?_
      rintro _ ⟨s3, rfl, hp3⟩
      refine ⟨_, s3, rfl, ?_⟩
      simp only [J_s, D_nil]
      have e60 : bs [60] = [60] := rfl
      have e62 : bs [62] = [62] := rfl
      have hcat : ([60] ++ hexS (dec s p).1) ++ [62] = seen s p := by rw [hsn]; simp
      simp only [e60, e62, hcat]
      rw [chk_of (Nat.ble_eq_true_of_le (by simp only [List.length_singleton]; omega)), chk_of (Nat.ble_eq_true_of_le (by simp only [List.length_append, List.length_singleton]; omega)), chk_of (Nat.ble_eq_true_of_le (by omega))]
      exact hrec (s.length - (p + (dec s p).2)) _ _ (by omega) ⟨p + (dec s p).2, _, rfl, hle, by omega, hpre.trans hp3, by simp only [List.length_append]; omega, hx⟩
  · have e : Nat.blt p s.length = false := by rw [Bool.eq_false_iff]; intro h; rw [Nat.blt_eq] at h; exact hlt h
    have he : s.drop p = [] := List.drop_of_length_le (by omega)
    rw [he, show_nil, List.append_nil] at hx
    simp only [e, cond_false, ret_eq]
    exact .mk ⟨s2, by rw [hx], hpre⟩
end Go.Gv.F
