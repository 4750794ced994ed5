/- Which texts are numbers'. -/
import Derived.Test.YtanmddhmkphilaaDoorGvPDigit
namespace Go.Gv.F

def isDig (r : Nat) : Bool := decide (48 ≤ r) && decide (r ≤ 57)
theorem isDig_iff {r : Nat} : isDig r = true ↔ 48 ≤ r ∧ r ≤ 57 := by unfold isDig; simp
def foldV (v : Nat) (l : List Nat) : Nat := l.foldl (fun a r => 10 * a + (r - 48)) v
theorem foldV_cons (v r : Nat) (l : List Nat) : foldV v (r :: l) = foldV (10 * v + (r - 48)) l := by unfold foldV; rw [List.foldl_cons]
theorem foldV_ge : ∀ (l : List Nat) (v : Nat), v ≤ foldV v l
  | [], v => Nat.le_refl v
  | r :: l, v => by
    rw [foldV_cons]
    have := foldV_ge l (10 * v + (r - 48))
    omega

theorem decS_one {d : Nat} (h : d < 10) : decS d = [UInt8.ofNat (48 + d)] := by rw [decS, if_pos h]
theorem decS_step {v d : Nat} (hv : 0 < v) (hd : d < 10) : decS (10 * v + d) = decS v ++ [UInt8.ofNat (48 + d)] := by
  rw [decS, if_neg (by omega), show (10 * v + d) / 10 = v by omega, show (10 * v + d) % 10 = d by omega]
theorem decS_fold : ∀ (l : List Nat) (v : Nat), 0 < v → (∀ r ∈ l, isDig r = true) → decS (foldV v l) = decS v ++ l.map UInt8.ofNat
  | [], v, _, _ => by simp [foldV]
  | r :: l, v, hv, h => by
    have hr := isDig_iff.1 (h r (by simp))
    rw [foldV_cons, decS_fold l _ (by omega) (fun x hx => h x (by simp [hx])), decS_step hv (by omega), show 48 + (r - 48) = r by omega]
    simp

theorem rdF_run : ∀ (l : List Nat) (v dg : Nat) (mi : Bool), 0 < v → v ≤ 9223372036854775808 →
    rdF l (-(v : Int)) (dg + 1) mi = if l.all isDig = true ∧ foldV v l ≤ 9223372036854775808 then numberF (-(foldV v l : Int)) (dg + 1 + l.length) mi else none
  | [], v, dg, mi, _, hv => by
    rw [if_pos ⟨rfl, hv⟩]; rfl
  | r :: l, v, dg, mi, h0, hv => by
    simp only [rdF]
    have ge := foldV_ge l (10 * v + (r - 48))
    unfold takesF
    rw [if_neg (by omega)]
    by_cases hd : isDig r = true
    · have hr := isDig_iff.1 hd
      rw [if_neg (by omega)]
      by_cases hb : 10 * v + (r - 48) > 9223372036854775808
      · rw [if_pos (by omega), if_neg (by rw [foldV_cons]; omega)]
      · rw [if_neg (by omega)]
        simp only
        rw [show 10 * (-(v : Int)) - ((r : Int) - 48) = -((10 * v + (r - 48) : Nat) : Int) by omega, rdF_run l (10 * v + (r - 48)) (dg + 1) mi (by omega) (by omega), foldV_cons, List.all_cons, hd, Bool.true_and, List.length_cons,
          show dg + 1 + 1 + l.length = dg + 1 + (l.length + 1) by omega]
    · have hr : ¬ (48 ≤ r ∧ r ≤ 57) := fun h => hd (isDig_iff.2 h)
      rw [if_pos (by omega), if_neg (by rw [List.all_cons]; simp [hd])]
theorem rdF_zero (l : List Nat) (dg : Nat) (mi : Bool) : rdF l 0 (dg + 1) mi = if l = [] then numberF 0 (dg + 1) mi else none := by
  cases l with
  | nil => rw [if_pos rfl]; rfl
  | cons r l =>
    rw [if_neg (by simp)]
    simp only [rdF]
    unfold takesF
    rw [if_neg (by omega), if_pos (by omega)]
theorem rdF_digit (r : Nat) (l : List Nat) (mi : Bool) (h : isDig r = true) : rdF (r :: l) 0 0 mi = rdF l (-((r - 48 : Nat) : Int)) 1 mi := by
  have hr := isDig_iff.1 h
  simp only [rdF]
  unfold takesF
  rw [if_neg (by omega), if_neg (by omega), if_neg (by omega)]
  simp only
  congr 1
  omega
theorem rdF_other (r : Nat) (l : List Nat) (mi : Bool) (h : ¬ isDig r = true) (h2 : r ≠ 45 ∨ mi = true) : rdF (r :: l) 0 0 mi = none := by
  have hr : ¬ (48 ≤ r ∧ r ≤ 57) := fun h' => h (isDig_iff.2 h')
  simp only [rdF]
  unfold takesF
  rw [if_neg (by rintro ⟨a, _, b⟩; rcases h2 with h2 | h2; exact h2 a; rw [b] at h2; cases h2), if_pos (by omega)]
theorem rdF_minus (l : List Nat) : rdF (45 :: l) 0 0 false = rdF l 0 0 true := by
  simp only [rdF]
  unfold takesF
  rw [if_pos ⟨rfl, rfl, rfl⟩]

theorem number_neg {V k : Nat} (hV : 0 < V) : numberF (-(V : Int)) (k + 1) true = some (-(V : Int)) := by
  unfold numberF
  rw [if_neg (by simp; omega), if_pos rfl]
theorem number_pos {V k : Nat} (h : V ≠ 9223372036854775808) : numberF (-(V : Int)) (k + 1) false = some (V : Int) := by
  unfold numberF
  rw [if_neg (by simp; omega), if_neg (by simp)]
  simp

theorem first_digits : ∀ (k V : Nat), V ≤ k → 0 < V → ∃ d l, 1 ≤ d ∧ d ≤ 9 ∧ (∀ r ∈ l, isDig r = true) ∧ decS V = UInt8.ofNat (48 + d) :: l.map UInt8.ofNat ∧ foldV d l = V
  | 0, V, hk, h => by omega
  | k + 1, V, hk, h => by
    by_cases h10 : V < 10
    · exact ⟨V, [], h, by omega, (fun r hr => by cases hr), by rw [decS_one h10]; rfl, rfl⟩
    · obtain ⟨d, l, h1, h2, h3, h4, h5⟩ := first_digits k (V / 10) (by omega) (by omega)
      have hm : V % 10 < 10 := Nat.mod_lt _ (by omega)
      refine ⟨d, l ++ [48 + V % 10], h1, h2, fun r hr => ?_, ?_, ?_⟩
      · rcases List.mem_append.1 hr with hr | hr
        · exact h3 r hr
        · rw [List.mem_singleton.1 hr]; exact isDig_iff.2 (by omega)
      · rw [decS, if_neg h10, h4]; simp
      · unfold foldV at h5 ⊢
        rw [List.foldl_append, h5]
        simp only [List.foldl_cons, List.foldl_nil]
        omega

theorem rns_map : ∀ l : List Nat, (∀ r ∈ l, r < 128) → rns (l.map UInt8.ofNat) = l
  | [], _ => rns_nil
  | r :: l, h => by
    have hr := h r (by simp)
    have e : (UInt8.ofNat r).toNat = r := by simp; omega
    rw [List.map_cons, rns_ascii (by omega), e, rns_map l fun x hx => h x (by simp [hx])]
theorem dig_lt {r : Nat} (h : isDig r = true) : r < 128 := by have := isDig_iff.1 h; omega
theorem of_rns {s : List UInt8} (h : ∀ r ∈ rns s, r < 128) : s = (rns s).map UInt8.ofNat := by
  have := flat_rns s s.length 0 (by omega) (Nat.zero_le _) (by rw [List.drop_zero]; exact fun r hr => by have := h r hr; omega)
  rw [List.drop_zero] at this
  have key : ∀ l : List Nat, (∀ r ∈ l, r < 128) → l.flatMap encF = l.map UInt8.ofNat := by
    intro l
    induction l with
    | nil => intro _; rfl
    | cons a l ih =>
      intro h
      rw [List.flatMap_cons, ih fun r hr => h r (by simp [hr]), List.map_cons]
      unfold encF
      rw [if_pos (h a (by simp))]
      rfl
  rw [← key _ h]; exact this.symm

/-- A number's text is read back. -/
theorem read_show (z : Int) (hz : -9223372036854775808 ≤ z ∧ z ≤ 9223372036854775807) : readF (showI z) = some z := by
  unfold readF showI
  by_cases hneg : z < 0
  · rw [if_pos hneg]
    obtain ⟨d, l, h1, h2, h3, h4, h5⟩ := first_digits z.natAbs z.natAbs (Nat.le_refl _) (by omega)
    have hd : isDig (48 + d) = true := isDig_iff.2 (by omega)
    have e : (45 : UInt8) :: decS z.natAbs = (45 :: (48 + d) :: l).map UInt8.ofNat := by rw [h4]; rfl
    rw [e, rns_map _ (fun r hr => by
      rcases List.mem_cons.1 hr with rfl | hr
      · omega
      · rcases List.mem_cons.1 hr with rfl | hr
        · exact dig_lt hd
        · exact dig_lt (h3 r hr)), rdF_minus, rdF_digit _ _ _ hd, show 48 + d - 48 = d by omega, rdF_run l d 0 true (by omega) (by omega), if_pos ⟨List.all_eq_true.2 h3, by rw [h5]; omega⟩, h5, show 0 + 1 + l.length = l.length + 1 by omega, number_neg (by omega)]
    congr 1
    omega
  · rw [if_neg hneg]
    by_cases h0 : z = 0
    · subst h0
      rw [show Int.natAbs 0 = 0 from rfl, decS_one (by omega)]
      rw [show [UInt8.ofNat (48 + 0)] = [48].map UInt8.ofNat from rfl, rns_map _ (by simp)]
      decide
    · obtain ⟨d, l, h1, h2, h3, h4, h5⟩ := first_digits z.natAbs z.natAbs (Nat.le_refl _) (by omega)
      have hd : isDig (48 + d) = true := isDig_iff.2 (by omega)
      have e : decS z.natAbs = ((48 + d) :: l).map UInt8.ofNat := by rw [h4]; rfl
      rw [e, rns_map _ (fun r hr => by
        rcases List.mem_cons.1 hr with rfl | hr
        · exact dig_lt hd
        · exact dig_lt (h3 r hr)), rdF_digit _ _ _ hd, show 48 + d - 48 = d by omega, rdF_run l d 0 false (by omega) (by omega), if_pos ⟨List.all_eq_true.2 h3, by rw [h5]; omega⟩, h5, show 0 + 1 + l.length = l.length + 1 by omega, number_pos (by omega)]
      congr 1
      omega

/-- What is read is a number's text. -/
theorem show_read {s : List UInt8} {z : Int} (h : readF s = some z) : s = showI z ∧ -9223372036854775808 ≤ z ∧ z ≤ 9223372036854775807 := by
  unfold readF at h
  have hs : ∀ l, rns s = l → (∀ r ∈ l, r < 128) → s = l.map UInt8.ofNat := fun l hl hr => by
    rw [← hl] at hr ⊢
    exact of_rns hr
  generalize hl : rns s = l at h
  cases l with
  | nil => cases h
  | cons r l =>
    by_cases hd : isDig r = true
    · have hr := isDig_iff.1 hd
      rw [rdF_digit _ _ _ hd] at h
      by_cases h0 : r = 48
      · subst h0
        have e := rdF_zero l 0 false
        rw [show -((48 - 48 : Nat) : Int) = 0 from rfl, e] at h
        split at h
        · rename_i hln
          subst hln
          cases h
          rw [hs _ hl (by simp)]
          exact ⟨by unfold showI; rw [if_neg (by decide), show Int.natAbs (-0) = 0 from rfl, decS_one (by omega)]; rfl, by decide, by decide⟩
        · cases h
      · rw [rdF_run l (r - 48) 0 false (by omega) (by omega)] at h
        split at h
        · rename_i hc
          have ha := List.all_eq_true.1 hc.1
          have ge := foldV_ge l (r - 48)
          by_cases hV : foldV (r - 48) l = 9223372036854775808
          · rw [hV] at h
            unfold numberF at h
            rw [if_pos (by simp)] at h
            cases h
          · rw [show 0 + 1 + l.length = l.length + 1 by omega, number_pos hV] at h
            cases h
            refine ⟨?_, by omega, by omega⟩
            rw [hs _ hl (fun x hx => by
              rcases List.mem_cons.1 hx with rfl | hx
              · exact dig_lt hd
              · exact dig_lt (ha x hx))]
            unfold showI
            rw [if_neg (by omega), Int.natAbs_natCast, decS_fold l _ (by omega) ha, decS_one (by omega), show 48 + (r - 48) = r by omega]
            rfl
        · cases h
    · by_cases h45 : r = 45
      · subst h45
        rw [rdF_minus] at h
        cases l with
        | nil => cases h
        | cons r2 l =>
          by_cases hd2 : isDig r2 = true
          · have hr := isDig_iff.1 hd2
            rw [rdF_digit _ _ _ hd2] at h
            by_cases h0 : r2 = 48
            · subst h0
              have e := rdF_zero l 0 true
              rw [show -((48 - 48 : Nat) : Int) = 0 from rfl, e] at h
              split at h
              · cases h
              · cases h
            · rw [rdF_run l (r2 - 48) 0 true (by omega) (by omega)] at h
              split at h
              · rename_i hc
                have ha := List.all_eq_true.1 hc.1
                have ge := foldV_ge l (r2 - 48)
                rw [show 0 + 1 + l.length = l.length + 1 by omega, number_neg (by omega)] at h
                cases h
                refine ⟨?_, by omega, by omega⟩
                rw [hs _ hl (fun x hx => by
                  rcases List.mem_cons.1 hx with rfl | hx
                  · omega
                  · rcases List.mem_cons.1 hx with rfl | hx
                    · exact dig_lt hd2
                    · exact dig_lt (ha x hx))]
                unfold showI
                rw [if_pos (by omega), Int.natAbs_neg, Int.natAbs_natCast, decS_fold l _ (by omega) ha, decS_one (by omega), show 48 + (r2 - 48) = r2 by omega]
                rfl
              · cases h
          · rw [rdF_other _ _ _ hd2 (.inr rfl)] at h
            cases h
      · rw [rdF_other _ _ _ hd (.inl h45)] at h
        cases h
end Go.Gv.F
