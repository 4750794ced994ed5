/- The act of words: the program's parser and the document's. -/
import Derived.Test.YtanmddhmkphilaaDoorGvPAct
namespace Go.Gv.F
open Go.Gv
variable {β : Type}

theorem join_rule {Q : Out β × St → Prop} {f : List DV → M β} {g : (List DV → M β) → M β} {s : St} (P : List DV → St → Prop) (hf : ∀ x s, P x s → Ok Q (f x s)) (hg : ∀ jk : List DV → M β, (∀ x s, P x s → Ok Q (jk x s)) → Ok Q (g jk s)) : Ok Q (M.join f g s) := by rw [join_eq]; exact hg f hf

/-! ### What is told -/
def parseGo : List UInt8 → List (List UInt8) → ActV → Option ActV
  | [], _, a => some a
  | _ :: _, [], _ => none
  | c :: cs, w :: ws, a => if (takeF a c.toNat w).2 then parseGo cs ws (takeF a c.toNat w).1 else none
def wantsOf (c : Cmd) (m : Nat) : List UInt8 := if c.2.1 = [42] then List.replicate m 42 else c.2.1
def parseC (c : Cmd) (r : List (List UInt8)) : ActV × Int :=
  if (wantsOf c r.length).length = r.length then (match parseGo (wantsOf c r.length) r { zeroA with dn := c.2.2 } with | some a => (a, 0) | none => (zeroA, 42)) else (zeroA, 42)
def parseF : List (List UInt8) → ActV × Int
  | [] => (zeroA, 0)
  | w :: r => match cmds.find? fun c => c.1 == w with
    | none => (zeroA, 42)
    | some c => parseC c r

/-- What a parser answers. -/
def ParseAns (ws : List (List UInt8)) (st : St) (o : Out (List DV) × St) : Prop :=
  ∃ z p s', o = (.val [.agg (actC (parseF ws).1 z p), .int .i64 (parseF ws).2], s') ∧ (z = 1 ∨ p = none) ∧ Pre st s' ∧ Fz s' p (ints (parseF ws).1.list)

theorem parse_zero {ws : List (List UInt8)} {e : Int} (h : parseF ws = (zeroA, e)) {st s : St} (hp : Pre st s) :
    Ok (ParseAns ws st) ((M.retF st.length [.agg [.int .i64 0, .str (bs []), .str (bs []), .int .i64 0, .int .i64 0, .int .i64 0, .int .i64 0, .slice 0 none 0], .int .i64 e] : M (List DV)) s) := by
  rw [retF_eq]
  refine .mk ⟨0, none, _, ?_, .inr rfl, frz_pre hp, ?_⟩
  · rw [h]; rfl
  · rw [h]; exact Fz.nil _

theorem takeF_len (a : ActV) (c : Nat) (w : List UInt8) : (takeF a c w).1.list.length ≤ a.list.length + 1 := by
  unfold takeF
  repeat' split
  all_goals simp

theorem parseGo_step {W : List UInt8} {r : List (List UInt8)} {i : Nat} (h1 : i < W.length) (h2 : i < r.length) (a : ActV) : parseGo (W.drop i) (r.drop i) a = if (takeF a W[i].toNat r[i]).2 then parseGo (W.drop (i + 1)) (r.drop (i + 1)) (takeF a W[i].toNat r[i]).1 else none := by
  rw [List.drop_eq_getElem_cons h1, List.drop_eq_getElem_cons h2, parseGo]
theorem parseGo_end {W : List UInt8} {r : List (List UInt8)} {i : Nat} (h1 : i = W.length) (a : ActV) : parseGo (W.drop i) (r.drop i) a = some a := by
  subst h1
  rw [List.drop_length, parseGo]

theorem dec_ascii {s : List UInt8} {i : Nat} (h : i < s.length) (ha : s[i].toNat < 128) : dec s i = (s[i].toNat, 1) := by
  rcases dec_cases s i h with ⟨h1, h2, h3⟩ | ⟨_, _, h3⟩
  · rw [oc_get h] at h3
    exact Prod.ext h3.symm h2
  · have := h3 0 (by have := dec_pos s i; omega)
    rw [Nat.add_zero, oc_get h] at this
    omega

theorem cmds_ascii : ∀ c ∈ cmds, ∀ b ∈ c.2.1, b.toNat < 128 := by decide
theorem cmds_small : ∀ c ∈ cmds, c.2.1.length ≤ 3 := by decide

theorem repeat_one (b : UInt8) : ∀ m : Nat, Lib.repeatL [b] m = List.replicate m b
  | 0 => rfl
  | m + 1 => by rw [List.replicate_succ, Lib.repeatL, repeat_one b m]; rfl

theorem ev_Repeat {Bd : Bodies} (h : H_strings_Repeat Bd) (n : Nat) (b : UInt8) (m : Nat) (hm : m ≤ 1000000) (st : St) : run Bd (n + 1) 111 [.str [b], .int .i64 (m : Int)] st = some (.val [.str (List.replicate m b)], st) := by
  rw [run_succ, h.eq]
  show (bif Nat.ble m 1000000 && Nat.ble (([b] : List UInt8).length * m) 140737488355328 then M.ret [DV.str (Lib.repeatL [b] m)] else fail) st = _
  rw [Nat.ble_eq_true_of_le hm, Nat.ble_eq_true_of_le (by show 1 * m ≤ _; omega)]
  have : Lib.repeatL [b] m = List.replicate m b := repeat_one b m
  rw [this]; rfl

/-- The closure: is the command's word the first one? -/
theorem ev_Parse_1 {Bd : Bodies} (h : H_script_Parse_1 Bd) (n : Nat) (c : Cmd) (w : List UInt8) (i m : Nat) (p : Option (Nat × Nat)) (r : List (List UInt8)) (s : St) (hi : s[i]? = some (some ⟨false, [DV.slice 1 p m]⟩)) (hm : 0 < m) (hs : Sl s p ((w :: r).map DV.str)) :
    run Bd (n + 1) 108 ([] ++ [DV.agg (cmdD c)] ++ [DV.ptr (some (i, 0))]) s = some (.val [.bool (c.1 == w)], s) := by
  rw [run_succ, h.eq]
  unfold b_script_Parse_1 cmdD
  simp only [List.nil_append, List.cons_append, J_a, J_s, J_i, J_p, D_nil, nn_some']
  rw [load1_eq (d := .slice 1 p m) hi rfl]
  simp only [D_slice]
  obtain ⟨q, o, rfl⟩ := hs.some_of (by simp)
  simp only [nn_some']
  rw [chk_of (by unfold inB; simp; omega), hs.get (j := 0) (d := .str w) rfl]
  simp only [D_str, ret_eq]

/-! ### The program's -/
theorem act_new {st s : St} (hp1 : Pre st s) (d : Int) : ∃ s2, ActM st s2 s.length { zeroA with dn := d } ∧ ∀ K : Nat → M (List DV),
    (M.new [.int .i64 0, .str (bs []), .str (bs []), .int .i64 0, .int .i64 0, .int .i64 0, .int .i64 0, .slice 0 none 0] fun a => M.store a 0 [.int .i64 d, .str (bs []), .str (bs []), .int .i64 0, .int .i64 0, .int .i64 0, .int .i64 0, .slice 0 none 0] (K a)) s = K s.length s2 := by
  have h0 : (s ++ [some (⟨false, actC zeroA 0 none⟩ : Blk)] : St)[s.length]? = some (some ⟨false, actC zeroA 0 none⟩) := by simp
  have hp : Pre st ((s ++ [some (⟨false, actC zeroA 0 none⟩ : Blk)]).set s.length (some ⟨false, actC { zeroA with dn := d } 0 none⟩)) := set_pre (hp1.trans (.new _ _)) hp1.len _
  refine ⟨_, ⟨hp, hp1.len, 0, none, .inr rfl, get_set_self h0 _, hp, .inl ⟨rfl, rfl⟩⟩, fun K => ?_⟩
  rw [new_eq]
  show M.store s.length 0 (actC { zeroA with dn := d } 0 none) (K s.length) (s ++ [some ⟨false, actC zeroA 0 none⟩]) = _
  rw [store_eq h0 (by simp [actC])]
  rfl

theorem ev_script_Parse {Bd : Bodies} (h : H_script_Parse Bd) (n z : Nat) (p : Option (Nat × Nat)) (ws : List (List UInt8)) (st : St) (ht : Tabs st) (hz : z = 1 ∨ p = none) (hsl : Sl st p (ws.map .str)) (hn : ws.length + 60 ≤ n) (hl : ws.length < 100000)
    (hw : ∀ w ∈ ws, w.length + 60 ≤ n ∧ w.length < 100000) : Ok (ParseAns ws st) (run Bd n 102 [.slice z p ws.length] st) := by
  obtain ⟨n, rfl⟩ : ∃ m, n = m + 2 := ⟨n - 2, by omega⟩
  rw [run_succ, h.eq]
  unfold b_script_Parse
  simp only [J_l_any 1 z p _ hz, D_nil, base_eq]
  rw [new_eq, load1_eq (f := false) (all := [.slice 1 p ws.length]) (d := .slice 1 p ws.length) (by simp) rfl]
  simp only [D_slice]
  have hp1 := Pre.new st (some ⟨false, [DV.slice 1 p ws.length]⟩)
  have hi1 : (st ++ [some ⟨false, [DV.slice 1 p ws.length]⟩])[st.length]? = some (some ⟨false, [.slice 1 p ws.length]⟩) := by simp
  generalize (st ++ [some ⟨false, [DV.slice 1 p ws.length]⟩]) = s1 at hp1 hi1
  match ws, hsl, hn, hl, hw, hi1 with
  | [], _, _, _, _, _ =>
    have e : (((([] : List (List UInt8)).length : Nat) : Int) == 0) = true := rfl
    rw [e, cond_true]
    exact parse_zero rfl hp1
  | w :: r, hsl, hn, hl, hw, hi1 =>
  have e : ((((w :: r).length : Nat) : Int) == 0) = false := by rw [beq_eq_false_iff_ne]; simp only [List.length_cons]; omega
  rw [e, cond_false]
  have hrl : (w :: r).length = r.length + 1 := rfl
  refine Ok.call (ev_script_find h.script_find n 108 [] [.ptr (some (st.length, 0))] s1 (ht.mono hp1) (fun c => c.1 == w) (by omega) fun c _ => by
    obtain ⟨m, rfl⟩ : ∃ m, n = m + 1 := ⟨n - 1, by omega⟩
    exact ev_Parse_1 h.script_Parse_1 m c w st.length _ p r s1 hi1 (by simp) (hsl.mono hp1)) ?_
  rintro _ rfl
  have hpf : parseF (w :: r) = match cmds.find? fun c => c.1 == w with
    | none => (zeroA, 42)
    | some c => parseC c r := rfl
  refine ⟨_, s1, rfl, ?_⟩
  cases hf : cmds.find? fun c => c.1 == w with
  | none =>
    rw [hf] at hpf
    unfold foundD zeroCmd
    simp only [J_a, J_s, J_i, J_b, D_nil]
    rw [load1_eq (d := .slice 1 p (w :: r).length) hi1 rfl]
    simp only [D_slice]
    rw [chk_of (by rw [hrl]; simp; omega), join_eq]
    simp only [Bool.not_false, cond_true, J_b, D_nil]
    exact parse_zero hpf hp1
  | some c =>
  rw [hf] at hpf
  have hcm : c ∈ cmds := List.mem_of_find?_eq_some hf
  unfold foundD cmdD
  simp only [J_a, J_s, J_i, J_b, D_nil]
  rw [load1_eq (d := .slice 1 p (w :: r).length) hi1 rfl]
  simp only [D_slice]
  have hsub : (w :: r).length - 1 = r.length := by rw [hrl]; omega
  have bq : (bs [42] : List UInt8) = [42] := rfl
  rw [chk_of (by rw [hrl]; simp; omega)]
  simp only [hsub, bq]
  have hWl : (wantsOf c r.length).length = r.length ∨ parseF (w :: r) = (zeroA, 42) := by
    by_cases hx : (wantsOf c r.length).length = r.length
    · exact .inl hx
    · refine .inr ?_
      rw [hpf]
      show parseC c r = _
      unfold parseC
      rw [if_neg hx]
  refine join_rule (fun x s => s1 = s ∧ ∃ b, x = [.bool b] ∧ (b = true → parseF (w :: r) = (zeroA, 42)) ∧ (b = false → (wantsOf c r.length).length = r.length)) ?_ ?_
  rotate_left
  · rintro jk hjk
    simp only [Bool.not_true, cond_false]
    rw [join_eq]
    simp only [J_b, D_nil]
    by_cases hst : c.2.1 = [42]
    · have e1 : (c.2.1 == [42]) = true := by rw [hst]; rfl
      rw [e1]
      simp only [Bool.not_true, cond_false]
      refine hjk _ _ ⟨rfl, false, rfl, (fun h => by cases h), fun _ => ?_⟩
      unfold wantsOf
      rw [if_pos hst, List.length_replicate]
    · have e1 : (c.2.1 == [42]) = false := beq_eq_false_iff_ne.2 hst
      have hwo : wantsOf c r.length = c.2.1 := by unfold wantsOf; rw [if_neg hst]
      rw [e1]
      simp only [Bool.not_false, cond_true]
      rw [hwo] at hWl hjk
      refine hjk _ _ ⟨rfl, _, rfl, fun hb => ?_, fun hb => ?_⟩
      · rcases hWl with hx | hx
        · rw [hx] at hb; simp at hb
        · exact hx
      · rw [Bool.not_eq_false'] at hb
        have := eq_of_beq hb
        omega
  · rintro _ _ ⟨rfl, b, rfl, hb1, hb2⟩
    simp only [J_b, D_nil]
    cases b with
    | true =>
      rw [cond_true]
      exact parse_zero (hb1 rfl) hp1
    | false =>
    rw [cond_false]
    have hW := hb2 rfl
    clear hb1 hb2 hWl
    have hpf : parseF (w :: r) = match parseGo (wantsOf c r.length) r { zeroA with dn := c.2.2 } with | some a => (a, 0) | none => (zeroA, 42) := by
      rw [hpf]
      show parseC c r = _
      unfold parseC
      rw [if_pos hW]
    have hWa : ∀ b ∈ wantsOf c r.length, b.toNat < 128 := by
      intro b hb
      unfold wantsOf at hb
      split at hb
      · rw [List.eq_of_mem_replicate hb]; decide
      · exact cmds_ascii c hcm b hb
    -- the act's own block
    obtain ⟨s2, hA, e⟩ := act_new hp1 c.2.2
    rw [e]
    clear e
    generalize s1.length = a at hA
    refine join_rule (fun x s => s = s2 ∧ x = [.agg [.str c.1, .str (wantsOf c r.length), .int .i64 c.2.2]]) ?_ ?_
    rotate_left
    · intro jk hjk
      by_cases hst : c.2.1 = [42]
      · have e1 : (c.2.1 == [42]) = true := by rw [hst]; rfl
        rw [e1, cond_true, call_eq (ev_Repeat h.strings_Repeat n 42 r.length (by omega) s2)]
        simp only [J_s, D_nil]
        exact hjk _ _ ⟨rfl, by unfold wantsOf; rw [if_pos hst]⟩
      · have e1 : (c.2.1 == [42]) = false := beq_eq_false_iff_ne.2 hst
        rw [e1, cond_false]
        exact hjk _ _ ⟨rfl, by unfold wantsOf; rw [if_neg hst]⟩
    · rintro _ _ ⟨rfl, rfl⟩
      simp only [J_a, J_s, J_i, D_nil]
      generalize wantsOf c r.length = W at hW hpf hWa
      rw [join_eq]
      refine loop_rule _ (fun k x s3 => ∃ (i z : Nat) (y : ActV), x = [.agg (actC zeroA z none), .nat i] ∧ i ≤ W.length ∧ W.length - i ≤ k ∧ y.list.length ≤ i ∧ ActM st s3 a y ∧ parseGo (W.drop i) (r.drop i) y = parseGo W r { zeroA with dn := c.2.2 })
        ?_ W.length (n + 1) _ _ ⟨0, 0, _, rfl, Nat.zero_le _, by omega, Nat.le_refl _, hA, rfl⟩ (by omega)
      rintro k _ s3 ⟨i, z, y, rfl, hi, hk, hyl, hM, hI⟩ rec hrec
      unfold actC
      simp only [J_a, J_i, J_s, J_l_nil, J_n, D_nil]
      by_cases hlt : i < W.length
      · have e : Nat.blt i W.length = true := by rw [Nat.blt_eq]; exact hlt
        have hir : i < r.length := by omega
        have hgr : ((w :: r).map DV.str)[i + 1]? = some (.str r[i]) := by simp [hir]
        have hsl3 := hsl.mono hM.1
        obtain ⟨q, o, rfl⟩ := hsl.some_of (by simp)
        have hcut : cutA true (some (q, o)) 1 = some (q, 1 + o) := rfl
        have hdec := dec_ascii hlt (hWa _ (List.getElem_mem hlt))
        simp only [e, cond_true, hcut, nn_some', chk_of (inB_of hir), Int.toNat_natCast, runeAt, runeW, hdec]
        rw [show i * 1 + (1 + o) = (i + 1) * 1 + o by omega, hsl3.get1 hgr]
        simp only [D_str]
        have hwr := hw r[i] (List.mem_cons_of_mem _ (List.getElem_mem hir))
        refine Ok.call (ev_script_take h.script_take (n + 1) st s3 a y W[i].toNat r[i] hM (by omega) hwr.2 (by omega)) ?_
        rintro _ ⟨s4, rfl, hM4⟩
        refine ⟨_, s4, rfl, ?_⟩
        simp only [J_b, D_nil]
        have hstep := parseGo_step hlt hir y
        cases hok : (takeF y W[i].toNat r[i]).2 with
        | true =>
          rw [hok, if_pos rfl] at hstep
          rw [Bool.not_true, cond_false]
          have := takeF_len y W[i].toNat r[i]
          exact hrec (W.length - (i + 1)) _ _ (by omega) ⟨i + 1, 1, _, rfl, by omega, by omega, by omega, hM4, by rw [← hI, hstep]⟩
        | false =>
          rw [hok, if_neg (by decide)] at hstep
          rw [Bool.not_false, cond_true]
          refine parse_zero ?_ hM4.1
          rw [hpf, ← hI, hstep]
      · have e : Nat.blt i W.length = false := by
          cases hb : Nat.blt i W.length with
          | false => rfl
          | true => rw [Nat.blt_eq] at hb; exact absurd hb hlt
        rw [e, cond_false]
        rw [parseGo_end (by omega)] at hI
        rw [← hI] at hpf
        obtain ⟨g1, g2, z4, p4, g3, g4, g5⟩ := hM
        rw [load_eq g4 (by simp [actC])]
        have : ((actC y z4 p4).drop 0).take 8 = actC y z4 p4 := rfl
        rw [this]
        unfold actC
        simp only [J_i, J_s, J_l_any 1 z4 p4 _ g3, D_nil, retF_eq]
        refine .mk ⟨1, p4, _, ?_, .inl rfl, frz_pre g1, ?_⟩
        · rw [hpf]; rfl
        · rw [hpf]; exact g5.fz
end Go.Gv.F
