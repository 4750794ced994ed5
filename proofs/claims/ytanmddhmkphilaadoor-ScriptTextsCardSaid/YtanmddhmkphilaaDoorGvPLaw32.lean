/- The laws of acts: words parsed, and alike. -/
import Derived.Test.YtanmddhmkphilaaDoorGvPParse2
namespace Go.Gv.F
open Go.Gv

theorem parse_put : parseF [bs [112, 117, 116], bs [97], bs [45, 53], bs [55]] = (⟨6, [97], [], 0, 0, -5, 7, []⟩, 0) := by
  have hf : (cmds.find? fun c => c.1 == [112, 117, 116]) = some ([112, 117, 116], [110, 107, 118], 6) := by decide +kernel
  have e1 : plainOf [97] = true := by unfold plainOf; rw [rns_F 1 _ (by decide)]; decide +kernel
  have e2 : readF [45, 53] = some (-5) := by unfold readF; rw [rns_F 2 _ (by decide)]; decide +kernel
  have e3 : readF [55] = some 7 := by unfold readF; rw [rns_F 1 _ (by decide)]; decide +kernel
  show (match cmds.find? fun c => c.1 == [112, 117, 116] with
    | none => (zeroA, 42)
    | some c => parseC c [[97], [45, 53], [55]]) = _
  rw [hf]
  show parseC ([112, 117, 116], [110, 107, 118], 6) [[97], [45, 53], [55]] = _
  unfold parseC
  have hw : wantsOf ([112, 117, 116], [110, 107, 118], 6) ([[97], [45, 53], [55]] : List (List UInt8)).length = [110, 107, 118] := by decide
  rw [hw, if_pos (by decide)]
  have t1 : ∀ a, takeF a (UInt8.toNat 110) [97] = ({ a with name := [97] }, true) := fun a => by
    show ({ a with name := [97] }, plainOf [97]) = _
    rw [e1]
  have t2 : ∀ a, takeF a (UInt8.toNat 107) [45, 53] = ({ a with key := -5 }, true) := fun a => by
    show ({ a with key := (readF [45, 53]).getD 0 }, (readF [45, 53]).isSome) = _
    rw [e2]; rfl
  have t3 : ∀ a, takeF a (UInt8.toNat 118) [55] = ({ a with value := 7 }, true) := fun a => by
    show ({ a with value := (readF [55]).getD 0 }, (readF [55]).isSome) = _
    rw [e3]; rfl
  have : parseGo [110, 107, 118] [[97], [45, 53], [55]] { zeroA with dn := 6 } = some ⟨6, [97], [], 0, 0, -5, 7, []⟩ := by
    rw [parseGo, t1, if_pos rfl, parseGo, t2, if_pos rfl, parseGo, t3, if_pos rfl, parseGo]
    rfl
  rw [this]
theorem parse_put2 : parseF [bs [112, 117, 116], bs [97], bs [53]] = (zeroA, 42) := by
  have hf : (cmds.find? fun c => c.1 == [112, 117, 116]) = some ([112, 117, 116], [110, 107, 118], 6) := by decide +kernel
  show (match cmds.find? fun c => c.1 == [112, 117, 116] with
    | none => (zeroA, 42)
    | some c => parseC c [[97], [53]]) = _
  rw [hf]
  show parseC ([112, 117, 116], [110, 107, 118], 6) [[97], [53]] = _
  unfold parseC
  have hw : wantsOf ([112, 117, 116], [110, 107, 118], 6) ([[97], [53]] : List (List UInt8)).length = [110, 107, 118] := by decide
  rw [hw, if_neg (by decide)]

theorem parseGo_len : ∀ (W : List UInt8) (r : List (List UInt8)) (y v : ActV), parseGo W r y = some v → v.list.length ≤ y.list.length + r.length
  | [], r, y, v, h => by rw [parseGo] at h; cases h; omega
  | c :: W, [], y, v, h => by rw [parseGo] at h; cases h
  | c :: W, w :: r, y, v, h => by
    rw [parseGo] at h
    split at h
    · have h1 := parseGo_len W r _ v h
      have h2 := takeF_len y c.toNat w
      simp only [List.length_cons]
      omega
    · cases h
theorem parseF_len (ws : List (List UInt8)) : (parseF ws).1.list.length ≤ ws.length := by
  match ws with
  | [] => exact Nat.zero_le _
  | w :: r =>
    show (match cmds.find? fun c : Cmd => c.1 == w with
      | none => ((zeroA, 42) : ActV × Int)
      | some c => parseC c r).1.list.length ≤ _
    cases cmds.find? fun c : Cmd => c.1 == w with
    | none => exact Nat.zero_le _
    | some c =>
      show (parseC c r).1.list.length ≤ _
      unfold parseC
      split
      · cases hg : parseGo (wantsOf c r.length) r { zeroA with dn := c.2.2 } with
        | none => exact Nat.zero_le _
        | some v =>
          have := parseGo_len _ _ _ _ hg
          have e0 : ({ zeroA with dn := c.2.2 } : ActV).list.length = 0 := rfl
          show v.list.length ≤ _
          simp only [List.length_cons]
          omega
      · exact Nat.zero_le _

theorem Ok.mk' {β : Type} {x : Option (Out β × St)} {o : Out β × St} (h : x = some o) : Ok (fun o' => o' = o) x := ⟨o, h, rfl⟩

theorem sl_new (s : St) (cs : List DV) : Sl (s ++ [some ⟨false, cs⟩]) (some (s.length, 0)) cs := ⟨false, cs, by simp, by simp, by rw [List.drop_zero, List.take_length]⟩

theorem ev_law32_awake {Bd : Bodies} (h : H_law32_awake Bd) (n : Nat) (hn : 300 ≤ n) (st : St) (ht : Tabs st) : Ok (fun o => ∃ s', o = (.val [.bool true], s') ∧ Pre st s') (run Bd n 101 [] st) := by
  obtain ⟨n, rfl⟩ : ∃ m, n = m + 1 := ⟨n - 1, by omega⟩
  rw [run_succ, h.eq]
  unfold b_law32_awake
  simp only [D_nil]
  rw [new_eq]
  have hp0 := Pre.new st (some ⟨false, [DV.str (bs [112, 117, 116]), .str (bs [97]), .str (bs [45, 53]), .str (bs [55])]⟩)
  have hs0 := sl_new st [DV.str (bs [112, 117, 116]), .str (bs [97]), .str (bs [45, 53]), .str (bs [55])]
  generalize (st ++ [some ⟨false, [DV.str (bs [112, 117, 116]), .str (bs [97]), .str (bs [45, 53]), .str (bs [55])]⟩]) = s0 at hp0 hs0
  have smallW : ∀ (ws : List (List UInt8)), ws.all (fun w => decide (w.length ≤ 10)) = true → ∀ w ∈ ws, w.length + 60 ≤ n ∧ w.length < 100000 := by
    intro ws h w hw
    have := List.all_eq_true.1 h w hw
    rw [decide_eq_true_eq] at this
    omega
  refine Ok.call (ev_script_Parse h.script_Parse n 1 (some (st.length, 0)) [bs [112, 117, 116], bs [97], bs [45, 53], bs [55]] s0 (ht.mono hp0) (.inl rfl) hs0 (by show 4 + 60 ≤ n; omega) (by decide) (smallW _ rfl)) ?_
  rintro _ ⟨z1, p1, s1, rfl, hz1, hp1, hf1⟩
  rw [parse_put] at hf1 ⊢
  refine ⟨_, s1, rfl, ?_⟩
  unfold actC
  simp only [J_a, J_i, J_s, J_l_any 1 z1 p1 _ hz1, D_nil]
  rw [new_eq]
  have hq0 := Pre.new s1 (some ⟨false, [DV.str (bs [112, 117, 116]), .str (bs [97]), .str (bs [53])]⟩)
  have ht0 := sl_new s1 [DV.str (bs [112, 117, 116]), .str (bs [97]), .str (bs [53])]
  generalize (s1 ++ [some ⟨false, [DV.str (bs [112, 117, 116]), .str (bs [97]), .str (bs [53])]⟩]) = s2 at hq0 ht0
  refine Ok.call (ev_script_Parse h.script_Parse n 1 (some (s1.length, 0)) [bs [112, 117, 116], bs [97], bs [53]] s2 (ht.mono ((hp0.trans hp1).trans hq0)) (.inl rfl) ht0 (by show 3 + 60 ≤ n; omega) (by decide) (smallW _ rfl)) ?_
  rintro _ ⟨z2, p2, s3, rfl, hz2, hp3, hf2⟩
  rw [parse_put2] at hf2 ⊢
  refine ⟨_, s3, rfl, ?_⟩
  unfold actC zeroA
  simp only [J_a, J_i, J_s, J_l_any 1 z2 p2 _ hz2, D_nil]
  rw [join_eq]
  have e0 : ((0 : Int) == 0) = true := rfl
  have e42 : ((42 : Int) == 42) = true := rfl
  simp only [e0, e42, cond_true, J_b, D_nil]
  rw [join_eq]
  have hpall := ((hp0.trans hp1).trans hq0).trans hp3
  refine Ok.call (ev_script_Same h.script_Same n ⟨6, [97], [], 0, 0, -5, 7, []⟩ ⟨6, [97], [], 0, 0, -5, 7, []⟩ 1 0 p1 none s3 (.inl rfl) (.inr rfl) (hf1.pre (hq0.trans hp3)).1 (Sl.nil _) (by simp; omega) (by simp)) ?_
  rintro _ rfl
  refine ⟨_, s3, rfl, ?_⟩
  simp only [sameF_refl, J_b, D_nil, ret_eq]
  exact .mk ⟨s3, rfl, hpall⟩

theorem law_law32_ScriptParses {Bd : Bodies} (h : H_law32_ScriptParses Bd) (s : St) (args : List DV) (_ : Frz s) (ht : Tabs s) (hr : RdA s [(false, .sl .s)] args) : ∃ n s', run Bd n 100 args s = some (.val [.bool true], s') := by
  obtain ⟨_, d0, _, hr0, hr1, rfl, hd0⟩ := hr
  cases hr1
  cases hd0
  obtain ⟨a, ws, ⟨z, hz, rfl⟩, hsl⟩ := rd_strs hr0
  refine ok_true (n := 10000) ?_
  rw [run_succ, h.eq]
  unfold b_law32_ScriptParses
  simp only [J_l_any 1 z a _ hz, D_nil]
  refine Ok.call (ev_law32_awake h.law32_awake 9999 (by omega) s ht) ?_
  rintro _ ⟨s1, rfl, hp1⟩
  refine ⟨_, s1, rfl, ?_⟩
  simp only [J_b, D_nil, Bool.not_true, cond_false]
  rw [join_eq]
  simp only [J_b, D_nil]
  by_cases h1 : ws.length > 60
  · have e : decide ((ws.length : Int) > 60) = true := decide_eq_true (by omega)
    rw [e, cond_true]
    refine Ok.call (ev_law32_awake h.law32_awake 9999 (by omega) s1 (ht.mono hp1)) ?_
    rintro _ ⟨s2, rfl, hp2⟩
    refine ⟨_, s2, rfl, ?_⟩
    simp only [J_b, D_nil, ret_eq]
    exact .mk ⟨s2, rfl⟩
  have e1 : decide ((ws.length : Int) > 60) = false := decide_eq_false (by omega)
  rw [e1, cond_false, join_eq]
  refine loop_rule _ (fun k x s2 => ∃ i : Nat, x = [.int .i64 i] ∧ i ≤ ws.length ∧ ws.length - i ≤ k ∧ s2 = s1 ∧ (∀ w ∈ ws.take i, w.length ≤ 100)) ?_ ws.length 9999 _ _ ⟨0, rfl, Nat.zero_le _, by omega, rfl, by simp⟩ (by omega)
  rintro k _ s2 ⟨i, rfl, hi, hk, rfl, hwl⟩ rec hrec
  simp only [J_i, D_nil]
  have hsl1 := hsl.mono hp1
  by_cases hlt : i < ws.length
  · have e : decide ((i : Int) < (ws.length : Int)) = true := decide_eq_true (by omega)
    have hg : ws[i]? = some ws[i] := List.getElem?_eq_getElem hlt
    obtain ⟨p, o, rfl⟩ := hsl.some_of (by simp; omega)
    simp only [e, cond_true, nn_some', chk_of (inB_of hlt), Int.toNat_natCast]
    rw [hsl1.get1 (d := .str ws[i]) (by simp [hg])]
    simp only [D_str]
    by_cases hw1 : ws[i].length > 100
    · have e : decide ((ws[i].length : Int) > 100) = true := decide_eq_true (by omega)
      rw [e, cond_true, ret_eq]
      exact .mk ⟨s2, rfl⟩
    have e5 : decide ((ws[i].length : Int) > 100) = false := decide_eq_false (by omega)
    rw [e5, cond_false, wr64_of (by omega) (by omega)]
    refine hrec (ws.length - (i + 1)) _ _ (by omega) ⟨i + 1, rfl, by omega, by omega, rfl, fun w hw' => ?_⟩
    rw [List.take_succ_eq_append_getElem hlt] at hw'
    rcases List.mem_append.1 hw' with h | h
    · exact hwl w h
    · rw [List.mem_singleton.1 h]; omega
  · have e : decide ((i : Int) < (ws.length : Int)) = false := decide_eq_false (by omega)
    have hin : i = ws.length := by omega
    subst hin
    rw [List.take_length] at hwl
    rw [e, cond_false]
    refine Ok.call (ev_script_Parse h.script_Parse 9999 1 a ws s2 (ht.mono hp1) (.inl rfl) hsl1 (by omega) (by omega) fun w hw => by have := hwl w hw; omega) ?_
    rintro _ ⟨z1, p1, s3, rfl, hz1, hp3, hf3⟩
    refine ⟨_, s3, rfl, ?_⟩
    have hlen := parseF_len ws
    generalize hX : parseF ws = X at hf3 hlen ⊢
    obtain ⟨x, er⟩ := X
    simp only at hf3 hlen
    simp only
    have hpa : ∀ st, Sl st a (ws.map .str) → Ok (fun o => ∃ z p s', o = (.val [.agg (actC x z p), .int .i64 er], s') ∧ (z = 1 ∨ p = none) ∧ Pre st s' ∧ Fz s' p (ints x.list)) (run Bd 9999 103 [.slice 1 a ws.length] st) := by
      intro st hs
      have := ev_ref32_Parse h.ref32_Parse 9999 1 a ws st (.inl rfl) hs (by omega) (by omega) fun w hw => by have := hwl w hw; omega
      unfold ParseAns at this
      rw [hX] at this
      exact this
    unfold actC
    simp only [J_a, J_i, J_s, J_l_any 1 z1 p1 _ hz1, D_nil]
    refine Ok.call (hpa s3 (hsl1.mono hp3)) ?_
    rintro _ ⟨z2, p2, s4, rfl, hz2, hp4, hf4⟩
    refine ⟨_, s4, rfl, ?_⟩
    unfold actC
    simp only [J_a, J_i, J_s, J_l_any 1 z2 p2 _ hz2, D_nil, beq_self_eq_true]
    rw [join_eq, cond_true]
    refine Ok.call (ev_ref32_Same h.ref32_Same 9999 x x 1 1 p1 p2 s4 (.inl rfl) (.inl rfl) (hf3.pre hp4).1 hf4.1 (by omega) (by omega)) ?_
    rintro _ rfl
    refine ⟨_, s4, rfl, ?_⟩
    simp only [sameF_refl, J_b, D_nil, ret_eq]
    exact .mk ⟨s4, rfl⟩

/-! ### Acts as arguments -/
abbrev actTy : Ty := .pr (.i .i64) (.pr .s (.pr .s (.pr (.pr (.i .i64) (.pr (.i .i64) .un)) (.pr (.i .i64) (.pr (.i .i64) (.pr (.sl (.i .i64)) .un))))))
def InR (z : Int) : Prop := -9223372036854775808 ≤ z ∧ z ≤ 9223372036854775807
/-- An act whose numbers are in range. -/
def ActR (x : ActV) : Prop := InR x.dn ∧ InR x.h1 ∧ InR x.h2 ∧ InR x.key ∧ InR x.value ∧ ∀ z ∈ x.list, InR z

theorem rd_ints {s : St} {d : DV} (h : Rd s (.sl (.i .i64)) [d]) : ∃ a l, (∃ z, (z = 1 ∨ a = none) ∧ d = .slice z a (List.length l)) ∧ Sl s a (ints l) ∧ ∀ z ∈ l, InR z := by
  rcases h with h | ⟨i, n, cs, h1, h2, h3, _, h5⟩
  · exact ⟨none, [], ⟨1, .inl rfl, (List.cons.inj h).1⟩, rfl, fun z hz => by cases hz⟩
  · have h3 : cs.length = n := by rw [h3]; exact Nat.mul_one n
    have key : ∀ j, j < n → ∃ l : Int, cs[j]? = some (.int .i64 l) ∧ InR l := by
      intro j hj
      obtain ⟨l, hl, hr1, hr2⟩ := h5 j hj
      have : (cs.drop (j * Ty.size (.i .i64))).take (Ty.size (.i .i64)) = [cs[j]'(by omega)] := by
        show (cs.drop (j * 1)).take 1 = _
        rw [Nat.mul_one, List.drop_eq_getElem_cons (by omega)]; rfl
      rw [this] at hl
      exact ⟨l, by rw [List.getElem?_eq_getElem (by omega), (List.cons.inj hl).1], i64_range ⟨hr1, hr2⟩⟩
    have : ∃ ws : List Int, cs = ints ws ∧ ∀ z ∈ ws, InR z := by
      refine ⟨cs.map fun d => match d with | .int _ l => l | _ => 0, ?_, ?_⟩
      · unfold ints
        rw [List.map_map]
        refine List.ext_getElem? fun j => ?_
        rw [List.getElem?_map]
        rcases Nat.lt_or_ge j n with hj | hj
        · obtain ⟨l, hl, _⟩ := key j hj
          rw [hl]; rfl
        · rw [List.getElem?_eq_none (by omega)]; rfl
      · intro z hz
        obtain ⟨d, hd, rfl⟩ := List.mem_map.1 hz
        obtain ⟨j, hj, e⟩ := List.getElem_of_mem hd
        obtain ⟨l, hl, hr⟩ := key j (by omega)
        rw [List.getElem?_eq_getElem hj, e] at hl
        cases hl
        exact hr
    obtain ⟨ws, rfl, hws⟩ := this
    refine ⟨some (i, 0), ws, ⟨1, .inl rfl, ?_⟩, ⟨true, _, h2, by simp, by rw [List.drop_zero]; exact List.take_length⟩, hws⟩
    rw [(List.cons.inj h1).1, ← h3]
    unfold ints
    rw [List.length_map]; rfl

theorem rd_act {s : St} {cs : List DV} (h : Rd s actTy cs) : ∃ x z p, cs = actC x z p ∧ (z = 1 ∨ p = none) ∧ Sl s p (ints x.list) ∧ ActR x := by
  obtain ⟨_, _, rfl, ⟨dn, rfl, a1, a2⟩, ⟨_, _, rfl, ⟨nm, rfl, _⟩, ⟨_, _, rfl, ⟨ot, rfl, _⟩, ⟨_, _, rfl, ⟨_, _, rfl, ⟨h1, rfl, b1, b2⟩, ⟨_, _, rfl, ⟨h2, rfl, c1, c2⟩, hu⟩⟩, ⟨_, _, rfl, ⟨ky, rfl, d1, d2⟩, ⟨_, _, rfl, ⟨vl, rfl, e1, e2⟩, ⟨l, _, rfl, hl, hu2⟩⟩⟩⟩⟩⟩⟩ := h
  cases hu
  cases hu2
  have hlen := hl.len
  obtain ⟨d, rfl⟩ : ∃ d, l = [d] := List.length_eq_one_iff.1 hlen
  obtain ⟨p, li, ⟨z, hz, rfl⟩, hs, hr⟩ := rd_ints hl
  exact ⟨⟨dn, nm, ot, h1, h2, ky, vl, li⟩, z, p, rfl, hz, hs, i64_range ⟨a1, a2⟩, i64_range ⟨b1, b2⟩, i64_range ⟨c1, c2⟩, i64_range ⟨d1, d2⟩, i64_range ⟨e1, e2⟩, hr⟩

/-- Isn't an act too great? -/
def smallF (x : ActV) : Bool := decide (x.name.length ≤ 60) && (decide (x.other.length ≤ 60) && decide (x.list.length ≤ 50))
theorem ev_law32_Small {Bd : Bodies} (h : H_law32_Small Bd) (n : Nat) (x : ActV) (z : Nat) (p : Option (Nat × Nat)) (hz : z = 1 ∨ p = none) (st : St) : run Bd (n + 1) 107 [.agg (actC x z p)] st = some (.val [.bool (smallF x)], st) := by
  rw [run_succ, h.eq]
  unfold b_law32_Small actC smallF
  simp only [J_a, J_i, J_s, J_l_any 1 z p _ hz, D_nil, join_eq]
  have i1 : decide ((x.name.length : Int) ≤ 60) = decide (x.name.length ≤ 60) := by rw [decide_eq_decide]; omega
  have i2 : decide ((x.other.length : Int) ≤ 60) = decide (x.other.length ≤ 60) := by rw [decide_eq_decide]; omega
  have i3 : decide ((x.list.length : Int) ≤ 50) = decide (x.list.length ≤ 50) := by rw [decide_eq_decide]; omega
  rw [i1, i2, i3]
  cases decide (x.name.length ≤ 60) with
  | false => rfl
  | true =>
    cases decide (x.other.length ≤ 60) with
    | false => rfl
    | true => rfl

theorem law_law32_ScriptSames {Bd : Bodies} (h : H_law32_ScriptSames Bd) (s : St) (args : List DV) (_ : Frz s) (ht : Tabs s) (hr : RdA s [(true, actTy), (true, actTy)] args) : ∃ n s', run Bd n 105 args s = some (.val [.bool true], s') := by
  obtain ⟨_, d, _, hx, ⟨_, d2, _, hy, hr2, rfl, hd2⟩, rfl, hd⟩ := hr
  cases hr2
  obtain ⟨x, zx, p, rfl, hzx, hpx, _⟩ := rd_act hx
  obtain ⟨y, zy, q, rfl, hzy, hqy, _⟩ := rd_act hy
  have hd : d = .agg (actC x zx p) := hd
  have hd2 : d2 = .agg (actC y zy q) := hd2
  subst hd
  subst hd2
  refine ok_true (n := 10000) ?_
  rw [run_succ, h.eq]
  unfold b_law32_ScriptSames
  have ag : ∀ (v : ActV) (z : Nat) (r : Option (Nat × Nat)) (l : List DV) (K : List DV → List DV → M (List DV)), J.a (.agg (actC v z r) :: l) K = K (actC v z r) l := fun _ _ _ _ _ => rfl
  rw [ag]
  unfold actC
  simp only [J_a, J_i, J_s, J_l_any 1 zx p _ hzx, J_l_any 1 zy q _ hzy, D_nil]
  refine Ok.call (ev_law32_awake h.law32_awake 9999 (by omega) s ht) ?_
  rintro _ ⟨s1, rfl, hp1⟩
  refine ⟨_, s1, rfl, ?_⟩
  simp only [J_b, D_nil, Bool.not_true, cond_false]
  rw [join_eq]
  have early : Ok (fun o : Out (List DV) × St => ∃ s', o = (.val [.bool true], s')) ((M.call (run Bd 9999 101 []) fun ds => J.b ds fun x1 ds => D.nil ds (M.ret [.bool x1]) : M (List DV)) s1) := by
    refine Ok.call (ev_law32_awake h.law32_awake 9999 (by omega) s1 (ht.mono hp1)) ?_
    rintro _ ⟨s2, rfl, hp2⟩
    refine ⟨_, s2, rfl, ?_⟩
    simp only [J_b, D_nil, ret_eq]
    exact .mk ⟨s2, rfl⟩
  refine Ok.call (Ok.mk' (ev_law32_Small h.law32_Small 9998 x 1 p (.inl rfl) s1)) ?_
  rintro _ rfl
  refine ⟨_, s1, rfl, ?_⟩
  simp only [J_b, D_nil]
  rw [join_eq]
  simp only [J_b, D_nil]
  cases hsx : smallF x with
  | false =>
    simp only [Bool.not_false, cond_true]
    exact early
  | true =>
  simp only [Bool.not_true, cond_false]
  refine Ok.call (Ok.mk' (ev_law32_Small h.law32_Small 9998 y 1 q (.inl rfl) s1)) ?_
  rintro _ rfl
  refine ⟨_, s1, rfl, ?_⟩
  simp only [J_b, D_nil]
  cases hsy : smallF y with
  | false =>
    simp only [Bool.not_false, cond_true]
    exact early
  | true =>
  simp only [Bool.not_true, cond_false]
  have hl : x.list.length ≤ 50 := by
    unfold smallF at hsx
    simp only [Bool.and_eq_true, decide_eq_true_eq] at hsx
    exact hsx.2.2
  have hpx := hpx.mono hp1
  have hqy := hqy.mono hp1
  obtain ⟨_, e1, rfl⟩ := ev_script_Same h.script_Same 9999 x y 1 1 p q s1 (.inl rfl) (.inl rfl) hpx hqy (by omega) (by omega)
  have e1 : run Bd 9999 106 [.agg [.int .i64 x.dn, .str x.name, .str x.other, .int .i64 x.h1, .int .i64 x.h2, .int .i64 x.key, .int .i64 x.value, .slice 1 p x.list.length], .agg [.int .i64 y.dn, .str y.name, .str y.other, .int .i64 y.h1, .int .i64 y.h2, .int .i64 y.key, .int .i64 y.value, .slice 1 q y.list.length]] s1 = _ := e1
  rw [callN_eq e1]
  simp only [J_b, D_nil]
  refine Ok.call (ev_ref32_Same h.ref32_Same 9999 x y 1 1 p q s1 (.inl rfl) (.inl rfl) hpx hqy (by omega) (by omega)) ?_
  rintro _ rfl
  refine ⟨_, s1, rfl, ?_⟩
  have beqs : ∀ b : Bool, (b == b) = true := fun b => by cases b <;> rfl
  simp only [J_b, D_nil, beqs]
  rw [join_eq, cond_true]
  refine Ok.call (ev_script_Same h.script_Same 9999 x x 1 1 p p s1 (.inl rfl) (.inl rfl) hpx hpx (by omega) (by omega)) ?_
  rintro _ rfl
  refine ⟨_, s1, rfl, ?_⟩
  simp only [sameF_refl, J_b, D_nil, ret_eq]
  exact .mk ⟨s1, rfl⟩
end Go.Gv.F
