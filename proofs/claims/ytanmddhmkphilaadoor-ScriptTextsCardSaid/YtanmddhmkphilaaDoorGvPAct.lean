/- Acts: alike; found among the commands; a word taken into a field. -/
import Derived.Test.YtanmddhmkphilaaDoorGvPLaw03b
import Derived.Test.YtanmddhmkphilaaDoorGvPJoinA
import Derived.Test.YtanmddhmkphilaaDoorGvBSp
import Derived.Test.YtanmddhmkphilaaDoorGvZLib
namespace Go.Gv.F
open Go.Gv

structure ActV where
  dn : Int
  name : List UInt8
  other : List UInt8
  h1 : Int
  h2 : Int
  key : Int
  value : Int
  list : List Int
def zeroA : ActV := ⟨0, [], [], 0, 0, 0, 0, []⟩
def ints (l : List Int) : List DV := l.map (DV.int .i64)
def actC (a : ActV) (z : Nat) (p : Option (Nat × Nat)) : List DV := [.int .i64 a.dn, .str a.name, .str a.other, .int .i64 a.h1, .int .i64 a.h2, .int .i64 a.key, .int .i64 a.value, .slice z p a.list.length]
def sameF (a b : ActV) : Bool := a.dn == b.dn && (a.name == b.name && (a.other == b.other && ((a.h1 == b.h1 && (a.h2 == b.h2 && true)) && (a.key == b.key && (a.value == b.value && decide (a.list = b.list))))))
theorem sameF_refl (a : ActV) : sameF a a = true := by simp [sameF]

/-! ### Lists of numbers -/
theorem slices_Equal_eq (c : Oracle) (n : Nat) (args : List DV) : b_slices_Equal_int_int c n args = b_ref01_Ints c n args := rfl
theorem ints_ok (c : Oracle) (n : Nat) (ws vs : List Int) (za zb : Nat) (a b : Option (Nat × Nat)) (st : St) (hza : za = 1 ∨ a = none) (hzb : zb = 1 ∨ b = none) (ha : Sl st a (ints ws)) (hb : Sl st b (ints vs)) (hn : ws.length + 1 ≤ n) (hs : ws.length < 1000000) :
    Ok (fun o => o = (.val [.bool (decide (ws = vs))], st)) (b_ref01_Ints c n [.slice za a ws.length, .slice zb b vs.length] st) := by
  unfold b_ref01_Ints
  simp only [J_l_any 1 za a _ hza, J_l_any 1 zb b _ hzb, D_nil, Bool.cond_decide]
  by_cases hl : ws.length = vs.length
  · have e1 : ((ws.length : Int) == (vs.length : Int)) = true := by rw [natBeq]; simpa using hl
    simp only [e1, Bool.not_true, cond_false, join_eq]
    refine loop_rule _ (fun k x s1 => ∃ i : Nat, x = [.int .i64 i] ∧ i ≤ ws.length ∧ ws.length - i ≤ k ∧ s1 = st ∧ (∀ j, j < i → ws[j]? = vs[j]?)) ?_ ws.length n _ _ ⟨0, rfl, Nat.zero_le _, by omega, rfl, fun j hj => by omega⟩ (by omega)
    rintro k _ s1 ⟨i, rfl, hi, hk, rfl, heq⟩ rec hrec
    simp only [J_i, D_nil]
    by_cases hlt : (i : Int) < (ws.length : Int)
    · rw [if_pos hlt]
      have h1 : ws[i]? = some (ws[i]'(by omega)) := List.getElem?_eq_getElem _
      have h2 : vs[i]? = some (vs[i]'(by omega)) := List.getElem?_eq_getElem _
      obtain ⟨p, o, rfl⟩ := ha.some_of (by simp [ints]; omega)
      obtain ⟨q, o', rfl⟩ := hb.some_of (by simp [ints]; omega)
      simp only [nn_some', chk_of (inB_of (i := i) (n := ws.length) (by omega)), chk_of (inB_of (i := i) (n := vs.length) (by omega)), Int.toNat_natCast]
      rw [ha.get1 (d := .int .i64 ws[i]) (by simp [ints, h1])]
      simp only [D_int]
      rw [hb.get1 (d := .int .i64 vs[i]) (by simp [ints, h2])]
      simp only [D_int]
      by_cases e : ws[i]'(by omega) = vs[i]'(by omega)
      · have e2 : (ws[i]'(by omega) == vs[i]'(by omega)) = true := by rw [e]; exact beq_self_eq_true _
        simp only [e2, Bool.not_true, cond_false]
        refine hrec (ws.length - (i + 1)) _ _ (by omega) ⟨i + 1, by rw [wr64_of (by omega) (by omega)]; rfl, by omega, by omega, rfl, fun j hj => ?_⟩
        rcases Nat.lt_or_ge j i with h | h
        · exact heq j h
        · rw [show j = i by omega, h1, h2, e]
      · have e2 : (ws[i]'(by omega) == vs[i]'(by omega)) = false := by rw [beq_eq_false_iff_ne]; exact e
        simp only [e2, Bool.not_false, cond_true, ret_eq]
        refine .mk ?_
        have : ¬ ws = vs := fun h => e (by subst h; rfl)
        rw [decide_eq_false this]
    · rw [if_neg hlt]
      simp only [ret_eq]
      refine .mk ?_
      have : ws = vs := List.ext_getElem? fun j => by
        rcases Nat.lt_or_ge j i with h | h
        · exact heq j h
        · rw [List.getElem?_eq_none (by omega), List.getElem?_eq_none (by omega)]
      rw [decide_eq_true this]
  · have e1 : ((ws.length : Int) == (vs.length : Int)) = false := by rw [natBeq]; simpa using hl
    simp only [e1, Bool.not_false, cond_true, ret_eq]
    refine .mk ?_
    have : ¬ ws = vs := fun h => hl (by rw [h])
    rw [decide_eq_false this]

noncomputable def sameB (ci : List DV → M (List DV)) (args : List DV) : M (List DV) :=
  J.a args fun cs args =>
  J.i .i64 cs fun a r =>
  J.s r fun a1 r =>
  J.s r fun a2 r =>
  J.i .i64 r fun a3 r =>
  J.i .i64 r fun a4 r =>
  J.i .i64 r fun a5 r =>
  J.i .i64 r fun a6 r =>
  J.l 1 r fun a7 a7n r =>
  D.nil r <|
  J.a args fun cs1 args =>
  J.i .i64 cs1 fun b1 r =>
  J.s r fun b2 r =>
  J.s r fun b3 r =>
  J.i .i64 r fun b4 r =>
  J.i .i64 r fun b5 r =>
  J.i .i64 r fun b6 r =>
  J.i .i64 r fun b7 r =>
  J.l 1 r fun b8 b8n r =>
  D.nil r <|
  D.nil args <|
  M.join (fun st => J.b st fun b9 st => D.nil st <|
    M.join (fun st => J.b st fun b10 st => D.nil st <|
      M.join (fun st => J.b st fun b11 st => D.nil st <|
        M.join (fun st => J.b st fun b12 st => D.nil st <|
          M.join (fun st => J.b st fun b13 st => D.nil st <|
            M.join (fun st => J.b st fun b14 st => D.nil st <|
              M.ret [.bool b14]) fun jk6 =>
            bif b13 then
              M.call (ci [.slice 1 a7 a7n, .slice 1 b8 b8n]) fun ds =>
            J.b ds fun x ds =>
            D.nil ds <|
            jk6 [.bool x]
            else
              jk6 [.bool false]) fun jk5 =>
          bif b12 then
            jk5 [.bool (a6 == b7)]
          else
            jk5 [.bool false]) fun jk4 =>
        bif b11 then
          jk4 [.bool (a5 == b6)]
        else
          jk4 [.bool false]) fun jk3 =>
      bif b10 then
        jk3 [.bool ((a3 == b4) && ((a4 == b5) && true))]
      else
        jk3 [.bool false]) fun jk2 =>
    bif b9 then
      jk2 [.bool (a2 == b3)]
    else
      jk2 [.bool false]) fun jk1 =>
  bif a == b1 then
    jk1 [.bool (a1 == b2)]
  else
    jk1 [.bool false]
theorem ref32_Same_eq (c : Oracle) (n : Nat) (args : List DV) : b_ref32_Same c n args = sameB (c 113) args := rfl
theorem script_Same_eq (c : Oracle) (n : Nat) (args : List DV) : b_script_Same c n args = sameB (c 114) args := rfl

theorem same_ok {ci : List DV → M (List DV)} (x y : ActV) (zx zy : Nat) (p q : Option (Nat × Nat)) (st : St) (hzx : zx = 1 ∨ p = none) (hzy : zy = 1 ∨ q = none)
    (hc : Ok (fun o => o = (.val [.bool (decide (x.list = y.list))], st)) (ci [.slice 1 p x.list.length, .slice 1 q y.list.length] st)) :
    Ok (fun o => o = (.val [.bool (sameF x y)], st)) (sameB ci [.agg (actC x zx p), .agg (actC y zy q)] st) := by
  unfold sameB actC sameF
  simp only [J_a, J_i, J_s, J_l_any 1 zx p _ hzx, J_l_any 1 zy q _ hzy, D_nil]
  generalize (x.dn == y.dn) = b1
  generalize (x.name == y.name) = b2
  generalize (x.other == y.other) = b3
  generalize (x.h1 == y.h1 && (x.h2 == y.h2 && true)) = b4
  generalize (x.key == y.key) = b5
  generalize (x.value == y.value) = b6
  have F : ∀ b : Bool, b = false → Ok (fun o : Out (List DV) × St => o = (.val [.bool b], st)) ((M.ret [.bool false] : M (List DV)) st) := by rintro b rfl; exact .mk rfl
  cases b1 with
  | false => simp only [join_eq, cond_false, J_b, D_nil]; exact F _ rfl
  | true =>
  cases b2 with
  | false => simp only [join_eq, cond_false, cond_true, J_b, D_nil]; exact F _ rfl
  | true =>
  cases b3 with
  | false => simp only [join_eq, cond_false, cond_true, J_b, D_nil]; exact F _ rfl
  | true =>
  cases b4 with
  | false => simp only [join_eq, cond_false, cond_true, J_b, D_nil]; exact F _ rfl
  | true =>
  cases b5 with
  | false => simp only [join_eq, cond_false, cond_true, J_b, D_nil]; exact F _ rfl
  | true =>
  cases b6 with
  | false => simp only [join_eq, cond_false, cond_true, J_b, D_nil]; exact F _ rfl
  | true =>
  simp only [join_eq, cond_true, J_b, D_nil]
  refine Ok.call hc ?_
  rintro _ rfl
  refine ⟨_, st, rfl, ?_⟩
  simp only [J_b, D_nil, ret_eq, Bool.true_and]
  exact .mk rfl

theorem ev_ref32_Same {Bd : Bodies} (h : H_ref32_Same Bd) (n : Nat) (x y : ActV) (zx zy : Nat) (p q : Option (Nat × Nat)) (st : St) (hzx : zx = 1 ∨ p = none) (hzy : zy = 1 ∨ q = none)
    (hp : Sl st p (ints x.list)) (hq : Sl st q (ints y.list)) (hn : x.list.length + 3 ≤ n) (hs : x.list.length < 1000000) :
    Ok (fun o => o = (.val [.bool (sameF x y)], st)) (run Bd n 104 [.agg (actC x zx p), .agg (actC y zy q)] st) := by
  obtain ⟨n, rfl⟩ : ∃ m, n = m + 2 := ⟨n - 2, by omega⟩
  rw [run_succ, h.eq, ref32_Same_eq]
  refine same_ok x y zx zy p q st hzx hzy ?_
  rw [run_succ, h.ref01_Ints.eq]
  exact ints_ok _ n _ _ 1 1 p q st (.inl rfl) (.inl rfl) hp hq (by omega) hs
theorem ev_script_Same {Bd : Bodies} (h : H_script_Same Bd) (n : Nat) (x y : ActV) (zx zy : Nat) (p q : Option (Nat × Nat)) (st : St) (hzx : zx = 1 ∨ p = none) (hzy : zy = 1 ∨ q = none)
    (hp : Sl st p (ints x.list)) (hq : Sl st q (ints y.list)) (hn : x.list.length + 3 ≤ n) (hs : x.list.length < 1000000) :
    Ok (fun o => o = (.val [.bool (sameF x y)], st)) (run Bd n 106 [.agg (actC x zx p), .agg (actC y zy q)] st) := by
  obtain ⟨n, rfl⟩ : ∃ m, n = m + 2 := ⟨n - 2, by omega⟩
  rw [run_succ, h.eq, script_Same_eq]
  refine same_ok x y zx zy p q st hzx hzy ?_
  rw [run_succ, h.slices_Equal_int_int.eq, slices_Equal_eq]
  exact ints_ok _ n _ _ 1 1 p q st (.inl rfl) (.inl rfl) hp hq (by omega) hs

/-! ### The commands -/
abbrev Cmd := List UInt8 × List UInt8 × Int
def cmds : List Cmd := [([98, 101, 103, 105, 110], [], 1), ([99, 111, 109, 109, 105, 116], [], 2), ([97, 98, 111, 114, 116], [], 3), ([110, 101, 119], [110], 4), ([100, 114, 111, 112], [110], 5), ([112, 117, 116], [110, 107, 118], 6),
  ([109, 105, 110], [110], 7), ([112, 111, 112], [110], 8), ([108, 111, 119, 101, 114], [110, 104, 107], 9), ([99, 117, 116], [110, 104], 10), ([109, 101, 108, 100], [110, 111], 11), ([103, 101, 116], [104], 12), ([108, 101, 110], [110], 13),
  ([108, 105, 115, 116], [110], 14), ([110, 97, 109, 101, 115], [], 15), ([97, 114, 109], [118], 16), ([112, 108, 97, 110], [42], 17), ([99, 114, 97, 115, 104], [42], 18), ([99, 104, 101, 99, 107], [], 19), ([101, 112, 111, 99, 104], [], 20)]
def cmdD (c : Cmd) : List DV := [.str c.1, .str c.2.1, .int .i64 c.2.2]
theorem tab0_eq : tab0 = (cmds.map cmdD).flatten := rfl
theorem flat3 {f : Cmd → List DV} (hf : ∀ x, (f x).length = 3) : ∀ (l : List Cmd) (i : Nat) (x : Cmd), l[i]? = some x → (((l.map f).flatten).drop (i * 3)).take 3 = f x
  | [], i, x, h => by simp at h
  | y :: l, 0, x, h => by
    simp only [List.getElem?_cons_zero, Option.some.injEq] at h
    subst h
    rw [List.map_cons, List.flatten_cons, Nat.zero_mul, List.drop_zero, ← hf y, List.take_left]
  | y :: l, i + 1, x, h => by
    rw [List.map_cons, List.flatten_cons, show (i + 1) * 3 = (f y).length + i * 3 by rw [hf]; omega, List.drop_append, List.drop_of_length_le (by omega), List.nil_append, show (f y).length + i * 3 - (f y).length = i * 3 by omega]
    exact flat3 hf l i x (by simpa using h)

def zeroCmd : List DV := [.str (bs []), .str (bs []), .int .i64 0]
def foundD : Option Cmd → List DV
  | some c => [.agg (cmdD c), .bool true]
  | none => [.agg zeroCmd, .bool false]

theorem len_of {ds : List DV} {n : Nat} (h : ds.length = n) (K : M (List DV)) : D.len ds n K = K := by
  unfold D.len
  rw [h, Nat.beq_refl]; rfl

theorem find_step {p : Cmd → Bool} : ∀ (l : List Cmd) (i : Nat), (∀ j c, j < i → l[j]? = some c → p c = false) → ∀ c, l[i]? = some c → p c = true → l.find? p = some c
  | [], i, _, c, h, _ => by simp at h
  | x :: l, 0, _, c, h, hp => by
    simp only [List.getElem?_cons_zero, Option.some.injEq] at h
    subst h
    rw [List.find?_cons_of_pos hp]
  | x :: l, i + 1, hf, c, h, hp => by
    rw [List.find?_cons_of_neg (by rw [hf 0 x (by omega) rfl]; simp)]
    exact find_step l i (fun j c hj e => hf (j + 1) c (by omega) (by simpa using e)) c (by simpa using h) hp

theorem ev_script_find {Bd : Bodies} (h : H_script_find Bd) (n g : Nat) (f cap : List DV) (st : St) (ht : Tabs st) (p : Cmd → Bool) (hn : 22 ≤ n)
    (hc : ∀ c ∈ cmds, run Bd n g (f ++ [.agg (cmdD c)] ++ cap) st = some (.val [.bool (p c)], st)) :
    Ok (fun o => o = (.val (foundD (cmds.find? p)), st)) (run Bd (n + 1) 109 [.func g f cap] st) := by
  rw [run_succ, h.eq]
  unfold b_script_find
  have h0 : st[0]? = some (some ⟨true, tab0⟩) := ht 0 _ rfl
  have hl : tab0.length = 60 := rfl
  have jf : ∀ (K : Nat → List DV → List DV → List DV → M (List DV)), J.f [.func g f cap] K = K g f cap [] := fun _ => rfl
  rw [jf]
  simp only [D_nil]
  rw [load_eq h0 (by rw [hl]; decide), List.drop_zero, List.take_of_length_le (by rw [hl]; decide), len_of hl, join_eq]
  refine loop_rule _ (fun k x s1 => ∃ i : Nat, x = [.agg zeroCmd, .int .i64 i] ∧ i ≤ 20 ∧ 20 - i ≤ k ∧ s1 = st ∧ ∀ j c, j < i → cmds[j]? = some c → p c = false) ?_ 20 n _ _ ⟨0, rfl, Nat.zero_le _, by omega, rfl, fun j c hj => by omega⟩ (by omega)
  rintro k _ s1 ⟨i, rfl, hi, hk, rfl, hI⟩ rec hrec
  unfold zeroCmd
  simp only [J_a, J_s, J_i, D_nil]
  have hcl : cmds.length = 20 := rfl
  by_cases hlt : i < 20
  · have e : decide ((i : Int) < 20) = true := decide_eq_true (by omega)
    have hg : cmds[i]? = some (cmds[i]'(by omega)) := List.getElem?_eq_getElem _
    generalize (cmds[i]'(by omega)) = c at hg
    have hcs : (tab0.drop (i * 3)).take 3 = cmdD c := by rw [tab0_eq]; exact flat3 (fun _ => rfl) cmds i c hg
    simp only [e, cond_true, chk_of (inB_of (i := i) (n := 20) hlt), Int.toNat_natCast, hcs]
    rw [len_of (show (cmdD c).length = 3 from rfl), call_eq (hc c (List.mem_of_getElem? hg))]
    simp only [J_b, D_nil]
    cases hp : p c with
    | true =>
      rw [cond_true, len_of (show (cmdD c).length = 3 from rfl), ret_eq]
      refine .mk ?_
      rw [find_step cmds i hI c hg hp]
      rfl
    | false =>
      rw [cond_false, wr64_of (by omega) (by omega)]
      refine hrec (20 - (i + 1)) _ _ (by omega) ⟨i + 1, rfl, by omega, by omega, rfl, fun j c' hj e => ?_⟩
      rcases Nat.lt_or_ge j i with h | h
      · exact hI j c' h e
      · rw [show j = i by omega, hg] at e
        cases e
        exact hp
  · have e : decide ((i : Int) < 20) = false := decide_eq_false (by omega)
    rw [e, cond_false]
    simp only [ret_eq]
    refine .mk ?_
    have : cmds.find? p = none := by
      rw [List.find?_eq_none]
      intro c hc
      obtain ⟨j, hj, e⟩ := List.getElem_of_mem hc
      rw [hI j c (by omega) (by rw [← e]; exact List.getElem?_eq_getElem _)]
      simp
    rw [this]; rfl

/-! ### A word taken into a field -/
def takeF (a : ActV) (c : Nat) (w : List UInt8) : ActV × Bool :=
  if c = 110 then ({ a with name := w }, plainOf w)
  else if c = 111 then ({ a with other := w }, plainOf w)
  else if c = 107 then ({ a with key := (readF w).getD 0 }, (readF w).isSome)
  else if c = 118 then ({ a with value := (readF w).getD 0 }, (readF w).isSome)
  else if c = 104 then ({ a with h1 := ((handleF w).getD (0, 0)).1, h2 := ((handleF w).getD (0, 0)).2 }, (handleF w).isSome)
  else if c = 42 then ({ a with list := a.list ++ [(readF w).getD 0] }, (readF w).isSome)
  else (a, false)

theorem outR_eq (r : Option Int) : outR r = [.int .i64 (r.getD 0), .bool r.isSome] := by cases r <;> rfl
theorem outH_eq (r : Option (Int × Int)) : outH r = [.agg [.int .i64 (r.getD (0, 0)).1, .int .i64 (r.getD (0, 0)).2], .bool r.isSome] := by cases r <;> rfl

/-- An act in a block of the function's own. -/
def ActM (s0 s : St) (a : Nat) (x : ActV) : Prop :=
  Pre s0 s ∧ s0.length ≤ a ∧ ∃ z p, (z = 1 ∨ p = none) ∧ s[a]? = some (some ⟨false, actC x z p⟩) ∧ Own s0 s p (ints x.list)
theorem ActM.mono {s0 s s' : St} {a : Nat} {x : ActV} (h : ActM s0 s a x) (k : Pre s s') : ActM s0 s' a x := by
  obtain ⟨h1, h2, z, p, h3, h4, h5⟩ := h
  exact ⟨h1.trans k, h2, z, p, h3, k.get h4, h5.mono k⟩

/-- Numbers' block isn't the act's. -/
theorem ActM.ne {s : St} {a i : Nat} {x : ActV} {z : Nat} {p : Option (Nat × Nat)} {l : List Int} (h4 : s[a]? = some (some ⟨false, actC x z p⟩)) (h5 : s[i]? = some (some ⟨false, ints l⟩)) : a ≠ i := by
  rintro rfl
  rw [h4] at h5
  have e : actC x z p = ints l := (Blk.mk.inj (Option.some.inj (Option.some.inj h5))).2
  unfold actC ints at e
  match l, e with
  | [], e => cases e
  | [_], e => cases e
  | _ :: _ :: _, e => cases e

theorem store_eq {β : Type} {s : St} {i o : Nat} {cs ds : List DV} (h : s[i]? = some (some ⟨false, cs⟩)) (hl : o + ds.length ≤ cs.length) (K : M β) : M.store i o ds K s = K (s.set i (some ⟨false, spl cs o ds⟩)) := by
  unfold M.store St.open?
  rw [h]
  simp only [Nat.ble_eq_true_of_le hl, cond_true]

theorem get_set_self {s : St} {i : Nat} {b : Option Blk} (h : s[i]? = some b) (b' : Option Blk) : (s.set i b')[i]? = some b' := by
  rw [List.getElem?_set_self (List.getElem?_eq_some_iff.1 h).1]

/-- A field is written over. -/
theorem ActM.set {s0 s : St} {a : Nat} {x y : ActV} (h : ActM s0 s a x) {o : Nat} {ds : List DV} (ho : o + ds.length ≤ 7) (hs : ∀ z p, spl (actC x z p) o ds = actC y z p) (hl : y.list = x.list) :
    ∃ s', ActM s0 s' a y ∧ ∀ K : M (List DV), M.store a o ds K s = K s' := by
  obtain ⟨h1, h2, z, p, h3, h4, h5⟩ := h
  refine ⟨_, ⟨set_pre h1 h2 (some ⟨false, actC y z p⟩), h2, z, p, h3, get_set_self h4 _, set_pre h1 h2 _, ?_⟩, fun K => ?_⟩
  · rcases h5.2 with ⟨rfl, e⟩ | ⟨i, rfl, hi, e⟩
    · exact .inl ⟨rfl, by rw [hl]; exact e⟩
    · refine .inr ⟨i, rfl, hi, ?_⟩
      rw [List.getElem?_set_ne (ActM.ne h4 e), hl]
      exact e
  · rw [store_eq h4 (by show o + ds.length ≤ 8; omega), hs z p]

theorem ev_script_take {Bd : Bodies} (h : H_script_take Bd) (n : Nat) (s0 s : St) (a : Nat) (x : ActV) (c : Nat) (w : List UInt8) (hm : ActM s0 s a x) (hn : w.length + 20 ≤ n) (hw : w.length < 100000) (hx : x.list.length < 1000000) :
    Ok (fun o => ∃ s', o = (.val [.bool (takeF x c w).2], s') ∧ ActM s0 s' a (takeF x c w).1) (run Bd n 110 [.ptr (some (a, 0)), .int .i32 c, .str w] s) := by
  obtain ⟨n, rfl⟩ : ∃ m, n = m + 1 := ⟨n - 1, by omega⟩
  rw [run_succ, h.eq]
  unfold b_script_take
  simp only [J_p, J_i, J_s, D_nil]
  have eb : ∀ k : Nat, ((c : Int) == (k : Int)) = decide (c = k) := fun k => by rw [natBeq]; rfl
  have e110 : ((c : Int) == 110) = decide (c = 110) := eb 110
  have e111 : ((c : Int) == 111) = decide (c = 111) := eb 111
  have e107 : ((c : Int) == 107) = decide (c = 107) := eb 107
  have e118 : ((c : Int) == 118) = decide (c = 118) := eb 118
  have e104 : ((c : Int) == 104) = decide (c = 104) := eb 104
  have e42 : ((c : Int) == 42) = decide (c = 42) := eb 42
  simp only [e110, e111, e107, e118, e104, e42]
  unfold takeF
  rw [join_eq]
  by_cases c1 : c = 110
  · rw [decide_eq_true c1, if_pos c1, cond_true]
    refine Ok.call (ev_lex_Plain h.lex_Plain n w (by omega) s) ?_
    rintro _ rfl
    refine ⟨_, s, rfl, ?_⟩
    simp only [J_b, D_nil, nn_some']
    obtain ⟨s', h1, h2⟩ := hm.set (y := { x with name := w }) (o := 0 + 1) (ds := [.str w]) (by simp) (fun _ _ => rfl) rfl
    rw [h2]
    simp only [ret_eq]
    exact .mk ⟨s', rfl, h1⟩
  rw [decide_eq_false c1, if_neg c1, cond_false, join_eq]
  by_cases c2 : c = 111
  · rw [decide_eq_true c2, if_pos c2, cond_true]
    refine Ok.call (ev_lex_Plain h.lex_Plain n w (by omega) s) ?_
    rintro _ rfl
    refine ⟨_, s, rfl, ?_⟩
    simp only [J_b, D_nil, nn_some']
    obtain ⟨s', h1, h2⟩ := hm.set (y := { x with other := w }) (o := 0 + 2) (ds := [.str w]) (by simp) (fun _ _ => rfl) rfl
    rw [h2]
    simp only [ret_eq]
    exact .mk ⟨s', rfl, h1⟩
  rw [decide_eq_false c2, if_neg c2, cond_false, join_eq]
  by_cases c3 : c = 107
  · rw [decide_eq_true c3, if_pos c3, cond_true]
    refine Ok.call (ev_digit_Read h.digit_Read n w (by omega) hw s) ?_
    rintro _ ⟨s1, rfl, hp⟩
    rw [outR_eq]
    refine ⟨_, s1, rfl, ?_⟩
    simp only [J_i, J_b, D_nil, nn_some']
    obtain ⟨s', h1, h2⟩ := (hm.mono hp).set (y := { x with key := (readF w).getD 0 }) (o := 0 + 5) (ds := [.int .i64 ((readF w).getD 0)]) (by simp) (fun _ _ => rfl) rfl
    rw [h2]
    simp only [ret_eq]
    exact .mk ⟨s', rfl, h1⟩
  rw [decide_eq_false c3, if_neg c3, cond_false, join_eq]
  by_cases c4 : c = 118
  · rw [decide_eq_true c4, if_pos c4, cond_true]
    refine Ok.call (ev_digit_Read h.digit_Read n w (by omega) hw s) ?_
    rintro _ ⟨s1, rfl, hp⟩
    rw [outR_eq]
    refine ⟨_, s1, rfl, ?_⟩
    simp only [J_i, J_b, D_nil, nn_some']
    obtain ⟨s', h1, h2⟩ := (hm.mono hp).set (y := { x with value := (readF w).getD 0 }) (o := 0 + 6) (ds := [.int .i64 ((readF w).getD 0)]) (by simp) (fun _ _ => rfl) rfl
    rw [h2]
    simp only [ret_eq]
    exact .mk ⟨s', rfl, h1⟩
  rw [decide_eq_false c4, if_neg c4, cond_false, join_eq]
  by_cases c5 : c = 104
  · rw [decide_eq_true c5, if_pos c5, cond_true]
    refine Ok.call (ev_ReadHandle h.digit_ReadHandle n w (by omega) hw s) ?_
    rintro _ ⟨s1, rfl, hp⟩
    rw [outH_eq]
    refine ⟨_, s1, rfl, ?_⟩
    simp only [J_a, J_i, J_b, D_nil, nn_some']
    obtain ⟨s', h1, h2⟩ := (hm.mono hp).set (y := { x with h1 := ((handleF w).getD (0, 0)).1, h2 := ((handleF w).getD (0, 0)).2 }) (o := 0 + 3) (ds := [.int .i64 ((handleF w).getD (0, 0)).1, .int .i64 ((handleF w).getD (0, 0)).2]) (by simp) (fun _ _ => rfl) rfl
    rw [h2]
    simp only [ret_eq]
    exact .mk ⟨s', rfl, h1⟩
  rw [decide_eq_false c5, if_neg c5, cond_false, join_eq]
  by_cases c6 : c = 42
  · rw [decide_eq_true c6, if_pos c6, cond_true]
    refine Ok.call (ev_digit_Read h.digit_Read n w (by omega) hw s) ?_
    rintro _ ⟨s1, rfl, hp⟩
    rw [outR_eq]
    refine ⟨_, s1, rfl, ?_⟩
    simp only [J_i, J_b, D_nil, nn_some']
    obtain ⟨h1, h2, z, p, h3, h4, h5⟩ := hm.mono hp
    rw [load1_eq (d := .slice z p x.list.length) h4 rfl]
    have dsl : ∀ K : Option (Nat × Nat) → Nat → M (List DV), D.slice 1 (.slice z p x.list.length) K = K p x.list.length := by
      intro K
      rcases h3 with rfl | rfl
      · exact D_slice _ _ _ _
      · exact D_slice_nil _ _ _ _
    rw [dsl]
    have hN : ∀ i, p = some (i, 0) → a ≠ i := by
      rintro i rfl
      rcases h5.2 with ⟨e, _⟩ | ⟨j, e, _, e2⟩
      · cases e
      · cases e
        exact ActM.ne h4 e2
    -- the new variable, then append
    rw [new_eq, load_eq (f := false) (all := [.int .i64 ((readF w).getD 0)]) (by simp) (by simp)]
    have h5' := h5.mono (.new s1 (some ⟨false, [.int .i64 ((readF w).getD 0)]⟩))
    have h4' := (Pre.new s1 (some ⟨false, [.int .i64 ((readF w).getD 0)]⟩)).get h4
    have h1' := h1.trans (Pre.new s1 (some ⟨false, [.int .i64 ((readF w).getD 0)]⟩))
    generalize (s1 ++ [some ⟨false, [.int .i64 ((readF w).getD 0)]⟩]) = s2 at *
    rw [List.drop_zero, List.take_of_length_le (by simp)]
    have step : ∃ q s3, (∀ K : Option (Nat × Nat) → M (List DV), M.app 1 p x.list.length [.int .i64 ((readF w).getD 0)] 1 8796093022208 K s2 = K q s3) ∧ s3[a]? = some (some ⟨false, actC x z p⟩) ∧ Own s0 s3 q (ints (x.list ++ [(readF w).getD 0])) := by
      rcases h5'.2 with ⟨rfl, e⟩ | ⟨i, rfl, hi, e⟩
      · have hx0 : x.list = [] := by unfold ints at e; simpa using e
        rw [hx0]
        refine ⟨some (s2.length, 0), s2 ++ [some ⟨false, [.int .i64 ((readF w).getD 0)]⟩], fun K => rfl, (Pre.new _ _).get h4', h1'.trans (.new _ _), .inr ⟨s2.length, rfl, h1'.len, by simp [ints]⟩⟩
      · have hop : s2.open? i = some (ints x.list) := by unfold St.open?; rw [e]
        have hil : (ints x.list).length = x.list.length := by simp [ints]
        refine ⟨some (s2.length, 0), s2.set i none ++ [some ⟨false, ints x.list ++ [.int .i64 ((readF w).getD 0)]⟩], fun K => ?_, ?_, (set_pre h1' hi none).trans (.new _ _), .inr ⟨s2.length, rfl, h1'.len, by simp [ints]⟩⟩
        · unfold M.app
          have hb : Nat.beq 1 0 = false := rfl
          simp only [hb, cond_false, Nat.ble_eq_true_of_le (show x.list.length + 1 ≤ 8796093022208 by omega), cond_true, hop]
          rw [Nat.ble_eq_true_of_le (by rw [hil]; omega)]
          simp only [cond_true, List.drop_zero]
          rw [List.take_of_length_le (by rw [hil]; omega)]
        · have : s2.set i none = s2.set i none := rfl
          rw [List.getElem?_append_left (by rw [List.length_set]; exact (List.getElem?_eq_some_iff.1 h4').1), List.getElem?_set_ne (Ne.symm (hN i rfl))]
          exact h4'
    obtain ⟨q, s3, g1, g2, g3⟩ := step
    rw [g1, store_eq g2 (by simp [actC])]
    simp only [ret_eq]
    have hsp : spl (actC x z p) (0 + 7) [.slice 1 q (x.list.length + 1)] = actC { x with list := x.list ++ [(readF w).getD 0] } 1 q := by
      unfold actC
      simp only [List.length_append, List.length_singleton]
      rfl
    rw [hsp]
    refine .mk ⟨_, rfl, set_pre g3.1 h2 _, h2, 1, q, .inl rfl, get_set_self g2 _, set_pre g3.1 h2 _, ?_⟩
    rcases g3.2 with ⟨e1, e2⟩ | ⟨i, e1, hi, e2⟩
    · exact .inl ⟨e1, e2⟩
    · exact .inr ⟨i, e1, hi, by rw [List.getElem?_set_ne (ActM.ne g2 e2)]; exact e2⟩
  rw [decide_eq_false c6, if_neg c6, cond_false]
  simp only [J_b, D_nil, ret_eq]
  exact .mk ⟨s, rfl, hm⟩
end Go.Gv.F
