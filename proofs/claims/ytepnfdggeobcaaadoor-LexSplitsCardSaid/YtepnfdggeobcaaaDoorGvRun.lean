/- Functions: what the machine answers, the model's calls answer. -/
import Derived.Test.YtepnfdggeobcaaaDoorGvExec
namespace Go.Gv
variable {β : Type}

/-! ### The heap grows -/
def Lk (K : Env → M β) (r : Out β × St) : Prop := ∀ E s, K E s = some r → s.length ≤ r.2.length

theorem joinK_some {E : Env} {dels : List Nat} {J : List (Nat × JS)} {K : Env → M β} {g : (Env → M β) → M β} {s : St} {r : Out β × St} (h : joinK E dels J K g s = some r) :
    okJ dels J = true ∧ g (fun E1 => getJ E E1 J fun st => putJ E J st (E.del dels) K) s = some r := cond_some h

theorem joint_some {E0 E1 : Env} {dels : List Nat} {J : List (Nat × JS)} {K : Env → M β} {s : St} {r : Out β × St} (h : getJ E0 E1 J (fun st => putJ E0 J st (E0.del dels) K) s = some r) :
    ∃ ds E', GJ E0 E1 J ds ∧ PJ E0 J ds (E0.del dels) E' ∧ K E' s = some r := by
  obtain ⟨ds, g, h⟩ := getJ_some h
  obtain ⟨E', p, h⟩ := putJ_some h
  exact ⟨ds, E', g, p, h⟩

theorem Lk.joint {E0 : Env} {dels : List Nat} {J : List (Nat × JS)} {K : Env → M β} {r : Out β × St} (h : Lk K r) : Lk (fun E1 => getJ E0 E1 J fun st => putJ E0 J st (E0.del dels) K) r := by
  intro E1 s hs
  obtain ⟨_, E', _, _, hs⟩ := joint_some hs
  exact h E' s hs

theorem Lk.block {id : Nat} {K : Env → M β} {kx : Nat → Env → M β} {r : Out β × St} (h : Lk K r) (hx : ∀ i, Lk (kx i) r) : ∀ i, Lk (fun E1 => bif Nat.beq i id then K E1 else kx i E1) r := by
  intro i E s hs
  cases hb : Nat.beq i id with
  | true => simp only [hb] at hs; exact h E s hs
  | false => simp only [hb] at hs; exact hx i E s hs

section
variable {C : Cfg} {pr : List Nat} {c : Oracle} {n : Nat} {r : Out β × St}

theorem exec_len (hC : CfgOk C) (hc : OracleOK C c) : ∀ (code : Code) (A : Ann) (kn : Env → M β) (kx : Nat → Env → M β) (kr : Env → M β), Lk kn r → (∀ i, Lk (kx i) r) → Lk kr r → Lk (exec C pr c n code A kn kx kr) r := by
  intro code
  induction code with
  | skip => intro A kn kx kr hn hx hr E s h; exact hn E s h
  | region id ops d =>
    intro A kn kx kr hn hx hr E s h
    simp only [exec] at h
    rcases regK_res hC hc h with ⟨E', s', hl, hk, _, _⟩ | ⟨s', e, hl, _⟩
    · exact Nat.le_trans hl (hn E' s' hk)
    · rw [e]; exact hl
  | seq a b iha ihb =>
    intro A kn kx kr hn hx hr E s h
    simp only [exec] at h
    exact iha A.a _ kx kr (fun E' s' h' => ihb A.b kn kx kr hn hx hr E' s' h') hx hr E s h
  | cond x a b iha ihb =>
    intro A kn kx kr hn hx hr E s h
    simp only [exec] at h
    obtain ⟨v, _, h⟩ := boolK_some h
    have two : ∀ {A1 A2 : Ann} {kn : Env → M β}, Lk kn r → (bif v then exec C pr c n a A1 kn kx kr E else exec C pr c n b A2 kn kx kr E) s = some r → s.length ≤ r.2.length := by
      intro A1 A2 kn hn h
      cases v with
      | true => exact iha A1 kn kx kr hn hx hr E s h
      | false => exact ihb A2 kn kx kr hn hx hr E s h
    cases A with
    | j J A1 A2 => exact two (Lk.joint hn) (joinK_some h).2
    | z => exact two hn h
    | n A1 A2 => exact two hn h
  | block id body ih =>
    intro A kn kx kr hn hx hr E s h
    simp only [exec] at h
    cases A with
    | j J A1 A2 => exact ih A1 _ _ kr (Lk.joint hn) (Lk.block (Lk.joint hn) hx) hr E s (joinK_some h).2
    | z => exact ih _ _ _ kr hn (Lk.block hn hx) hr E s h
    | n A1 A2 => exact ih _ _ _ kr hn (Lk.block hn hx) hr E s h
  | loop body ih =>
    intro A kn kx kr hn hx hr E s h
    simp only [exec] at h
    cases A with
    | j J A1 A2 =>
      obtain ⟨hj, h⟩ := cond_some h
      obtain ⟨st, _, h⟩ := getJ_some h
      have key : ∀ (k : Nat) (st : List DV) (s : St), M.loop (fun rec st => putJ E J st (E.del (mods pr body)) fun E1 => exec C pr c n body A1 (fun E2 => getJ E E2 J rec) kx kr E1) k st s = some r → s.length ≤ r.2.length := by
        intro k
        induction k with
        | zero => intro st s h; cases h
        | succ k ihk =>
          intro st s h
          simp only [M.loop] at h
          obtain ⟨E', _, h⟩ := putJ_some h
          refine ih A1 _ kx kr (fun E2 s2 h2 => ?_) hx hr E' s h
          obtain ⟨st', _, h2⟩ := getJ_some h2
          exact ihk st' s2 h2
      exact key n st s h
    | z => cases h
    | n A1 A2 => cases h
  | exit id => intro A kn kx kr hn hx hr E s h; exact hx id E s h
  | ret => intro A kn kx kr hn hx hr E s h; exact hr E s h
  | _ => intros; intro E s h; cases h

theorem has_append (l l' : List Nat) (u : Nat) : has (l ++ l') u = (has l u || has l' u) := by
  induction l with
  | nil => rfl
  | cons x l ih => simp only [List.cons_append, has, ih, Bool.or_assoc]
theorem Un.left {l l' : List Nat} {u : Nat} (h : Un (l ++ l') u) : Un l u := by
  have h' : has (l ++ l') u = false := h
  rw [has_append, Bool.or_eq_false_iff] at h'
  exact h'.1
theorem Un.right {l l' : List Nat} {u : Nat} (h : Un (l ++ l') u) : Un l' u := by
  have h' : has (l ++ l') u = false := h
  rw [has_append, Bool.or_eq_false_iff] at h'
  exact h'.2
theorem Mod.un {un un' : Nat → Prop} {E E' : Env} (h : Mod un E E') (k : ∀ u, un' u → un u) : Mod un' E E' := ⟨fun u hu => h.get u (k u hu), h.nxt, h.verL, h.verI⟩

variable {f : Fr}

theorem Rel.eval {ψ : Ps} {E : Env} {s : St} {a : Act} {w : World} (R : Rel C f ψ E s a w) (x : Operand) : EntR C ψ (E.src C x) (a.eval x) := by
  have p : Pre C ⟨none, .move x, 0, "", #[], none⟩ (fun _ => True) E s ψ (CR E s) a w := R.pre
  exact p.src (by simp [Op.operands])

theorem exec_wp (hC : CfgOk C) (hc : OracleOK C c) (hfo : C.P.follows .mixedOrders = true) (hN : r.2.length ≤ f.N) : ∀ (code : Code) (A : Ann) (kn : Env → M β) (kx : Nat → Env → M β) (kr : Env → M β), okC f.nt code = true → Lk kn r → (∀ i, Lk (kx i) r) → Lk kr r →
    ∀ (E : Env) (s : St), exec C pr c n code A kn kx kr E s = some r → ∀ (ψ : Ps) (a : Act) (w : World) (QQ : Exit → Act → World → Prop), Rel C f ψ E s a w →
    (∀ E' s' ψ' a' w', kn E' s' = some r → Rel C f ψ' E' s' a' w' → Mod (Un (mods pr code)) E E' → QQ .normal a' w') →
    (∀ i E' s' ψ' a' w', kx i E' s' = some r → Rel C f ψ' E' s' a' w' → Mod (Un (mods pr code)) E E' → QQ (.exit i) a' w') →
    (∀ E' s' ψ' a' w', kr E' s' = some r → Rel C f ψ' E' s' a' w' → QQ .ret a' w') →
    (∀ ch a' w' s', r = (.pan, s') → PanR C f s' a' w' → QQ (.panic ch) a' w') → code.wp C.P QQ a w := by
  intro code
  induction code with
  | skip => intro A kn kx kr ho hn hx hr E s h ψ a w QQ R qn qx qr qp; exact wp_skip (qn E s ψ a w h R (.refl _ _))
  | region id ops d =>
    intro A kn kx kr ho hn hx hr E s h ψ a w QQ R qn qx qr qp
    simp only [exec] at h
    rcases regK_res hC hc h with ⟨E', s', hl, hk, hm, hw⟩ | ⟨s', e, hl, hw⟩
    · exact hw QQ id R hfo ho (Nat.le_trans (hn E' s' hk) hN) fun ψ' a' w' R' => qn E' s' ψ' a' w' hk R' hm
    · exact hw QQ id R hfo ho (by rw [e] at hN; exact hN) fun ch a' w' hp => qp ch a' w' s' e hp
  | seq a b iha ihb =>
    intro A kn kx kr ho hn hx hr E s h ψ ac w QQ R qn qx qr qp
    simp only [okC, Bool.and_eq_true] at ho
    simp only [exec] at h
    refine wp_seq (iha A.a _ kx kr ho.1 (exec_len hC hc b A.b kn kx kr hn hx hr) hx hr E s h ψ ac w _ R ?_ ?_ ?_ ?_)
    · intro E' s' ψ' a' w' h' R' m'
      refine ihb A.b kn kx kr ho.2 hn hx hr E' s' h' ψ' a' w' QQ R' ?_ ?_ qr qp
      · intro E2 s2 ψ2 a2 w2 h2 R2 m2
        exact qn E2 s2 ψ2 a2 w2 h2 R2 (m'.trans m2 (fun u hu => Un.left hu) fun u hu => Un.right hu)
      · intro i E2 s2 ψ2 a2 w2 h2 R2 m2
        exact qx i E2 s2 ψ2 a2 w2 h2 R2 (m'.trans m2 (fun u hu => Un.left hu) fun u hu => Un.right hu)
    · intro i E' s' ψ' a' w' h' R' m'
      exact qx i E' s' ψ' a' w' h' R' (m'.un fun u hu => Un.left hu)
    · exact qr
    · exact qp
  | cond x a b iha ihb =>
    intro A kn kx kr ho hn hx hr E s h ψ ac w QQ R qn qx qr qp
    simp only [okC, Bool.and_eq_true] at ho
    simp only [exec] at h
    obtain ⟨v, hv, h⟩ := boolK_some h
    have he : ac.eval x = .bool v := by
      have := R.eval x
      rw [hv] at this
      generalize ac.eval x = y at this
      cases this; rfl
    have two : ∀ {A1 A2 : Ann} {kn : Env → M β}, Lk kn r → (bif v then exec C pr c n a A1 kn kx kr E else exec C pr c n b A2 kn kx kr E) s = some r →
        (∀ E' s' ψ' a' w', kn E' s' = some r → Rel C f ψ' E' s' a' w' → Mod (Un (mods pr a ++ mods pr b)) E E' → QQ .normal a' w') → (if v then a else b).wp C.P QQ ac w := by
      intro A1 A2 kn hn h qn
      cases v with
      | true => exact iha A1 kn kx kr ho.1 hn hx hr E s h ψ ac w QQ R (fun E' s' ψ' a' w' h' R' m' => qn E' s' ψ' a' w' h' R' (m'.un fun u hu => Un.left hu)) (fun i E' s' ψ' a' w' h' R' m' => qx i E' s' ψ' a' w' h' R' (m'.un fun u hu => Un.left hu)) qr qp
      | false => exact ihb A2 kn kx kr ho.2 hn hx hr E s h ψ ac w QQ R (fun E' s' ψ' a' w' h' R' m' => qn E' s' ψ' a' w' h' R' (m'.un fun u hu => Un.right hu)) (fun i E' s' ψ' a' w' h' R' m' => qx i E' s' ψ' a' w' h' R' (m'.un fun u hu => Un.right hu)) qr qp
    refine wp_cond he ?_
    cases A with
    | j J A1 A2 =>
      obtain ⟨hj, h⟩ := joinK_some h
      refine two (Lk.joint hn) h fun E1 s1 ψ1 a1 w1 h1 R1 m1 => ?_
      obtain ⟨ds, E', g, p, h1⟩ := joint_some h1
      obtain ⟨k, m⟩ := join_weakJ R.eok m1 g p hj
      exact qn E' s1 _ a1 w1 h1 (R1.weakJ k) m
    | z => exact two hn h qn
    | n A1 A2 => exact two hn h qn
  | block id body ih =>
    intro A kn kx kr ho hn hx hr E s h ψ ac w QQ R qn qx qr qp
    simp only [exec] at h
    have go : ∀ {A1 : Ann} {kn : Env → M β}, Lk kn r → exec C pr c n body A1 kn (fun i E1 => bif Nat.beq i id then kn E1 else kx i E1) kr E s = some r →
        (∀ E' s' ψ' a' w', kn E' s' = some r → Rel C f ψ' E' s' a' w' → Mod (Un (mods pr body)) E E' → QQ .normal a' w') → (Code.block id body).wp C.P QQ ac w := by
      intro A1 kn hn h qn
      refine wp_block (ih A1 kn _ kr ho hn (Lk.block hn hx) hr E s h ψ ac w _ R qn ?_ qr qp)
      intro i E' s' ψ' a' w' h' R' m'
      simp only [Exit.inBlock]
      cases hb : Nat.beq i id with
      | true =>
        rw [hb] at h'
        rw [if_pos (Nat.eq_of_beq_eq_true hb)]
        exact qn E' s' ψ' a' w' h' R' m'
      | false =>
        rw [hb] at h'
        rw [if_neg (Nat.ne_of_beq_eq_false hb)]
        exact qx i E' s' ψ' a' w' h' R' m'
    cases A with
    | j J A1 A2 =>
      obtain ⟨hj, h⟩ := joinK_some h
      refine go (Lk.joint hn) h fun E1 s1 ψ1 a1 w1 h1 R1 m1 => ?_
      obtain ⟨ds, E', g, p, h1⟩ := joint_some h1
      obtain ⟨k, m⟩ := join_weakJ R.eok m1 g p hj
      exact qn E' s1 _ a1 w1 h1 (R1.weakJ k) m
    | z => exact go hn h qn
    | n A1 A2 => exact go hn h qn
  | loop body ih =>
    intro A kn kx kr ho hn hx hr E s h ψ ac w QQ R qn qx qr qp
    simp only [exec] at h
    cases A with
    | j J A1 A2 =>
      obtain ⟨hj, h⟩ := cond_some h
      obtain ⟨st, g0, h⟩ := getJ_some h
      have lk : ∀ (k : Nat) (st : List DV) (s : St), M.loop (fun rec st => putJ E J st (E.del (mods pr body)) fun E1 => exec C pr c n body A1 (fun E2 => getJ E E2 J rec) kx kr E1) k st s = some r → s.length ≤ r.2.length := by
        intro k
        induction k with
        | zero => intro st s h; cases h
        | succ k ihk =>
          intro st s h
          simp only [M.loop] at h
          obtain ⟨E', _, h⟩ := putJ_some h
          refine exec_len hC hc body A1 _ kx kr (fun E2 s2 h2 => ?_) hx hr E' s h
          obtain ⟨st', _, h2⟩ := getJ_some h2
          exact ihk st' s2 h2
      refine wp_loop_ghost (fun k a' w' => ∃ E2 s2 ψ2 ds, GJ E E2 J ds ∧ Mod (Un (mods pr body)) E E2 ∧ Rel C f ψ2 E2 s2 a' w' ∧
        M.loop (fun rec st => putJ E J st (E.del (mods pr body)) fun E1 => exec C pr c n body A1 (fun E2 => getJ E E2 J rec) kx kr E1) k ds s2 = some r) n ⟨E, s, ψ, st, g0, .refl _ _, R, h⟩ ?_
      rintro k a' w' ⟨E2, s2, ψ2, ds, g, m, R2, h2⟩
      cases k with
      | zero => cases h2
      | succ k =>
        simp only [M.loop] at h2
        obtain ⟨E', p, h2⟩ := putJ_some h2
        obtain ⟨kw, m'⟩ := join_weakJ R.eok m g p hj
        refine ih A1 _ kx kr ho (fun E2 s2 h2 => ?_) hx hr E' s2 h2 _ a' w' _ (R2.weakJ kw) ?_ ?_ qr qp
        · obtain ⟨st', _, h2⟩ := getJ_some h2
          exact lk k st' s2 h2
        · intro E3 s3 ψ3 a3 w3 h3 R3 m3
          obtain ⟨ds3, g3, h3⟩ := getJ_some h3
          exact ⟨k, Nat.lt_succ_self k, E3, s3, ψ3, ds3, g3, m'.trans m3 (fun u hu => hu) (fun u hu => hu), R3, h3⟩
        · intro i E3 s3 ψ3 a3 w3 h3 R3 m3
          exact qx i E3 s3 ψ3 a3 w3 h3 R3 (m'.trans m3 (fun u hu => hu) (fun u hu => hu))
    | z => cases h
    | n A1 A2 => cases h
  | exit id => intro A kn kx kr ho hn hx hr E s h ψ a w QQ R qn qx qr qp; exact wp_exit (qx id E s ψ a w h R (.refl _ _))
  | ret => intro A kn kx kr ho hn hx hr E s h ψ a w QQ R qn qx qr qp; exact wp_ret (qr E s ψ a w h R)
  | _ => intro A kn kx kr ho hn hx hr E s h; cases h
end
end Go.Gv
