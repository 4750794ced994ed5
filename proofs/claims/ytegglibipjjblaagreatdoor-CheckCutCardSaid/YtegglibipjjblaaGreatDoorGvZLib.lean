/- Words for proofs over the machine's functions. -/
import Derived.Test.YtegglibipjjblaaGreatDoorGvDef
import Derived.IntWalk
namespace Go.Gv.F
variable {β:Type}
@[simp] theorem J_b (b : Bool) (r : List DV) (K : Bool → List DV → M β) : J.b (.bool b :: r) K = K b r := rfl
@[simp] theorem ikEq_self (k : IntKind) : ikEq k k = true := by cases k <;> rfl
@[simp] theorem D_int (k : IntKind) (n : Int) (K : Int → M β) : D.int k (.int k n) K = K n := by unfold D.int; simp only [ikEq_self, cond_true]
@[simp] theorem J_i (k : IntKind) (n : Int) (r : List DV) (K : Int → List DV → M β) : J.i k (.int k n :: r) K = K n r := by unfold J.i; simp only [D.cons, D_int]
@[simp] theorem J_s (l : List UInt8) (r : List DV) (K : List UInt8 → List DV → M β) : J.s (.str l :: r) K = K l r := rfl
@[simp] theorem J_p (a : Option (Nat × Nat)) (r : List DV) (K : Option (Nat × Nat) → List DV → M β) : J.p (.ptr a :: r) K = K a r := rfl
@[simp] theorem J_a (cs r : List DV) (K : List DV → List DV → M β) : J.a (.agg cs :: r) K = K cs r := rfl
@[simp] theorem J_n (n : Nat) (r : List DV) (K : Nat → List DV → M β) : J.n (.nat n :: r) K = K n r := rfl
@[simp] theorem J_d (d : DV) (r : List DV) (K : DV → List DV → M β) : J.d (d :: r) K = K d r := rfl
@[simp] theorem D_slice (sz : Nat) (a : Option (Nat × Nat)) (n : Nat) (K : Option (Nat × Nat) → Nat → M β) : D.slice sz (.slice sz a n) K = K a n := by
 unfold D.slice;simp
@[simp] theorem D_slice_nil (sz z n : Nat) (K : Option (Nat × Nat) → Nat → M β) : D.slice sz (.slice z none n) K = K none n := by
 unfold D.slice;simp
@[simp] theorem J_l (sz : Nat) (a : Option (Nat × Nat)) (n : Nat) (r : List DV) (K : Option (Nat × Nat) → Nat → List DV → M β) : J.l sz (.slice sz a n :: r) K = K a n r := by
 unfold J.l;simp only[D.cons,D_slice]
@[simp] theorem J_l_nil (sz z n : Nat) (r : List DV) (K : Option (Nat × Nat) → Nat → List DV → M β) : J.l sz (.slice z none n :: r) K = K none n r := by
 unfold J.l;simp only[D.cons,D_slice_nil]
@[simp] theorem D_nil (K : M β) : D.nil [] K = K := rfl
@[simp] theorem D_str (l : List UInt8) (K : List UInt8 → M β) : D.str (.str l) K = K l := rfl
@[simp] theorem D_bool (b : Bool) (K : Bool → M β) : D.bool (.bool b) K = K b := rfl
@[simp] theorem D_cons (d : DV) (r : List DV) (K : DV → List DV → M β) : D.cons (d :: r) K = K d r := rfl
@[simp] theorem chk_true (K : M β) : M.chk true K = K := rfl
theorem Ze {b:Bool} (h:b=true) (K:M β):M.chk b K=K:=by rw[h];rfl
@[simp] theorem nn_some' (i o : Nat) (K : Nat → Nat → M β) : M.nn (some (i, o)) K = K i o := rfl
theorem Zc (f:List DV→M β) (g:(List DV→M β)→M β):M.join f g=g f:=M.join_def f g
theorem ZiZ (c x y:Bool) (f:List DV→M β):(M.join f fun jk=>bif c then jk [.bool x]else jk [.bool y])=f [.bool (bif c then x else y)]:=by rw[M.join_def];cases c<;>rfl
theorem Zb (ds:β) (s:St):M.ret ds s=some (.val ds,s):=rfl
theorem ZE (b:Nat) (ds:β) (s:St):M.retF b ds s=some (.val ds,ZR b s):=rfl
theorem Zb6 (f:Nat→M β) (s:St):M.base f s=f s.length s:=rfl
theorem Zi {α:Type} {m:M α} {K:α→M β} {s s':St} {ds:α} (h:m s=some (.val ds,s')):M.call m K s=K ds s':=by unfold M.call;rw[h]
theorem Zf (Bd:Za) (n g:Nat) (args:List DV):run Bd (n+1) g args=Bd g (run Bd n) n args:=rfl
def Ok (P:Out β×St→Prop) (x:Option (Out β×St)):Prop:=∃o,x=some o∧P o
theorem Ok.mk {P:Out β×St→Prop} {o:Out β×St} (h:P o):Ok P (some o):=⟨o,rfl,h⟩
theorem Ok.mono {P Q:Out β×St→Prop} {x:Option (Out β×St)} (h:Ok P x) (k: ∀o,P o→Q o):Ok Q x:=by
 obtain⟨o,e,p⟩:=h;exact⟨o,e,k o p⟩
theorem Ok.call {α:Type} {P:Out α×St→Prop} {Q:Out β×St→Prop} {m:M α} {K:α→M β} {s:St} (h:Ok P (m s)) (k: ∀o,P o→∃ds s',o=(.val ds,s')∧Ok Q (K ds s')):Ok Q (M.call m K s):=by
 obtain⟨o,e,p⟩:=h;obtain⟨ds,s',rfl,hq⟩:=k o p;rw[Zi e];exact hq
theorem Ok.callN {α:Type} {P:Out α×St→Prop} {Q:Out β×St→Prop} {m:M α} {K:α→M β} {s:St} (h:Ok P (m s)) (k: ∀o,P o→∃ds s',o=(.val ds,s')∧Ok Q (K ds s')):Ok Q (M.callN m K s):=by
 obtain⟨o,e,p⟩:=h;obtain⟨ds,s',rfl,hq⟩:=k o p;unfold M.callN;rw[e];exact hq
theorem Zm (sz z:Nat) (a:Option (Nat×Nat)) (n:Nat) (h:z=sz∨a=none) (r:List DV) (K:Option (Nat×Nat)→Nat→List DV→M β):J.l sz (.slice z a n::r) K=K a n r:=by
 rcases h with rfl|rfl
 ·unfold J.l;simp only[D.cons];unfold D.slice;simp
 ·unfold J.l;simp only[D.cons];unfold D.slice;simp
theorem Zk {F:(List DV→M β)→List DV→M β} (Q:Out β×St→Prop) (I:Nat→List DV→St→Prop)
  (hstep: ∀k st s,I k st s→∀rec:List DV→M β,(∀k' st' s',k'<k→I k' st' s'→Ok Q (rec st' s'))→Ok Q (F rec st s)):
  ∀(k m:Nat) (st:List DV) (s:St),I k st s→k<m→Ok Q (M.loop F m st s)
 |k,0,st,s,_,hm=>absurd hm (Nat.not_lt_zero k)
 |k,m+1,st,s,hI,hm=>hstep k st s hI _ fun k' st' s' hk hI'=>Zk Q I hstep k' m st' s' hI' (by omega)
def Pre (s s':St):Prop:=∃r,s'=s++r
theorem Pre.refl (s:St):Pre s s:=⟨[],by simp⟩
theorem Pre.trans {a b c:St} (h:Pre a b) (k:Pre b c):Pre a c:=by
 obtain⟨r,rfl⟩:=h;obtain⟨r',rfl⟩:=k;exact⟨r++r',by simp⟩
theorem Pre.len {s s':St} (h:Pre s s'):s.length≤s'.length:=by obtain⟨r,rfl⟩:=h;simp
theorem Pre.get {s s':St} (h:Pre s s') {i:Nat} {b:Option Blk} (e:s[i]? =some b):s'[i]? =some b:=by
 obtain⟨r,rfl⟩:=h;have:i<s.length:=(List.getElem?_eq_some_iff.1 e).1;rw[List.getElem?_append_left this];exact e
theorem ZcD {α:Type} {m:M α} {K:α→M β} {s s':St} {ds:α} (h:m s=some (.val ds,s')) (hp:Pre s s'):M.callX m K s=K ds s':=by
 unfold M.callX;rw[h];simp only;exact if_pos hp
theorem ZiE {α:Type} {m:M α} {K:α→M β} {s s':St} {ds:α} (h:m s=some (.val ds,s')):M.callN m K s=K ds s':=by
 unfold M.callN;rw[h]
theorem Pre.new (s:St) (b:Option Blk):Pre s (s++[b]):=⟨[b],rfl⟩
theorem Zu (cells:List DV) (K:Nat→M β) (s:St):M.new cells K s=K s.length (s++[some ⟨false,cells⟩]):=rfl
def Sl (s:St) (a:Option (Nat×Nat)) (cs:List DV):Prop:=
 match a with
 |none=>cs=[]
 |some (i,o)=>∃f all,s[i]? =some (some ⟨f,all⟩)∧o+cs.length≤all.length∧(all.drop o).take cs.length=cs
theorem Sl.nil (s:St):Sl s none []:=rfl
theorem Sl.mono {s s':St} (h:Pre s s') {a:Option (Nat×Nat)} {cs:List DV} (k:Sl s a cs):Sl s' a cs:=by
 cases a with
 |none=>exact k
 |some p=>obtain⟨f,all,h1,h2⟩:=k;exact⟨f,all,h.get h1,h2⟩
theorem Sl.get {s:St} {i o:Nat} {cs:List DV} (h:Sl s (some (i,o)) cs) {j:Nat} {d:DV} (hd:cs[j]? =some d) (K:DV→M β):M.load1 i (j+o) K s=K d s:=by
 obtain⟨f,all,h1,h2,h3⟩:=h;have hj:j<cs.length:=(List.getElem?_eq_some_iff.1 hd).1;have:all[j+o]? =some d:=by
  have:=congrArg (fun l:List DV=>l[j]?) h3;simp only[List.getElem?_take,hj,if_true,List.getElem?_drop]at this;rw[Nat.add_comm];rw[this];exact hd
 unfold M.load1 St.cells;rw[h1];simp only[this]
theorem Sl.get1 {s:St} {i o:Nat} {cs:List DV} (h:Sl s (some (i,o)) cs) {j:Nat} {d:DV} (hd:cs[j]? =some d) (K:DV→M β):M.load1 i (j*1+o) K s=K d s:=by
 rw[Nat.mul_one];exact h.get hd K
theorem Sl.some_of {s:St} {a:Option (Nat×Nat)} {cs:List DV} (h:Sl s a cs) (hn:0<cs.length): ∃i o,a=some (i,o):=by
 cases a with
 |none=>rw[show cs=[]from h]at hn;cases hn
 |some p=>exact⟨p.1,p.2,rfl⟩
theorem ZT {s:St} {i o n:Nat} {f:Bool} {all:List DV} (h:s[i]? =some (some ⟨f,all⟩)) (hn:o+n≤all.length) (K:List DV→M β):M.load i o n K s=K ((all.drop o).take n) s:=by
 unfold M.load St.cells;rw[h];simp only[Nat.ble_eq_true_of_le hn,cond_true]
theorem Zn {s:St} {i o:Nat} {f:Bool} {all:List DV} {d:DV} (h:s[i]? =some (some ⟨f,all⟩)) (hd:all[o]? =some d) (K:DV→M β):M.load1 i o K s=K d s:=by
 unfold M.load1 St.cells;rw[h];simp only[hd]
theorem rd_eq {s:St} {a:Option (Nat×Nat)} {cs:List DV} (h:Sl s a cs) (K:List DV→M β):M.rd a cs.length K s=K cs s:=by
 cases a with
 |none=>rw[show cs=[]from h];rfl
 |some p=>
  obtain⟨f,all,h1,h2,h3⟩:=h;show M.load p.1 p.2 _ K s=_;rw[ZT h1 h2,h3]
def Own (s0 s:St) (a:Option (Nat×Nat)) (cs:List DV):Prop:=
 Pre s0 s∧((a=none∧cs=[])∨∃i,a=some (i,0)∧s0.length≤i∧s[i]? =some (some ⟨false,cs⟩))
theorem Own.nil {s0 s:St} (h:Pre s0 s):Own s0 s none []:=⟨h,.inl ⟨rfl,rfl⟩⟩
theorem Own.sl {s0 s:St} {a:Option (Nat×Nat)} {cs:List DV} (h:Own s0 s a cs):Sl s a cs:=by
 rcases h.2 with⟨rfl,rfl⟩|⟨i,rfl,_,h⟩
 ·rfl
 ·exact⟨false,cs,h,by simp,by simp⟩
theorem Own.mono {s0 s s':St} {a:Option (Nat×Nat)} {cs:List DV} (h:Own s0 s a cs) (k:Pre s s'):Own s0 s' a cs:=
 ⟨h.1.trans k,h.2.imp id fun⟨i,h1,h2,h3⟩=>⟨i,h1,h2,k.get h3⟩⟩
theorem Zcj {s0 s:St} (h:Pre s0 s) {i:Nat} (hi:s0.length≤i) (b:Option Blk):Pre s0 (s.set i b):=by
 obtain⟨r,rfl⟩:=h;exact⟨r.set (i-s0.length) b,by rw[List.set_append_right _ _ hi]⟩
theorem Own.app {s0 s:St} {a:Option (Nat×Nat)} {cs:List DV} (h:Own s0 s a cs) {sz n m lim:Nat} {ds:List DV} (hz:0<sz) (hn:cs.length=n*sz) (hm:0<m) (hl:n+m≤lim):
  ∃p s',Own s0 s' p (cs++ds)∧∀K:Option (Nat×Nat)→M β,M.app sz a n ds m lim K s=K p s':=by
 have hb:Nat.beq m 0=false:=by cases m with|zero=>cases hm|succ m=>rfl
 rcases h.2 with⟨rfl,rfl⟩|⟨i,rfl,hi,hs⟩
 ·have h0:n=0:=by
   rcases Nat.mul_eq_zero.1 (show n*sz=0 by simpa using hn.symm)with h|h
   ·exact h
   ·omega
  subst h0;refine⟨some (s.length,0),s++[some ⟨false,ds⟩],⟨h.1.trans (.new _ _),.inr ⟨s.length,rfl,h.1.len,by simp⟩⟩,fun K=>?_⟩;unfold M.app;simp only[hb,Nat.ble_eq_true_of_le hl,cond_true,cond_false];rfl
 ·have hop:s.open? i=some cs:=by unfold St.open?;rw[hs]
  refine⟨some (s.length,0),s.set i none++[some ⟨false,cs++ds⟩],⟨(Zcj h.1 hi none).trans (.new _ _),.inr ⟨s.length,rfl,h.1.len,by simp⟩⟩,fun K=>?_⟩;unfold M.app;simp only[hb,Nat.ble_eq_true_of_le hl,cond_true,cond_false,hop];rw[Nat.zero_add,Nat.ble_eq_true_of_le (by omega)];simp only[cond_true,List.drop_zero];rw[List.take_of_length_le (by omega)]
theorem Own.push {s0 s:St} {a:Option (Nat×Nat)} {cs:List DV} (h:Own s0 s a cs) {sz n lim:Nat} (ds:List DV) (hz:0<sz) (hn:cs.length=n*sz) (hd:ds.length=sz) (hl:n+1≤lim):
  ∃p s',Own s0 s' p (cs++ds)∧∀K:Option (Nat×Nat)→M β,(M.new ds fun i=>M.load i 0 sz fun cs'=>M.app sz a n cs' 1 lim K) s=K p s':=by
 obtain⟨p,s',h1,h2⟩:=(h.mono (.new s (some ⟨false,ds⟩))).app (β:=β) (ds:=ds) hz hn (Nat.succ_pos 0) hl;refine⟨p,s',h1,fun K=>?_⟩;rw[Zu,ZT (f:=false) (all:=ds) (by simp) (by omega),List.drop_zero,List.take_of_length_le (by omega)];exact h2 K
theorem Zzs (k:Nat) {s:St} {i:Nat} {f:Bool} {cs:List DV} (h:s[i]? =some (some ⟨f,cs⟩)): ∃f',(ZR k s)[i]? =some (some ⟨f',cs⟩):=by
 unfold ZR;have hi:i<s.length:=(List.getElem?_eq_some_iff.1 h).1;by_cases hk:i<k
 ·exact⟨f,by rw[List.getElem?_append_left (by simp;omega),List.getElem?_take,if_pos hk];exact h⟩
 ·refine⟨true,?_⟩
  rw[List.getElem?_append_right (by simp;omega),List.getElem?_map,List.getElem?_drop,List.length_take,Nat.min_eq_left (by omega),show k+(i-k)=i by omega,h];rfl
theorem Sl.frz {s:St} {a:Option (Nat×Nat)} {cs:List DV} (h:Sl s a cs) (k:Nat):Sl (ZR k s) a cs:=by
 cases a with
 |none=>exact h
 |some p=>
  obtain⟨f,all,h1,h2⟩:=h;obtain⟨f',h1⟩:=Zzs k h1;exact⟨f',all,h1,h2⟩
theorem ZL {s0 s:St} (h:Pre s0 s):Pre s0 (ZR s0.length s):=by
 obtain⟨r,rfl⟩:=h;exact⟨_,by unfold ZR;rw[List.take_left,List.drop_left]⟩
end Go.Gv.F
namespace Go.Gv.F
open Go.Gv
variable {β:Type}
def Kp (s s':St):Prop:=∀(i:Nat) (all:List DV),s[i]? =some (some ⟨true,all⟩)→s'[i]? =some (some ⟨true,all⟩)
theorem Kp.refl (s:St):Kp s s:=fun _ _ h=>h
theorem Kp.trans {a b c:St} (h:Kp a b) (k:Kp b c):Kp a c:=fun i all e=>k i all (h i all e)
theorem Pre.kp {s s':St} (h:Pre s s'):Kp s s':=fun _ _ e=>h.get e
theorem Kp.set {s:St} {i:Nat} {cs:List DV} (h:s[i]? =some (some ⟨false,cs⟩)) (b:Option Blk):Kp s (s.set i b):=by
 intro j all e;have:i≠j:=by rintro rfl;rw[h]at e;cases e
 rw[List.getElem?_set_ne this];exact e
theorem ZzY (k:Nat) (s:St):Kp s (ZR k s):=by
 intro i all h;unfold ZR;have hi:i<s.length:=(List.getElem?_eq_some_iff.1 h).1;by_cases hk:i<k
 ·rw[List.getElem?_append_left (by simp;omega),List.getElem?_take,if_pos hk];exact h
 ·rw[List.getElem?_append_right (by simp;omega),List.getElem?_map,List.getElem?_drop,List.length_take,Nat.min_eq_left (by omega),show k+(i-k)=i by omega,h]
  rfl
def Fr (s:St) (a:Option (Nat×Nat)):Prop:=∀i o,a=some (i,o)→∃all,s[i]? =some (some ⟨true,all⟩)
theorem Fr.none (s:St):Fr s none:=fun _ _ h=>by cases h
def Fz (s:St) (a:Option (Nat×Nat)) (cs:List DV):Prop:=Sl s a cs∧Fr s a
theorem Fz.nil (s:St):Fz s none []:=⟨Sl.nil s,Fr.none s⟩
theorem Fz.kp {s s':St} {a:Option (Nat×Nat)} {cs:List DV} (h:Fz s a cs) (k:Kp s s'):Fz s' a cs:=by
 obtain⟨h,f⟩:=h;cases a with
 |none=>exact⟨h,Fr.none _⟩
 |some p=>
  obtain⟨i,o⟩:=p;obtain⟨all,e⟩:=f i o rfl;obtain⟨f',all',h1,h2⟩:=h;rw[e]at h1;cases h1;exact⟨⟨true,all,k i all e,h2⟩,fun i' o' e'=>by cases e';exact⟨all,k i all e⟩⟩
theorem Fz.pre {s s':St} {a:Option (Nat×Nat)} {cs:List DV} (h:Fz s a cs) (k:Pre s s'):Fz s' a cs:=h.kp k.kp
theorem Own.fr {s0 s:St} {a:Option (Nat×Nat)} {cs:List DV} (h:Own s0 s a cs):Fr (ZR s0.length s) a:=by
 rcases h.2 with⟨rfl,_⟩|⟨i,rfl,hi,hs⟩
 ·exact Fr.none _
 ·intro i' o' e
  cases e;refine⟨cs,?_⟩;have hl:i<s.length:=(List.getElem?_eq_some_iff.1 hs).1;unfold ZR;rw[List.getElem?_append_right (by simp;omega),List.getElem?_map,List.getElem?_drop,List.length_take,Nat.min_eq_left (by omega),show s0.length+(i-s0.length)=i by omega,hs];rfl
theorem Own.fz {s0 s:St} {a:Option (Nat×Nat)} {cs:List DV} (h:Own s0 s a cs):Fz (ZR s0.length s) a cs:=⟨h.sl.frz _,h.fr⟩
theorem Sl.fz {s:St} {a:Option (Nat×Nat)} {cs:List DV} (h:Sl s a cs) (hf: ∀(i:Nat) (b:Option Blk),s[i]? =some b→∃cs,b=some ⟨true,cs⟩):Fz s a cs:=by
 refine⟨h,?_⟩;intro i o e;subst e;obtain⟨f,all,h1,_⟩:=h;obtain⟨cs',h2⟩:=hf _ _ h1;cases h2;exact⟨_,h1⟩
theorem Own.app2 {s0 s:St} {a:Option (Nat×Nat)} {cs:List DV} (h:Own s0 s a cs) {sz n m lim:Nat} {ds:List DV} (hz:0<sz) (hn:cs.length=n*sz) (hm:0<m) (hl:n+m≤lim):
  ∃p s',Own s0 s' p (cs++ds)∧Kp s s'∧∀K:Option (Nat×Nat)→M β,M.app sz a n ds m lim K s=K p s':=by
 have hb:Nat.beq m 0=false:=by cases m with|zero=>cases hm|succ m=>rfl
 rcases h.2 with⟨rfl,rfl⟩|⟨i,rfl,hi,hs⟩
 ·have h0:n=0:=by
   rcases Nat.mul_eq_zero.1 (show n*sz=0 by simpa using hn.symm)with h|h
   ·exact h
   ·omega
  subst h0;refine⟨some (s.length,0),s++[some ⟨false,ds⟩],⟨h.1.trans (.new _ _),.inr ⟨s.length,rfl,h.1.len,by simp⟩⟩,(Pre.new _ _).kp,fun K=>?_⟩;unfold M.app;simp only[hb,Nat.ble_eq_true_of_le hl,cond_true,cond_false];rfl
 ·have hop:s.open? i=some cs:=by unfold St.open?;rw[hs]
  refine⟨some (s.length,0),s.set i none++[some ⟨false,cs++ds⟩],⟨(Zcj h.1 hi none).trans (.new _ _),.inr ⟨s.length,rfl,h.1.len,by simp⟩⟩,(Kp.set hs none).trans (Pre.new _ _).kp,fun K=>?_⟩;unfold M.app;simp only[hb,Nat.ble_eq_true_of_le hl,cond_true,cond_false,hop];rw[Nat.zero_add,Nat.ble_eq_true_of_le (by omega)];simp only[cond_true,List.drop_zero];rw[List.take_of_length_le (by omega)]
theorem Own.push2 {s0 s:St} {a:Option (Nat×Nat)} {cs:List DV} (h:Own s0 s a cs) {sz n lim:Nat} (ds:List DV) (hz:0<sz) (hn:cs.length=n*sz) (hd:ds.length=sz) (hl:n+1≤lim):
  ∃p s',Own s0 s' p (cs++ds)∧Kp s s'∧∀K:Option (Nat×Nat)→M β,(M.new ds fun i=>M.load i 0 sz fun cs'=>M.app sz a n cs' 1 lim K) s=K p s':=by
 obtain⟨p,s',h1,h3,h2⟩:=(h.mono (.new s (some ⟨false,ds⟩))).app2 (β:=β) (ds:=ds) hz hn (Nat.succ_pos 0) hl;refine⟨p,s',h1,(Pre.new _ _).kp.trans h3,fun K=>?_⟩;rw[Zu,ZT (f:=false) (all:=ds) (by simp) (by omega),List.drop_zero,List.take_of_length_le (by omega)];exact h2 K
def Rows (s:St) (ds:List DV) (xs:List (List DV)):Prop:=ds.length=xs.length∧∀(j:Nat) (cs:List DV),xs[j]? =some cs→∃a,ds[j]? =some (.slice 1 a cs.length)∧Fz s a cs
end Go.Gv.F
namespace Go.Gv.F
def oc (s:List UInt8) (i:Nat):Nat:=(s.getD i 0).toNat
theorem oc_lt (s:List UInt8) (i:Nat):oc s i<256:=(s.getD i 0).toNat_lt
theorem ZgZ (s:List UInt8) (i:Nat):ZC s (i:Int)=(oc s i:Int):=by unfold ZC oc;simp
theorem Zzz (s:List UInt8) (p i:Nat):oc (s.drop p) i=oc s (p+i):=by
 unfold oc;simp[List.getD_eq_getElem?_getD,List.getElem?_drop]
theorem Zpi {s:List UInt8} {i:Nat} (h:s.length≤i):oc s i=0:=by
 unfold oc;rw[List.getD_eq_getElem?_getD,List.getElem?_eq_none h];rfl
theorem Zh1 (s:List UInt8) (i:Nat):dec s i=
  if oc s i<128 then(oc s i,1)
  else if (194≤oc s i∧oc s i≤223)∧(128≤oc s (i+1)∧oc s (i+1)≤191)then((oc s i-192)*64+(oc s (i+1)-128),2)
  else if (224≤oc s i∧oc s i≤239)∧((if oc s i=224 then 160 else 128)≤oc s (i+1)∧oc s (i+1)≤(if oc s i=237 then 159 else 191))∧(128≤oc s (i+2)∧oc s (i+2)≤191)then
   ((oc s i-224)*4096+(oc s (i+1)-128)*64+(oc s (i+2)-128),3)
  else if (240≤oc s i∧oc s i≤244)∧((if oc s i=240 then 144 else 128)≤oc s (i+1)∧oc s (i+1)≤(if oc s i=244 then 143 else 191))∧(128≤oc s (i+2)∧oc s (i+2)≤191)∧(128≤oc s (i+3)∧oc s (i+3)≤191)then
   ((oc s i-240)*262144+(oc s (i+1)-128)*4096+(oc s (i+2)-128)*64+(oc s (i+3)-128),4)
  else(65533,1):=by
 have cont: ∀k,(decide (i+k<s.length)&&oc s (i+k)/64==2)=decide (128≤oc s (i+k)∧oc s (i+k)≤191):=by
  intro k;rw[Bool.eq_iff_iff];simp only[Bool.and_eq_true,decide_eq_true_eq,beq_iff_eq];constructor
  ·rintro⟨_,h⟩;omega
  ·intro h
   refine⟨?_,by omega⟩;rcases Nat.lt_or_ge (i+k) s.length with h'|h'
   ·exact h'
   ·rw[Zpi h']at h;omega
 have h0:=oc_lt s i;have h1:=oc_lt s (i+1);have h2:=oc_lt s (i+2);have h3:=oc_lt s (i+3);have e:dec s i=(if oc s i<0x80 then(oc s i,1)
  else if (oc s i/32==6&&(decide (i+1<s.length)&&oc s (i+1)/64==2))=true then
   (if (oc s i%32)*64+oc s (i+1)%64≥0x80 then((oc s i%32)*64+oc s (i+1)%64,2)else(Utf8.runeError,1))
  else if (oc s i/16==14&&(decide (i+1<s.length)&&oc s (i+1)/64==2)&&(decide (i+2<s.length)&&oc s (i+2)/64==2))=true then
   (if ((oc s i%16)*4096+(oc s (i+1)%64)*64+oc s (i+2)%64≥0x800&&Utf8.valid (((oc s i%16)*4096+(oc s (i+1)%64)*64+oc s (i+2)%64:Nat):Int))=true then((oc s i%16)*4096+(oc s (i+1)%64)*64+oc s (i+2)%64,3)else(Utf8.runeError,1))
  else if (oc s i/8==30&&(decide (i+1<s.length)&&oc s (i+1)/64==2)&&(decide (i+2<s.length)&&oc s (i+2)/64==2)&&(decide (i+3<s.length)&&oc s (i+3)/64==2))=true then
   (if ((oc s i%8)*262144+(oc s (i+1)%64)*4096+(oc s (i+2)%64)*64+oc s (i+3)%64≥0x10000&&Utf8.valid (((oc s i%8)*262144+(oc s (i+1)%64)*4096+(oc s (i+2)%64)*64+oc s (i+3)%64:Nat):Int))=true then
    ((oc s i%8)*262144+(oc s (i+1)%64)*4096+(oc s (i+2)%64)*64+oc s (i+3)%64,4)else(Utf8.runeError,1))
  else(Utf8.runeError,1)):=rfl
 rw[e,cont 1,cont 2,cont 3];generalize oc s i=a at*
 generalize oc s (i+1)=b at*
 generalize oc s (i+2)=c at*
 generalize oc s (i+3)=d at*
 have e1:(a/32==6)=decide (192≤a∧a≤223):=by rw[Bool.eq_iff_iff];simp only[beq_iff_eq,decide_eq_true_eq];omega
 have e2:(a/16==14)=decide (224≤a∧a≤239):=by rw[Bool.eq_iff_iff];simp only[beq_iff_eq,decide_eq_true_eq];omega
 have e3:(a/8==30)=decide (240≤a∧a≤247):=by rw[Bool.eq_iff_iff];simp only[beq_iff_eq,decide_eq_true_eq];omega
 rw[e1,e2,e3];have v: ∀n:Nat,Utf8.valid (n:Int)=decide (n<55296∨(57344≤n∧n≤1114111)):=by
  intro n;unfold Utf8.valid;rw[Bool.eq_iff_iff];simp only[Bool.or_eq_true,Bool.and_eq_true,decide_eq_true_eq];omega
 rw[v,v];simp only[Utf8.runeError,Bool.and_eq_true,decide_eq_true_eq,ge_iff_le];by_cases c0:a<128
 ·rw[if_pos c0,if_pos c0]
 rw[if_neg c0,if_neg c0];by_cases r1:192≤a∧a≤223
 ·have n1: ¬(224≤a∧a≤239):=by omega
  have n2: ¬(240≤a∧a≤244):=by omega
  have n3: ¬(240≤a∧a≤247):=by omega
  simp only[r1,n1,n2,n3,false_and,if_false,true_and,and_true];by_cases cb:128≤b∧b≤191
  ·simp only[cb,and_true,if_true,and_self]
   by_cases c2:194≤a
   ·rw[if_pos (by omega),if_pos (by omega),Prod.mk.injEq]
    exact⟨by omega,rfl⟩
   ·rw[if_neg (by omega),if_neg (by omega)]
  ·rw[if_neg cb,if_neg (by rintro⟨_,h⟩;exact cb h)]
 ·by_cases r2:224≤a∧a≤239
  ·have n1: ¬(194≤a∧a≤223):=by omega
   have n2: ¬(240≤a∧a≤244):=by omega
   have n3: ¬(240≤a∧a≤247):=by omega
   simp only[r1,r2,n1,n2,n3,false_and,if_false,true_and];by_cases k:(128≤b∧b≤191)∧128≤c∧c≤191
   ·rw[if_pos k]
    by_cases k2:((if a=224 then 160 else 128)≤b∧b≤if a=237 then 159 else 191)∧128≤c∧c≤191
    ·rw[if_pos k2]
     split at k2<;>split at k2<;>(rw[if_pos (by omega),Prod.mk.injEq];exact⟨by omega,rfl⟩)
    ·rw[if_neg k2]
     split at k2<;>split at k2<;>(first|omega|rw[if_neg (by omega)])
   ·rw[if_neg k,if_neg]
    intro k2;split at k2<;>split at k2<;>omega
  ·have n1: ¬(194≤a∧a≤223):=by omega
   simp only[r1,r2,n1,false_and,if_false];by_cases k:(240≤a∧a≤247)∧(128≤b∧b≤191)∧(128≤c∧c≤191)∧128≤d∧d≤191
   ·rw[if_pos (by omega)]
    by_cases k2:(240≤a∧a≤244)∧((if a=240 then 144 else 128)≤b∧b≤if a=244 then 143 else 191)∧(128≤c∧c≤191)∧128≤d∧d≤191
    ·rw[if_pos k2]
     split at k2<;>split at k2<;>(rw[if_pos (by omega),Prod.mk.injEq];exact⟨by omega,rfl⟩)
    ·rw[if_neg k2]
     split at k2<;>split at k2<;>(first|omega|rw[if_neg (by omega)])
   ·rw[if_neg (by omega),if_neg]
    intro k2;split at k2<;>split at k2<;>omega
theorem ZhM (s:List UInt8) (i:Nat):1≤(dec s i).2∧(dec s i).2≤4:=by
 rw[Zh1]
 repeat' split
 all_goals (simp;done)
theorem Zxv (s:List UInt8) (i:Nat) (hi:i<s.length):((dec s i).1<128∧(dec s i).2=1∧oc s i=(dec s i).1)∨
  (128≤(dec s i).1∧i+(dec s i).2≤s.length∧∀k,k<(dec s i).2→128≤oc s (i+k)):=by
 have out: ∀k,0<oc s k→k<s.length:=fun k h=>by
  rcases Nat.lt_or_ge k s.length with h'|h'
  ·exact h'
  ·rw[Zpi h']at h;omega
 rw[Zh1];by_cases c0:oc s i<128
 ·rw[if_pos c0];exact .inl ⟨c0,rfl,rfl⟩
 rw[if_neg c0];refine .inr ?_;by_cases c2:(194≤oc s i∧oc s i≤223)∧(128≤oc s (i+1)∧oc s (i+1)≤191)
 ·rw[if_pos c2]
  refine⟨by simp only;omega,by have:=out (i+1) (by omega);simp only;omega,fun k hk=>?_⟩;simp only at hk;rcases(show k=0∨k=1 by omega)with rfl|rfl
  ·rw[Nat.add_zero];omega
  ·omega
 rw[if_neg c2];by_cases c3:(224≤oc s i∧oc s i≤239)∧((if oc s i=224 then 160 else 128)≤oc s (i+1)∧oc s (i+1)≤(if oc s i=237 then 159 else 191))∧(128≤oc s (i+2)∧oc s (i+2)≤191)
 ·rw[if_pos c3]
  have h1:128≤oc s (i+1):=by have:=c3.2.1.1;split at this<;>omega
  refine⟨?_,by have:=out (i+2) (by omega);simp only;omega,fun k hk=>?_⟩
  ·simp only
   by_cases e:oc s i=224
   ·have:=c3.2.1.1;rw[if_pos e]at this;omega
   ·omega
  ·simp only at hk
   rcases(show k=0∨k=1∨k=2 by omega)with rfl|rfl|rfl
   ·rw[Nat.add_zero];omega
   ·exact h1
   ·omega
 rw[if_neg c3];by_cases c4:(240≤oc s i∧oc s i≤244)∧((if oc s i=240 then 144 else 128)≤oc s (i+1)∧oc s (i+1)≤(if oc s i=244 then 143 else 191))∧(128≤oc s (i+2)∧oc s (i+2)≤191)∧(128≤oc s (i+3)∧oc s (i+3)≤191)
 ·rw[if_pos c4]
  have h1:128≤oc s (i+1):=by have:=c4.2.1.1;split at this<;>omega
  refine⟨?_,by have:=out (i+3) (by omega);simp only;omega,fun k hk=>?_⟩
  ·simp only
   by_cases e:oc s i=240
   ·have:=c4.2.1.1;rw[if_pos e]at this;omega
   ·omega
  ·simp only at hk
   rcases(show k=0∨k=1∨k=2∨k=3 by omega)with rfl|rfl|rfl|rfl
   ·rw[Nat.add_zero];omega
   ·exact h1
   ·omega
   ·omega
 rw[if_neg c4];refine⟨by simp only;omega,by simp only;omega,fun k hk=>?_⟩;simp only at hk;rw[show k=0 by omega,Nat.add_zero];omega
theorem Ztm (s:List UInt8) (i:Nat) (hi:i<s.length):i+(dec s i).2≤s.length:=by
 rcases Zxv s i hi with⟨_,h,_⟩|⟨_,h,_⟩<;>omega
theorem Zx9 (s:List UInt8) (p i:Nat):dec (s.drop p) i=dec s (p+i):=by
 rw[Zh1,Zh1];simp only[Zzz,Nat.add_assoc]
def rns (s:List UInt8):List Nat:=if _h:s.length=0 then[]else(dec s 0).1::rns (s.drop (dec s 0).2)
termination_by s.length
decreasing_by
 have:=ZhM s 0;simp only[List.length_drop];omega
theorem Zqf:rns []=[]:=by rw[rns];rfl
theorem Zns {s:List UInt8} (h:0<s.length):rns s=(dec s 0).1::rns (s.drop (dec s 0).2):=by rw[rns,dif_neg (by omega)]
theorem Zj0 (s:List UInt8):(rns s).length≤s.length:=by
 by_cases h:s.length=0
 ·rw[rns,dif_pos h];exact Nat.zero_le _
 ·have:=ZhM s 0
  have ih:=Zj0 (s.drop (dec s 0).2);rw[Zns (by omega)];simp only[List.length_cons,List.length_drop]at ih⊢;omega
termination_by s.length
decreasing_by
 have:=ZhM s 0;simp only[List.length_drop];omega
end Go.Gv.F
