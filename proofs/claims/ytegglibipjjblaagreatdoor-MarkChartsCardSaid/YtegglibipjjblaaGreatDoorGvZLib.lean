/- Words for proofs over the machine's functions. -/
import Derived.Test.YtegglibipjjblaaGreatDoorGvDef
import Derived.IntWalk
namespace Go.Gv.F
variable {β:Type}
@[simp] theorem ai (b : Bool) (r : List DV) (K : Bool -> List DV -> M β) : J.b (.bool b :: r) K = K b r := rfl
@[simp] theorem YI (k : IntKind) : qb k k = true := by cases k <;> rfl
@[simp] theorem aM (k : IntKind) (n : Int) (K : Int -> M β) : D.int k (.int k n) K = K n := by unfold D.int; simp only [YI, cond_true]
@[simp] theorem al (k : IntKind) (n : Int) (r : List DV) (K : Int -> List DV -> M β) : J.i k (.int k n :: r) K = K n r := by unfold J.i; simp only [D.cons, aM]
@[simp] theorem bU (l : List UInt8) (r : List DV) (K : List UInt8 -> List DV -> M β) : J.s (.str l :: r) K = K l r := rfl
@[simp] theorem fm (a : Option (Nat × Nat)) (r : List DV) (K : Option (Nat × Nat) -> List DV -> M β) : J.p (.ptr a :: r) K = K a r := rfl
@[simp] theorem bZ (cs r : List DV) (K : List DV -> List DV -> M β) : J.a (.agg cs :: r) K = K cs r := rfl
@[simp] theorem J_n (n : Nat) (r : List DV) (K : Nat -> List DV -> M β) : J.n (.nat n :: r) K = K n r := rfl
@[simp] theorem xZ (d : DV) (r : List DV) (K : DV -> List DV -> M β) : J.d (d :: r) K = K d r := rfl
@[simp] theorem jJ (sz : Nat) (a : Option (Nat × Nat)) (n : Nat) (K : Option (Nat × Nat) -> Nat -> M β) : D.slice sz (.slice sz a n) K = K a n := by
 unfold D.slice;simp
@[simp] theorem Ue (sz z n : Nat) (K : Option (Nat × Nat) -> Nat -> M β) : D.slice sz (.slice z none n) K = K none n := by
 unfold D.slice;simp
@[simp] theorem bh (sz : Nat) (a : Option (Nat × Nat)) (n : Nat) (r : List DV) (K : Option (Nat × Nat) -> Nat -> List DV -> M β) : J.l sz (.slice sz a n :: r) K = K a n r := by
 unfold J.l;simp only[D.cons,jJ]
@[simp] theorem aaW (sz z n : Nat) (r : List DV) (K : Option (Nat × Nat) -> Nat -> List DV -> M β) : J.l sz (.slice z none n :: r) K = K none n r := by
 unfold J.l;simp only[D.cons,Ue]
@[simp] theorem ae (K : M β) : D.nil [] K = K := rfl
@[simp] theorem z8 (l : List UInt8) (K : List UInt8 -> M β) : D.str (.str l) K = K l := rfl
@[simp] theorem vW (b : Bool) (K : Bool -> M β) : D.bool (.bool b) K = K b := rfl
@[simp] theorem aaV (d : DV) (r : List DV) (K : DV -> List DV -> M β) : D.cons (d :: r) K = K d r := rfl
@[simp] theorem aa6 (K : M β) : M.ak true K = K := rfl
theorem Zd {b:Bool} (h:b=true) (K:M β):M.ak b K=K:=by rw[h];rfl
@[simp] theorem aV (i o : Nat) (K : Nat -> Nat -> M β) : M.nn (some (i, o)) K = K i o := rfl
theorem Zc (f:List DV->M β) (g:(List DV->M β)->M β):M.join f g=g f:=M.Ls f g
theorem I6 (c x y:Bool) (f:List DV->M β):(M.join f fun jk=>bif c then jk [.bool x]else jk [.bool y])=f [.bool (bif c then x else y)]:=by rw[M.Ls];cases c<;>rfl
theorem Ze (ds:β) (s:St):M.ret ds s=some (.val ds,s):=rfl
theorem ZE (b:Nat) (ds:β) (s:St):M.gR b ds s=some (.val ds,ZV b s):=rfl
theorem ni (f:Nat->M β) (s:St):M.base f s=f s.length s:=rfl
theorem Zi {α:Type} {m:M α} {K:α->M β} {s s':St} {ds:α} (h:m s=some (.val ds,s')):M.call m K s=K ds s':=by unfold M.call;rw[h]
theorem Zf (Bd:Za) (n g:Nat) (args:List DV):run Bd (n+1) g args=Bd g (run Bd n) n args:=rfl
def Ok (P:Out β×St->Prop) (x:Option (Out β×St)):Prop:=∃o,x=some o/\P o
theorem Ok.mk {P:Out β×St->Prop} {o:Out β×St} (h:P o):Ok P (some o):=⟨o,rfl,h⟩
theorem Ok.mono {P Q:Out β×St->Prop} {x:Option (Out β×St)} (h:Ok P x) (k: ∀o,P o->Q o):Ok Q x:=by
 obtain⟨o,e,p⟩:=h;exact⟨o,e,k o p⟩
theorem Ok.call {α:Type} {P:Out α×St->Prop} {Q:Out β×St->Prop} {m:M α} {K:α->M β} {s:St} (h:Ok P (m s)) (k: ∀o,P o->∃ds s',o=(.val ds,s')/\Ok Q (K ds s')):Ok Q (M.call m K s):=by
 obtain⟨o,e,p⟩:=h;obtain⟨ds,s',rfl,hq⟩:=k o p;rw[Zi e];exact hq
theorem Ok.fW {α:Type} {P:Out α×St->Prop} {Q:Out β×St->Prop} {m:M α} {K:α->M β} {s:St} (h:Ok P (m s)) (k: ∀o,P o->∃ds s',o=(.val ds,s')/\Ok Q (K ds s')):Ok Q (M.fW m K s):=by
 obtain⟨o,e,p⟩:=h;obtain⟨ds,s',rfl,hq⟩:=k o p;unfold M.fW;rw[e];exact hq
theorem Zm (sz z:Nat) (a:Option (Nat×Nat)) (n:Nat) (h:z=sz\/a=none) (r:List DV) (K:Option (Nat×Nat)->Nat->List DV->M β):J.l sz (.slice z a n::r) K=K a n r:=by
 rcases h with rfl|rfl
 ·unfold J.l;simp only[D.cons];unfold D.slice;simp
 ·unfold J.l;simp only[D.cons];unfold D.slice;simp
theorem Zl {F:(List DV->M β)->List DV->M β} (Q:Out β×St->Prop) (I:Nat->List DV->St->Prop)
  (Em: ∀k st s,I k st s->∀rec:List DV->M β,(∀k' eW s',k'<k->I k' eW s'->Ok Q (rec eW s'))->Ok Q (F rec st s)):
  ∀(k m:Nat) (st:List DV) (s:St),I k st s->k<m->Ok Q (M.loop F m st s)
 |k,0,st,s,_,hm=>absurd hm (uu k)
 |k,m+1,st,s,hI,hm=>Em k st s hI _ fun k' eW s' hk hI'=>Zl Q I Em k' m eW s' hI' (by omega)
def ar (s s':St):Prop:=∃r,s'=s++r
theorem ar.refl (s:St):ar s s:=⟨[],by simp⟩
theorem ar.trans {a b c:St} (h:ar a b) (k:ar b c):ar a c:=by
 obtain⟨r,rfl⟩:=h;obtain⟨r',rfl⟩:=k;exact⟨r++r',by simp⟩
theorem ar.len {s s':St} (h:ar s s'):s.length<=s'.length:=by obtain⟨r,rfl⟩:=h;simp
theorem ar.get {s s':St} (h:ar s s') {i:Nat} {b:Option bq} (e:s[i]? =some b):s'[i]? =some b:=by
 obtain⟨r,rfl⟩:=h;have:i<s.length:=(cd.1 e).1;rw[iL this];exact e
theorem uB {α:Type} {m:M α} {K:α->M β} {s s':St} {ds:α} (h:m s=some (.val ds,s')) (hp:ar s s'):M.dW m K s=K ds s':=by
 unfold M.dW;rw[h];simp only;exact aG hp
theorem AH {α:Type} {m:M α} {K:α->M β} {s s':St} {ds:α} (h:m s=some (.val ds,s')):M.fW m K s=K ds s':=by
 unfold M.fW;rw[h]
theorem ar.new (s:St) (b:Option bq):ar s (s++[b]):=⟨[b],rfl⟩
theorem Zw (cells:List DV) (K:Nat->M β) (s:St):M.new cells K s=K s.length (s++[some ⟨false,cells⟩]):=rfl
def Sl (s:St) (a:Option (Nat×Nat)) (cs:List DV):Prop:=
 match a with
 |none=>cs=[]
 |some (i,o)=>∃f all,s[i]? =some (some ⟨f,all⟩)/\o+cs.length<=all.length/\(all.drop o).take cs.length=cs
theorem Sl.nil (s:St):Sl s none []:=rfl
theorem Sl.mono {s s':St} (h:ar s s') {a:Option (Nat×Nat)} {cs:List DV} (k:Sl s a cs):Sl s' a cs:=by
 cases a with
 |none=>exact k
 |some p=>obtain⟨f,all,h1,h2⟩:=k;exact⟨f,all,h.get h1,h2⟩
theorem Sl.get {s:St} {i o:Nat} {cs:List DV} (h:Sl s (some (i,o)) cs) {j:Nat} {d:DV} (hd:cs[j]? =some d) (K:DV->M β):M.au i (j+o) K s=K d s:=by
 obtain⟨f,all,h1,h2,h3⟩:=h;have hj:j<cs.length:=(cd.1 hd).1;have:all[j+o]? =some d:=by
  have:=congrArg (fun l:List DV=>l[j]?) h3;simp only[lg,hj,iM,lR]at this;rw[rH];rw[this];exact hd
 unfold M.au St.cells;rw[h1];simp only[this]
theorem Sl.cP {s:St} {i o:Nat} {cs:List DV} (h:Sl s (some (i,o)) cs) {j:Nat} {d:DV} (hd:cs[j]? =some d) (K:DV->M β):M.au i (j*1+o) K s=K d s:=by
 rw[di];exact h.get hd K
theorem Sl.ck {s:St} {a:Option (Nat×Nat)} {cs:List DV} (h:Sl s a cs) (hn:0<cs.length): ∃i o,a=some (i,o):=by
 cases a with
 |none=>rw[show cs=[]from h]at hn;cases hn
 |some p=>exact⟨p.1,p.2,rfl⟩
theorem lA {s:St} {i o n:Nat} {f:Bool} {all:List DV} (h:s[i]? =some (some ⟨f,all⟩)) (hn:o+n<=all.length) (K:List DV->M β):M.load i o n K s=K ((all.drop o).take n) s:=by
 unfold M.load St.cells;rw[h];simp only[gx hn,cond_true]
theorem Zn {s:St} {i o:Nat} {f:Bool} {all:List DV} {d:DV} (h:s[i]? =some (some ⟨f,all⟩)) (hd:all[o]? =some d) (K:DV->M β):M.au i o K s=K d s:=by
 unfold M.au St.cells;rw[h];simp only[hd]
theorem qg {s:St} {a:Option (Nat×Nat)} {cs:List DV} (h:Sl s a cs) (K:List DV->M β):M.rd a cs.length K s=K cs s:=by
 cases a with
 |none=>rw[show cs=[]from h];rfl
 |some p=>
  obtain⟨f,all,h1,h2,h3⟩:=h;show M.load p.1 p.2 _ K s=_;rw[lA h1 h2,h3]
def aY (s0 s:St) (a:Option (Nat×Nat)) (cs:List DV):Prop:=
 ar s0 s/\((a=none/\cs=[])\/∃i,a=some (i,0)/\s0.length<=i/\s[i]? =some (some ⟨false,cs⟩))
theorem aY.nil {s0 s:St} (h:ar s0 s):aY s0 s none []:=⟨h,.inl ⟨rfl,rfl⟩⟩
theorem aY.sl {s0 s:St} {a:Option (Nat×Nat)} {cs:List DV} (h:aY s0 s a cs):Sl s a cs:=by
 rcases h.2 with⟨rfl,rfl⟩|⟨i,rfl,_,h⟩
 ·rfl
 ·exact⟨false,cs,h,by simp,by simp⟩
theorem aY.mono {s0 s s':St} {a:Option (Nat×Nat)} {cs:List DV} (h:aY s0 s a cs) (k:ar s s'):aY s0 s' a cs:=
 ⟨h.1.trans k,h.2.imp id fun⟨i,h1,h2,h3⟩=>⟨i,h1,h2,k.get h3⟩⟩
theorem uF {s0 s:St} (h:ar s0 s) {i:Nat} (hi:s0.length<=i) (b:Option bq):ar s0 (s.set i b):=by
 obtain⟨r,rfl⟩:=h;exact⟨r.set (i-s0.length) b,by rw[List.set_append_right _ _ hi]⟩
theorem aY.app {s0 s:St} {a:Option (Nat×Nat)} {cs:List DV} (h:aY s0 s a cs) {sz n m lim:Nat} {ds:List DV} (hz:0<sz) (hn:cs.length=n*sz) (hm:0<m) (hl:n+m<=lim):
  ∃p s',aY s0 s' p (cs++ds)/\∀K:Option (Nat×Nat)->M β,M.app sz a n ds m lim K s=K p s':=by
 have hb:Nat.beq m 0=false:=by cases m with|zero=>cases hm|succ m=>rfl
 rcases h.2 with⟨rfl,rfl⟩|⟨i,rfl,hi,hs⟩
 ·have h0:n=0:=by
   rcases Nat.mul_eq_zero.1 (show n*sz=0 by simpa using hn.symm)with h|h
   ·exact h
   ·omega
  subst h0;refine⟨some (s.length,0),s++[some ⟨false,ds⟩],⟨h.1.trans (.new _ _),.inr ⟨s.length,rfl,h.1.len,by simp⟩⟩,fun K=>?_⟩;unfold M.app;simp only[hb,gx hl,cond_true,cond_false];rfl
 ·have de:s.fH i=some cs:=by unfold St.fH;rw[hs]
  refine⟨some (s.length,0),s.set i none++[some ⟨false,cs++ds⟩],⟨(uF h.1 hi none).trans (.new _ _),.inr ⟨s.length,rfl,h.1.len,by simp⟩⟩,fun K=>?_⟩;unfold M.app;simp only[hb,gx hl,cond_true,cond_false,de];rw[dj,gx (by omega)];simp only[cond_true,dE];rw[cA (by omega)]
theorem aY.push {s0 s:St} {a:Option (Nat×Nat)} {cs:List DV} (h:aY s0 s a cs) {sz n lim:Nat} (ds:List DV) (hz:0<sz) (hn:cs.length=n*sz) (hd:ds.length=sz) (hl:n+1<=lim):
  ∃p s',aY s0 s' p (cs++ds)/\∀K:Option (Nat×Nat)->M β,(M.new ds fun i=>M.load i 0 sz fun cs'=>M.app sz a n cs' 1 lim K) s=K p s':=by
 obtain⟨p,s',h1,h2⟩:=(h.mono (.new s (some ⟨false,ds⟩))).app (β:=β) (ds:=ds) hz hn (sN 0) hl;refine⟨p,s',h1,fun K=>?_⟩;rw[Zw,lA (f:=false) (all:=ds) (by simp) (by omega),dE,cA (by omega)];exact h2 K
theorem ZAR (k:Nat) {s:St} {i:Nat} {f:Bool} {cs:List DV} (h:s[i]? =some (some ⟨f,cs⟩)): ∃f',(ZV k s)[i]? =some (some ⟨f',cs⟩):=by
 unfold ZV;have hi:i<s.length:=(cd.1 h).1;by_cases hk:i<k
 ·exact⟨f,by rw[iL (by simp;omega),lg,aG hk];exact h⟩
 ·refine⟨true,?_⟩
  rw[gU (by simp;omega),gL,lR,bW,j1 (by omega),show k+(i-k)=i by omega,h];rfl
theorem Sl.jc {s:St} {a:Option (Nat×Nat)} {cs:List DV} (h:Sl s a cs) (k:Nat):Sl (ZV k s) a cs:=by
 cases a with
 |none=>exact h
 |some p=>
  obtain⟨f,all,h1,h2⟩:=h;obtain⟨f',h1⟩:=ZAR k h1;exact⟨f',all,h1,h2⟩
theorem ZH {s0 s:St} (h:ar s0 s):ar s0 (ZV s0.length s):=by
 obtain⟨r,rfl⟩:=h;exact⟨_,by unfold ZV;rw[vT,qm]⟩
end Go.Gv.F
namespace Go.Gv.F
open Go.Gv
variable {β:Type}
def Kp (s s':St):Prop:=∀(i:Nat) (all:List DV),s[i]? =some (some ⟨true,all⟩)->s'[i]? =some (some ⟨true,all⟩)
theorem Kp.refl (s:St):Kp s s:=fun _ _ h=>h
theorem Kp.trans {a b c:St} (h:Kp a b) (k:Kp b c):Kp a c:=fun i all e=>k i all (h i all e)
theorem ar.kp {s s':St} (h:ar s s'):Kp s s':=fun _ _ e=>h.get e
theorem Kp.set {s:St} {i:Nat} {cs:List DV} (h:s[i]? =some (some ⟨false,cs⟩)) (b:Option bq):Kp s (s.set i b):=by
 intro j all e;have:i≠j:=by rintro rfl;rw[h]at e;cases e
 rw[eu this];exact e
theorem ZBm (k:Nat) (s:St):Kp s (ZV k s):=by
 intro i all h;unfold ZV;have hi:i<s.length:=(cd.1 h).1;by_cases hk:i<k
 ·rw[iL (by simp;omega),lg,aG hk];exact h
 ·rw[gU (by simp;omega),gL,lR,bW,j1 (by omega),show k+(i-k)=i by omega,h]
  rfl
def Fr (s:St) (a:Option (Nat×Nat)):Prop:=∀i o,a=some (i,o)->∃all,s[i]? =some (some ⟨true,all⟩)
theorem Fr.none (s:St):Fr s none:=fun _ _ h=>by cases h
def Fz (s:St) (a:Option (Nat×Nat)) (cs:List DV):Prop:=Sl s a cs/\Fr s a
theorem Fz.nil (s:St):Fz s none []:=⟨Sl.nil s,Fr.none s⟩
theorem Fz.kp {s s':St} {a:Option (Nat×Nat)} {cs:List DV} (h:Fz s a cs) (k:Kp s s'):Fz s' a cs:=by
 obtain⟨h,f⟩:=h;cases a with
 |none=>exact⟨h,Fr.none _⟩
 |some p=>
  obtain⟨i,o⟩:=p;obtain⟨all,e⟩:=f i o rfl;obtain⟨f',aa3,h1,h2⟩:=h;rw[e]at h1;cases h1;exact⟨⟨true,all,k i all e,h2⟩,fun i' o' e'=>by cases e';exact⟨all,k i all e⟩⟩
theorem Fz.pre {s s':St} {a:Option (Nat×Nat)} {cs:List DV} (h:Fz s a cs) (k:ar s s'):Fz s' a cs:=h.kp k.kp
theorem aY.fr {s0 s:St} {a:Option (Nat×Nat)} {cs:List DV} (h:aY s0 s a cs):Fr (ZV s0.length s) a:=by
 rcases h.2 with⟨rfl,_⟩|⟨i,rfl,hi,hs⟩
 ·exact Fr.none _
 ·intro i' o' e
  cases e;refine⟨cs,?_⟩;have hl:i<s.length:=(cd.1 hs).1;unfold ZV;rw[gU (by simp;omega),gL,lR,bW,j1 (by omega),show s0.length+(i-s0.length)=i by omega,hs];rfl
theorem aY.fz {s0 s:St} {a:Option (Nat×Nat)} {cs:List DV} (h:aY s0 s a cs):Fz (ZV s0.length s) a cs:=⟨h.sl.jc _,h.fr⟩
theorem Sl.fz {s:St} {a:Option (Nat×Nat)} {cs:List DV} (h:Sl s a cs) (hf: ∀(i:Nat) (b:Option bq),s[i]? =some b->∃cs,b=some ⟨true,cs⟩):Fz s a cs:=by
 refine⟨h,?_⟩;intro i o e;subst e;obtain⟨f,all,h1,_⟩:=h;obtain⟨cs',h2⟩:=hf _ _ h1;cases h2;exact⟨_,h1⟩
theorem aY.WB {s0 s:St} {a:Option (Nat×Nat)} {cs:List DV} (h:aY s0 s a cs) {sz n m lim:Nat} {ds:List DV} (hz:0<sz) (hn:cs.length=n*sz) (hm:0<m) (hl:n+m<=lim):
  ∃p s',aY s0 s' p (cs++ds)/\Kp s s'/\∀K:Option (Nat×Nat)->M β,M.app sz a n ds m lim K s=K p s':=by
 have hb:Nat.beq m 0=false:=by cases m with|zero=>cases hm|succ m=>rfl
 rcases h.2 with⟨rfl,rfl⟩|⟨i,rfl,hi,hs⟩
 ·have h0:n=0:=by
   rcases Nat.mul_eq_zero.1 (show n*sz=0 by simpa using hn.symm)with h|h
   ·exact h
   ·omega
  subst h0;refine⟨some (s.length,0),s++[some ⟨false,ds⟩],⟨h.1.trans (.new _ _),.inr ⟨s.length,rfl,h.1.len,by simp⟩⟩,(ar.new _ _).kp,fun K=>?_⟩;unfold M.app;simp only[hb,gx hl,cond_true,cond_false];rfl
 ·have de:s.fH i=some cs:=by unfold St.fH;rw[hs]
  refine⟨some (s.length,0),s.set i none++[some ⟨false,cs++ds⟩],⟨(uF h.1 hi none).trans (.new _ _),.inr ⟨s.length,rfl,h.1.len,by simp⟩⟩,(Kp.set hs none).trans (ar.new _ _).kp,fun K=>?_⟩;unfold M.app;simp only[hb,gx hl,cond_true,cond_false,de];rw[dj,gx (by omega)];simp only[cond_true,dE];rw[cA (by omega)]
theorem aY.xJ {s0 s:St} {a:Option (Nat×Nat)} {cs:List DV} (h:aY s0 s a cs) {sz n lim:Nat} (ds:List DV) (hz:0<sz) (hn:cs.length=n*sz) (hd:ds.length=sz) (hl:n+1<=lim):
  ∃p s',aY s0 s' p (cs++ds)/\Kp s s'/\∀K:Option (Nat×Nat)->M β,(M.new ds fun i=>M.load i 0 sz fun cs'=>M.app sz a n cs' 1 lim K) s=K p s':=by
 obtain⟨p,s',h1,h3,h2⟩:=(h.mono (.new s (some ⟨false,ds⟩))).WB (β:=β) (ds:=ds) hz hn (sN 0) hl;refine⟨p,s',h1,(ar.new _ _).kp.trans h3,fun K=>?_⟩;rw[Zw,lA (f:=false) (all:=ds) (by simp) (by omega),dE,cA (by omega)];exact h2 K
def Rows (s:St) (ds:List DV) (xs:List (List DV)):Prop:=ds.length=xs.length/\∀(j:Nat) (cs:List DV),xs[j]? =some cs->∃a,ds[j]? =some (.slice 1 a cs.length)/\Fz s a cs
end Go.Gv.F
namespace Go.Gv.F
def oc (s:List UInt8) (i:Nat):Nat:=(s.getD i 0).toNat
theorem xE (s:List UInt8) (i:Nat):oc s i<256:=(s.getD i 0).toNat_lt
theorem CT (s:List UInt8) (i:Nat):ZI s (i:Int)=(oc s i:Int):=by unfold ZI oc;simp
theorem ZA0 (s:List UInt8) (p i:Nat):oc (s.drop p) i=oc s (p+i):=by
 unfold oc;simp[bJ,lR]
theorem JT {s:List UInt8} {i:Nat} (h:s.length<=i):oc s i=0:=by
 unfold oc;rw[bJ,dT h];rfl
theorem wD (s:List UInt8) (i:Nat):dec s i=
  if oc s i<128 then(oc s i,1)
  else if (194<=oc s i/\oc s i<=223)/\(128<=oc s (i+1)/\oc s (i+1)<=191)then((oc s i-192)*64+(oc s (i+1)-128),2)
  else if (224<=oc s i/\oc s i<=239)/\((if oc s i=224 then 160 else 128)<=oc s (i+1)/\oc s (i+1)<=(if oc s i=237 then 159 else 191))/\(128<=oc s (i+2)/\oc s (i+2)<=191)then
   ((oc s i-224)*4096+(oc s (i+1)-128)*64+(oc s (i+2)-128),3)
  else if (240<=oc s i/\oc s i<=244)/\((if oc s i=240 then 144 else 128)<=oc s (i+1)/\oc s (i+1)<=(if oc s i=244 then 143 else 191))/\(128<=oc s (i+2)/\oc s (i+2)<=191)/\(128<=oc s (i+3)/\oc s (i+3)<=191)then
   ((oc s i-240)*262144+(oc s (i+1)-128)*4096+(oc s (i+2)-128)*64+(oc s (i+3)-128),4)
  else(65533,1):=by
 have cont: ∀k,(decide (i+k<s.length)&&oc s (i+k)/64==2)=decide (128<=oc s (i+k)/\oc s (i+k)<=191):=by
  intro k;rw[jY];simp only[aH,j4,mu];constructor
  ·rintro⟨_,h⟩;omega
  ·intro h
   refine⟨?_,by omega⟩;rcases eM (i+k) s.length with h'|h'
   ·exact h'
   ·rw[JT h']at h;omega
 have h0:=xE s i;have h1:=xE s (i+1);have h2:=xE s (i+2);have h3:=xE s (i+3);have e:dec s i=(if oc s i<0x80 then(oc s i,1)
  else if (oc s i/32==6&&(decide (i+1<s.length)&&oc s (i+1)/64==2))=true then
   (if (oc s i%32)*64+oc s (i+1)%64>=0x80 then((oc s i%32)*64+oc s (i+1)%64,2)else(Utf8.runeError,1))
  else if (oc s i/16==14&&(decide (i+1<s.length)&&oc s (i+1)/64==2)&&(decide (i+2<s.length)&&oc s (i+2)/64==2))=true then
   (if ((oc s i%16)*4096+(oc s (i+1)%64)*64+oc s (i+2)%64>=0x800&&Utf8.valid (((oc s i%16)*4096+(oc s (i+1)%64)*64+oc s (i+2)%64:Nat):Int))=true then((oc s i%16)*4096+(oc s (i+1)%64)*64+oc s (i+2)%64,3)else(Utf8.runeError,1))
  else if (oc s i/8==30&&(decide (i+1<s.length)&&oc s (i+1)/64==2)&&(decide (i+2<s.length)&&oc s (i+2)/64==2)&&(decide (i+3<s.length)&&oc s (i+3)/64==2))=true then
   (if ((oc s i%8)*262144+(oc s (i+1)%64)*4096+(oc s (i+2)%64)*64+oc s (i+3)%64>=0x10000&&Utf8.valid (((oc s i%8)*262144+(oc s (i+1)%64)*4096+(oc s (i+2)%64)*64+oc s (i+3)%64:Nat):Int))=true then
    ((oc s i%8)*262144+(oc s (i+1)%64)*4096+(oc s (i+2)%64)*64+oc s (i+3)%64,4)else(Utf8.runeError,1))
  else(Utf8.runeError,1)):=rfl
 rw[e,cont 1,cont 2,cont 3];generalize oc s i=a at*
 generalize oc s (i+1)=b at*
 generalize oc s (i+2)=c at*
 generalize oc s (i+3)=d at*
 have e1:(a/32==6)=decide (192<=a/\a<=223):=by rw[jY];simp only[mu,j4];omega
 have e2:(a/16==14)=decide (224<=a/\a<=239):=by rw[jY];simp only[mu,j4];omega
 have e3:(a/8==30)=decide (240<=a/\a<=247):=by rw[jY];simp only[mu,j4];omega
 rw[e1,e2,e3];have v: ∀n:Nat,Utf8.valid (n:Int)=decide (n<55296\/(57344<=n/\n<=1114111)):=by
  intro n;unfold Utf8.valid;rw[jY];simp only[jD,aH,j4];omega
 rw[v,v];simp only[Utf8.runeError,aH,j4,ge_iff_le];by_cases c0:a<128
 ·rw[aG c0,aG c0]
 rw[ax c0,ax c0];by_cases r1:192<=a/\a<=223
 ·have n1: ¬(224<=a/\a<=239):=by omega
  have n2: ¬(240<=a/\a<=244):=by omega
  have n3: ¬(240<=a/\a<=247):=by omega
  simp only[r1,n1,n2,n3,false_and,iY,true_and,and_true];by_cases cb:128<=b/\b<=191
  ·simp only[cb,and_true,iM,and_self]
   by_cases c2:194<=a
   ·rw[aG (by omega),aG (by omega),xX]
    exact⟨by omega,rfl⟩
   ·rw[ax (by omega),ax (by omega)]
  ·rw[ax cb,ax (by rintro⟨_,h⟩;exact cb h)]
 ·by_cases r2:224<=a/\a<=239
  ·have n1: ¬(194<=a/\a<=223):=by omega
   have n2: ¬(240<=a/\a<=244):=by omega
   have n3: ¬(240<=a/\a<=247):=by omega
   simp only[r1,r2,n1,n2,n3,false_and,iY,true_and];by_cases k:(128<=b/\b<=191)/\128<=c/\c<=191
   ·rw[aG k]
    by_cases k2:((if a=224 then 160 else 128)<=b/\b<=if a=237 then 159 else 191)/\128<=c/\c<=191
    ·rw[aG k2]
     split at k2<;>split at k2<;>(rw[aG (by omega),xX];exact⟨by omega,rfl⟩)
    ·rw[ax k2]
     split at k2<;>split at k2<;>(first|omega|rw[ax (by omega)])
   ·rw[ax k,ax]
    intro k2;split at k2<;>split at k2<;>omega
  ·have n1: ¬(194<=a/\a<=223):=by omega
   simp only[r1,r2,n1,false_and,iY];by_cases k:(240<=a/\a<=247)/\(128<=b/\b<=191)/\(128<=c/\c<=191)/\128<=d/\d<=191
   ·rw[aG (by omega)]
    by_cases k2:(240<=a/\a<=244)/\((if a=240 then 144 else 128)<=b/\b<=if a=244 then 143 else 191)/\(128<=c/\c<=191)/\128<=d/\d<=191
    ·rw[aG k2]
     split at k2<;>split at k2<;>(rw[aG (by omega),xX];exact⟨by omega,rfl⟩)
    ·rw[ax k2]
     split at k2<;>split at k2<;>(first|omega|rw[ax (by omega)])
   ·rw[ax (by omega),ax]
    intro k2;split at k2<;>split at k2<;>omega
theorem ym (s:List UInt8) (i:Nat):1<=(dec s i).2/\(dec s i).2<=4:=by
 rw[wD]
 repeat' split
 all_goals (simp;done)
theorem Zx2 (s:List UInt8) (i:Nat) (hi:i<s.length):((dec s i).1<128/\(dec s i).2=1/\oc s i=(dec s i).1)\/
  (128<=(dec s i).1/\i+(dec s i).2<=s.length/\∀k,k<(dec s i).2->128<=oc s (i+k)):=by
 have out: ∀k,0<oc s k->k<s.length:=fun k h=>by
  rcases eM k s.length with h'|h'
  ·exact h'
  ·rw[JT h']at h;omega
 rw[wD];by_cases c0:oc s i<128
 ·rw[aG c0];exact .inl ⟨c0,rfl,rfl⟩
 rw[ax c0];refine .inr ?_;by_cases c2:(194<=oc s i/\oc s i<=223)/\(128<=oc s (i+1)/\oc s (i+1)<=191)
 ·rw[aG c2]
  refine⟨by simp only;omega,by have:=out (i+1) (by omega);simp only;omega,fun k hk=>?_⟩;simp only at hk;rcases(show k=0\/k=1 by omega)with rfl|rfl
  ·rw[dG];omega
  ·omega
 rw[ax c2];by_cases c3:(224<=oc s i/\oc s i<=239)/\((if oc s i=224 then 160 else 128)<=oc s (i+1)/\oc s (i+1)<=(if oc s i=237 then 159 else 191))/\(128<=oc s (i+2)/\oc s (i+2)<=191)
 ·rw[aG c3]
  have h1:128<=oc s (i+1):=by have:=c3.2.1.1;split at this<;>omega
  refine⟨?_,by have:=out (i+2) (by omega);simp only;omega,fun k hk=>?_⟩
  ·simp only
   by_cases e:oc s i=224
   ·have:=c3.2.1.1;rw[aG e]at this;omega
   ·omega
  ·simp only at hk
   rcases(show k=0\/k=1\/k=2 by omega)with rfl|rfl|rfl
   ·rw[dG];omega
   ·exact h1
   ·omega
 rw[ax c3];by_cases c4:(240<=oc s i/\oc s i<=244)/\((if oc s i=240 then 144 else 128)<=oc s (i+1)/\oc s (i+1)<=(if oc s i=244 then 143 else 191))/\(128<=oc s (i+2)/\oc s (i+2)<=191)/\(128<=oc s (i+3)/\oc s (i+3)<=191)
 ·rw[aG c4]
  have h1:128<=oc s (i+1):=by have:=c4.2.1.1;split at this<;>omega
  refine⟨?_,by have:=out (i+3) (by omega);simp only;omega,fun k hk=>?_⟩
  ·simp only
   by_cases e:oc s i=240
   ·have:=c4.2.1.1;rw[aG e]at this;omega
   ·omega
  ·simp only at hk
   rcases(show k=0\/k=1\/k=2\/k=3 by omega)with rfl|rfl|rfl|rfl
   ·rw[dG];omega
   ·exact h1
   ·omega
   ·omega
 rw[ax c4];refine⟨by simp only;omega,by simp only;omega,fun k hk=>?_⟩;simp only at hk;rw[show k=0 by omega,dG];omega
theorem Qr (s:List UInt8) (i:Nat) (hi:i<s.length):i+(dec s i).2<=s.length:=by
 rcases Zx2 s i hi with⟨_,h,_⟩|⟨_,h,_⟩<;>omega
theorem Zzq (s:List UInt8) (p i:Nat):dec (s.drop p) i=dec s (p+i):=by
 rw[wD,wD];simp only[ZA0,lU]
def cL (s:List UInt8):List Nat:=if _h:s.length=0 then[]else(dec s 0).1::cL (s.drop (dec s 0).2)
termination_by s.length
decreasing_by
 have:=ym s 0;simp only[dt];omega
theorem PU:cL []=[]:=by rw[cL];rfl
theorem Jv {s:List UInt8} (h:0<s.length):cL s=(dec s 0).1::cL (s.drop (dec s 0).2):=by rw[cL,dif_neg (by omega)]
theorem C9 (s:List UInt8):(cL s).length<=s.length:=by
 by_cases h:s.length=0
 ·rw[cL,dif_pos h];exact bH _
 ·have:=ym s 0
  have ih:=C9 (s.drop (dec s 0).2);rw[Jv (by omega)];simp only[dF,dt]at ih⊢;omega
termination_by s.length
decreasing_by
 have:=ym s 0;simp only[dt];omega
end Go.Gv.F
