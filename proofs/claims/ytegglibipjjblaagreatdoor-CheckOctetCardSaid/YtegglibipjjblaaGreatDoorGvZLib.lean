/- Words for proofs over the machine's functions. -/
import Derived.Test.YtegglibipjjblaaGreatDoorGvZOps
import Derived.IntWalk
set_option linter.all false
namespace Go.Gv.F
variable {Y:Type}
@[simp] theorem ar (b : Bool) (r : ah) (K : Bool -> ah -> M Y) : gT (.bool b :: r) K = K b r := rfl
@[simp] theorem aks (k : IntKind) : wL k k = true := by cases k <;> rfl
@[simp] theorem bg (k : IntKind) (n : Int) (K : Int -> M Y) : db k (.int k n) K = K n := by unfold db; simp only [aks, ae]
@[simp] theorem au (k : IntKind) (n : Int) (r : ah) (K : Int -> ah -> M Y) : aC k (.int k n :: r) K = K n r := by unfold aC; rw [lF, bg]
@[simp] theorem bZ (l : aj) (r : ah) (K : aj -> ah -> M Y) : ft (.str l :: r) K = K l r := rfl
@[simp] theorem fw (a : Option (Nat × Nat)) (r : ah) (K : Option (Nat × Nat) -> ah -> M Y) : sj (.ptr a :: r) K = K a r := rfl
@[simp] theorem cX (cs r : ah) (K : ah -> ah -> M Y) : bp (.agg cs :: r) K = K cs r := rfl
@[simp] theorem J_n (n : Nat) (r : ah) (K : Nat -> ah -> M Y) : ab8 (.nat n :: r) K = K n r := rfl
@[simp] theorem DG (d : DV) (r : ah) (K : DV -> ah -> M Y) : ab7 (d :: r) K = K d r := rfl
@[simp] theorem kP (sz : Nat) (a : Option (Nat × Nat)) (n : Nat) (K : Option (Nat × Nat) -> Nat -> M Y) : dB sz (.slice sz a n) K = K a n := by
 unfold dB;simp
@[simp] theorem aeW (sz z n : Nat) (K : Option (Nat × Nat) -> Nat -> M Y) : dB sz (.slice z none n) K = K none n := by
 unfold dB;simp
@[simp] theorem aZ (sz : Nat) (a : Option (Nat × Nat)) (n : Nat) (r : ah) (K : Option (Nat × Nat) -> Nat -> ah -> M Y) : ca sz (.slice sz a n :: r) K = K a n r := by
 unfold ca;rw[lF,kP]
@[simp] theorem alx (sz z n : Nat) (r : ah) (K : Option (Nat × Nat) -> Nat -> ah -> M Y) : ca sz (.slice z none n :: r) K = K none n r := by
 unfold ca;rw[lF,aeW]
@[simp] theorem ao (K : M Y) : aF [] K = K := rfl
@[simp] theorem BI (l : aj) (K : aj -> M Y) : Cm (.str l) K = K l := rfl
@[simp] theorem uI (b : Bool) (K : Bool -> M Y) : uZ (.bool b) K = K b := rfl
@[simp] theorem alw (d : DV) (r : ah) (K : DV -> ah -> M Y) : lF (d :: r) K = K d r := rfl
@[simp] theorem alH (K : M Y) : aA true K = K := rfl
theorem Zc {b:Bool} (h:b=true) (K:M Y):aA b K=K:=by rw[h];rfl
@[simp] theorem bh (i o : Nat) (K : Nat -> Nat -> M Y) : bK (some (i, o)) K = K i o := rfl
theorem Za (f:ah->M Y) (g:(ah->M Y)->M Y):cO f g=g f:=Ov f g
theorem Ng (c x y:Bool) (f:ah->M Y):(cO f λjk=>bif c then jk [.bool x]else jk [.bool y])=f [.bool (bif c then x else y)]:=by rw[Ov];cases c<;>rfl
variable {c f:Bool} {d:DV} {i j lim m n o:Nat} {p:Prop} {s s' s0:St} {P:St->Prop} {α:Type} {cs ds:ah}
theorem aR [Decidable p] {a b:α} (h:p:=by omega):(bif decide p then a else b)=a:=by rw[aQ h];rfl
theorem aU [Decidable p] {a b:α} (h: ¬p:=by omega):(bif decide p then a else b)=b:=by rw[bP h];rfl
theorem kT {a b:α} (h:c=true):(bif c then a else b)=a:=by rw[h];rfl
theorem pL {a b:α} (h:c=false):(bif c then a else b)=b:=by rw[h];rfl
theorem Zd (ds:Y) (s:St):aw ds s=some (.val ds,s):=rfl
theorem Zs (b:Nat) (ds:Y) (s:St):cw b ds s=some (.val ds,lE b s):=rfl
theorem Z8 (f:Nat->M Y) (s:St):jm f s=f s.length s:=rfl
theorem Zk {m:M α} {K:α->M Y} {ds:α} (h:m s=some (.val ds,s')):c9 m K s=K ds s':=by unfold c9;rw[h]
theorem Ze (Bd:Zg) (n g:Nat) (args:ah):run Bd (n+1) g args=Bd g (run Bd n) n args:=rfl
def Ok (P:Out Y×St->Prop) (x:Option (Out Y×St)):Prop:=∃o,x=some o/\P o
theorem Ok.mk {P:Out Y×St->Prop} {o:Out Y×St} (h:P o):Ok P (some o):=⟨o,rfl,h⟩
variable {Q:Out Y×St->Prop}
theorem Ok.mono {P:Out Y×St->Prop} {x:Option (Out Y×St)} (h:Ok P x) (k: ∀o,P o->Q o):Ok Q x:=by
 have⟨o,e,p⟩:=h;exact⟨o,e,k o p⟩
theorem Ok.call {P:Out α×St->Prop} {m:M α} {K:α->M Y} (h:Ok P (m s)) (k: ∀o,P o->∃ds s',o=(.val ds,s')/\Ok Q (K ds s')):Ok Q (c9 m K s):=by
 have⟨o,e,p⟩:=h;obtain⟨ds,s',rfl,hq⟩:=k o p;rw[Zk e];exact hq
theorem Ok.cv {m:M α} {K:α->M Y} {ds:α} (h:Ok (λo=>∃s',o=(.val ds,s')/\P s') (m s)) (k: ∀s',P s'->Ok Q (K ds s')):Ok Q (c9 m K s):=
 h.call λ_ ⟨s',e,p⟩=>⟨_,s',e,k s' p⟩
theorem Ok.XD {P:Out α×St->Prop} {m:M α} {K:α->M Y} (h:Ok P (m s)) (k: ∀o,P o->∃ds s',o=(.val ds,s')/\Ok Q (K ds s')):Ok Q (yJ m K s):=by
 have⟨o,e,p⟩:=h;obtain⟨ds,s',rfl,hq⟩:=k o p;unfold yJ;rw[e];exact hq
theorem Ok.cn {m:M α} {K:α->M Y} {ds:α} (h:Ok (λo=>∃s',o=(.val ds,s')/\P s') (m s)) (k: ∀s',P s'->Ok Q (K ds s')):Ok Q (yJ m K s):=
 h.XD λ_ ⟨s',e,p⟩=>⟨_,s',e,k s' p⟩
theorem Zh (sz z:Nat) (a:ai) (n:Nat) (h:z=sz\/a=none) (r:ah) (K:ai->Nat->ah->M Y):ca sz (.slice z a n::r) K=K a n r:=by
 rcases h with rfl|rfl
 .simp
 simp
theorem Zj {F:(ah->M Y)->ah->M Y} (Q:Out Y×St->Prop) (I:Nat->ah->St->Prop)
  (eH: ∀k st s,I k st s->∀rec:ah->M Y,(∀k' gL s',k'<k->I k' gL s'->Ok Q (rec gL s'))->Ok Q (F rec st s)):
  ∀(k m:Nat) (st:ah) (s:St),I k st s->k<m->Ok Q (dc F m st s)
 |k,0,st,s,_,hm=>absurd hm (Nat.not_lt_zero k)
 |k,m+1,st,s,hI,hm=>eH k st s hI _ λk' gL s' hk hI'=>Zj Q I eH k' m gL s' hI' AC
def aB (s s':St):Prop:=∃r,s'=s++r
theorem aB.refl (s:St):aB s s:=⟨[],Do⟩
theorem aB.trans {a b c:St} (h:aB a b) (k:aB b c):aB a c:=by
 obtain⟨r,rfl⟩:=h;obtain⟨r',rfl⟩:=k;exact⟨r++r',Do⟩
theorem aB.len (h:aB s s'):s.length<=s'.length:=by obtain⟨r,rfl⟩:=h;simp
theorem aB.get (h:aB s s') {b:Option bQ} (e:s[i]? =some b):s'[i]? =some b:=by
 obtain⟨r,rfl⟩:=h;have:i<s.length:=(eE.1 e).1;rw[nc this];exact e
theorem qY {m:M α} {K:α->M Y} {ds:α} (h:m s=some (.val ds,s')) (hp:aB s s'):va m K s=K ds s':=by
 unfold va;rw[h];simp only;exact bx hp
theorem xr {m:M α} {K:α->M Y} {ds:α} (h:m s=some (.val ds,s')):yJ m K s=K ds s':=by
 unfold yJ;rw[h]
theorem aB.new (s:St) (b:Option bQ):aB s (s++[b]):=⟨[b],rfl⟩
theorem ZD (cells:ah) (K:Nat->M Y) (s:St):cj cells K s=K s.length (s++[some ⟨false,cells⟩]):=rfl
def Sl (s:St) (a:ai) (cs:ah):Prop:=
 match a with
 |none=>cs=[]
 |some (i,o)=>∃f all,s[i]? =some (some ⟨f,all⟩)/\o+cs.length<=all.length/\(all.drop o).take cs.length=cs
theorem Sl.nil (s:St):Sl s none []:=rfl
theorem Sl.mono (h:aB s s') {a:ai} (k:Sl s a cs):Sl s' a cs:=by
 cases a with
 |none=>exact k
 |some p=>have⟨f,all,h1,h2⟩:=k;exact⟨f,all,h.get h1,h2⟩
theorem Sl.get (h:Sl s (some (i,o)) cs) (hd:cs[j]? =some d) (K:DV->M Y):bH i (j+o) K s=K d s:=by
 have⟨f,all,h1,h2,h3⟩:=h;grind[bH,St.cells]
theorem Sl.dX (h:Sl s (some (i,o)) cs) (hd:cs[j]? =some d) (K:DV->M Y):bH i (j*1+o) K s=K d s:=by
 rw[cR];exact h.get hd K
theorem Sl.cS {a:ai} (h:Sl s a cs) (hn:0<cs.length): ∃i o,a=some (i,o):=by
 cases a with
 |none=>rw[show cs=[]from h]at hn;cases hn
 |some p=>grind
theorem kq {all:ah} (h:s[i]? =some (some ⟨f,all⟩)) (hn:o+n<=all.length) (K:ah->M Y):bV i o n K s=K ((all.drop o).take n) s:=by
 unfold bV St.cells;rw[h];simp only[gO hn,ae]
theorem Zn {all:ah} (h:s[i]? =some (some ⟨f,all⟩)) (hd:all[o]? =some d) (K:DV->M Y):bH i o K s=K d s:=by
 grind[bH,St.cells]
theorem j9 {a:ai} (h:Sl s a cs) (K:ah->M Y):dV a cs.length K s=K cs s:=by
 cases a with
 |none=>rw[show cs=[]from h];rfl
 |some p=>
  have⟨f,all,h1,h2,h3⟩:=h;show bV p.1 p.2 _ K s=_;rw[kq h1 h2,h3]
def bc (s0 s:St) (a:ai) (cs:ah):Prop:=
 aB s0 s/\((a=none/\cs=[])\/∃i,a=some (i,0)/\s0.length<=i/\s[i]? =some (some ⟨false,cs⟩))
theorem bc.nil (h:aB s0 s):bc s0 s none []:=⟨h,.inl ⟨rfl,rfl⟩⟩
theorem bc.sl {a:ai} (h:bc s0 s a cs):Sl s a cs:=by
 rcases h.2 with⟨rfl,rfl⟩|⟨i,rfl,_,h⟩
 .rfl
 .exact⟨false,cs,h,Do,Do⟩
theorem bc.mono {a:ai} (h:bc s0 s a cs) (k:aB s s'):bc s0 s' a cs:=
 ⟨h.1.trans k,h.2.imp id λ⟨i,h1,h2,h3⟩=>⟨i,h1,h2,k.get h3⟩⟩
theorem tH (h:aB s0 s) (hi:s0.length<=i) (b:Option bQ):aB s0 (s.set i b):=by
 obtain⟨r,rfl⟩:=h;exact⟨r.set (i-s0.length) b,by rw[List.set_append_right _ _ hi]⟩
theorem bc.app {a:ai} (h:bc s0 s a cs) {sz:Nat} (hz:0<sz) (hn:cs.length=n*sz) (hm:0<m) (hl:n+m<=lim):
  ∃p s',bc s0 s' p (cs++ds)/\∀K:ai->M Y,cu sz a n ds m lim K s=K p s':=by
 have hb:Nat.beq m 0=false:=by cases m with|zero=>cases hm|succ m=>rfl
 rcases h.2 with⟨rfl,rfl⟩|⟨i,rfl,hi,hs⟩
 .have h0:n=0:=by
   rcases H6.1 (show n*sz=0 by simpa using hn.symm)with h|h
   .exact h
   .omega
  subst h0;refine⟨some (s.length,0),s++[some ⟨false,ds⟩],⟨h.1.trans (.new _ _),.inr ⟨s.length,rfl,h.1.len,Do⟩⟩,λK=>?_⟩;unfold cu;rw[hb,gO hl,ae,af];rfl
 .have eD:s.iB i=some cs:=by grind[St.iB]
  refine⟨some (s.length,0),s.set i none++[some ⟨false,cs++ds⟩],⟨(tH h.1 hi none).trans (.new _ _),Fd⟩,λK=>?_⟩;unfold cu;simp only[hb,gO hl,ae,af,eD];rw[fq,gO AC];grind
theorem bc.push {a:ai} (h:bc s0 s a cs) {sz:Nat} (ds:ah) (hz:0<sz) (hn:cs.length=n*sz) (hd:ds.length=sz) (hl:n+1<=lim):
  ∃p s',bc s0 s' p (cs++ds)/\∀K:ai->M Y,(cj ds λi=>bV i 0 sz λcs'=>cu sz a n cs' 1 lim K) s=K p s':=by
 have⟨p,s',h1,h2⟩:=(h.mono (.new s (some ⟨false,ds⟩))).app (Y:=Y) (ds:=ds) hz hn (yh 0) hl;refine⟨p,s',h1,λK=>?_⟩;rw[ZD,kq (f:=false) (all:=ds) Do AC,dF,dG AC];exact h2 K
theorem Zz9 (k:Nat) (h:s[i]? =some (some ⟨f,cs⟩)): ∃f',(lE k s)[i]? =some (some ⟨f',cs⟩):=by
 grind[lE]
theorem Sl.gk {a:ai} (h:Sl s a cs) (k:Nat):Sl (lE k s) a cs:=by
 cases a with
 |none=>exact h
 |some p=>
  have⟨f,all,h1,h2⟩:=h;have⟨f',h1⟩:=Zz9 k h1;exact⟨f',all,h1,h2⟩
theorem Zx (h:aB s0 s):aB s0 (lE s0.length s):=by
 obtain⟨r,rfl⟩:=h;exact⟨_,by unfold lE;rw[DA,uD]⟩
def Kp (s s':St):Prop:=∀(i:Nat) (all:ah),s[i]? =some (some ⟨true,all⟩)->s'[i]? =some (some ⟨true,all⟩)
theorem Kp.refl (s:St):Kp s s:=λ_ _ h=>h
theorem Kp.trans {a b c:St} (h:Kp a b) (k:Kp b c):Kp a c:=λi all e=>k i all (h i all e)
theorem aB.kp (h:aB s s'):Kp s s':=λ_ _ e=>h.get e
theorem Kp.set {s:St} {i:Nat} {cs:ah} (h:s[i]? =some (some ⟨false,cs⟩)) (b:Option bQ):Kp s (s.set i b):=by
 intro j all e;grind
theorem ZBi (k:Nat) (s:St):Kp s (lE k s):=by
 intro i all h;grind[lE]
def Fr (s:St) (a:ai):Prop:=∀i o,a=some (i,o)->∃all,s[i]? =some (some ⟨true,all⟩)
theorem Fr.none (s:St):Fr s none:=λ_ _ h=>by cases h
def Fz (s:St) (a:ai) (cs:ah):Prop:=Sl s a cs/\Fr s a
theorem Fz.nil (s:St):Fz s none []:=⟨Sl.nil s,Fr.none s⟩
theorem Fz.kp {a:ai} (h:Fz s a cs) (k:Kp s s'):Fz s' a cs:=by
 have⟨h,f⟩:=h;cases a with
 |none=>exact⟨h,Fr.none _⟩
 |some p=>
  have⟨i,o⟩:=p;have⟨all,e⟩:=f i o rfl;have⟨f',JA,h1,h2⟩:=h;rw[e]at h1;cases h1;exact⟨⟨true,all,k i all e,h2⟩,λi' o' e'=>by cases e';exact⟨all,k i all e⟩⟩
theorem Fz.pre {a:ai} (h:Fz s a cs) (k:aB s s'):Fz s' a cs:=h.kp k.kp
theorem bc.fr {a:ai} (h:bc s0 s a cs):Fr (lE s0.length s) a:=by
 rcases h.2 with⟨rfl,_⟩|⟨i,rfl,hi,hs⟩
 .exact Fr.none _
 .intro i' o' e
  cases e;refine⟨cs,?_⟩;grind[lE]
theorem bc.fz {a:ai} (h:bc s0 s a cs):Fz (lE s0.length s) a cs:=⟨h.sl.gk _,h.fr⟩
theorem Sl.fz {a:ai} (h:Sl s a cs) (hf: ∀(i:Nat) (b:Option bQ),s[i]? =some b->∃cs,b=some ⟨true,cs⟩):Fz s a cs:=by
 refine⟨h,?_⟩;intro i o e;subst e;have⟨f,all,h1,_⟩:=h;grind
theorem bc.ae5 {a:ai} (h:bc s0 s a cs) {sz:Nat} (hz:0<sz) (hn:cs.length=n*sz) (hm:0<m) (hl:n+m<=lim):
  ∃p s',bc s0 s' p (cs++ds)/\Kp s s'/\∀K:ai->M Y,cu sz a n ds m lim K s=K p s':=by
 have hb:Nat.beq m 0=false:=by cases m with|zero=>cases hm|succ m=>rfl
 rcases h.2 with⟨rfl,rfl⟩|⟨i,rfl,hi,hs⟩
 .have h0:n=0:=by
   rcases H6.1 (show n*sz=0 by simpa using hn.symm)with h|h
   .exact h
   .omega
  subst h0;refine⟨some (s.length,0),s++[some ⟨false,ds⟩],⟨h.1.trans (.new _ _),.inr ⟨s.length,rfl,h.1.len,Do⟩⟩,(aB.new _ _).kp,λK=>?_⟩;unfold cu;rw[hb,gO hl,ae,af];rfl
 .have eD:s.iB i=some cs:=by grind[St.iB]
  refine⟨some (s.length,0),s.set i none++[some ⟨false,cs++ds⟩],⟨(tH h.1 hi none).trans (.new _ _),Fd⟩,(Kp.set hs none).trans (aB.new _ _).kp,λK=>?_⟩;unfold cu;simp only[hb,gO hl,ae,af,eD];rw[fq,gO AC];grind
theorem bc.Dq {a:ai} (h:bc s0 s a cs) {sz:Nat} (ds:ah) (hz:0<sz) (hn:cs.length=n*sz) (hd:ds.length=sz) (hl:n+1<=lim):
  ∃p s',bc s0 s' p (cs++ds)/\Kp s s'/\∀K:ai->M Y,(cj ds λi=>bV i 0 sz λcs'=>cu sz a n cs' 1 lim K) s=K p s':=by
 have⟨p,s',h1,h3,h2⟩:=(h.mono (.new s (some ⟨false,ds⟩))).ae5 (Y:=Y) (ds:=ds) hz hn (yh 0) hl;refine⟨p,s',h1,(aB.new _ _).kp.trans h3,λK=>?_⟩;rw[ZD,kq (f:=false) (all:=ds) Do AC,dF,dG AC];exact h2 K
def Rows (s:St) (ds:ah) (xs:List ah):Prop:=ds.length=xs.length/\∀(j:Nat) (cs:ah),xs[j]? =some cs->∃a,ds[j]? =some (.slice 1 a cs.length)/\Fz s a cs
def oc (s:aj) (i:Nat):Nat:=(s.getD i 0).toNat
theorem Qd (s:aj) (i:Nat):oc s i<256:=(s.getD i 0).toNat_lt
theorem IS (s:aj) (i:Nat):ZX s (i:Int)=(oc s i:Int):=by unfold ZX oc;simp
theorem ZAg (s:aj) (p i:Nat):oc (s.drop p) i=oc s (p+i):=by
 simp[oc]
theorem Oc {s:aj} (h:s.length<=i):oc s i=0:=by
 simp_all[oc]
theorem Cf (s:aj) (i:Nat):dec s i=
  if oc s i<128 then(oc s i,1)
  else if (194<=oc s i/\oc s i<=223)/\(128<=oc s (i+1)/\oc s (i+1)<=191)then((oc s i-192)*64+(oc s (i+1)-128),2)
  else if (224<=oc s i/\oc s i<=239)/\((if oc s i=224 then 160 else 128)<=oc s (i+1)/\oc s (i+1)<=(if oc s i=237 then 159 else 191))/\(128<=oc s (i+2)/\oc s (i+2)<=191)then
   ((oc s i-224)*4096+(oc s (i+1)-128)*64+(oc s (i+2)-128),3)
  else if (240<=oc s i/\oc s i<=244)/\((if oc s i=240 then 144 else 128)<=oc s (i+1)/\oc s (i+1)<=(if oc s i=244 then 143 else 191))/\(128<=oc s (i+2)/\oc s (i+2)<=191)/\(128<=oc s (i+3)/\oc s (i+3)<=191)then
   ((oc s i-240)*262144+(oc s (i+1)-128)*4096+(oc s (i+2)-128)*64+(oc s (i+3)-128),4)
  else(65533,1):=by
 have cont: ∀k,(decide (i+k<s.length)&&oc s (i+k)/64==2)=decide (128<=oc s (i+k)/\oc s (i+k)<=191):=by
  intro k;rw[nL];simp only[aS,yi,Ac];constructor
  .omega
  .intro h
   refine⟨?_,AC⟩;rcases jw (i+k) s.length with h'|h'
   .exact h'
   .rw[Oc h']at h;omega
 have e:dec s i=(if oc s i<0x80 then(oc s i,1)
  else if (oc s i/32==6&&(decide (i+1<s.length)&&oc s (i+1)/64==2))=true then
   (if (oc s i%32)*64+oc s (i+1)%64>=0x80 then((oc s i%32)*64+oc s (i+1)%64,2)else(Utf8.runeError,1))
  else if (oc s i/16==14&&(decide (i+1<s.length)&&oc s (i+1)/64==2)&&(decide (i+2<s.length)&&oc s (i+2)/64==2))=true then
   (if ((oc s i%16)*4096+(oc s (i+1)%64)*64+oc s (i+2)%64>=0x800&&Utf8.valid (((oc s i%16)*4096+(oc s (i+1)%64)*64+oc s (i+2)%64:Nat):Int))=true then((oc s i%16)*4096+(oc s (i+1)%64)*64+oc s (i+2)%64,3)else(Utf8.runeError,1))
  else if (oc s i/8==30&&(decide (i+1<s.length)&&oc s (i+1)/64==2)&&(decide (i+2<s.length)&&oc s (i+2)/64==2)&&(decide (i+3<s.length)&&oc s (i+3)/64==2))=true then
   (if ((oc s i%8)*262144+(oc s (i+1)%64)*4096+(oc s (i+2)%64)*64+oc s (i+3)%64>=0x10000&&Utf8.valid (((oc s i%8)*262144+(oc s (i+1)%64)*4096+(oc s (i+2)%64)*64+oc s (i+3)%64:Nat):Int))=true then
    ((oc s i%8)*262144+(oc s (i+1)%64)*4096+(oc s (i+2)%64)*64+oc s (i+3)%64,4)else(Utf8.runeError,1))
  else(Utf8.runeError,1)):=rfl
 rw[e,cont 1,cont 2,cont 3];generalize oc s i=a at*
 generalize oc s (i+1)=b at*
 generalize oc s (i+2)=c at*
 generalize oc s (i+3)=d at*
 have e1:(a/32==6)=decide (192<=a/\a<=223):=by rw[nL];grind
 have e2:(a/16==14)=decide (224<=a/\a<=239):=by rw[nL];grind
 have e3:(a/8==30)=decide (240<=a/\a<=247):=by rw[nL];grind
 rw[e1,e2,e3];have v: ∀n:Nat,Utf8.valid (n:Int)=decide (n<55296\/(57344<=n/\n<=1114111)):=by
  grind[Utf8.valid]
 rw[v,v];simp only[Utf8.runeError,aS,yi,ge_iff_le];by_cases c0:a<128
 .rw[bx c0,bx c0]
 rw[aY c0,aY c0];by_cases r1:192<=a/\a<=223
 .have n1: ¬(224<=a/\a<=239):=AC
  have n2: ¬(240<=a/\a<=244):=AC
  have n3: ¬(240<=a/\a<=247):=AC
  simp only[r1,n1,n2,n3,false_and,ot,true_and,and_true];by_cases cb:128<=b/\b<=191
  .simp only[cb,and_true,nM,and_self]
   by_cases c2:194<=a
   .rw[bx AC,bx AC,FM]
    omega
   grind
  grind
 .by_cases r2:224<=a/\a<=239
  .have n1: ¬(194<=a/\a<=223):=AC
   have n2: ¬(240<=a/\a<=244):=AC
   have n3: ¬(240<=a/\a<=247):=AC
   simp only[r1,r2,n1,n2,n3,false_and,ot,true_and];by_cases k:(128<=b/\b<=191)/\128<=c/\c<=191
   .rw[bx k]
    by_cases k2:((if a=224 then 160 else 128)<=b/\b<=if a=237 then 159 else 191)/\128<=c/\c<=191
    .rw[bx k2]
     split at k2<;>split at k2<;>(rw[bx AC,FM];exact⟨AC,rfl⟩)
    grind
   grind
  .have n1: ¬(194<=a/\a<=223):=AC
   simp only[r1,r2,n1,false_and,ot];by_cases k:(240<=a/\a<=247)/\(128<=b/\b<=191)/\(128<=c/\c<=191)/\128<=d/\d<=191
   .rw[bx AC]
    by_cases k2:(240<=a/\a<=244)/\((if a=240 then 144 else 128)<=b/\b<=if a=244 then 143 else 191)/\(128<=c/\c<=191)/\128<=d/\d<=191
    .rw[bx k2]
     split at k2<;>split at k2<;>(rw[bx AC,FM];exact⟨AC,rfl⟩)
    grind
   .rw[aY AC,aY]
    grind
theorem Gy (s:aj) (i:Nat):1<=(dec s i).2/\(dec s i).2<=4:=by
 rw[Cf];grind
theorem ZwV (s:aj) (i:Nat) (hi:i<s.length):((dec s i).1<128/\(dec s i).2=1/\oc s i=(dec s i).1)\/
  (128<=(dec s i).1/\i+(dec s i).2<=s.length/\∀k,k<(dec s i).2->128<=oc s (i+k)):=by
 have out: ∀k,0<oc s k->k<s.length:=λk h=>by
  rcases jw k s.length with h'|h'
  .exact h'
  .rw[Oc h']at h;omega
 rw[Cf];by_cases c0:oc s i<128
 .rw[bx c0];omega
 rw[aY c0];refine .inr ?_;by_cases c2:(194<=oc s i/\oc s i<=223)/\(128<=oc s (i+1)/\oc s (i+1)<=191)
 .rw[bx c2]
  grind
 rw[aY c2];by_cases c3:(224<=oc s i/\oc s i<=239)/\((if oc s i=224 then 160 else 128)<=oc s (i+1)/\oc s (i+1)<=(if oc s i=237 then 159 else 191))/\(128<=oc s (i+2)/\oc s (i+2)<=191)
 .rw[bx c3]
  grind
 rw[aY c3];by_cases c4:(240<=oc s i/\oc s i<=244)/\((if oc s i=240 then 144 else 128)<=oc s (i+1)/\oc s (i+1)<=(if oc s i=244 then 143 else 191))/\(128<=oc s (i+2)/\oc s (i+2)<=191)/\(128<=oc s (i+3)/\oc s (i+3)<=191)
 .rw[bx c4]
  refine⟨?_,by have:=out (i+3) AC;simp only;omega,λk hk=>?_⟩
  .grind
  grind
 rw[aY c4];grind
theorem Xe (s:aj) (i:Nat) (hi:i<s.length):i+(dec s i).2<=s.length:=by
 rcases ZwV s i hi with⟨_,h,_⟩|⟨_,h,_⟩<;>omega
theorem ZzI (s:aj) (p i:Nat):dec (s.drop p) i=dec s (p+i):=by
 rw[Cf,Cf];simp only[ZAg,vI]
def dK (s:aj):al:=if _h:s.length=0 then[]else(dec s 0).1::dK (s.drop (dec s 0).2)
termination_by s.length
decreasing_by
 have:=Gy s 0;rw[dY];omega
theorem WG:dK []=[]:=by rw[dK];rfl
theorem NF {s:aj} (h:0<s.length):dK s=(dec s 0).1::dK (s.drop (dec s 0).2):=by rw[dK,dif_neg AC]
theorem N3 (s:aj):(dK s).length<=s.length:=by
 by_cases h:s.length=0
 .rw[dK,dif_pos h];exact cN _
 .have:=Gy s 0
  have ih:=N3 (s.drop (dec s 0).2);rw[NF AC];grind
termination_by s.length
decreasing_by
 grind
