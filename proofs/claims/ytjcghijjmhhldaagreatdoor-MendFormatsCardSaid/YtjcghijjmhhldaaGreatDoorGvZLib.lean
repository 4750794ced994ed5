/- Words for proofs over the machine's functions. -/
import Derived.Test.YtjcghijjmhhldaaGreatDoorGvZOps
import Derived.IntWalk
set_option linter.all false
namespace Go.Gv.F
variable {β:Type}
@[simp] theorem aA (b : Bool) (r : af) (K : Bool -> af -> M β) : ko (.bool b :: r) K = K b r := rfl
@[simp] theorem V6 (k : IntKind) : pd k k = true := by cases k <;> rfl
@[simp] theorem bm (k : IntKind) (n : Int) (K : Int -> M β) : dj k (.int k n) K = K n := by unfold dj; simp only [V6, aa]
@[simp] theorem ar (k : IntKind) (n : Int) (r : af) (K : Int -> af -> M β) : az k (.int k n :: r) K = K n r := by unfold az; rw [im, bm]
@[simp] theorem fL (l : aj) (r : af) (K : aj -> af -> M β) : gY (.str l :: r) K = K l r := rfl
@[simp] theorem bF (a : Option (Nat × Nat)) (r : af) (K : Option (Nat × Nat) -> af -> M β) : eW (.ptr a :: r) K = K a r := rfl
@[simp] theorem cU (cs r : af) (K : af -> af -> M β) : bW (.agg cs :: r) K = K cs r := rfl
@[simp] theorem J_n (n : Nat) (r : af) (K : Nat -> af -> M β) : O2 (.nat n :: r) K = K n r := rfl
@[simp] theorem vF (d : DV) (r : af) (K : DV -> af -> M β) : O1 (d :: r) K = K d r := rfl
@[simp] theorem eH (sz : Nat) (a : Option (Nat × Nat)) (n : Nat) (K : Option (Nat × Nat) -> Nat -> M β) : bJ sz (.slice sz a n) K = K a n := by
 unfold bJ;simp
@[simp] theorem Re (sz z n : Nat) (K : Option (Nat × Nat) -> Nat -> M β) : bJ sz (.slice z none n) K = K none n := by
 unfold bJ;simp
@[simp] theorem bd (sz : Nat) (a : Option (Nat × Nat)) (n : Nat) (r : af) (K : Option (Nat × Nat) -> Nat -> af -> M β) : cj sz (.slice sz a n :: r) K = K a n r := by
 unfold cj;rw[im,eH]
@[simp] theorem OW (sz z n : Nat) (r : af) (K : Option (Nat × Nat) -> Nat -> af -> M β) : cj sz (.slice z none n :: r) K = K none n r := by
 unfold cj;rw[im,Re]
@[simp] theorem ao (K : M β) : aL [] K = K := rfl
@[simp] theorem Rf (l : aj) (K : aj -> M β) : Bn (.str l) K = K l := rfl
@[simp] theorem qQ (b : Bool) (K : Bool -> M β) : p7 (.bool b) K = K b := rfl
@[simp] theorem WL (d : DV) (r : af) (K : DV -> af -> M β) : im (d :: r) K = K d r := rfl
@[simp] theorem WW (K : M β) : aJ true K = K := rfl
theorem Zg {b:Bool} (h:b=true) (K:M β):aJ b K=K:=by rw[h];rfl
@[simp] theorem aD (i o : Nat) (K : Nat -> Nat -> M β) : aF (some (i, o)) K = K i o := rfl
theorem Zi (f:af->M β) (g:(af->M β)->M β):dU f g=g f:=Ff f g
theorem Zsr (c x y:Bool) (f:af->M β):(dU f λjk=>bif c then jk [.bool x]else jk [.bool y])=f [.bool (bif c then x else y)]:=by rw[Ff];cases c<;>rfl
theorem Zh (ds:β) (s:St):au ds s=some (.val ds,s):=rfl
theorem ZE (b:Nat) (ds:β) (s:St):gk b ds s=some (.val ds,ZX b s):=rfl
theorem mW (f:Nat->M β) (s:St):kS f s=f s.length s:=rfl
variable {f:Bool} {d:DV} {i j lim m n o sz:Nat} {c s s' s0:St} {P:St->Prop} {α:Type} {all ds:af}
theorem Zj {m:M α} {K:α->M β} {ds:α} (h:m s=some (.val ds,s')):cK m K s=K ds s':=by unfold cK;rw[h]
theorem Zb (Bd:Ze) (n g:Nat) (args:af):run Bd (n+1) g args=Bd g (run Bd n) n args:=rfl
def Ok (P:Out β×St->Prop) (x:Option (Out β×St)):Prop:=∃o,x=some o/\P o
theorem Ok.mk {P:Out β×St->Prop} {o:Out β×St} (h:P o):Ok P (some o):=⟨o,rfl,h⟩
variable {Q:Out β×St->Prop}
theorem Ok.mono {P:Out β×St->Prop} {x:Option (Out β×St)} (h:Ok P x) (k: ∀o,P o->Q o):Ok Q x:=by
 have⟨o,e,p⟩:=h;exact⟨o,e,k o p⟩
theorem Ok.call {P:Out α×St->Prop} {m:M α} {K:α->M β} (h:Ok P (m s)) (k: ∀o,P o->∃ds s',o=(.val ds,s')/\Ok Q (K ds s')):Ok Q (cK m K s):=by
 have⟨o,e,p⟩:=h;obtain⟨ds,s',rfl,hq⟩:=k o p;rw[Zj e];exact hq
theorem Ok.cv {m:M α} {K:α->M β} {ds:α} (h:Ok (λo=>∃s',o=(.val ds,s')/\P s') (m s)) (k: ∀s',P s'->Ok Q (K ds s')):Ok Q (cK m K s):=
 h.call λ_ ⟨s',e,p⟩=>⟨_,s',e,k s' p⟩
theorem Ok.Pl {P:Out α×St->Prop} {m:M α} {K:α->M β} (h:Ok P (m s)) (k: ∀o,P o->∃ds s',o=(.val ds,s')/\Ok Q (K ds s')):Ok Q (p8 m K s):=by
 have⟨o,e,p⟩:=h;obtain⟨ds,s',rfl,hq⟩:=k o p;unfold p8;rw[e];exact hq
theorem Ok.cn {m:M α} {K:α->M β} {ds:α} (h:Ok (λo=>∃s',o=(.val ds,s')/\P s') (m s)) (k: ∀s',P s'->Ok Q (K ds s')):Ok Q (p8 m K s):=
 h.Pl λ_ ⟨s',e,p⟩=>⟨_,s',e,k s' p⟩
theorem Zr (sz z:Nat) (a:ah) (n:Nat) (h:z=sz\/a=none) (r:af) (K:ah->Nat->af->M β):cj sz (.slice z a n::r) K=K a n r:=by
 rcases h with rfl|rfl
 .simp
 simp
theorem Zn {F:(af->M β)->af->M β} (Q:Out β×St->Prop) (I:Nat->af->St->Prop)
  (Cs: ∀k st s,I k st s->∀rec:af->M β,(∀k' sf s',k'<k->I k' sf s'->Ok Q (rec sf s'))->Ok Q (F rec st s)):
  ∀(k m:Nat) (st:af) (s:St),I k st s->k<m->Ok Q (dL F m st s)
 |k,0,st,s,_,hm=>absurd hm (Nat.not_lt_zero k)
 |k,m+1,st,s,hI,hm=>Cs k st s hI _ λk' sf s' hk hI'=>Zn Q I Cs k' m sf s' hI' AC
def ax (s s':St):Prop:=∃r,s'=s++r
theorem ax.refl (s:St):ax s s:=⟨[],Do⟩
theorem ax.trans {a b:St} (h:ax a b) (k:ax b c):ax a c:=by
 obtain⟨r,rfl⟩:=h;obtain⟨r',rfl⟩:=k;exact⟨r++r',Do⟩
theorem ax.len (h:ax s s'):s.length<=s'.length:=by obtain⟨r,rfl⟩:=h;simp
theorem ax.get (h:ax s s') {b:Option aH} (e:s[i]? =some b):s'[i]? =some b:=by
 obtain⟨r,rfl⟩:=h;have:i<s.length:=(cF.1 e).1;rw[lj this];exact e
theorem sL {m:M α} {K:α->M β} {ds:α} (h:m s=some (.val ds,s')) (hp:ax s s'):nf m K s=K ds s':=by
 unfold nf;rw[h];simp only;exact bO hp
theorem vU {m:M α} {K:α->M β} {ds:α} (h:m s=some (.val ds,s')):p8 m K s=K ds s':=by
 unfold p8;rw[h]
theorem ax.new (s:St) (b:Option aH):ax s (s++[b]):=⟨[b],rfl⟩
theorem Zv (cells:af) (K:Nat->M β) (s:St):bH cells K s=K s.length (s++[some ⟨false,cells⟩]):=rfl
def Sl (s:St) (a:ah) (cs:af):Prop:=
 match a with
 |none=>cs=[]
 |some (i,o)=>∃f all,s[i]? =some (some ⟨f,all⟩)/\o+cs.length<=all.length/\(all.drop o).take cs.length=cs
theorem Sl.nil (s:St):Sl s none []:=rfl
theorem Sl.mono (h:ax s s') {a:ah} {cs:af} (k:Sl s a cs):Sl s' a cs:=by
 cases a with
 |none=>exact k
 |some p=>have⟨f,all,h1,h2⟩:=k;exact⟨f,all,h.get h1,h2⟩
theorem Sl.get {cs:af} (h:Sl s (some (i,o)) cs) (hd:cs[j]? =some d) (K:DV->M β):bc i (j+o) K s=K d s:=by
 have⟨f,all,h1,h2,h3⟩:=h;grind[bc,St.cells]
theorem Sl.fj {cs:af} (h:Sl s (some (i,o)) cs) (hd:cs[j]? =some d) (K:DV->M β):bc i (j*1+o) K s=K d s:=by
 rw[cL];exact h.get hd K
theorem Sl.dP {a:ah} {cs:af} (h:Sl s a cs) (hn:0<cs.length): ∃i o,a=some (i,o):=by
 cases a with
 |none=>rw[show cs=[]from h]at hn;cases hn
 |some p=>grind
theorem ZM (h:s[i]? =some (some ⟨f,all⟩)) (hn:o+n<=all.length) (K:af->M β):bP i o n K s=K ((all.drop o).take n) s:=by
 unfold bP St.cells;rw[h];simp only[fE hn,aa]
theorem Zf (h:s[i]? =some (some ⟨f,all⟩)) (hd:all[o]? =some d) (K:DV->M β):bc i o K s=K d s:=by
 grind[bc,St.cells]
theorem kA {a:ah} {cs:af} (h:Sl s a cs) (K:af->M β):gJ a cs.length K s=K cs s:=by
 cases a with
 |none=>rw[show cs=[]from h];rfl
 |some p=>
  have⟨f,all,h1,h2,h3⟩:=h;show bP p.1 p.2 _ K s=_;rw[ZM h1 h2,h3]
def bn (s0 s:St) (a:ah) (cs:af):Prop:=
 ax s0 s/\((a=none/\cs=[])\/∃i,a=some (i,0)/\s0.length<=i/\s[i]? =some (some ⟨false,cs⟩))
theorem bn.nil (h:ax s0 s):bn s0 s none []:=⟨h,.inl ⟨rfl,rfl⟩⟩
theorem bn.sl {a:ah} {cs:af} (h:bn s0 s a cs):Sl s a cs:=by
 rcases h.2 with⟨rfl,rfl⟩|⟨i,rfl,_,h⟩
 .rfl
 .exact⟨false,cs,h,Do,Do⟩
theorem bn.mono {a:ah} {cs:af} (h:bn s0 s a cs) (k:ax s s'):bn s0 s' a cs:=
 ⟨h.1.trans k,h.2.imp id λ⟨i,h1,h2,h3⟩=>⟨i,h1,h2,k.get h3⟩⟩
theorem kP (h:ax s0 s) (hi:s0.length<=i) (b:Option aH):ax s0 (s.set i b):=by
 obtain⟨r,rfl⟩:=h;exact⟨r.set (i-s0.length) b,by rw[xx _ _ hi]⟩
theorem bn.app {a:ah} {cs:af} (h:bn s0 s a cs) (hz:0<sz) (hn:cs.length=n*sz) (hm:0<m) (hl:n+m<=lim):
  ∃p s',bn s0 s' p (cs++ds)/\∀K:ah->M β,cB sz a n ds m lim K s=K p s':=by
 have hb:Nat.beq m 0=false:=by cases m with|zero=>cases hm|succ m=>rfl
 rcases h.2 with⟨rfl,rfl⟩|⟨i,rfl,hi,hs⟩
 .have h0:n=0:=by
   rcases Ab.1 (show n*sz=0 by simpa using hn.symm)with h|h
   .exact h
   .omega
  subst h0;refine⟨some (s.length,0),s++[some ⟨false,ds⟩],⟨h.1.trans (.new _ _),.inr ⟨s.length,rfl,h.1.len,Do⟩⟩,λK=>?_⟩;unfold cB;rw[hb,fE hl,aa,ae];rfl
 .have cX:s.fJ i=some cs:=by grind[St.fJ]
  refine⟨some (s.length,0),s.set i none++[some ⟨false,cs++ds⟩],⟨(kP h.1 hi none).trans (.new _ _),Fd⟩,λK=>?_⟩;unfold cB;simp only[hb,fE hl,aa,ae,cX];rw[ei,fE AC];grind
theorem bn.push {a:ah} {cs:af} (h:bn s0 s a cs) (ds:af) (hz:0<sz) (hn:cs.length=n*sz) (hd:ds.length=sz) (hl:n+1<=lim):
  ∃p s',bn s0 s' p (cs++ds)/\∀K:ah->M β,(bH ds λi=>bP i 0 sz λcs'=>cB sz a n cs' 1 lim K) s=K p s':=by
 have⟨p,s',h1,h2⟩:=(h.mono (.new s (some ⟨false,ds⟩))).app (β:=β) (ds:=ds) hz hn (vz 0) hl;refine⟨p,s',h1,λK=>?_⟩;rw[Zv,ZM (f:=false) (all:=ds) Do AC,eG,dJ AC];exact h2 K
theorem ZtT (k:Nat) {cs:af} (h:s[i]? =some (some ⟨f,cs⟩)): ∃f',(ZX k s)[i]? =some (some ⟨f',cs⟩):=by
 grind[ZX]
theorem Sl.jS {a:ah} {cs:af} (h:Sl s a cs) (k:Nat):Sl (ZX k s) a cs:=by
 cases a with
 |none=>exact h
 |some p=>
  have⟨f,all,h1,h2⟩:=h;have⟨f',h1⟩:=ZtT k h1;exact⟨f',all,h1,h2⟩
theorem ZK (h:ax s0 s):ax s0 (ZX s0.length s):=by
 obtain⟨r,rfl⟩:=h;exact⟨_,by unfold ZX;rw[xz,List.drop_left]⟩
def Kp (s s':St):Prop:=∀(i:Nat) (all:af),s[i]? =some (some ⟨true,all⟩)->s'[i]? =some (some ⟨true,all⟩)
theorem Kp.refl (s:St):Kp s s:=λ_ _ h=>h
theorem Kp.trans {a b:St} (h:Kp a b) (k:Kp b c):Kp a c:=λi all e=>k i all (h i all e)
theorem ax.kp (h:ax s s'):Kp s s':=λ_ _ e=>h.get e
theorem Kp.set {s:St} {i:Nat} {cs:af} (h:s[i]? =some (some ⟨false,cs⟩)) (b:Option aH):Kp s (s.set i b):=by
 intro j all e;grind
theorem L8 (k:Nat) (s:St):Kp s (ZX k s):=by
 intro i all h;grind[ZX]
def Fr (s:St) (a:ah):Prop:=∀i o,a=some (i,o)->∃all,s[i]? =some (some ⟨true,all⟩)
theorem Fr.none (s:St):Fr s none:=λ_ _ h=>by cases h
def Fz (s:St) (a:ah) (cs:af):Prop:=Sl s a cs/\Fr s a
theorem Fz.nil (s:St):Fz s none []:=⟨Sl.nil s,Fr.none s⟩
theorem Fz.kp {a:ah} {cs:af} (h:Fz s a cs) (k:Kp s s'):Fz s' a cs:=by
 have⟨h,f⟩:=h;cases a with
 |none=>exact⟨h,Fr.none _⟩
 |some p=>
  have⟨i,o⟩:=p;have⟨all,e⟩:=f i o rfl;have⟨f',WT,h1,h2⟩:=h;rw[e]at h1;cases h1;exact⟨⟨true,all,k i all e,h2⟩,λi' o' e'=>by cases e';exact⟨all,k i all e⟩⟩
theorem Fz.pre {a:ah} {cs:af} (h:Fz s a cs) (k:ax s s'):Fz s' a cs:=h.kp k.kp
theorem bn.fr {a:ah} {cs:af} (h:bn s0 s a cs):Fr (ZX s0.length s) a:=by
 rcases h.2 with⟨rfl,_⟩|⟨i,rfl,hi,hs⟩
 .exact Fr.none _
 .intro i' o' e
  cases e;refine⟨cs,?_⟩;grind[ZX]
theorem bn.fz {a:ah} {cs:af} (h:bn s0 s a cs):Fz (ZX s0.length s) a cs:=⟨h.sl.jS _,h.fr⟩
theorem Sl.fz {a:ah} {cs:af} (h:Sl s a cs) (hf: ∀(i:Nat) (b:Option aH),s[i]? =some b->∃cs,b=some ⟨true,cs⟩):Fz s a cs:=by
 refine⟨h,?_⟩;intro i o e;subst e;have⟨f,all,h1,_⟩:=h;grind
theorem bn.Rm {a:ah} {cs:af} (h:bn s0 s a cs) (hz:0<sz) (hn:cs.length=n*sz) (hm:0<m) (hl:n+m<=lim):
  ∃p s',bn s0 s' p (cs++ds)/\Kp s s'/\∀K:ah->M β,cB sz a n ds m lim K s=K p s':=by
 have hb:Nat.beq m 0=false:=by cases m with|zero=>cases hm|succ m=>rfl
 rcases h.2 with⟨rfl,rfl⟩|⟨i,rfl,hi,hs⟩
 .have h0:n=0:=by
   rcases Ab.1 (show n*sz=0 by simpa using hn.symm)with h|h
   .exact h
   .omega
  subst h0;refine⟨some (s.length,0),s++[some ⟨false,ds⟩],⟨h.1.trans (.new _ _),.inr ⟨s.length,rfl,h.1.len,Do⟩⟩,(ax.new _ _).kp,λK=>?_⟩;unfold cB;rw[hb,fE hl,aa,ae];rfl
 .have cX:s.fJ i=some cs:=by grind[St.fJ]
  refine⟨some (s.length,0),s.set i none++[some ⟨false,cs++ds⟩],⟨(kP h.1 hi none).trans (.new _ _),Fd⟩,(Kp.set hs none).trans (ax.new _ _).kp,λK=>?_⟩;unfold cB;simp only[hb,fE hl,aa,ae,cX];rw[ei,fE AC];grind
theorem bn.CQ {a:ah} {cs:af} (h:bn s0 s a cs) (ds:af) (hz:0<sz) (hn:cs.length=n*sz) (hd:ds.length=sz) (hl:n+1<=lim):
  ∃p s',bn s0 s' p (cs++ds)/\Kp s s'/\∀K:ah->M β,(bH ds λi=>bP i 0 sz λcs'=>cB sz a n cs' 1 lim K) s=K p s':=by
 have⟨p,s',h1,h3,h2⟩:=(h.mono (.new s (some ⟨false,ds⟩))).Rm (β:=β) (ds:=ds) hz hn (vz 0) hl;refine⟨p,s',h1,(ax.new _ _).kp.trans h3,λK=>?_⟩;rw[Zv,ZM (f:=false) (all:=ds) Do AC,eG,dJ AC];exact h2 K
def Rows (s:St) (ds:af) (xs:List af):Prop:=ds.length=xs.length/\∀(j:Nat) (cs:af),xs[j]? =some cs->∃a,ds[j]? =some (.slice 1 a cs.length)/\Fz s a cs
def oc (s:aj) (i:Nat):Nat:=(s.getD i 0).toNat
theorem ZtP (s:aj) (p i:Nat):oc (s.drop p) i=oc s (p+i):=by
 simp[oc]
theorem ZrT {s:aj} (h:s.length<=i):oc s i=0:=by
 simp_all[oc]
theorem Zip (s:aj) (i:Nat):dec s i=
  if oc s i<128 then(oc s i,1)
  else if (194<=oc s i/\oc s i<=223)/\(128<=oc s (i+1)/\oc s (i+1)<=191)then((oc s i-192)*64+(oc s (i+1)-128),2)
  else if (224<=oc s i/\oc s i<=239)/\((if oc s i=224 then 160 else 128)<=oc s (i+1)/\oc s (i+1)<=(if oc s i=237 then 159 else 191))/\(128<=oc s (i+2)/\oc s (i+2)<=191)then
   ((oc s i-224)*4096+(oc s (i+1)-128)*64+(oc s (i+2)-128),3)
  else if (240<=oc s i/\oc s i<=244)/\((if oc s i=240 then 144 else 128)<=oc s (i+1)/\oc s (i+1)<=(if oc s i=244 then 143 else 191))/\(128<=oc s (i+2)/\oc s (i+2)<=191)/\(128<=oc s (i+3)/\oc s (i+3)<=191)then
   ((oc s i-240)*262144+(oc s (i+1)-128)*4096+(oc s (i+2)-128)*64+(oc s (i+3)-128),4)
  else(65533,1):=by
 have cont: ∀k,(decide (i+k<s.length)&&oc s (i+k)/64==2)=decide (128<=oc s (i+k)/\oc s (i+k)<=191):=by
  intro k;rw[zX];simp only[aZ,vB,beq_iff_eq];constructor
  .omega
  .intro h
   refine⟨?_,AC⟩;rcases jd (i+k) s.length with h'|h'
   .exact h'
   .rw[ZrT h']at h;omega
 have e:dec s i=(if oc s i<0x80 then(oc s i,1)
  else if (oc s i/32==6&&(decide (i+1<s.length)&&oc s (i+1)/64==2))=true then
   (if (oc s i%32)*64+oc s (i+1)%64>=0x80 then((oc s i%32)*64+oc s (i+1)%64,2)else(Utf8.runeError,1))
  else if (oc s i/16==14&&(decide (i+1<s.length)&&oc s (i+1)/64==2)&&(decide (i+2<s.length)&&oc s (i+2)/64==2))=true then
   (if ((oc s i%16)*4096+(oc s (i+1)%64)*64+oc s (i+2)%64>=0x800&&Utf8.valid (((oc s i%16)*4096+(oc s (i+1)%64)*64+oc s (i+2)%64:Nat):Int))=true then((oc s i%16)*4096+(oc s (i+1)%64)*64+oc s (i+2)%64,3)else(Utf8.runeError,1))
  else if (oc s i/8==30&&(decide (i+1<s.length)&&oc s (i+1)/64==2)&&(decide (i+2<s.length)&&oc s (i+2)/64==2)&&(decide (i+3<s.length)&&oc s (i+3)/64==2))=true then
   (if ((oc s i%8)*262144+(oc s (i+1)%64)*4096+(oc s (i+2)%64)*64+oc s (i+3)%64>=0x10000&&Utf8.valid (((oc s i%8)*262144+(oc s (i+1)%64)*4096+(oc s (i+2)%64)*64+oc s (i+3)%64:Nat):Int))=true then
    ((oc s i%8)*262144+(oc s (i+1)%64)*4096+(oc s (i+2)%64)*64+oc s (i+3)%64,4)else(Utf8.runeError,1))
  else(Utf8.runeError,1)):=rfl
 rw[e,cont 1,cont 2,cont 3];generalize oc s i=a at*
 generalize oc s (i+1)=b at*
 generalize oc s (i+2)=c at*
 generalize oc s (i+3)=d at*
 have e1:(a/32==6)=decide (192<=a/\a<=223):=by rw[zX];grind
 have e2:(a/16==14)=decide (224<=a/\a<=239):=by rw[zX];grind
 have e3:(a/8==30)=decide (240<=a/\a<=247):=by rw[zX];grind
 rw[e1,e2,e3];have v: ∀n:Nat,Utf8.valid (n:Int)=decide (n<55296\/(57344<=n/\n<=1114111)):=by
  grind[Utf8.valid]
 rw[v,v];simp only[Utf8.runeError,aZ,vB,ge_iff_le];by_cases c0:a<128
 .rw[bO c0,bO c0]
 rw[cG c0,cG c0];by_cases r1:192<=a/\a<=223
 .have n1: ¬(224<=a/\a<=239):=AC
  have n2: ¬(240<=a/\a<=244):=AC
  have n3: ¬(240<=a/\a<=247):=AC
  simp only[r1,n1,n2,n3,false_and,ke,true_and,and_true];by_cases cb:128<=b/\b<=191
  .simp only[cb,and_true,ju,and_self]
   by_cases c2:194<=a
   .rw[bO AC,bO AC,xF]
    omega
   grind
  grind
 .by_cases r2:224<=a/\a<=239
  .have n1: ¬(194<=a/\a<=223):=AC
   have n2: ¬(240<=a/\a<=244):=AC
   have n3: ¬(240<=a/\a<=247):=AC
   simp only[r1,r2,n1,n2,n3,false_and,ke,true_and];by_cases k:(128<=b/\b<=191)/\128<=c/\c<=191
   .rw[bO k]
    by_cases k2:((if a=224 then 160 else 128)<=b/\b<=if a=237 then 159 else 191)/\128<=c/\c<=191
    .rw[bO k2]
     split at k2<;>split at k2<;>(rw[bO AC,xF];exact⟨AC,rfl⟩)
    grind
   grind
  .have n1: ¬(194<=a/\a<=223):=AC
   simp only[r1,r2,n1,false_and,ke];by_cases k:(240<=a/\a<=247)/\(128<=b/\b<=191)/\(128<=c/\c<=191)/\128<=d/\d<=191
   .rw[bO AC]
    by_cases k2:(240<=a/\a<=244)/\((if a=240 then 144 else 128)<=b/\b<=if a=244 then 143 else 191)/\(128<=c/\c<=191)/\128<=d/\d<=191
    .rw[bO k2]
     split at k2<;>split at k2<;>(rw[bO AC,xF];exact⟨AC,rfl⟩)
    grind
   .rw[cG AC,cG]
    grind
theorem EE (s:aj) (i:Nat):1<=(dec s i).2/\(dec s i).2<=4:=by
 rw[Zip];grind
theorem ZrV (s:aj) (i:Nat) (hi:i<s.length):((dec s i).1<128/\(dec s i).2=1/\oc s i=(dec s i).1)\/
  (128<=(dec s i).1/\i+(dec s i).2<=s.length/\∀k,k<(dec s i).2->128<=oc s (i+k)):=by
 have out: ∀k,0<oc s k->k<s.length:=λk h=>by
  rcases jd k s.length with h'|h'
  .exact h'
  .rw[ZrT h']at h;omega
 rw[Zip];by_cases c0:oc s i<128
 .rw[bO c0];omega
 rw[cG c0];refine .inr ?_;by_cases c2:(194<=oc s i/\oc s i<=223)/\(128<=oc s (i+1)/\oc s (i+1)<=191)
 .rw[bO c2]
  grind
 rw[cG c2];by_cases c3:(224<=oc s i/\oc s i<=239)/\((if oc s i=224 then 160 else 128)<=oc s (i+1)/\oc s (i+1)<=(if oc s i=237 then 159 else 191))/\(128<=oc s (i+2)/\oc s (i+2)<=191)
 .rw[bO c3]
  grind
 rw[cG c3];by_cases c4:(240<=oc s i/\oc s i<=244)/\((if oc s i=240 then 144 else 128)<=oc s (i+1)/\oc s (i+1)<=(if oc s i=244 then 143 else 191))/\(128<=oc s (i+2)/\oc s (i+2)<=191)/\(128<=oc s (i+3)/\oc s (i+3)<=191)
 .rw[bO c4]
  refine⟨?_,by have:=out (i+3) AC;simp only;omega,λk hk=>?_⟩
  .grind
  grind
 rw[cG c4];grind
theorem Zsp (s:aj) (i:Nat) (hi:i<s.length):i+(dec s i).2<=s.length:=by
 rcases ZrV s i hi with⟨_,h,_⟩|⟨_,h,_⟩<;>omega
theorem ZsU (s:aj) (p i:Nat):dec (s.drop p) i=dec s (p+i):=by
 rw[Zip,Zip];simp only[ZtP,oy]
def fZ (s:aj):al:=if _h:s.length=0 then[]else(dec s 0).1::fZ (s.drop (dec s 0).2)
termination_by s.length
decreasing_by
 have:=EE s 0;rw[ft];omega
theorem ZqD:fZ []=[]:=by rw[fZ];rfl
theorem ZoZ {s:aj} (h:0<s.length):fZ s=(dec s 0).1::fZ (s.drop (dec s 0).2):=by rw[fZ,dif_neg AC]
theorem Zqv (s:aj):(fZ s).length<=s.length:=by
 by_cases h:s.length=0
 .rw[fZ,dif_pos h];exact eB _
 .have:=EE s 0
  have ih:=Zqv (s.drop (dec s 0).2);rw[ZoZ AC];grind
termination_by s.length
decreasing_by
 grind
end Go.Gv.F
