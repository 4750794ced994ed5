/- Words for proofs over the machine's functions. -/
import Derived.Test.YtegglibipjjblaaGreatDoorGvZOps
import Derived.IntWalk
set_option linter.all false
namespace Go.Gv.F
variable {β:Type}
@[simp] theorem au (b : Bool) (r : ah) (K : Bool -> ah -> M β) : gK (.bool b :: r) K = K b r := rfl
@[simp] theorem ajW (k : IntKind) : wg k k = true := by cases k <;> rfl
@[simp] theorem bj (k : IntKind) (n : Int) (K : Int -> M β) : de k (.int k n) K = K n := by unfold de; simp only [ajW, ae]
@[simp] theorem av (k : IntKind) (n : Int) (r : ah) (K : Int -> ah -> M β) : aC k (.int k n :: r) K = K n r := by unfold aC; rw [kP, bj]
@[simp] theorem bT (l : aj) (r : ah) (K : aj -> ah -> M β) : fa (.str l :: r) K = K l r := rfl
@[simp] theorem eO (a : Option (Nat × Nat)) (r : ah) (K : Option (Nat × Nat) -> ah -> M β) : rJ (.ptr a :: r) K = K a r := rfl
@[simp] theorem da (cs r : ah) (K : ah -> ah -> M β) : bh (.agg cs :: r) K = K cs r := rfl
@[simp] theorem J_n (n : Nat) (r : ah) (K : Nat -> ah -> M β) : abp (.nat n :: r) K = K n r := rfl
@[simp] theorem DL (d : DV) (r : ah) (K : DV -> ah -> M β) : abo (d :: r) K = K d r := rfl
@[simp] theorem kA (sz : Nat) (a : Option (Nat × Nat)) (n : Nat) (K : Option (Nat × Nat) -> Nat -> M β) : dz sz (.slice sz a n) K = K a n := by
 unfold dz;simp
@[simp] theorem ad7 (sz z n : Nat) (K : Option (Nat × Nat) -> Nat -> M β) : dz sz (.slice z none n) K = K none n := by
 unfold dz;simp
@[simp] theorem aV (sz : Nat) (a : Option (Nat × Nat)) (n : Nat) (r : ah) (K : Option (Nat × Nat) -> Nat -> ah -> M β) : bU sz (.slice sz a n :: r) K = K a n r := by
 unfold bU;rw[kP,kA]
@[simp] theorem akV (sz z n : Nat) (r : ah) (K : Option (Nat × Nat) -> Nat -> ah -> M β) : bU sz (.slice z none n :: r) K = K none n r := by
 unfold bU;rw[kP,ad7]
@[simp] theorem aq (K : M β) : aI [] K = K := rfl
@[simp] theorem xX (l : aj) (K : aj -> M β) : Cw (.str l) K = K l := rfl
@[simp] theorem sH (b : Bool) (K : Bool -> M β) : uu (.bool b) K = K b := rfl
@[simp] theorem akU (d : DV) (r : ah) (K : DV -> ah -> M β) : kP (d :: r) K = K d r := rfl
@[simp] theorem ak5 (K : M β) : aB true K = K := rfl
theorem Zb {b:Bool} (h:b=true) (K:M β):aB b K=K:=by rw[h];rfl
@[simp] theorem bc (i o : Nat) (K : Nat -> Nat -> M β) : bJ (some (i, o)) K = K i o := rfl
theorem Za (f:ah->M β) (g:(ah->M β)->M β):cT f g=g f:=Oi f g
theorem Np (c x y:Bool) (f:ah->M β):(cT f λjk=>bif c then jk [.bool x]else jk [.bool y])=f [.bool (bif c then x else y)]:=by rw[Oi];cases c<;>rfl
variable {c f:Bool} {d:DV} {i j lim m n o:Nat} {p:Prop} {s s' s0:St} {P:St->Prop} {α:Type} {cs ds:ah}
theorem aX [Decidable p] {a b:α} (h:p:=by omega):(bif decide p then a else b)=a:=by rw[aS h];rfl
theorem aZ [Decidable p] {a b:α} (h: ¬p:=by omega):(bif decide p then a else b)=b:=by rw[bM h];rfl
theorem oA {a b:α} (h:c=true):(bif c then a else b)=a:=by rw[h];rfl
theorem oz {a b:α} (h:c=false):(bif c then a else b)=b:=by rw[h];rfl
theorem Zd (ds:β) (s:St):ax ds s=some (.val ds,s):=rfl
theorem Zp (b:Nat) (ds:β) (s:St):cc b ds s=some (.val ds,Z2 b s):=rfl
theorem ZJ (f:Nat->M β) (s:St):gB f s=f s.length s:=rfl
theorem Zk {m:M α} {K:α->M β} {ds:α} (h:m s=some (.val ds,s')):cV m K s=K ds s':=by unfold cV;rw[h]
theorem Ze (Bd:Zh) (n g:Nat) (args:ah):run Bd (n+1) g args=Bd g (run Bd n) n args:=rfl
def Ok (P:Out β×St->Prop) (x:Option (Out β×St)):Prop:=∃o,x=some o/\P o
theorem Ok.mk {P:Out β×St->Prop} {o:Out β×St} (h:P o):Ok P (some o):=⟨o,rfl,h⟩
variable {Q:Out β×St->Prop}
theorem Ok.mono {P:Out β×St->Prop} {x:Option (Out β×St)} (h:Ok P x) (k: ∀o,P o->Q o):Ok Q x:=by
 have⟨o,e,p⟩:=h;exact⟨o,e,k o p⟩
theorem Ok.call {P:Out α×St->Prop} {m:M α} {K:α->M β} (h:Ok P (m s)) (k: ∀o,P o->∃ds s',o=(.val ds,s')/\Ok Q (K ds s')):Ok Q (cV m K s):=by
 have⟨o,e,p⟩:=h;obtain⟨ds,s',rfl,hq⟩:=k o p;rw[Zk e];exact hq
theorem Ok.cv {m:M α} {K:α->M β} {ds:α} (h:Ok (λo=>∃s',o=(.val ds,s')/\P s') (m s)) (k: ∀s',P s'->Ok Q (K ds s')):Ok Q (cV m K s):=
 h.call λ_ ⟨s',e,p⟩=>⟨_,s',e,k s' p⟩
theorem Ok.JR {P:Out α×St->Prop} {m:M α} {K:α->M β} (h:Ok P (m s)) (k: ∀o,P o->∃ds s',o=(.val ds,s')/\Ok Q (K ds s')):Ok Q (uv m K s):=by
 have⟨o,e,p⟩:=h;obtain⟨ds,s',rfl,hq⟩:=k o p;unfold uv;rw[e];exact hq
theorem Ok.cn {m:M α} {K:α->M β} {ds:α} (h:Ok (λo=>∃s',o=(.val ds,s')/\P s') (m s)) (k: ∀s',P s'->Ok Q (K ds s')):Ok Q (uv m K s):=
 h.JR λ_ ⟨s',e,p⟩=>⟨_,s',e,k s' p⟩
theorem Zf (sz z:Nat) (a:ai) (n:Nat) (h:z=sz\/a=none) (r:ah) (K:ai->Nat->ah->M β):bU sz (.slice z a n::r) K=K a n r:=by
 rcases h with rfl|rfl
 .simp
 simp
theorem Zj {F:(ah->M β)->ah->M β} (Q:Out β×St->Prop) (I:Nat->ah->St->Prop)
  (eF: ∀k st s,I k st s->∀rec:ah->M β,(∀k' gF s',k'<k->I k' gF s'->Ok Q (rec gF s'))->Ok Q (F rec st s)):
  ∀(k m:Nat) (st:ah) (s:St),I k st s->k<m->Ok Q (cY F m st s)
 |k,0,st,s,_,hm=>absurd hm (Nat.not_lt_zero k)
 |k,m+1,st,s,hI,hm=>eF k st s hI _ λk' gF s' hk hI'=>Zj Q I eF k' m gF s' hI' AC
def aA (s s':St):Prop:=∃r,s'=s++r
theorem aA.refl (s:St):aA s s:=⟨[],Do⟩
theorem aA.trans {a b c:St} (h:aA a b) (k:aA b c):aA a c:=by
 obtain⟨r,rfl⟩:=h;obtain⟨r',rfl⟩:=k;exact⟨r++r',Do⟩
theorem aA.len (h:aA s s'):s.length<=s'.length:=by obtain⟨r,rfl⟩:=h;simp
theorem aA.get (h:aA s s') {b:Option bO} (e:s[i]? =some b):s'[i]? =some b:=by
 obtain⟨r,rfl⟩:=h;have:i<s.length:=(eB.1 e).1;rw[mn this];exact e
theorem rj {m:M α} {K:α->M β} {ds:α} (h:m s=some (.val ds,s')) (hp:aA s s'):tc m K s=K ds s':=by
 unfold tc;rw[h];simp only;exact bG hp
theorem wS {m:M α} {K:α->M β} {ds:α} (h:m s=some (.val ds,s')):uv m K s=K ds s':=by
 unfold uv;rw[h]
theorem aA.new (s:St) (b:Option bO):aA s (s++[b]):=⟨[b],rfl⟩
theorem Zz (cells:ah) (K:Nat->M β) (s:St):ck cells K s=K s.length (s++[some ⟨false,cells⟩]):=rfl
def Sl (s:St) (a:ai) (cs:ah):Prop:=
 match a with
 |none=>cs=[]
 |some (i,o)=>∃f all,s[i]? =some (some ⟨f,all⟩)/\o+cs.length<=all.length/\(all.drop o).take cs.length=cs
theorem Sl.nil (s:St):Sl s none []:=rfl
theorem Sl.mono (h:aA s s') {a:ai} (k:Sl s a cs):Sl s' a cs:=by
 cases a with
 |none=>exact k
 |some p=>have⟨f,all,h1,h2⟩:=k;exact⟨f,all,h.get h1,h2⟩
theorem Sl.get (h:Sl s (some (i,o)) cs) (hd:cs[j]? =some d) (K:DV->M β):bD i (j+o) K s=K d s:=by
 have⟨f,all,h1,h2,h3⟩:=h;grind[bD,St.cells]
theorem Sl.dO (h:Sl s (some (i,o)) cs) (hd:cs[j]? =some d) (K:DV->M β):bD i (j*1+o) K s=K d s:=by
 rw[cS];exact h.get hd K
theorem Sl.cF {a:ai} (h:Sl s a cs) (hn:0<cs.length): ∃i o,a=some (i,o):=by
 cases a with
 |none=>rw[show cs=[]from h]at hn;cases hn
 |some p=>grind
theorem Z9 {all:ah} (h:s[i]? =some (some ⟨f,all⟩)) (hn:o+n<=all.length) (K:ah->M β):bX i o n K s=K ((all.drop o).take n) s:=by
 unfold bX St.cells;rw[h];simp only[gz hn,ae]
theorem Zo {all:ah} (h:s[i]? =some (some ⟨f,all⟩)) (hd:all[o]? =some d) (K:DV->M β):bD i o K s=K d s:=by
 grind[bD,St.cells]
theorem iC {a:ai} (h:Sl s a cs) (K:ah->M β):dx a cs.length K s=K cs s:=by
 cases a with
 |none=>rw[show cs=[]from h];rfl
 |some p=>
  have⟨f,all,h1,h2,h3⟩:=h;show bX p.1 p.2 _ K s=_;rw[Z9 h1 h2,h3]
def bg (s0 s:St) (a:ai) (cs:ah):Prop:=
 aA s0 s/\((a=none/\cs=[])\/∃i,a=some (i,0)/\s0.length<=i/\s[i]? =some (some ⟨false,cs⟩))
theorem bg.nil (h:aA s0 s):bg s0 s none []:=⟨h,.inl ⟨rfl,rfl⟩⟩
theorem bg.sl {a:ai} (h:bg s0 s a cs):Sl s a cs:=by
 rcases h.2 with⟨rfl,rfl⟩|⟨i,rfl,_,h⟩
 .rfl
 .exact⟨false,cs,h,Do,Do⟩
theorem bg.mono {a:ai} (h:bg s0 s a cs) (k:aA s s'):bg s0 s' a cs:=
 ⟨h.1.trans k,h.2.imp id λ⟨i,h1,h2,h3⟩=>⟨i,h1,h2,k.get h3⟩⟩
theorem rB (h:aA s0 s) (hi:s0.length<=i) (b:Option bO):aA s0 (s.set i b):=by
 obtain⟨r,rfl⟩:=h;exact⟨r.set (i-s0.length) b,by rw[List.set_append_right _ _ hi]⟩
theorem bg.app {a:ai} (h:bg s0 s a cs) {sz:Nat} (hz:0<sz) (hn:cs.length=n*sz) (hm:0<m) (hl:n+m<=lim):
  ∃p s',bg s0 s' p (cs++ds)/\∀K:ai->M β,cw sz a n ds m lim K s=K p s':=by
 have hb:Nat.beq m 0=false:=by cases m with|zero=>cases hm|succ m=>rfl
 rcases h.2 with⟨rfl,rfl⟩|⟨i,rfl,hi,hs⟩
 .have h0:n=0:=by
   rcases Ic.1 (show n*sz=0 by simpa using hn.symm)with h|h
   .exact h
   .omega
  subst h0;refine⟨some (s.length,0),s++[some ⟨false,ds⟩],⟨h.1.trans (.new _ _),.inr ⟨s.length,rfl,h.1.len,Do⟩⟩,λK=>?_⟩;unfold cw;rw[hb,gz hl,ae,af];rfl
 .have dX:s.gP i=some cs:=by grind[St.gP]
  refine⟨some (s.length,0),s.set i none++[some ⟨false,cs++ds⟩],⟨(rB h.1 hi none).trans (.new _ _),Fd⟩,λK=>?_⟩;unfold cw;simp only[hb,gz hl,ae,af,dX];rw[eJ,gz AC];grind
theorem bg.push {a:ai} (h:bg s0 s a cs) {sz:Nat} (ds:ah) (hz:0<sz) (hn:cs.length=n*sz) (hd:ds.length=sz) (hl:n+1<=lim):
  ∃p s',bg s0 s' p (cs++ds)/\∀K:ai->M β,(ck ds λi=>bX i 0 sz λcs'=>cw sz a n cs' 1 lim K) s=K p s':=by
 have⟨p,s',h1,h2⟩:=(h.mono (.new s (some ⟨false,ds⟩))).app (β:=β) (ds:=ds) hz hn (xU 0) hl;refine⟨p,s',h1,λK=>?_⟩;rw[Zz,Z9 (f:=false) (all:=ds) Do AC,dE,dF AC];exact h2 K
theorem Zzu (k:Nat) (h:s[i]? =some (some ⟨f,cs⟩)): ∃f',(Z2 k s)[i]? =some (some ⟨f',cs⟩):=by
 grind[Z2]
theorem Sl.dU {a:ai} (h:Sl s a cs) (k:Nat):Sl (Z2 k s) a cs:=by
 cases a with
 |none=>exact h
 |some p=>
  have⟨f,all,h1,h2⟩:=h;have⟨f',h1⟩:=Zzu k h1;exact⟨f',all,h1,h2⟩
theorem Zq (h:aA s0 s):aA s0 (Z2 s0.length s):=by
 obtain⟨r,rfl⟩:=h;exact⟨_,by unfold Z2;rw[FO,DG]⟩
def Kp (s s':St):Prop:=∀(i:Nat) (all:ah),s[i]? =some (some ⟨true,all⟩)->s'[i]? =some (some ⟨true,all⟩)
theorem Kp.refl (s:St):Kp s s:=λ_ _ h=>h
theorem Kp.trans {a b c:St} (h:Kp a b) (k:Kp b c):Kp a c:=λi all e=>k i all (h i all e)
theorem aA.kp (h:aA s s'):Kp s s':=λ_ _ e=>h.get e
theorem Kp.set {s:St} {i:Nat} {cs:ah} (h:s[i]? =some (some ⟨false,cs⟩)) (b:Option bO):Kp s (s.set i b):=by
 intro j all e;grind
theorem ZAA (k:Nat) (s:St):Kp s (Z2 k s):=by
 intro i all h;grind[Z2]
def Fr (s:St) (a:ai):Prop:=∀i o,a=some (i,o)->∃all,s[i]? =some (some ⟨true,all⟩)
theorem Fr.none (s:St):Fr s none:=λ_ _ h=>by cases h
def Fz (s:St) (a:ai) (cs:ah):Prop:=Sl s a cs/\Fr s a
theorem Fz.nil (s:St):Fz s none []:=⟨Sl.nil s,Fr.none s⟩
theorem Fz.kp {a:ai} (h:Fz s a cs) (k:Kp s s'):Fz s' a cs:=by
 have⟨h,f⟩:=h;cases a with
 |none=>exact⟨h,Fr.none _⟩
 |some p=>
  have⟨i,o⟩:=p;have⟨all,e⟩:=f i o rfl;have⟨f',JN,h1,h2⟩:=h;rw[e]at h1;cases h1;exact⟨⟨true,all,k i all e,h2⟩,λi' o' e'=>by cases e';exact⟨all,k i all e⟩⟩
theorem Fz.pre {a:ai} (h:Fz s a cs) (k:aA s s'):Fz s' a cs:=h.kp k.kp
theorem bg.fr {a:ai} (h:bg s0 s a cs):Fr (Z2 s0.length s) a:=by
 rcases h.2 with⟨rfl,_⟩|⟨i,rfl,hi,hs⟩
 .exact Fr.none _
 .intro i' o' e
  cases e;refine⟨cs,?_⟩;grind[Z2]
theorem bg.fz {a:ai} (h:bg s0 s a cs):Fz (Z2 s0.length s) a cs:=⟨h.sl.dU _,h.fr⟩
theorem Sl.fz {a:ai} (h:Sl s a cs) (hf: ∀(i:Nat) (b:Option bO),s[i]? =some b->∃cs,b=some ⟨true,cs⟩):Fz s a cs:=by
 refine⟨h,?_⟩;intro i o e;subst e;have⟨f,all,h1,_⟩:=h;grind
theorem bg.ael {a:ai} (h:bg s0 s a cs) {sz:Nat} (hz:0<sz) (hn:cs.length=n*sz) (hm:0<m) (hl:n+m<=lim):
  ∃p s',bg s0 s' p (cs++ds)/\Kp s s'/\∀K:ai->M β,cw sz a n ds m lim K s=K p s':=by
 have hb:Nat.beq m 0=false:=by cases m with|zero=>cases hm|succ m=>rfl
 rcases h.2 with⟨rfl,rfl⟩|⟨i,rfl,hi,hs⟩
 .have h0:n=0:=by
   rcases Ic.1 (show n*sz=0 by simpa using hn.symm)with h|h
   .exact h
   .omega
  subst h0;refine⟨some (s.length,0),s++[some ⟨false,ds⟩],⟨h.1.trans (.new _ _),.inr ⟨s.length,rfl,h.1.len,Do⟩⟩,(aA.new _ _).kp,λK=>?_⟩;unfold cw;rw[hb,gz hl,ae,af];rfl
 .have dX:s.gP i=some cs:=by grind[St.gP]
  refine⟨some (s.length,0),s.set i none++[some ⟨false,cs++ds⟩],⟨(rB h.1 hi none).trans (.new _ _),Fd⟩,(Kp.set hs none).trans (aA.new _ _).kp,λK=>?_⟩;unfold cw;simp only[hb,gz hl,ae,af,dX];rw[eJ,gz AC];grind
theorem bg.Dt {a:ai} (h:bg s0 s a cs) {sz:Nat} (ds:ah) (hz:0<sz) (hn:cs.length=n*sz) (hd:ds.length=sz) (hl:n+1<=lim):
  ∃p s',bg s0 s' p (cs++ds)/\Kp s s'/\∀K:ai->M β,(ck ds λi=>bX i 0 sz λcs'=>cw sz a n cs' 1 lim K) s=K p s':=by
 have⟨p,s',h1,h3,h2⟩:=(h.mono (.new s (some ⟨false,ds⟩))).ael (β:=β) (ds:=ds) hz hn (xU 0) hl;refine⟨p,s',h1,(aA.new _ _).kp.trans h3,λK=>?_⟩;rw[Zz,Z9 (f:=false) (all:=ds) Do AC,dE,dF AC];exact h2 K
def Rows (s:St) (ds:ah) (xs:List ah):Prop:=ds.length=xs.length/\∀(j:Nat) (cs:ah),xs[j]? =some cs->∃a,ds[j]? =some (.slice 1 a cs.length)/\Fz s a cs
def oc (s:aj) (i:Nat):Nat:=(s.getD i 0).toNat
theorem P9 (s:aj) (i:Nat):oc s i<256:=(s.getD i 0).toNat_lt
theorem Jb (s:aj) (i:Nat):ZV s (i:Int)=(oc s i:Int):=by unfold ZV oc;simp
theorem ZzM (s:aj) (p i:Nat):oc (s.drop p) i=oc s (p+i):=by
 simp[oc]
theorem N7 {s:aj} (h:s.length<=i):oc s i=0:=by
 simp_all[oc]
theorem Cu (s:aj) (i:Nat):dec s i=
  if oc s i<128 then(oc s i,1)
  else if (194<=oc s i/\oc s i<=223)/\(128<=oc s (i+1)/\oc s (i+1)<=191)then((oc s i-192)*64+(oc s (i+1)-128),2)
  else if (224<=oc s i/\oc s i<=239)/\((if oc s i=224 then 160 else 128)<=oc s (i+1)/\oc s (i+1)<=(if oc s i=237 then 159 else 191))/\(128<=oc s (i+2)/\oc s (i+2)<=191)then
   ((oc s i-224)*4096+(oc s (i+1)-128)*64+(oc s (i+2)-128),3)
  else if (240<=oc s i/\oc s i<=244)/\((if oc s i=240 then 144 else 128)<=oc s (i+1)/\oc s (i+1)<=(if oc s i=244 then 143 else 191))/\(128<=oc s (i+2)/\oc s (i+2)<=191)/\(128<=oc s (i+3)/\oc s (i+3)<=191)then
   ((oc s i-240)*262144+(oc s (i+1)-128)*4096+(oc s (i+2)-128)*64+(oc s (i+3)-128),4)
  else(65533,1):=by
 have cont: ∀k,(decide (i+k<s.length)&&oc s (i+k)/64==2)=decide (128<=oc s (i+k)/\oc s (i+k)<=191):=by
  intro k;rw[lS];simp only[aY,z8,va];constructor
  .omega
  .intro h
   refine⟨?_,AC⟩;rcases kz (i+k) s.length with h'|h'
   .exact h'
   .rw[N7 h']at h;omega
 have e:dec s i=(if oc s i<0x80 then(oc s i,1)
  else if (oc s i/32==6&&(decide (i+1<s.length)&&oc s (i+1)/64==2))=true then
   (if (oc s i%32)*64+oc s (i+1)%64>=0x80 then((oc s i%32)*64+oc s (i+1)%64,2)else(Utf8.runeError,1))
  else if (oc s i/16==14&&(decide (i+1<s.length)&&oc s (i+1)/64==2)&&(decide (i+2<s.length)&&oc s (i+2)/64==2))=true then
   (if ((oc s i%16)*4096+(oc s (i+1)%64)*64+oc s (i+2)%64>=0x800&&Utf8.valid (((oc s i%16)*4096+(oc s (i+1)%64)*64+oc s (i+2)%64:Nat):Int))=true then((oc s i%16)*4096+(oc s (i+1)%64)*64+oc s (i+2)%64,3)else(Utf8.runeError,1))
  else if (oc s i/8==30&&(decide (i+1<s.length)&&oc s (i+1)/64==2)&&(decide (i+2<s.length)&&oc s (i+2)/64==2)&&(decide (i+3<s.length)&&oc s (i+3)/64==2))=true then
   (if ((oc s i%8)*262144+(oc s (i+1)%64)*4096+(oc s (i+2)%64)*64+oc s (i+3)%64>=0x10000&&Utf8.valid (((oc s i%8)*262144+(oc s (i+1)%64)*4096+(oc s (i+2)%64)*64+oc s (i+3)%64:Nat):Int))=true then
    ((oc s i%8)*262144+(oc s (i+1)%64)*4096+(oc s (i+2)%64)*64+oc s (i+3)%64,4)else(Utf8.runeError,1))
  else(Utf8.runeError,1)):=rfl
 rw[e,cont 1,cont 2,cont 3];generalize oc s i=a at*
 generalize oc s (i+1)=b at*
 generalize oc s (i+2)=c at*
 generalize oc s (i+3)=d at*
 have e1:(a/32==6)=decide (192<=a/\a<=223):=by rw[lS];grind
 have e2:(a/16==14)=decide (224<=a/\a<=239):=by rw[lS];grind
 have e3:(a/8==30)=decide (240<=a/\a<=247):=by rw[lS];grind
 rw[e1,e2,e3];have v: ∀n:Nat,Utf8.valid (n:Int)=decide (n<55296\/(57344<=n/\n<=1114111)):=by
  grind[Utf8.valid]
 rw[v,v];simp only[Utf8.runeError,aY,z8,ge_iff_le];by_cases c0:a<128
 .rw[bG c0,bG c0]
 rw[bq c0,bq c0];by_cases r1:192<=a/\a<=223
 .have n1: ¬(224<=a/\a<=239):=AC
  have n2: ¬(240<=a/\a<=244):=AC
  have n3: ¬(240<=a/\a<=247):=AC
  simp only[r1,n1,n2,n3,false_and,nz,true_and,and_true];by_cases cb:128<=b/\b<=191
  .simp only[cb,and_true,mV,and_self]
   by_cases c2:194<=a
   .rw[bG AC,bG AC,FV]
    omega
   grind
  grind
 .by_cases r2:224<=a/\a<=239
  .have n1: ¬(194<=a/\a<=223):=AC
   have n2: ¬(240<=a/\a<=244):=AC
   have n3: ¬(240<=a/\a<=247):=AC
   simp only[r1,r2,n1,n2,n3,false_and,nz,true_and];by_cases k:(128<=b/\b<=191)/\128<=c/\c<=191
   .rw[bG k]
    by_cases k2:((if a=224 then 160 else 128)<=b/\b<=if a=237 then 159 else 191)/\128<=c/\c<=191
    .rw[bG k2]
     split at k2<;>split at k2<;>(rw[bG AC,FV];exact⟨AC,rfl⟩)
    grind
   grind
  .have n1: ¬(194<=a/\a<=223):=AC
   simp only[r1,r2,n1,false_and,nz];by_cases k:(240<=a/\a<=247)/\(128<=b/\b<=191)/\(128<=c/\c<=191)/\128<=d/\d<=191
   .rw[bG AC]
    by_cases k2:(240<=a/\a<=244)/\((if a=240 then 144 else 128)<=b/\b<=if a=244 then 143 else 191)/\(128<=c/\c<=191)/\128<=d/\d<=191
    .rw[bG k2]
     split at k2<;>split at k2<;>(rw[bG AC,FV];exact⟨AC,rfl⟩)
    grind
   .rw[bq AC,bq]
    grind
theorem Gz (s:aj) (i:Nat):1<=(dec s i).2/\(dec s i).2<=4:=by
 rw[Cu];grind
theorem Zxp (s:aj) (i:Nat) (hi:i<s.length):((dec s i).1<128/\(dec s i).2=1/\oc s i=(dec s i).1)\/
  (128<=(dec s i).1/\i+(dec s i).2<=s.length/\∀k,k<(dec s i).2->128<=oc s (i+k)):=by
 have out: ∀k,0<oc s k->k<s.length:=λk h=>by
  rcases kz k s.length with h'|h'
  .exact h'
  .rw[N7 h']at h;omega
 rw[Cu];by_cases c0:oc s i<128
 .rw[bG c0];omega
 rw[bq c0];refine .inr ?_;by_cases c2:(194<=oc s i/\oc s i<=223)/\(128<=oc s (i+1)/\oc s (i+1)<=191)
 .rw[bG c2]
  grind
 rw[bq c2];by_cases c3:(224<=oc s i/\oc s i<=239)/\((if oc s i=224 then 160 else 128)<=oc s (i+1)/\oc s (i+1)<=(if oc s i=237 then 159 else 191))/\(128<=oc s (i+2)/\oc s (i+2)<=191)
 .rw[bG c3]
  grind
 rw[bq c3];by_cases c4:(240<=oc s i/\oc s i<=244)/\((if oc s i=240 then 144 else 128)<=oc s (i+1)/\oc s (i+1)<=(if oc s i=244 then 143 else 191))/\(128<=oc s (i+2)/\oc s (i+2)<=191)/\(128<=oc s (i+3)/\oc s (i+3)<=191)
 .rw[bG c4]
  refine⟨?_,by have:=out (i+3) AC;simp only;omega,λk hk=>?_⟩
  .grind
  grind
 rw[bq c4];grind
theorem WQ (s:aj) (i:Nat) (hi:i<s.length):i+(dec s i).2<=s.length:=by
 rcases Zxp s i hi with⟨_,h,_⟩|⟨_,h,_⟩<;>omega
theorem Zy0 (s:aj) (p i:Nat):dec (s.drop p) i=dec s (p+i):=by
 rw[Cu,Cu];simp only[ZzM,uZ]
def dM (s:aj):al:=if _h:s.length=0 then[]else(dec s 0).1::dM (s.drop (dec s 0).2)
termination_by s.length
decreasing_by
 have:=Gz s 0;rw[eH];omega
theorem WE:dM []=[]:=by rw[dM];rfl
theorem Nz {s:aj} (h:0<s.length):dM s=(dec s 0).1::dM (s.drop (dec s 0).2):=by rw[dM,dif_neg AC]
theorem NU (s:aj):(dM s).length<=s.length:=by
 by_cases h:s.length=0
 .rw[dM,dif_pos h];exact cB _
 .have:=Gz s 0
  have ih:=NU (s.drop (dec s 0).2);rw[Nz AC];grind
termination_by s.length
decreasing_by
 grind
end Go.Gv.F
