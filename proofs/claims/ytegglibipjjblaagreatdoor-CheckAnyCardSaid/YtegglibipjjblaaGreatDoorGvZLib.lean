/- Words for proofs over the machine's functions. -/
import Derived.Test.YtegglibipjjblaaGreatDoorGvZOps
import Derived.IntWalk
set_option linter.all false
namespace Go.Gv.F
variable {β:Type}
@[simp] theorem au (b : Bool) (r : ah) (K : Bool -> ah -> M β) : gC (.b b :: r) K = K b r := rfl
@[simp] theorem ai5 (k : IntKind) : vF k k = true := by cases k <;> rfl
@[simp] theorem bg (k : IntKind) (n : Int) (K : Int -> M β) : cY k (.int k n) K = K n := by unfold cY; simp only [ai5, ae]
@[simp] theorem av (k : IntKind) (n : Int) (r : ah) (K : Int -> ah -> M β) : aD k (.int k n :: r) K = K n r := by unfold aD; rw [kE, bg]
@[simp] theorem bR (l : aj) (r : ah) (K : aj -> ah -> M β) : eR (.t l :: r) K = K l r := rfl
@[simp] theorem eH (a : Option (Nat × Nat)) (r : ah) (K : Option (Nat × Nat) -> ah -> M β) : qS (.p a :: r) K = K a r := rfl
@[simp] theorem cT (cs r : ah) (K : ah -> ah -> M β) : ba (.a cs :: r) K = K cs r := rfl
@[simp] theorem J_n (n : Nat) (r : ah) (K : Nat -> ah -> M β) : aaJ (.nat n :: r) K = K n r := rfl
@[simp] theorem Dh (d : DV) (r : ah) (K : DV -> ah -> M β) : aaI (d :: r) K = K d r := rfl
@[simp] theorem kb (sz : Nat) (a : Option (Nat × Nat)) (n : Nat) (K : Option (Nat × Nat) -> Nat -> M β) : dr sz (.s sz a n) K = K a n := by
 unfold dr;simp
@[simp] theorem adn (sz z n : Nat) (K : Option (Nat × Nat) -> Nat -> M β) : dr sz (.s z none n) K = K none n := by
 unfold dr;simp
@[simp] theorem aX (sz : Nat) (a : Option (Nat × Nat)) (n : Nat) (r : ah) (K : Option (Nat × Nat) -> Nat -> ah -> M β) : bW sz (.s sz a n :: r) K = K a n r := by
 unfold bW;rw[kE,kb]
@[simp] theorem aj1 (sz z n : Nat) (r : ah) (K : Option (Nat × Nat) -> Nat -> ah -> M β) : bW sz (.s z none n :: r) K = K none n r := by
 unfold bW;rw[kE,adn]
@[simp] theorem aq (K : M β) : aL [] K = K := rfl
@[simp] theorem zF (l : aj) (K : aj -> M β) : BW (.t l) K = K l := rfl
@[simp] theorem tq (b : Bool) (K : Bool -> M β) : tM (.b b) K = K b := rfl
@[simp] theorem aj0 (d : DV) (r : ah) (K : DV -> ah -> M β) : kE (d :: r) K = K d r := rfl
@[simp] theorem akb (K : M β) : aC true K = K := rfl
theorem Zb {b:Bool} (h:b=true) (K:M β):aC b K=K:=by rw[h];rfl
@[simp] theorem bd (i o : Nat) (K : Nat -> Nat -> M β) : bH (some (i, o)) K = K i o := rfl
theorem Za (f:ah->M β) (g:(ah->M β)->M β):cK f g=g f:=NF f g
theorem MI (c x y:Bool) (f:ah->M β):(cK f λjk=>bif c then jk [.b x]else jk [.b y])=f [.b (bif c then x else y)]:=by rw[NF];cases c<;>rfl
theorem Zd (ds:β) (s:St):ay ds s=some (.val ds,s):=rfl
theorem Zp (b:Nat) (ds:β) (s:St):bZ b ds s=some (.val ds,Z1 b s):=rfl
theorem ZM (f:Nat->M β) (s:St):gD f s=f s.length s:=rfl
variable {f:Bool} {d:DV} {i j lim m n o sz:Nat} {c s s' s0:St} {P:St->Prop} {α:Type} {all cs ds:ah}
theorem Zk {m:M α} {K:α->M β} {ds:α} (h:m s=some (.val ds,s')):cQ m K s=K ds s':=by unfold cQ;rw[h]
theorem Ze (Bd:Zh) (n g:Nat) (args:ah):run Bd (n+1) g args=Bd g (run Bd n) n args:=rfl
def Ok (P:Out β×St->Prop) (x:Option (Out β×St)):Prop:=∃o,x=some o/\P o
theorem Ok.mk {P:Out β×St->Prop} {o:Out β×St} (h:P o):Ok P (some o):=⟨o,rfl,h⟩
variable {Q:Out β×St->Prop}
theorem Ok.mono {P:Out β×St->Prop} {x:Option (Out β×St)} (h:Ok P x) (k: ∀o,P o->Q o):Ok Q x:=by
 have⟨o,e,p⟩:=h;exact⟨o,e,k o p⟩
theorem Ok.call {P:Out α×St->Prop} {m:M α} {K:α->M β} (h:Ok P (m s)) (k: ∀o,P o->∃ds s',o=(.val ds,s')/\Ok Q (K ds s')):Ok Q (cQ m K s):=by
 have⟨o,e,p⟩:=h;obtain⟨ds,s',rfl,hq⟩:=k o p;rw[Zk e];exact hq
theorem Ok.cv {m:M α} {K:α->M β} {ds:α} (h:Ok (λo=>∃s',o=(.val ds,s')/\P s') (m s)) (k: ∀s',P s'->Ok Q (K ds s')):Ok Q (cQ m K s):=
 h.call λ_ ⟨s',e,p⟩=>⟨_,s',e,k s' p⟩
theorem Ok.NP {P:Out α×St->Prop} {m:M α} {K:α->M β} (h:Ok P (m s)) (k: ∀o,P o->∃ds s',o=(.val ds,s')/\Ok Q (K ds s')):Ok Q (uZ m K s):=by
 have⟨o,e,p⟩:=h;obtain⟨ds,s',rfl,hq⟩:=k o p;unfold uZ;rw[e];exact hq
theorem Ok.cn {m:M α} {K:α->M β} {ds:α} (h:Ok (λo=>∃s',o=(.val ds,s')/\P s') (m s)) (k: ∀s',P s'->Ok Q (K ds s')):Ok Q (uZ m K s):=
 h.NP λ_ ⟨s',e,p⟩=>⟨_,s',e,k s' p⟩
theorem Zg (sz z:Nat) (a:ai) (n:Nat) (h:z=sz\/a=none) (r:ah) (K:ai->Nat->ah->M β):bW sz (.s z a n::r) K=K a n r:=by
 rcases h with rfl|rfl
 .simp
 simp
theorem Zi {F:(ah->M β)->ah->M β} (Q:Out β×St->Prop) (I:Nat->ah->St->Prop)
  (eu: ∀k st s,I k st s->∀rec:ah->M β,(∀k' gv s',k'<k->I k' gv s'->Ok Q (rec gv s'))->Ok Q (F rec st s)):
  ∀(k m:Nat) (st:ah) (s:St),I k st s->k<m->Ok Q (cS F m st s)
 |k,0,st,s,_,hm=>absurd hm (Nat.not_lt_zero k)
 |k,m+1,st,s,hI,hm=>eu k st s hI _ λk' gv s' hk hI'=>Zi Q I eu k' m gv s' hI' (by omega)
def aB (s s':St):Prop:=∃r,s'=s++r
theorem aB.refl (s:St):aB s s:=⟨[],by simp⟩
theorem aB.trans {a b:St} (h:aB a b) (k:aB b c):aB a c:=by
 obtain⟨r,rfl⟩:=h;obtain⟨r',rfl⟩:=k;exact⟨r++r',by simp⟩
theorem aB.len (h:aB s s'):s.length<=s'.length:=by obtain⟨r,rfl⟩:=h;simp
theorem aB.get (h:aB s s') {b:Option bO} (e:s[i]? =some b):s'[i]? =some b:=by
 obtain⟨r,rfl⟩:=h;have:i<s.length:=(ef.1 e).1;rw[mH this];exact e
theorem qG {m:M α} {K:α->M β} {ds:α} (h:m s=some (.val ds,s')) (hp:aB s s'):su m K s=K ds s':=by
 unfold su;rw[h];simp only;exact bE hp
theorem v8 {m:M α} {K:α->M β} {ds:α} (h:m s=some (.val ds,s')):uZ m K s=K ds s':=by
 unfold uZ;rw[h]
theorem aB.new (s:St) (b:Option bO):aB s (s++[b]):=⟨[b],rfl⟩
theorem Zz (cells:ah) (K:Nat->M β) (s:St):cd cells K s=K s.length (s++[some ⟨false,cells⟩]):=rfl
def Sl (s:St) (a:ai) (cs:ah):Prop:=
 match a with
 |none=>cs=[]
 |some (i,o)=>∃f all,s[i]? =some (some ⟨f,all⟩)/\o+cs.length<=all.length/\(all.drop o).take cs.length=cs
theorem Sl.nil (s:St):Sl s none []:=rfl
theorem Sl.mono (h:aB s s') {a:ai} (k:Sl s a cs):Sl s' a cs:=by
 cases a with
 |none=>exact k
 |some p=>have⟨f,all,h1,h2⟩:=k;exact⟨f,all,h.get h1,h2⟩
theorem Sl.get (h:Sl s (some (i,o)) cs) (hd:cs[j]? =some d) (K:DV->M β):bD i (j+o) K s=K d s:=by
 have⟨f,all,h1,h2,h3⟩:=h;grind[bD,St.cells]
theorem Sl.dJ (h:Sl s (some (i,o)) cs) (hd:cs[j]? =some d) (K:DV->M β):bD i (j*1+o) K s=K d s:=by
 rw[cR];exact h.get hd K
theorem Sl.cH {a:ai} (h:Sl s a cs) (hn:0<cs.length): ∃i o,a=some (i,o):=by
 cases a with
 |none=>rw[show cs=[]from h]at hn;cases hn
 |some p=>grind
theorem Z8 (h:s[i]? =some (some ⟨f,all⟩)) (hn:o+n<=all.length) (K:ah->M β):bS i o n K s=K ((all.drop o).take n) s:=by
 unfold bS St.cells;rw[h];simp only[gA hn,ae]
theorem Zo (h:s[i]? =some (some ⟨f,all⟩)) (hd:all[o]? =some d) (K:DV->M β):bD i o K s=K d s:=by
 grind[bD,St.cells]
theorem iR {a:ai} (h:Sl s a cs) (K:ah->M β):dy a cs.length K s=K cs s:=by
 cases a with
 |none=>rw[show cs=[]from h];rfl
 |some p=>
  have⟨f,all,h1,h2,h3⟩:=h;show bS p.1 p.2 _ K s=_;rw[Z8 h1 h2,h3]
def bm (s0 s:St) (a:ai) (cs:ah):Prop:=
 aB s0 s/\((a=none/\cs=[])\/∃i,a=some (i,0)/\s0.length<=i/\s[i]? =some (some ⟨false,cs⟩))
theorem bm.nil (h:aB s0 s):bm s0 s none []:=⟨h,.inl ⟨rfl,rfl⟩⟩
theorem bm.sl {a:ai} (h:bm s0 s a cs):Sl s a cs:=by
 rcases h.2 with⟨rfl,rfl⟩|⟨i,rfl,_,h⟩
 .rfl
 .exact⟨false,cs,h,by simp,by simp⟩
theorem bm.mono {a:ai} (h:bm s0 s a cs) (k:aB s s'):bm s0 s' a cs:=
 ⟨h.1.trans k,h.2.imp id λ⟨i,h1,h2,h3⟩=>⟨i,h1,h2,k.get h3⟩⟩
theorem tA (h:aB s0 s) (hi:s0.length<=i) (b:Option bO):aB s0 (s.set i b):=by
 obtain⟨r,rfl⟩:=h;exact⟨r.set (i-s0.length) b,by rw[List.set_append_right _ _ hi]⟩
theorem bm.app {a:ai} (h:bm s0 s a cs) (hz:0<sz) (hn:cs.length=n*sz) (hm:0<m) (hl:n+m<=lim):
  ∃p s',bm s0 s' p (cs++ds)/\∀K:ai->M β,cm sz a n ds m lim K s=K p s':=by
 have hb:Nat.beq m 0=false:=by cases m with|zero=>cases hm|succ m=>rfl
 rcases h.2 with⟨rfl,rfl⟩|⟨i,rfl,hi,hs⟩
 .have h0:n=0:=by
   rcases HF.1 (show n*sz=0 by simpa using hn.symm)with h|h
   .exact h
   .omega
  subst h0;refine⟨some (s.length,0),s++[some ⟨false,ds⟩],⟨h.1.trans (.new _ _),.inr ⟨s.length,rfl,h.1.len,by simp⟩⟩,λK=>?_⟩;unfold cm;rw[hb,gA hl,ae,af];rfl
 .have eC:s.ik i=some cs:=by grind[St.ik]
  refine⟨some (s.length,0),s.set i none++[some ⟨false,cs++ds⟩],⟨(tA h.1 hi none).trans (.new _ _),(by grind)⟩,λK=>?_⟩;unfold cm;simp only[hb,gA hl,ae,af,eC];rw[eO,gA (by omega)];grind
theorem bm.push {a:ai} (h:bm s0 s a cs) (ds:ah) (hz:0<sz) (hn:cs.length=n*sz) (hd:ds.length=sz) (hl:n+1<=lim):
  ∃p s',bm s0 s' p (cs++ds)/\∀K:ai->M β,(cd ds λi=>bS i 0 sz λcs'=>cm sz a n cs' 1 lim K) s=K p s':=by
 have⟨p,s',h1,h2⟩:=(h.mono (.new s (some ⟨false,ds⟩))).app (β:=β) (ds:=ds) hz hn (xp 0) hl;refine⟨p,s',h1,λK=>?_⟩;rw[Zz,Z8 (f:=false) (all:=ds) (by simp) (by omega),dK,dG (by omega)];exact h2 K
theorem Zzg (k:Nat) (h:s[i]? =some (some ⟨f,cs⟩)): ∃f',(Z1 k s)[i]? =some (some ⟨f',cs⟩):=by
 grind[Z1]
theorem Sl.dQ {a:ai} (h:Sl s a cs) (k:Nat):Sl (Z1 k s) a cs:=by
 cases a with
 |none=>exact h
 |some p=>
  have⟨f,all,h1,h2⟩:=h;have⟨f',h1⟩:=Zzg k h1;exact⟨f',all,h1,h2⟩
theorem Zr (h:aB s0 s):aB s0 (Z1 s0.length s):=by
 obtain⟨r,rfl⟩:=h;exact⟨_,by unfold Z1;rw[Fc,C8]⟩
def Kp (s s':St):Prop:=∀(i:Nat) (all:ah),s[i]? =some (some ⟨true,all⟩)->s'[i]? =some (some ⟨true,all⟩)
theorem Kp.refl (s:St):Kp s s:=λ_ _ h=>h
theorem Kp.trans {a b:St} (h:Kp a b) (k:Kp b c):Kp a c:=λi all e=>k i all (h i all e)
theorem aB.kp (h:aB s s'):Kp s s':=λ_ _ e=>h.get e
theorem Kp.set {s:St} {i:Nat} {cs:ah} (h:s[i]? =some (some ⟨false,cs⟩)) (b:Option bO):Kp s (s.set i b):=by
 intro j all e;grind
theorem Zz3 (k:Nat) (s:St):Kp s (Z1 k s):=by
 intro i all h;grind[Z1]
def Fr (s:St) (a:ai):Prop:=∀i o,a=some (i,o)->∃all,s[i]? =some (some ⟨true,all⟩)
theorem Fr.none (s:St):Fr s none:=λ_ _ h=>by cases h
def Fz (s:St) (a:ai) (cs:ah):Prop:=Sl s a cs/\Fr s a
theorem Fz.nil (s:St):Fz s none []:=⟨Sl.nil s,Fr.none s⟩
theorem Fz.kp {a:ai} (h:Fz s a cs) (k:Kp s s'):Fz s' a cs:=by
 have⟨h,f⟩:=h;cases a with
 |none=>exact⟨h,Fr.none _⟩
 |some p=>
  have⟨i,o⟩:=p;have⟨all,e⟩:=f i o rfl;have⟨f',Jf,h1,h2⟩:=h;rw[e]at h1;cases h1;exact⟨⟨true,all,k i all e,h2⟩,λi' o' e'=>by cases e';exact⟨all,k i all e⟩⟩
theorem Fz.pre {a:ai} (h:Fz s a cs) (k:aB s s'):Fz s' a cs:=h.kp k.kp
theorem bm.fr {a:ai} (h:bm s0 s a cs):Fr (Z1 s0.length s) a:=by
 rcases h.2 with⟨rfl,_⟩|⟨i,rfl,hi,hs⟩
 .exact Fr.none _
 .intro i' o' e
  cases e;refine⟨cs,?_⟩;grind[Z1]
theorem bm.fz {a:ai} (h:bm s0 s a cs):Fz (Z1 s0.length s) a cs:=⟨h.sl.dQ _,h.fr⟩
theorem bm.adA {a:ai} (h:bm s0 s a cs) (hz:0<sz) (hn:cs.length=n*sz) (hm:0<m) (hl:n+m<=lim):
  ∃p s',bm s0 s' p (cs++ds)/\Kp s s'/\∀K:ai->M β,cm sz a n ds m lim K s=K p s':=by
 have hb:Nat.beq m 0=false:=by cases m with|zero=>cases hm|succ m=>rfl
 rcases h.2 with⟨rfl,rfl⟩|⟨i,rfl,hi,hs⟩
 .have h0:n=0:=by
   rcases HF.1 (show n*sz=0 by simpa using hn.symm)with h|h
   .exact h
   .omega
  subst h0;refine⟨some (s.length,0),s++[some ⟨false,ds⟩],⟨h.1.trans (.new _ _),.inr ⟨s.length,rfl,h.1.len,by simp⟩⟩,(aB.new _ _).kp,λK=>?_⟩;unfold cm;rw[hb,gA hl,ae,af];rfl
 .have eC:s.ik i=some cs:=by grind[St.ik]
  refine⟨some (s.length,0),s.set i none++[some ⟨false,cs++ds⟩],⟨(tA h.1 hi none).trans (.new _ _),(by grind)⟩,(Kp.set hs none).trans (aB.new _ _).kp,λK=>?_⟩;unfold cm;simp only[hb,gA hl,ae,af,eC];rw[eO,gA (by omega)];grind
theorem bm.CV {a:ai} (h:bm s0 s a cs) (ds:ah) (hz:0<sz) (hn:cs.length=n*sz) (hd:ds.length=sz) (hl:n+1<=lim):
  ∃p s',bm s0 s' p (cs++ds)/\Kp s s'/\∀K:ai->M β,(cd ds λi=>bS i 0 sz λcs'=>cm sz a n cs' 1 lim K) s=K p s':=by
 have⟨p,s',h1,h3,h2⟩:=(h.mono (.new s (some ⟨false,ds⟩))).adA (β:=β) (ds:=ds) hz hn (xp 0) hl;refine⟨p,s',h1,(aB.new _ _).kp.trans h3,λK=>?_⟩;rw[Zz,Z8 (f:=false) (all:=ds) (by simp) (by omega),dK,dG (by omega)];exact h2 K
def Rows (s:St) (ds:ah) (xs:List ah):Prop:=ds.length=xs.length/\∀(j:Nat) (cs:ah),xs[j]? =some cs->∃a,ds[j]? =some (.s 1 a cs.length)/\Fz s a cs
def oc (s:aj) (i:Nat):Nat:=(s.getD i 0).toNat
theorem Pp (s:aj) (i:Nat):oc s i<256:=(s.getD i 0).toNat_lt
theorem IB (s:aj) (i:Nat):ZS s (i:Int)=(oc s i:Int):=by unfold ZS oc;simp
theorem Zzb (s:aj) (p i:Nat):oc (s.drop p) i=oc s (p+i):=by
 simp[oc]
theorem Ny {s:aj} (h:s.length<=i):oc s i=0:=by
 simp_all[oc]
theorem BS (s:aj) (i:Nat):dec s i=
  if oc s i<128 then(oc s i,1)
  else if (194<=oc s i/\oc s i<=223)/\(128<=oc s (i+1)/\oc s (i+1)<=191)then((oc s i-192)*64+(oc s (i+1)-128),2)
  else if (224<=oc s i/\oc s i<=239)/\((if oc s i=224 then 160 else 128)<=oc s (i+1)/\oc s (i+1)<=(if oc s i=237 then 159 else 191))/\(128<=oc s (i+2)/\oc s (i+2)<=191)then
   ((oc s i-224)*4096+(oc s (i+1)-128)*64+(oc s (i+2)-128),3)
  else if (240<=oc s i/\oc s i<=244)/\((if oc s i=240 then 144 else 128)<=oc s (i+1)/\oc s (i+1)<=(if oc s i=244 then 143 else 191))/\(128<=oc s (i+2)/\oc s (i+2)<=191)/\(128<=oc s (i+3)/\oc s (i+3)<=191)then
   ((oc s i-240)*262144+(oc s (i+1)-128)*4096+(oc s (i+2)-128)*64+(oc s (i+3)-128),4)
  else(65533,1):=by
 have cont: ∀k,(decide (i+k<s.length)&&oc s (i+k)/64==2)=decide (128<=oc s (i+k)/\oc s (i+k)<=191):=by
  intro k;rw[lE];simp only[aY,zC,uA];constructor
  .omega
  .intro h
   refine⟨?_,by omega⟩;rcases jI (i+k) s.length with h'|h'
   .exact h'
   .rw[Ny h']at h;omega
 have e:dec s i=(if oc s i<0x80 then(oc s i,1)
  else if (oc s i/32==6&&(decide (i+1<s.length)&&oc s (i+1)/64==2))=true then
   (if (oc s i%32)*64+oc s (i+1)%64>=0x80 then((oc s i%32)*64+oc s (i+1)%64,2)else(Utf8.runeError,1))
  else if (oc s i/16==14&&(decide (i+1<s.length)&&oc s (i+1)/64==2)&&(decide (i+2<s.length)&&oc s (i+2)/64==2))=true then
   (if ((oc s i%16)*4096+(oc s (i+1)%64)*64+oc s (i+2)%64>=0x800&&Utf8.valid (((oc s i%16)*4096+(oc s (i+1)%64)*64+oc s (i+2)%64:Nat):Int))=true then((oc s i%16)*4096+(oc s (i+1)%64)*64+oc s (i+2)%64,3)else(Utf8.runeError,1))
  else if (oc s i/8==30&&(decide (i+1<s.length)&&oc s (i+1)/64==2)&&(decide (i+2<s.length)&&oc s (i+2)/64==2)&&(decide (i+3<s.length)&&oc s (i+3)/64==2))=true then
   (if ((oc s i%8)*262144+(oc s (i+1)%64)*4096+(oc s (i+2)%64)*64+oc s (i+3)%64>=0x10000&&Utf8.valid (((oc s i%8)*262144+(oc s (i+1)%64)*4096+(oc s (i+2)%64)*64+oc s (i+3)%64:Nat):Int))=true then
    ((oc s i%8)*262144+(oc s (i+1)%64)*4096+(oc s (i+2)%64)*64+oc s (i+3)%64,4)else(Utf8.runeError,1))
  else(Utf8.runeError,1)):=rfl
 rw[e,cont 1,cont 2,cont 3];generalize oc s i=a at*
 generalize oc s (i+1)=b at*
 generalize oc s (i+2)=c at*
 generalize oc s (i+3)=d at*
 have e1:(a/32==6)=decide (192<=a/\a<=223):=by rw[lE];grind
 have e2:(a/16==14)=decide (224<=a/\a<=239):=by rw[lE];grind
 have e3:(a/8==30)=decide (240<=a/\a<=247):=by rw[lE];grind
 rw[e1,e2,e3];have v: ∀n:Nat,Utf8.valid (n:Int)=decide (n<55296\/(57344<=n/\n<=1114111)):=by
  grind[Utf8.valid]
 rw[v,v];simp only[Utf8.runeError,aY,zC,ge_iff_le];by_cases c0:a<128
 .rw[bE c0,bE c0]
 rw[bj c0,bj c0];by_cases r1:192<=a/\a<=223
 .have n1: ¬(224<=a/\a<=239):=by omega
  have n2: ¬(240<=a/\a<=244):=by omega
  have n3: ¬(240<=a/\a<=247):=by omega
  simp only[r1,n1,n2,n3,false_and,ng,true_and,and_true];by_cases cb:128<=b/\b<=191
  .simp only[cb,and_true,mJ,and_self]
   by_cases c2:194<=a
   .rw[bE (by omega),bE (by omega),Fk]
    omega
   grind
  grind
 .by_cases r2:224<=a/\a<=239
  .have n1: ¬(194<=a/\a<=223):=by omega
   have n2: ¬(240<=a/\a<=244):=by omega
   have n3: ¬(240<=a/\a<=247):=by omega
   simp only[r1,r2,n1,n2,n3,false_and,ng,true_and];by_cases k:(128<=b/\b<=191)/\128<=c/\c<=191
   .rw[bE k]
    by_cases k2:((if a=224 then 160 else 128)<=b/\b<=if a=237 then 159 else 191)/\128<=c/\c<=191
    .rw[bE k2]
     split at k2<;>split at k2<;>(rw[bE (by omega),Fk];exact⟨by omega,rfl⟩)
    grind
   grind
  .have n1: ¬(194<=a/\a<=223):=by omega
   simp only[r1,r2,n1,false_and,ng];by_cases k:(240<=a/\a<=247)/\(128<=b/\b<=191)/\(128<=c/\c<=191)/\128<=d/\d<=191
   .rw[bE (by omega)]
    by_cases k2:(240<=a/\a<=244)/\((if a=240 then 144 else 128)<=b/\b<=if a=244 then 143 else 191)/\(128<=c/\c<=191)/\128<=d/\d<=191
    .rw[bE k2]
     split at k2<;>split at k2<;>(rw[bE (by omega),Fk];exact⟨by omega,rfl⟩)
    grind
   .rw[bj (by omega),bj]
    grind
theorem F3 (s:aj) (i:Nat):1<=(dec s i).2/\(dec s i).2<=4:=by
 rw[BS];grind
theorem Zwj (s:aj) (i:Nat) (hi:i<s.length):((dec s i).1<128/\(dec s i).2=1/\oc s i=(dec s i).1)\/
  (128<=(dec s i).1/\i+(dec s i).2<=s.length/\∀k,k<(dec s i).2->128<=oc s (i+k)):=by
 have out: ∀k,0<oc s k->k<s.length:=λk h=>by
  rcases jI k s.length with h'|h'
  .exact h'
  .rw[Ny h']at h;omega
 rw[BS];by_cases c0:oc s i<128
 .rw[bE c0];omega
 rw[bj c0];refine .inr ?_;by_cases c2:(194<=oc s i/\oc s i<=223)/\(128<=oc s (i+1)/\oc s (i+1)<=191)
 .rw[bE c2]
  grind
 rw[bj c2];by_cases c3:(224<=oc s i/\oc s i<=239)/\((if oc s i=224 then 160 else 128)<=oc s (i+1)/\oc s (i+1)<=(if oc s i=237 then 159 else 191))/\(128<=oc s (i+2)/\oc s (i+2)<=191)
 .rw[bE c3]
  grind
 rw[bj c3];by_cases c4:(240<=oc s i/\oc s i<=244)/\((if oc s i=240 then 144 else 128)<=oc s (i+1)/\oc s (i+1)<=(if oc s i=244 then 143 else 191))/\(128<=oc s (i+2)/\oc s (i+2)<=191)/\(128<=oc s (i+3)/\oc s (i+3)<=191)
 .rw[bE c4]
  refine⟨?_,by have:=out (i+3) (by omega);simp only;omega,λk hk=>?_⟩
  .grind
  grind
 rw[bj c4];grind
theorem Wb (s:aj) (i:Nat) (hi:i<s.length):i+(dec s i).2<=s.length:=by
 rcases Zwj s i hi with⟨_,h,_⟩|⟨_,h,_⟩<;>omega
theorem ZyG (s:aj) (p i:Nat):dec (s.drop p) i=dec s (p+i):=by
 rw[BS,BS];simp only[Zzb,uy]
def dB (s:aj):al:=if _h:s.length=0 then[]else(dec s 0).1::dB (s.drop (dec s 0).2)
termination_by s.length
decreasing_by
 have:=F3 s 0;rw[fa];omega
theorem V0:dB []=[]:=by rw[dB];rfl
theorem M9 {s:aj} (h:0<s.length):dB s=(dec s 0).1::dB (s.drop (dec s 0).2):=by rw[dB,dif_neg (by omega)]
theorem Nh (s:aj):(dB s).length<=s.length:=by
 by_cases h:s.length=0
 .rw[dB,dif_pos h];exact cz _
 .have:=F3 s 0
  have ih:=Nh (s.drop (dec s 0).2);rw[M9 (by omega)];grind
termination_by s.length
decreasing_by
 grind
end Go.Gv.F
