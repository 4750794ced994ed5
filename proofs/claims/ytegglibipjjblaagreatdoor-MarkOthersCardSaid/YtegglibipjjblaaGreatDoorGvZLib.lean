/- Words for proofs over the machine's functions. -/
import Derived.Test.YtegglibipjjblaaGreatDoorGvDef
import Derived.Test.YtegglibipjjblaaGreatDoorGvZOps
import Derived.IntWalk
set_option linter.all false
namespace Go.Gv.F
variable {β:Type}
@[simp] theorem au (b : Bool) (r : ah) (K : Bool -> ah -> M β) : gP (.bool b :: r) K = K b r := rfl
@[simp] theorem afi (k : IntKind) : ur k k = true := by cases k <;> rfl
@[simp] theorem aX (k : IntKind) (n : Int) (K : Int -> M β) : cP k (.int k n) K = K n := by unfold cP; simp only [afi, ae]
@[simp] theorem av (k : IntKind) (n : Int) (r : ah) (K : Int -> ah -> M β) : aF k (.int k n :: r) K = K n r := by unfold aF; simp only [jS, aX]
@[simp] theorem bO (l : aj) (r : ah) (K : aj -> ah -> M β) : ep (.str l :: r) K = K l r := rfl
@[simp] theorem fV (a : Option (Nat × Nat)) (r : ah) (K : Option (Nat × Nat) -> ah -> M β) : nj (.ptr a :: r) K = K a r := rfl
@[simp] theorem cG (cs r : ah) (K : ah -> ah -> M β) : bj (.agg cs :: r) K = K cs r := rfl
@[simp] theorem J_n (n : Nat) (r : ah) (K : Nat -> ah -> M β) : WR (.nat n :: r) K = K n r := rfl
@[simp] theorem Bt (d : DV) (r : ah) (K : DV -> ah -> M β) : WQ (d :: r) K = K d r := rfl
@[simp] theorem lq (sz : Nat) (a : Option (Nat × Nat)) (n : Nat) (K : Option (Nat × Nat) -> Nat -> M β) : dB sz (.slice sz a n) K = K a n := by
 unfold dB;simp
@[simp] theorem aaj (sz z n : Nat) (K : Option (Nat × Nat) -> Nat -> M β) : dB sz (.slice z none n) K = K none n := by
 unfold dB;simp
@[simp] theorem bd (sz : Nat) (a : Option (Nat × Nat)) (n : Nat) (r : ah) (K : Option (Nat × Nat) -> Nat -> ah -> M β) : bN sz (.slice sz a n :: r) K = K a n r := by
 unfold bN;simp only[jS,lq]
@[simp] theorem agn (sz z n : Nat) (r : ah) (K : Option (Nat × Nat) -> Nat -> ah -> M β) : bN sz (.slice z none n :: r) K = K none n r := by
 unfold bN;simp only[jS,aaj]
@[simp] theorem aq (K : M β) : aJ [] K = K := rfl
@[simp] theorem wh (l : aj) (K : aj -> M β) : Aa (.str l) K = K l := rfl
@[simp] theorem tq (b : Bool) (K : Bool -> M β) : sJ (.bool b) K = K b := rfl
@[simp] theorem agm (d : DV) (r : ah) (K : DV -> ah -> M β) : jS (d :: r) K = K d r := rfl
@[simp] theorem agx (K : M β) : aB true K = K := rfl
theorem Zb {b:Bool} (h:b=true) (K:M β):aB b K=K:=by rw[h];rfl
@[simp] theorem aZ (i o : Nat) (K : Nat -> Nat -> M β) : bJ (some (i, o)) K = K i o := rfl
theorem Za (f:ah->M β) (g:(ah->M β)->M β):cI f g=g f:=Lq f g
theorem Ko (c x y:Bool) (f:ah->M β):(cI f λjk=>bif c then jk [.bool x]else jk [.bool y])=f [.bool (bif c then x else y)]:=by rw[Lq];cases c<;>rfl
theorem Zd (ds:β) (s:St):ay ds s=some (.val ds,s):=rfl
theorem Zu (b:Nat) (ds:β) (s:St):cu b ds s=some (.val ds,kh b s):=rfl
theorem kl (f:Nat->M β) (s:St):jn f s=f s.length s:=rfl
variable {f:Bool} {d:DV} {i j lim m n o:Nat} {c s s' s0:St} {α:Type} {cs ds:ah}
theorem Zk {m:M α} {K:α->M β} {ds:α} (h:m s=some (.val ds,s')):cY m K s=K ds s':=by unfold cY;rw[h]
theorem Ze (Bd:Zh) (n g:Nat) (args:ah):run Bd (n+1) g args=Bd g (run Bd n) n args:=rfl
def Ok (P:Out β×St->Prop) (x:Option (Out β×St)):Prop:=∃o,x=some o/\P o
theorem Ok.mk {P:Out β×St->Prop} {o:Out β×St} (h:P o):Ok P (some o):=⟨o,rfl,h⟩
variable {P Q:Out β×St->Prop}
theorem Ok.mono {x:Option (Out β×St)} (h:Ok P x) (k: ∀o,P o->Q o):Ok Q x:=by
 obtain⟨o,e,p⟩:=h;exact⟨o,e,k o p⟩
theorem Ok.call {P:Out α×St->Prop} {m:M α} {K:α->M β} (h:Ok P (m s)) (k: ∀o,P o->∃ds s',o=(.val ds,s')/\Ok Q (K ds s')):Ok Q (cY m K s):=by
 obtain⟨o,e,p⟩:=h;obtain⟨ds,s',rfl,hq⟩:=k o p;rw[Zk e];exact hq
theorem Ok.Af {P:Out α×St->Prop} {m:M α} {K:α->M β} (h:Ok P (m s)) (k: ∀o,P o->∃ds s',o=(.val ds,s')/\Ok Q (K ds s')):Ok Q (uX m K s):=by
 obtain⟨o,e,p⟩:=h;obtain⟨ds,s',rfl,hq⟩:=k o p;unfold uX;rw[e];exact hq
theorem Zf (sz z:Nat) (a:ai) (n:Nat) (h:z=sz\/a=none) (r:ah) (K:ai->Nat->ah->M β):bN sz (.slice z a n::r) K=K a n r:=by
 rcases h with rfl|rfl
 .simp
 simp
theorem Zj {F:(ah->M β)->ah->M β} (Q:Out β×St->Prop) (I:Nat->ah->St->Prop)
  (dS: ∀k st s,I k st s->∀rec:ah->M β,(∀k' fU s',k'<k->I k' fU s'->Ok Q (rec fU s'))->Ok Q (F rec st s)):
  ∀(k m:Nat) (st:ah) (s:St),I k st s->k<m->Ok Q (cW F m st s)
 |k,0,st,s,_,hm=>absurd hm (Nat.not_lt_zero k)
 |k,m+1,st,s,hI,hm=>dS k st s hI _ λk' fU s' hk hI'=>Zj Q I dS k' m fU s' hI' (by omega)
def aC (s s':St):Prop:=∃r,s'=s++r
theorem aC.refl (s:St):aC s s:=⟨[],by simp⟩
theorem aC.trans {a b:St} (h:aC a b) (k:aC b c):aC a c:=by
 obtain⟨r,rfl⟩:=h;obtain⟨r',rfl⟩:=k;exact⟨r++r',by simp⟩
theorem aC.len (h:aC s s'):s.length<=s'.length:=by obtain⟨r,rfl⟩:=h;simp
theorem aC.get (h:aC s s') {b:Option bT} (e:s[i]? =some b):s'[i]? =some b:=by
 obtain⟨r,rfl⟩:=h;have:i<s.length:=(eK.1 e).1;rw[oz this];exact e
theorem qR {m:M α} {K:α->M β} {ds:α} (h:m s=some (.val ds,s')) (hp:aC s s'):qZ m K s=K ds s':=by
 unfold qZ;rw[h];simp only;exact bG hp
theorem wu {m:M α} {K:α->M β} {ds:α} (h:m s=some (.val ds,s')):uX m K s=K ds s':=by
 unfold uX;rw[h]
theorem aC.new (s:St) (b:Option bT):aC s (s++[b]):=⟨[b],rfl⟩
theorem Zz (cells:ah) (K:Nat->M β) (s:St):cd cells K s=K s.length (s++[some ⟨false,cells⟩]):=rfl
def Sl (s:St) (a:ai) (cs:ah):Prop:=
 match a with
 |none=>cs=[]
 |some (i,o)=>∃f all,s[i]? =some (some ⟨f,all⟩)/\o+cs.length<=all.length/\(all.drop o).take cs.length=cs
theorem Sl.nil (s:St):Sl s none []:=rfl
theorem Sl.mono (h:aC s s') {a:ai} (k:Sl s a cs):Sl s' a cs:=by
 cases a with
 |none=>exact k
 |some p=>obtain⟨f,all,h1,h2⟩:=k;exact⟨f,all,h.get h1,h2⟩
theorem Sl.get (h:Sl s (some (i,o)) cs) (hd:cs[j]? =some d) (K:DV->M β):bF i (j+o) K s=K d s:=by
 obtain⟨f,all,h1,h2,h3⟩:=h;grind[bF,St.cells]
theorem Sl.dF (h:Sl s (some (i,o)) cs) (hd:cs[j]? =some d) (K:DV->M β):bF i (j*1+o) K s=K d s:=by
 rw[cT];exact h.get hd K
theorem Sl.cB {a:ai} (h:Sl s a cs) (hn:0<cs.length): ∃i o,a=some (i,o):=by
 cases a with
 |none=>rw[show cs=[]from h]at hn;cases hn
 |some p=>grind
theorem ko {all:ah} (h:s[i]? =some (some ⟨f,all⟩)) (hn:o+n<=all.length) (K:ah->M β):bQ i o n K s=K ((all.drop o).take n) s:=by
 unfold bQ St.cells;rw[h];simp only[gr hn,ae]
theorem Zo {all:ah} (h:s[i]? =some (some ⟨f,all⟩)) (hd:all[o]? =some d) (K:DV->M β):bF i o K s=K d s:=by
 grind[bF,St.cells]
theorem jf {a:ai} (h:Sl s a cs) (K:ah->M β):dw a cs.length K s=K cs s:=by
 cases a with
 |none=>rw[show cs=[]from h];rfl
 |some p=>
  obtain⟨f,all,h1,h2,h3⟩:=h;show bQ p.1 p.2 _ K s=_;rw[ko h1 h2,h3]
def bn (s0 s:St) (a:ai) (cs:ah):Prop:=
 aC s0 s/\((a=none/\cs=[])\/∃i,a=some (i,0)/\s0.length<=i/\s[i]? =some (some ⟨false,cs⟩))
theorem bn.nil (h:aC s0 s):bn s0 s none []:=⟨h,.inl ⟨rfl,rfl⟩⟩
theorem bn.sl {a:ai} (h:bn s0 s a cs):Sl s a cs:=by
 rcases h.2 with⟨rfl,rfl⟩|⟨i,rfl,_,h⟩
 .rfl
 .exact⟨false,cs,h,by simp,by simp⟩
theorem bn.mono {a:ai} (h:bn s0 s a cs) (k:aC s s'):bn s0 s' a cs:=
 ⟨h.1.trans k,h.2.imp id λ⟨i,h1,h2,h3⟩=>⟨i,h1,h2,k.get h3⟩⟩
theorem zU (h:aC s0 s) (hi:s0.length<=i) (b:Option bT):aC s0 (s.set i b):=by
 obtain⟨r,rfl⟩:=h;exact⟨r.set (i-s0.length) b,by rw[List.set_append_right _ _ hi]⟩
theorem bn.app {a:ai} (h:bn s0 s a cs) {sz:Nat} (hz:0<sz) (hn:cs.length=n*sz) (hm:0<m) (hl:n+m<=lim):
  ∃p s',bn s0 s' p (cs++ds)/\∀K:ai->M β,cj sz a n ds m lim K s=K p s':=by
 have hb:Nat.beq m 0=false:=by cases m with|zero=>cases hm|succ m=>rfl
 rcases h.2 with⟨rfl,rfl⟩|⟨i,rfl,hi,hs⟩
 .have h0:n=0:=by
   rcases FR.1 (show n*sz=0 by simpa using hn.symm)with h|h
   .exact h
   .omega
  subst h0;refine⟨some (s.length,0),s++[some ⟨false,ds⟩],⟨h.1.trans (.new _ _),.inr ⟨s.length,rfl,h.1.len,by simp⟩⟩,λK=>?_⟩;unfold cj;simp only[hb,gr hl,ae,af];rfl
 .have eC:s.hY i=some cs:=by grind[St.hY]
  refine⟨some (s.length,0),s.set i none++[some ⟨false,cs++ds⟩],⟨(zU h.1 hi none).trans (.new _ _),(by grind)⟩,λK=>?_⟩;unfold cj;simp only[hb,gr hl,ae,af,eC];rw[eW,gr (by omega)];grind
theorem bn.push {a:ai} (h:bn s0 s a cs) {sz:Nat} (ds:ah) (hz:0<sz) (hn:cs.length=n*sz) (hd:ds.length=sz) (hl:n+1<=lim):
  ∃p s',bn s0 s' p (cs++ds)/\∀K:ai->M β,(cd ds λi=>bQ i 0 sz λcs'=>cj sz a n cs' 1 lim K) s=K p s':=by
 obtain⟨p,s',h1,h2⟩:=(h.mono (.new s (some ⟨false,ds⟩))).app (β:=β) (ds:=ds) hz hn (we 0) hl;refine⟨p,s',h1,λK=>?_⟩;rw[Zz,ko (f:=false) (all:=ds) (by simp) (by omega),dA,dH (by omega)];exact h2 K
theorem Zw3 (k:Nat) (h:s[i]? =some (some ⟨f,cs⟩)): ∃f',(kh k s)[i]? =some (some ⟨f',cs⟩):=by
 grind[kh]
theorem Sl.fK {a:ai} (h:Sl s a cs) (k:Nat):Sl (kh k s) a cs:=by
 cases a with
 |none=>exact h
 |some p=>
  obtain⟨f,all,h1,h2⟩:=h;obtain⟨f',h1⟩:=Zw3 k h1;exact⟨f',all,h1,h2⟩
theorem Zv (h:aC s0 s):aC s0 (kh s0.length s):=by
 obtain⟨r,rfl⟩:=h;exact⟨_,by unfold kh;rw[Dj,Bi]⟩
def Kp (s s':St):Prop:=∀(i:Nat) (all:ah),s[i]? =some (some ⟨true,all⟩)->s'[i]? =some (some ⟨true,all⟩)
theorem Kp.refl (s:St):Kp s s:=λ_ _ h=>h
theorem Kp.trans {a b:St} (h:Kp a b) (k:Kp b c):Kp a c:=λi all e=>k i all (h i all e)
theorem aC.kp (h:aC s s'):Kp s s':=λ_ _ e=>h.get e
theorem Kp.set {s:St} {i:Nat} {cs:ah} (h:s[i]? =some (some ⟨false,cs⟩)) (b:Option bT):Kp s (s.set i b):=by
 intro j all e;grind
theorem ZxR (k:Nat) (s:St):Kp s (kh k s):=by
 intro i all h;grind[kh]
def Fr (s:St) (a:ai):Prop:=∀i o,a=some (i,o)->∃all,s[i]? =some (some ⟨true,all⟩)
theorem Fr.none (s:St):Fr s none:=λ_ _ h=>by cases h
def Fz (s:St) (a:ai) (cs:ah):Prop:=Sl s a cs/\Fr s a
theorem Fz.nil (s:St):Fz s none []:=⟨Sl.nil s,Fr.none s⟩
theorem Fz.kp {a:ai} (h:Fz s a cs) (k:Kp s s'):Fz s' a cs:=by
 obtain⟨h,f⟩:=h;cases a with
 |none=>exact⟨h,Fr.none _⟩
 |some p=>
  obtain⟨i,o⟩:=p;obtain⟨all,e⟩:=f i o rfl;obtain⟨f',Hg,h1,h2⟩:=h;rw[e]at h1;cases h1;exact⟨⟨true,all,k i all e,h2⟩,λi' o' e'=>by cases e';exact⟨all,k i all e⟩⟩
theorem Fz.pre {a:ai} (h:Fz s a cs) (k:aC s s'):Fz s' a cs:=h.kp k.kp
theorem bn.fr {a:ai} (h:bn s0 s a cs):Fr (kh s0.length s) a:=by
 rcases h.2 with⟨rfl,_⟩|⟨i,rfl,hi,hs⟩
 .exact Fr.none _
 .intro i' o' e
  cases e;refine⟨cs,?_⟩;grind[kh]
theorem bn.fz {a:ai} (h:bn s0 s a cs):Fz (kh s0.length s) a cs:=⟨h.sl.fK _,h.fr⟩
theorem Sl.fz {a:ai} (h:Sl s a cs) (hf: ∀(i:Nat) (b:Option bT),s[i]? =some b->∃cs,b=some ⟨true,cs⟩):Fz s a cs:=by
 refine⟨h,?_⟩;intro i o e;subst e;obtain⟨f,all,h1,_⟩:=h;grind
theorem bn.aas {a:ai} (h:bn s0 s a cs) {sz:Nat} (hz:0<sz) (hn:cs.length=n*sz) (hm:0<m) (hl:n+m<=lim):
  ∃p s',bn s0 s' p (cs++ds)/\Kp s s'/\∀K:ai->M β,cj sz a n ds m lim K s=K p s':=by
 have hb:Nat.beq m 0=false:=by cases m with|zero=>cases hm|succ m=>rfl
 rcases h.2 with⟨rfl,rfl⟩|⟨i,rfl,hi,hs⟩
 .have h0:n=0:=by
   rcases FR.1 (show n*sz=0 by simpa using hn.symm)with h|h
   .exact h
   .omega
  subst h0;refine⟨some (s.length,0),s++[some ⟨false,ds⟩],⟨h.1.trans (.new _ _),.inr ⟨s.length,rfl,h.1.len,by simp⟩⟩,(aC.new _ _).kp,λK=>?_⟩;unfold cj;simp only[hb,gr hl,ae,af];rfl
 .have eC:s.hY i=some cs:=by grind[St.hY]
  refine⟨some (s.length,0),s.set i none++[some ⟨false,cs++ds⟩],⟨(zU h.1 hi none).trans (.new _ _),(by grind)⟩,(Kp.set hs none).trans (aC.new _ _).kp,λK=>?_⟩;unfold cj;simp only[hb,gr hl,ae,af,eC];rw[eW,gr (by omega)];grind
theorem bn.Bc {a:ai} (h:bn s0 s a cs) {sz:Nat} (ds:ah) (hz:0<sz) (hn:cs.length=n*sz) (hd:ds.length=sz) (hl:n+1<=lim):
  ∃p s',bn s0 s' p (cs++ds)/\Kp s s'/\∀K:ai->M β,(cd ds λi=>bQ i 0 sz λcs'=>cj sz a n cs' 1 lim K) s=K p s':=by
 obtain⟨p,s',h1,h3,h2⟩:=(h.mono (.new s (some ⟨false,ds⟩))).aas (β:=β) (ds:=ds) hz hn (we 0) hl;refine⟨p,s',h1,(aC.new _ _).kp.trans h3,λK=>?_⟩;rw[Zz,ko (f:=false) (all:=ds) (by simp) (by omega),dA,dH (by omega)];exact h2 K
def Rows (s:St) (ds:ah) (xs:List ah):Prop:=ds.length=xs.length/\∀(j:Nat) (cs:ah),xs[j]? =some cs->∃a,ds[j]? =some (.slice 1 a cs.length)/\Fz s a cs
def oc (s:aj) (i:Nat):Nat:=(s.getD i 0).toNat
theorem MZ (s:aj) (i:Nat):oc s i<256:=(s.getD i 0).toNat_lt
theorem GH (s:aj) (i:Nat):ZQ s (i:Int)=(oc s i:Int):=by unfold ZQ oc;simp
theorem ZxB (s:aj) (p i:Nat):oc (s.drop p) i=oc s (p+i):=by
 simp[oc]
theorem Ld {s:aj} (h:s.length<=i):oc s i=0:=by
 simp_all[oc]
theorem zW (s:aj) (i:Nat):dec s i=
  if oc s i<128 then(oc s i,1)
  else if (194<=oc s i/\oc s i<=223)/\(128<=oc s (i+1)/\oc s (i+1)<=191)then((oc s i-192)*64+(oc s (i+1)-128),2)
  else if (224<=oc s i/\oc s i<=239)/\((if oc s i=224 then 160 else 128)<=oc s (i+1)/\oc s (i+1)<=(if oc s i=237 then 159 else 191))/\(128<=oc s (i+2)/\oc s (i+2)<=191)then
   ((oc s i-224)*4096+(oc s (i+1)-128)*64+(oc s (i+2)-128),3)
  else if (240<=oc s i/\oc s i<=244)/\((if oc s i=240 then 144 else 128)<=oc s (i+1)/\oc s (i+1)<=(if oc s i=244 then 143 else 191))/\(128<=oc s (i+2)/\oc s (i+2)<=191)/\(128<=oc s (i+3)/\oc s (i+3)<=191)then
   ((oc s i-240)*262144+(oc s (i+1)-128)*4096+(oc s (i+2)-128)*64+(oc s (i+3)-128),4)
  else(65533,1):=by
 have cont: ∀k,(decide (i+k<s.length)&&oc s (i+k)/64==2)=decide (128<=oc s (i+k)/\oc s (i+k)<=191):=by
  intro k;rw[lg];simp only[aW,xP,sd];constructor
  .omega
  .intro h
   refine⟨?_,by omega⟩;rcases jC (i+k) s.length with h'|h'
   .exact h'
   .rw[Ld h']at h;omega
 have e:dec s i=(if oc s i<0x80 then(oc s i,1)
  else if (oc s i/32==6&&(decide (i+1<s.length)&&oc s (i+1)/64==2))=true then
   (if (oc s i%32)*64+oc s (i+1)%64>=0x80 then((oc s i%32)*64+oc s (i+1)%64,2)else(Utf8.runeError,1))
  else if (oc s i/16==14&&(decide (i+1<s.length)&&oc s (i+1)/64==2)&&(decide (i+2<s.length)&&oc s (i+2)/64==2))=true then
   (if ((oc s i%16)*4096+(oc s (i+1)%64)*64+oc s (i+2)%64>=0x800&&Utf8.valid (((oc s i%16)*4096+(oc s (i+1)%64)*64+oc s (i+2)%64:Nat):Int))=true then((oc s i%16)*4096+(oc s (i+1)%64)*64+oc s (i+2)%64,3)else(Utf8.runeError,1))
  else if (oc s i/8==30&&(decide (i+1<s.length)&&oc s (i+1)/64==2)&&(decide (i+2<s.length)&&oc s (i+2)/64==2)&&(decide (i+3<s.length)&&oc s (i+3)/64==2))=true then
   (if ((oc s i%8)*262144+(oc s (i+1)%64)*4096+(oc s (i+2)%64)*64+oc s (i+3)%64>=0x10000&&Utf8.valid (((oc s i%8)*262144+(oc s (i+1)%64)*4096+(oc s (i+2)%64)*64+oc s (i+3)%64:Nat):Int))=true then
    ((oc s i%8)*262144+(oc s (i+1)%64)*4096+(oc s (i+2)%64)*64+oc s (i+3)%64,4)else(Utf8.runeError,1))
  else(Utf8.runeError,1)):=rfl
 rw[e,cont 1,cont 2,cont 3];generalize oc s i=a at*
 generalize oc s (i+1)=b at*
 generalize oc s (i+2)=c at*
 generalize oc s (i+3)=d at*
 have e1:(a/32==6)=decide (192<=a/\a<=223):=by rw[lg];grind
 have e2:(a/16==14)=decide (224<=a/\a<=239):=by rw[lg];grind
 have e3:(a/8==30)=decide (240<=a/\a<=247):=by rw[lg];grind
 rw[e1,e2,e3];have v: ∀n:Nat,Utf8.valid (n:Int)=decide (n<55296\/(57344<=n/\n<=1114111)):=by
  grind[Utf8.valid]
 rw[v,v];simp only[Utf8.runeError,aW,xP,ge_iff_le];by_cases c0:a<128
 .rw[bG c0,bG c0]
 rw[ba c0,ba c0];by_cases r1:192<=a/\a<=223
 .have n1: ¬(224<=a/\a<=239):=by omega
  have n2: ¬(240<=a/\a<=244):=by omega
  have n3: ¬(240<=a/\a<=247):=by omega
  simp only[r1,n1,n2,n3,false_and,mg,true_and,and_true];by_cases cb:128<=b/\b<=191
  .simp only[cb,and_true,lM,and_self]
   by_cases c2:194<=a
   .rw[bG (by omega),bG (by omega),Dr]
    omega
   grind
  grind
 .by_cases r2:224<=a/\a<=239
  .have n1: ¬(194<=a/\a<=223):=by omega
   have n2: ¬(240<=a/\a<=244):=by omega
   have n3: ¬(240<=a/\a<=247):=by omega
   simp only[r1,r2,n1,n2,n3,false_and,mg,true_and];by_cases k:(128<=b/\b<=191)/\128<=c/\c<=191
   .rw[bG k]
    by_cases k2:((if a=224 then 160 else 128)<=b/\b<=if a=237 then 159 else 191)/\128<=c/\c<=191
    .rw[bG k2]
     split at k2<;>split at k2<;>(rw[bG (by omega),Dr];exact⟨by omega,rfl⟩)
    grind
   grind
  .have n1: ¬(194<=a/\a<=223):=by omega
   simp only[r1,r2,n1,false_and,mg];by_cases k:(240<=a/\a<=247)/\(128<=b/\b<=191)/\(128<=c/\c<=191)/\128<=d/\d<=191
   .rw[bG (by omega)]
    by_cases k2:(240<=a/\a<=244)/\((if a=240 then 144 else 128)<=b/\b<=if a=244 then 143 else 191)/\(128<=c/\c<=191)/\128<=d/\d<=191
    .rw[bG k2]
     split at k2<;>split at k2<;>(rw[bG (by omega),Dr];exact⟨by omega,rfl⟩)
    grind
   .rw[ba (by omega),ba]
    grind
theorem Eb (s:aj) (i:Nat):1<=(dec s i).2/\(dec s i).2<=4:=by
 rw[zW];grind
theorem Zvy (s:aj) (i:Nat) (hi:i<s.length):((dec s i).1<128/\(dec s i).2=1/\oc s i=(dec s i).1)\/
  (128<=(dec s i).1/\i+(dec s i).2<=s.length/\∀k,k<(dec s i).2->128<=oc s (i+k)):=by
 have out: ∀k,0<oc s k->k<s.length:=λk h=>by
  rcases jC k s.length with h'|h'
  .exact h'
  .rw[Ld h']at h;omega
 rw[zW];by_cases c0:oc s i<128
 .rw[bG c0];omega
 rw[ba c0];refine .inr ?_;by_cases c2:(194<=oc s i/\oc s i<=223)/\(128<=oc s (i+1)/\oc s (i+1)<=191)
 .rw[bG c2]
  grind
 rw[ba c2];by_cases c3:(224<=oc s i/\oc s i<=239)/\((if oc s i=224 then 160 else 128)<=oc s (i+1)/\oc s (i+1)<=(if oc s i=237 then 159 else 191))/\(128<=oc s (i+2)/\oc s (i+2)<=191)
 .rw[bG c3]
  grind
 rw[ba c3];by_cases c4:(240<=oc s i/\oc s i<=244)/\((if oc s i=240 then 144 else 128)<=oc s (i+1)/\oc s (i+1)<=(if oc s i=244 then 143 else 191))/\(128<=oc s (i+2)/\oc s (i+2)<=191)/\(128<=oc s (i+3)/\oc s (i+3)<=191)
 .rw[bG c4]
  refine⟨?_,by have:=out (i+3) (by omega);simp only;omega,λk hk=>?_⟩
  .grind
  grind
 rw[ba c4];grind
theorem S9 (s:aj) (i:Nat) (hi:i<s.length):i+(dec s i).2<=s.length:=by
 rcases Zvy s i hi with⟨_,h,_⟩|⟨_,h,_⟩<;>omega
theorem Zv4 (s:aj) (p i:Nat):dec (s.drop p) i=dec s (p+i):=by
 rw[zW,zW];simp only[ZxB,tj]
def dh (s:aj):al:=if _h:s.length=0 then[]else(dec s 0).1::dh (s.drop (dec s 0).2)
termination_by s.length
decreasing_by
 have:=Eb s 0;simp only[fb];omega
theorem Si:dh []=[]:=by rw[dh];rfl
theorem KU {s:aj} (h:0<s.length):dh s=(dec s 0).1::dh (s.drop (dec s 0).2):=by rw[dh,dif_neg (by omega)]
theorem KV (s:aj):(dh s).length<=s.length:=by
 by_cases h:s.length=0
 .rw[dh,dif_pos h];exact cE _
 .have:=Eb s 0
  have ih:=KV (s.drop (dec s 0).2);rw[KU (by omega)];grind
termination_by s.length
decreasing_by
 grind
end Go.Gv.F
