/- Words for proofs over the machine's functions. -/
import Derived.Test.YtegglibipjjblaaGreatDoorGvDef
import Derived.IntWalk
namespace Go.Gv.F
variable {β:Type}
@[simp] theorem au (b : Bool) (r : ah) (K : Bool -> ah -> M β) : gW (.bool b :: r) K = K b r := rfl
@[simp] theorem afX (k : IntKind) : uU k k = true := by cases k <;> rfl
@[simp] theorem aY (k : IntKind) (n : Int) (K : Int -> M β) : cT k (.int k n) K = K n := by unfold cT; simp only [afX, ae]
@[simp] theorem av (k : IntKind) (n : Int) (r : ah) (K : Int -> ah -> M β) : aF k (.int k n :: r) K = K n r := by unfold aF; simp only [jt, aY]
@[simp] theorem bP (l : aj) (r : ah) (K : aj -> ah -> M β) : eE (.str l :: r) K = K l r := rfl
@[simp] theorem gj (a : Option (Nat × Nat)) (r : ah) (K : Option (Nat × Nat) -> ah -> M β) : nG (.ptr a :: r) K = K a r := rfl
@[simp] theorem cJ (cs r : ah) (K : ah -> ah -> M β) : bn (.agg cs :: r) K = K cs r := rfl
@[simp] theorem J_n (n : Nat) (r : ah) (K : Nat -> ah -> M β) : Xo (.nat n :: r) K = K n r := rfl
@[simp] theorem BU (d : DV) (r : ah) (K : DV -> ah -> M β) : Xn (d :: r) K = K d r := rfl
@[simp] theorem lG (sz : Nat) (a : Option (Nat × Nat)) (n : Nat) (K : Option (Nat × Nat) -> Nat -> M β) : dE sz (.slice sz a n) K = K a n := by
 unfold dE;simp
@[simp] theorem aaU (sz z n : Nat) (K : Option (Nat × Nat) -> Nat -> M β) : dE sz (.slice z none n) K = K none n := by
 unfold dE;simp
@[simp] theorem bc (sz : Nat) (a : Option (Nat × Nat)) (n : Nat) (r : ah) (K : Option (Nat × Nat) -> Nat -> ah -> M β) : bL sz (.slice sz a n :: r) K = K a n r := by
 unfold bL;simp only[jt,lG]
@[simp] theorem ag3 (sz z n : Nat) (r : ah) (K : Option (Nat × Nat) -> Nat -> ah -> M β) : bL sz (.slice z none n :: r) K = K none n r := by
 unfold bL;simp only[jt,aaU]
@[simp] theorem aq (K : M β) : aJ [] K = K := rfl
@[simp] theorem wJ (l : aj) (K : aj -> M β) : Ay (.str l) K = K l := rfl
@[simp] theorem sP (b : Bool) (K : Bool -> M β) : tj (.bool b) K = K b := rfl
@[simp] theorem ag2 (d : DV) (r : ah) (K : DV -> ah -> M β) : jt (d :: r) K = K d r := rfl
@[simp] theorem ahd (K : M β) : aC true K = K := rfl
theorem Zb {b:Bool} (h:b=true) (K:M β):aC b K=K:=by rw[h];rfl
@[simp] theorem aX (i o : Nat) (K : Nat -> Nat -> M β) : bJ (some (i, o)) K = K i o := rfl
theorem Za (f:ah->M β) (g:(ah->M β)->M β):cK f g=g f:=L7 f g
theorem KJ (c x y:Bool) (f:ah->M β):(cK f λjk=>bif c then jk [.bool x]else jk [.bool y])=f [.bool (bif c then x else y)]:=by rw[L7];cases c<;>rfl
theorem Zd (ds:β) (s:St):ay ds s=some (.val ds,s):=rfl
theorem Zs (b:Nat) (ds:β) (s:St):cu b ds s=some (.val ds,kB b s):=rfl
theorem Z5 (f:Nat->M β) (s:St):iU f s=f s.length s:=rfl
variable {f:Bool} {d:DV} {i j lim m n o:Nat} {c s s' s0:St} {α:Type} {cs ds:ah}
theorem Zk {m:M α} {K:α->M β} {ds:α} (h:m s=some (.val ds,s')):c9 m K s=K ds s':=by unfold c9;rw[h]
theorem Ze (Bd:Zh) (n g:Nat) (args:ah):run Bd (n+1) g args=Bd g (run Bd n) n args:=rfl
def Ok (P:Out β×St->Prop) (x:Option (Out β×St)):Prop:=∃o,x=some o/\P o
theorem Ok.mk {P:Out β×St->Prop} {o:Out β×St} (h:P o):Ok P (some o):=⟨o,rfl,h⟩
variable {P Q:Out β×St->Prop}
theorem Ok.mono {x:Option (Out β×St)} (h:Ok P x) (k: ∀o,P o->Q o):Ok Q x:=by
 obtain⟨o,e,p⟩:=h;exact⟨o,e,k o p⟩
theorem Ok.call {P:Out α×St->Prop} {m:M α} {K:α->M β} (h:Ok P (m s)) (k: ∀o,P o->∃ds s',o=(.val ds,s')/\Ok Q (K ds s')):Ok Q (c9 m K s):=by
 obtain⟨o,e,p⟩:=h;obtain⟨ds,s',rfl,hq⟩:=k o p;rw[Zk e];exact hq
theorem Ok.xj {P:Out α×St->Prop} {m:M α} {K:α->M β} (h:Ok P (m s)) (k: ∀o,P o->∃ds s',o=(.val ds,s')/\Ok Q (K ds s')):Ok Q (tk m K s):=by
 obtain⟨o,e,p⟩:=h;obtain⟨ds,s',rfl,hq⟩:=k o p;unfold tk;rw[e];exact hq
theorem Zg (sz z:Nat) (a:ai) (n:Nat) (h:z=sz\/a=none) (r:ah) (K:ai->Nat->ah->M β):bL sz (.slice z a n::r) K=K a n r:=by
 rcases h with rfl|rfl
 .unfold bL;simp only[jt];unfold dE;simp
 .unfold bL;simp only[jt];unfold dE;simp
theorem Zj {F:(ah->M β)->ah->M β} (Q:Out β×St->Prop) (I:Nat->ah->St->Prop)
  (dW: ∀k st s,I k st s->∀rec:ah->M β,(∀k' ga s',k'<k->I k' ga s'->Ok Q (rec ga s'))->Ok Q (F rec st s)):
  ∀(k m:Nat) (st:ah) (s:St),I k st s->k<m->Ok Q (cY F m st s)
 |k,0,st,s,_,hm=>absurd hm (DO k)
 |k,m+1,st,s,hI,hm=>dW k st s hI _ λk' ga s' hk hI'=>Zj Q I dW k' m ga s' hI' (by omega)
def aD (s s':St):Prop:=∃r,s'=s++r
theorem aD.refl (s:St):aD s s:=⟨[],by simp⟩
theorem aD.trans {a b:St} (h:aD a b) (k:aD b c):aD a c:=by
 obtain⟨r,rfl⟩:=h;obtain⟨r',rfl⟩:=k;exact⟨r++r',by simp⟩
theorem aD.len (h:aD s s'):s.length<=s'.length:=by obtain⟨r,rfl⟩:=h;simp
theorem aD.get (h:aD s s') {b:Option bT} (e:s[i]? =some b):s'[i]? =some b:=by
 obtain⟨r,rfl⟩:=h;have:i<s.length:=(dB.1 e).1;rw[l8 this];exact e
theorem rH {m:M α} {K:α->M β} {ds:α} (h:m s=some (.val ds,s')) (hp:aD s s'):rR m K s=K ds s':=by
 unfold rR;rw[h];simp only;exact bw hp
theorem wY {m:M α} {K:α->M β} {ds:α} (h:m s=some (.val ds,s')):tk m K s=K ds s':=by
 unfold tk;rw[h]
theorem aD.new (s:St) (b:Option bT):aD s (s++[b]):=⟨[b],rfl⟩
theorem Zy (cells:ah) (K:Nat->M β) (s:St):cg cells K s=K s.length (s++[some ⟨false,cells⟩]):=rfl
def Sl (s:St) (a:ai) (cs:ah):Prop:=
 match a with
 |none=>cs=[]
 |some (i,o)=>∃f all,s[i]? =some (some ⟨f,all⟩)/\o+cs.length<=all.length/\(all.drop o).take cs.length=cs
theorem Sl.nil (s:St):Sl s none []:=rfl
theorem Sl.mono (h:aD s s') {a:ai} (k:Sl s a cs):Sl s' a cs:=by
 cases a with
 |none=>exact k
 |some p=>obtain⟨f,all,h1,h2⟩:=k;exact⟨f,all,h.get h1,h2⟩
theorem Sl.get (h:Sl s (some (i,o)) cs) (hd:cs[j]? =some d) (K:DV->M β):bG i (j+o) K s=K d s:=by
 obtain⟨f,all,h1,h2,h3⟩:=h;have hj:j<cs.length:=(dB.1 hd).1;have:all[j+o]? =some d:=by
  have:=congrArg (λl:ah=>l[j]?) h3;simp only[sL,hj,kV,tM]at this;rw[sN];rw[this];exact hd
 unfold bG St.cells;rw[h1];simp only[this]
theorem Sl.dL (h:Sl s (some (i,o)) cs) (hd:cs[j]? =some d) (K:DV->M β):bG i (j*1+o) K s=K d s:=by
 rw[cP];exact h.get hd K
theorem Sl.cD {a:ai} (h:Sl s a cs) (hn:0<cs.length): ∃i o,a=some (i,o):=by
 cases a with
 |none=>rw[show cs=[]from h]at hn;cases hn
 |some p=>exact⟨p.1,p.2,rfl⟩
theorem kC {all:ah} (h:s[i]? =some (some ⟨f,all⟩)) (hn:o+n<=all.length) (K:ah->M β):bS i o n K s=K ((all.drop o).take n) s:=by
 unfold bS St.cells;rw[h];simp only[gf hn,ae]
theorem Zo {all:ah} (h:s[i]? =some (some ⟨f,all⟩)) (hd:all[o]? =some d) (K:DV->M β):bG i o K s=K d s:=by
 unfold bG St.cells;rw[h];simp only[hd]
theorem iD {a:ai} (h:Sl s a cs) (K:ah->M β):da a cs.length K s=K cs s:=by
 cases a with
 |none=>rw[show cs=[]from h];rfl
 |some p=>
  obtain⟨f,all,h1,h2,h3⟩:=h;show bS p.1 p.2 _ K s=_;rw[kC h1 h2,h3]
def ba (s0 s:St) (a:ai) (cs:ah):Prop:=
 aD s0 s/\((a=none/\cs=[])\/∃i,a=some (i,0)/\s0.length<=i/\s[i]? =some (some ⟨false,cs⟩))
theorem ba.nil (h:aD s0 s):ba s0 s none []:=⟨h,.inl ⟨rfl,rfl⟩⟩
theorem ba.sl {a:ai} (h:ba s0 s a cs):Sl s a cs:=by
 rcases h.2 with⟨rfl,rfl⟩|⟨i,rfl,_,h⟩
 .rfl
 .exact⟨false,cs,h,by simp,by simp⟩
theorem ba.mono {a:ai} (h:ba s0 s a cs) (k:aD s s'):ba s0 s' a cs:=
 ⟨h.1.trans k,h.2.imp id λ⟨i,h1,h2,h3⟩=>⟨i,h1,h2,k.get h3⟩⟩
theorem wV (h:aD s0 s) (hi:s0.length<=i) (b:Option bT):aD s0 (s.set i b):=by
 obtain⟨r,rfl⟩:=h;exact⟨r.set (i-s0.length) b,by rw[List.set_append_right _ _ hi]⟩
theorem ba.app {a:ai} (h:ba s0 s a cs) {sz:Nat} (hz:0<sz) (hn:cs.length=n*sz) (hm:0<m) (hl:n+m<=lim):
  ∃p s',ba s0 s' p (cs++ds)/\∀K:ai->M β,cm sz a n ds m lim K s=K p s':=by
 have hb:Nat.beq m 0=false:=by cases m with|zero=>cases hm|succ m=>rfl
 rcases h.2 with⟨rfl,rfl⟩|⟨i,rfl,hi,hs⟩
 .have h0:n=0:=by
   rcases Gh.1 (show n*sz=0 by simpa using hn.symm)with h|h
   .exact h
   .omega
  subst h0;refine⟨some (s.length,0),s++[some ⟨false,ds⟩],⟨h.1.trans (.new _ _),.inr ⟨s.length,rfl,h.1.len,by simp⟩⟩,λK=>?_⟩;unfold cm;simp only[hb,gf hl,ae,af];rfl
 .have ef:s.gE i=some cs:=by unfold St.gE;rw[hs]
  refine⟨some (s.length,0),s.set i none++[some ⟨false,cs++ds⟩],⟨(wV h.1 hi none).trans (.new _ _),.inr ⟨s.length,rfl,h.1.len,by simp⟩⟩,λK=>?_⟩;unfold cm;simp only[hb,gf hl,ae,af,ef];rw[ej,gf (by omega)];simp only[ae,dj];rw[dq (by omega)]
theorem ba.push {a:ai} (h:ba s0 s a cs) {sz:Nat} (ds:ah) (hz:0<sz) (hn:cs.length=n*sz) (hd:ds.length=sz) (hl:n+1<=lim):
  ∃p s',ba s0 s' p (cs++ds)/\∀K:ai->M β,(cg ds λi=>bS i 0 sz λcs'=>cm sz a n cs' 1 lim K) s=K p s':=by
 obtain⟨p,s',h1,h2⟩:=(h.mono (.new s (some ⟨false,ds⟩))).app (β:=β) (ds:=ds) hz hn (wI 0) hl;refine⟨p,s',h1,λK=>?_⟩;rw[Zy,kC (f:=false) (all:=ds) (by simp) (by omega),dj,dq (by omega)];exact h2 K
theorem Zxt (k:Nat) (h:s[i]? =some (some ⟨f,cs⟩)): ∃f',(kB k s)[i]? =some (some ⟨f',cs⟩):=by
 unfold kB;have hi:i<s.length:=(dB.1 h).1;by_cases hk:i<k
 .exact⟨f,by rw[l8 (by simp;omega),sL,bw hk];exact h⟩
 .refine⟨true,?_⟩
  rw[jY (by simp;omega),oY,tM,cz,kT (by omega),show k+(i-k)=i by omega,h];rfl
theorem Sl.fN {a:ai} (h:Sl s a cs) (k:Nat):Sl (kB k s) a cs:=by
 cases a with
 |none=>exact h
 |some p=>
  obtain⟨f,all,h1,h2⟩:=h;obtain⟨f',h1⟩:=Zxt k h1;exact⟨f',all,h1,h2⟩
theorem Zu (h:aD s0 s):aD s0 (kB s0.length s):=by
 obtain⟨r,rfl⟩:=h;exact⟨_,by unfold kB;rw[BK,BI]⟩
def Kp (s s':St):Prop:=∀(i:Nat) (all:ah),s[i]? =some (some ⟨true,all⟩)->s'[i]? =some (some ⟨true,all⟩)
theorem Kp.refl (s:St):Kp s s:=λ_ _ h=>h
theorem Kp.trans {a b:St} (h:Kp a b) (k:Kp b c):Kp a c:=λi all e=>k i all (h i all e)
theorem aD.kp (h:aD s s'):Kp s s':=λ_ _ e=>h.get e
theorem Kp.set {s:St} {i:Nat} {cs:ah} (h:s[i]? =some (some ⟨false,cs⟩)) (b:Option bT):Kp s (s.set i b):=by
 intro j all e;have:i≠j:=by rintro rfl;rw[h]at e;cases e
 rw[jZ this];exact e
theorem Zye (k:Nat) (s:St):Kp s (kB k s):=by
 intro i all h;unfold kB;have hi:i<s.length:=(dB.1 h).1;by_cases hk:i<k
 .rw[l8 (by simp;omega),sL,bw hk];exact h
 .rw[jY (by simp;omega),oY,tM,cz,kT (by omega),show k+(i-k)=i by omega,h]
  rfl
def Fr (s:St) (a:ai):Prop:=∀i o,a=some (i,o)->∃all,s[i]? =some (some ⟨true,all⟩)
theorem Fr.none (s:St):Fr s none:=λ_ _ h=>by cases h
def Fz (s:St) (a:ai) (cs:ah):Prop:=Sl s a cs/\Fr s a
theorem Fz.nil (s:St):Fz s none []:=⟨Sl.nil s,Fr.none s⟩
theorem Fz.kp {a:ai} (h:Fz s a cs) (k:Kp s s'):Fz s' a cs:=by
 obtain⟨h,f⟩:=h;cases a with
 |none=>exact⟨h,Fr.none _⟩
 |some p=>
  obtain⟨i,o⟩:=p;obtain⟨all,e⟩:=f i o rfl;obtain⟨f',HC,h1,h2⟩:=h;rw[e]at h1;cases h1;exact⟨⟨true,all,k i all e,h2⟩,λi' o' e'=>by cases e';exact⟨all,k i all e⟩⟩
theorem Fz.pre {a:ai} (h:Fz s a cs) (k:aD s s'):Fz s' a cs:=h.kp k.kp
theorem ba.fr {a:ai} (h:ba s0 s a cs):Fr (kB s0.length s) a:=by
 rcases h.2 with⟨rfl,_⟩|⟨i,rfl,hi,hs⟩
 .exact Fr.none _
 .intro i' o' e
  cases e;refine⟨cs,?_⟩;have hl:i<s.length:=(dB.1 hs).1;unfold kB;rw[jY (by simp;omega),oY,tM,cz,kT (by omega),show s0.length+(i-s0.length)=i by omega,hs];rfl
theorem ba.fz {a:ai} (h:ba s0 s a cs):Fz (kB s0.length s) a cs:=⟨h.sl.fN _,h.fr⟩
theorem Sl.fz {a:ai} (h:Sl s a cs) (hf: ∀(i:Nat) (b:Option bT),s[i]? =some b->∃cs,b=some ⟨true,cs⟩):Fz s a cs:=by
 refine⟨h,?_⟩;intro i o e;subst e;obtain⟨f,all,h1,_⟩:=h;obtain⟨cs',h2⟩:=hf _ _ h1;cases h2;exact⟨_,h1⟩
theorem ba.aa3 {a:ai} (h:ba s0 s a cs) {sz:Nat} (hz:0<sz) (hn:cs.length=n*sz) (hm:0<m) (hl:n+m<=lim):
  ∃p s',ba s0 s' p (cs++ds)/\Kp s s'/\∀K:ai->M β,cm sz a n ds m lim K s=K p s':=by
 have hb:Nat.beq m 0=false:=by cases m with|zero=>cases hm|succ m=>rfl
 rcases h.2 with⟨rfl,rfl⟩|⟨i,rfl,hi,hs⟩
 .have h0:n=0:=by
   rcases Gh.1 (show n*sz=0 by simpa using hn.symm)with h|h
   .exact h
   .omega
  subst h0;refine⟨some (s.length,0),s++[some ⟨false,ds⟩],⟨h.1.trans (.new _ _),.inr ⟨s.length,rfl,h.1.len,by simp⟩⟩,(aD.new _ _).kp,λK=>?_⟩;unfold cm;simp only[hb,gf hl,ae,af];rfl
 .have ef:s.gE i=some cs:=by unfold St.gE;rw[hs]
  refine⟨some (s.length,0),s.set i none++[some ⟨false,cs++ds⟩],⟨(wV h.1 hi none).trans (.new _ _),.inr ⟨s.length,rfl,h.1.len,by simp⟩⟩,(Kp.set hs none).trans (aD.new _ _).kp,λK=>?_⟩;unfold cm;simp only[hb,gf hl,ae,af,ef];rw[ej,gf (by omega)];simp only[ae,dj];rw[dq (by omega)]
theorem ba.BD {a:ai} (h:ba s0 s a cs) {sz:Nat} (ds:ah) (hz:0<sz) (hn:cs.length=n*sz) (hd:ds.length=sz) (hl:n+1<=lim):
  ∃p s',ba s0 s' p (cs++ds)/\Kp s s'/\∀K:ai->M β,(cg ds λi=>bS i 0 sz λcs'=>cm sz a n cs' 1 lim K) s=K p s':=by
 obtain⟨p,s',h1,h3,h2⟩:=(h.mono (.new s (some ⟨false,ds⟩))).aa3 (β:=β) (ds:=ds) hz hn (wI 0) hl;refine⟨p,s',h1,(aD.new _ _).kp.trans h3,λK=>?_⟩;rw[Zy,kC (f:=false) (all:=ds) (by simp) (by omega),dj,dq (by omega)];exact h2 K
def Rows (s:St) (ds:ah) (xs:List ah):Prop:=ds.length=xs.length/\∀(j:Nat) (cs:ah),xs[j]? =some cs->∃a,ds[j]? =some (.slice 1 a cs.length)/\Fz s a cs
def oc (s:aj) (i:Nat):Nat:=(s.getD i 0).toNat
theorem Bx (s:aj) (i:Nat):oc s i<256:=(s.getD i 0).toNat_lt
theorem G4 (s:aj) (i:Nat):ZP s (i:Int)=(oc s i:Int):=by unfold ZP oc;simp
theorem ZxO (s:aj) (p i:Nat):oc (s.drop p) i=oc s (p+i):=by
 unfold oc;simp[dX,tM]
theorem LY {s:aj} (h:s.length<=i):oc s i=0:=by
 unfold oc;rw[dX,nX h];rfl
theorem Ao (s:aj) (i:Nat):dec s i=
  if oc s i<128 then(oc s i,1)
  else if (194<=oc s i/\oc s i<=223)/\(128<=oc s (i+1)/\oc s (i+1)<=191)then((oc s i-192)*64+(oc s (i+1)-128),2)
  else if (224<=oc s i/\oc s i<=239)/\((if oc s i=224 then 160 else 128)<=oc s (i+1)/\oc s (i+1)<=(if oc s i=237 then 159 else 191))/\(128<=oc s (i+2)/\oc s (i+2)<=191)then
   ((oc s i-224)*4096+(oc s (i+1)-128)*64+(oc s (i+2)-128),3)
  else if (240<=oc s i/\oc s i<=244)/\((if oc s i=240 then 144 else 128)<=oc s (i+1)/\oc s (i+1)<=(if oc s i=244 then 143 else 191))/\(128<=oc s (i+2)/\oc s (i+2)<=191)/\(128<=oc s (i+3)/\oc s (i+3)<=191)then
   ((oc s i-240)*262144+(oc s (i+1)-128)*4096+(oc s (i+2)-128)*64+(oc s (i+3)-128),4)
  else(65533,1):=by
 have cont: ∀k,(decide (i+k<s.length)&&oc s (i+k)/64==2)=decide (128<=oc s (i+k)/\oc s (i+k)<=191):=by
  intro k;rw[iQ];simp only[aR,mJ,kU];constructor
  .rintro⟨_,h⟩;omega
  .intro h
   refine⟨?_,by omega⟩;rcases jH (i+k) s.length with h'|h'
   .exact h'
   .rw[LY h']at h;omega
 have h0:=Bx s i;have h1:=Bx s (i+1);have h2:=Bx s (i+2);have h3:=Bx s (i+3);have e:dec s i=(if oc s i<0x80 then(oc s i,1)
  else if (oc s i/32==6&&(decide (i+1<s.length)&&oc s (i+1)/64==2))=true then
   (if (oc s i%32)*64+oc s (i+1)%64>=0x80 then((oc s i%32)*64+oc s (i+1)%64,2)else(Utf8.runeError,1))
  else if (oc s i/16==14&&(decide (i+1<s.length)&&oc s (i+1)/64==2)&&(decide (i+2<s.length)&&oc s (i+2)/64==2))=true then
   (if ((oc s i%16)*4096+(oc s (i+1)%64)*64+oc s (i+2)%64>=0x800&&Utf8.valid (((oc s i%16)*4096+(oc s (i+1)%64)*64+oc s (i+2)%64:Nat):Int))=true then((oc s i%16)*4096+(oc s (i+1)%64)*64+oc s (i+2)%64,3)else(Utf8.runeError,1))
  else if (oc s i/8==30&&(decide (i+1<s.length)&&oc s (i+1)/64==2)&&(decide (i+2<s.length)&&oc s (i+2)/64==2)&&(decide (i+3<s.length)&&oc s (i+3)/64==2))=true then
   (if ((oc s i%8)*262144+(oc s (i+1)%64)*4096+(oc s (i+2)%64)*64+oc s (i+3)%64>=0x10000&&Utf8.valid (((oc s i%8)*262144+(oc s (i+1)%64)*4096+(oc s (i+2)%64)*64+oc s (i+3)%64:Nat):Int))=true then
    ((oc s i%8)*262144+(oc s (i+1)%64)*4096+(oc s (i+2)%64)*64+oc s (i+3)%64,4)else(Utf8.runeError,1))
  else(Utf8.runeError,1)):=rfl
 rw[e,cont 1,cont 2,cont 3];generalize oc s i=a at*
 generalize oc s (i+1)=b at*
 generalize oc s (i+2)=c at*
 generalize oc s (i+3)=d at*
 have e1:(a/32==6)=decide (192<=a/\a<=223):=by rw[iQ];simp only[kU,mJ];omega
 have e2:(a/16==14)=decide (224<=a/\a<=239):=by rw[iQ];simp only[kU,mJ];omega
 have e3:(a/8==30)=decide (240<=a/\a<=247):=by rw[iQ];simp only[kU,mJ];omega
 rw[e1,e2,e3];have v: ∀n:Nat,Utf8.valid (n:Int)=decide (n<55296\/(57344<=n/\n<=1114111)):=by
  intro n;unfold Utf8.valid;rw[iQ];simp only[lz,aR,mJ];omega
 rw[v,v];simp only[Utf8.runeError,aR,mJ,ge_iff_le];by_cases c0:a<128
 .rw[bw c0,bw c0]
 rw[aW c0,aW c0];by_cases r1:192<=a/\a<=223
 .have n1: ¬(224<=a/\a<=239):=by omega
  have n2: ¬(240<=a/\a<=244):=by omega
  have n3: ¬(240<=a/\a<=247):=by omega
  simp only[r1,n1,n2,n3,false_and,jI,true_and,and_true];by_cases cb:128<=b/\b<=191
  .simp only[cb,and_true,kV,and_self]
   by_cases c2:194<=a
   .rw[bw (by omega),bw (by omega),DR]
    exact⟨by omega,rfl⟩
   .rw[aW (by omega),aW (by omega)]
  .rw[aW cb,aW (by rintro⟨_,h⟩;exact cb h)]
 .by_cases r2:224<=a/\a<=239
  .have n1: ¬(194<=a/\a<=223):=by omega
   have n2: ¬(240<=a/\a<=244):=by omega
   have n3: ¬(240<=a/\a<=247):=by omega
   simp only[r1,r2,n1,n2,n3,false_and,jI,true_and];by_cases k:(128<=b/\b<=191)/\128<=c/\c<=191
   .rw[bw k]
    by_cases k2:((if a=224 then 160 else 128)<=b/\b<=if a=237 then 159 else 191)/\128<=c/\c<=191
    .rw[bw k2]
     split at k2<;>split at k2<;>(rw[bw (by omega),DR];exact⟨by omega,rfl⟩)
    .rw[aW k2]
     split at k2<;>split at k2<;>(first|omega|rw[aW (by omega)])
   .rw[aW k,aW]
    intro k2;split at k2<;>split at k2<;>omega
  .have n1: ¬(194<=a/\a<=223):=by omega
   simp only[r1,r2,n1,false_and,jI];by_cases k:(240<=a/\a<=247)/\(128<=b/\b<=191)/\(128<=c/\c<=191)/\128<=d/\d<=191
   .rw[bw (by omega)]
    by_cases k2:(240<=a/\a<=244)/\((if a=240 then 144 else 128)<=b/\b<=if a=244 then 143 else 191)/\(128<=c/\c<=191)/\128<=d/\d<=191
    .rw[bw k2]
     split at k2<;>split at k2<;>(rw[bw (by omega),DR];exact⟨by omega,rfl⟩)
    .rw[aW k2]
     split at k2<;>split at k2<;>(first|omega|rw[aW (by omega)])
   .rw[aW (by omega),aW]
    intro k2;split at k2<;>split at k2<;>omega
theorem Cn (s:aj) (i:Nat):1<=(dec s i).2/\(dec s i).2<=4:=by
 rw[Ao]
 repeat' split
 all_goals (simp;done)
theorem ZvX (s:aj) (i:Nat) (hi:i<s.length):((dec s i).1<128/\(dec s i).2=1/\oc s i=(dec s i).1)\/
  (128<=(dec s i).1/\i+(dec s i).2<=s.length/\∀k,k<(dec s i).2->128<=oc s (i+k)):=by
 have out: ∀k,0<oc s k->k<s.length:=λk h=>by
  rcases jH k s.length with h'|h'
  .exact h'
  .rw[LY h']at h;omega
 rw[Ao];by_cases c0:oc s i<128
 .rw[bw c0];exact .inl ⟨c0,rfl,rfl⟩
 rw[aW c0];refine .inr ?_;by_cases c2:(194<=oc s i/\oc s i<=223)/\(128<=oc s (i+1)/\oc s (i+1)<=191)
 .rw[bw c2]
  refine⟨by simp only;omega,by have:=out (i+1) (by omega);simp only;omega,λk hk=>?_⟩;simp only at hk;rcases(show k=0\/k=1 by omega)with rfl|rfl
  .rw[fT];omega
  .omega
 rw[aW c2];by_cases c3:(224<=oc s i/\oc s i<=239)/\((if oc s i=224 then 160 else 128)<=oc s (i+1)/\oc s (i+1)<=(if oc s i=237 then 159 else 191))/\(128<=oc s (i+2)/\oc s (i+2)<=191)
 .rw[bw c3]
  have h1:128<=oc s (i+1):=by have:=c3.2.1.1;split at this<;>omega
  refine⟨?_,by have:=out (i+2) (by omega);simp only;omega,λk hk=>?_⟩
  .simp only
   by_cases e:oc s i=224
   .have:=c3.2.1.1;rw[bw e]at this;omega
   .omega
  .simp only at hk
   rcases(show k=0\/k=1\/k=2 by omega)with rfl|rfl|rfl
   .rw[fT];omega
   .exact h1
   .omega
 rw[aW c3];by_cases c4:(240<=oc s i/\oc s i<=244)/\((if oc s i=240 then 144 else 128)<=oc s (i+1)/\oc s (i+1)<=(if oc s i=244 then 143 else 191))/\(128<=oc s (i+2)/\oc s (i+2)<=191)/\(128<=oc s (i+3)/\oc s (i+3)<=191)
 .rw[bw c4]
  have h1:128<=oc s (i+1):=by have:=c4.2.1.1;split at this<;>omega
  refine⟨?_,by have:=out (i+3) (by omega);simp only;omega,λk hk=>?_⟩
  .simp only
   by_cases e:oc s i=240
   .have:=c4.2.1.1;rw[bw e]at this;omega
   .omega
  .simp only at hk
   rcases(show k=0\/k=1\/k=2\/k=3 by omega)with rfl|rfl|rfl|rfl
   .rw[fT];omega
   .exact h1
   .omega
   .omega
 rw[aW c4];refine⟨by simp only;omega,by simp only;omega,λk hk=>?_⟩;simp only at hk;rw[show k=0 by omega,fT];omega
theorem TU (s:aj) (i:Nat) (hi:i<s.length):i+(dec s i).2<=s.length:=by
 rcases ZvX s i hi with⟨_,h,_⟩|⟨_,h,_⟩<;>omega
theorem ZwA (s:aj) (p i:Nat):dec (s.drop p) i=dec s (p+i):=by
 rw[Ao,Ao];simp only[ZxO,tO]
def dp (s:aj):al:=if _h:s.length=0 then[]else(dec s 0).1::dp (s.drop (dec s 0).2)
termination_by s.length
decreasing_by
 have:=Cn s 0;simp only[dT];omega
theorem Tl:dp []=[]:=by rw[dp];rfl
theorem Lo {s:aj} (h:0<s.length):dp s=(dec s 0).1::dp (s.drop (dec s 0).2):=by rw[dp,dif_neg (by omega)]
theorem LA (s:aj):(dp s).length<=s.length:=by
 by_cases h:s.length=0
 .rw[dp,dif_pos h];exact cn _
 .have:=Cn s 0
  have ih:=LA (s.drop (dec s 0).2);rw[Lo (by omega)];simp only[cH,dT]at ih⊢;omega
termination_by s.length
decreasing_by
 have:=Cn s 0;simp only[dT];omega
end Go.Gv.F
