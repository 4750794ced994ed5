/- The walker's trees: what they are, no program in sight. -/
import Derived.Test.YtegglibipjjblaaGreatDoorGvZMb
set_option linter.all false
namespace Go.Gv.F
open Go.Gv
structure nB where
 block:Int
 rN:Int
 par:bm
 top:Bool
def tG (x:jV) (n:Nat):List nB:=((List.range n).map λi=>(⟨x.kids.getD i 0,i,x.bL,false⟩:nB)).reverse
theorem ZpQ (x:jV) (n:Nat):tG x (n+1)=⟨x.kids.getD n 0,n,x.bL,false⟩::tG x n:=by
 simp[tG,qW,fB,List.reverse_append]
def El (v:aR) (e:bm) (k:Int):Bool:=match v.aG[e.slot.toNat]? with
 |none=>false
 |some x=>(x.live==true)&&((x.gen==e.gen)&&((x.block==k)&&true))
def vt (K:bP) (v:aR) (t:nB) (x:jV):Bool:=
 (bif (x.kids.length:Int)==t.rN then(bif t.top then true else fD t.par x.bL)else false)&&
 (bif decide (x.bL.slot<K.sup.used)then El v x.bL t.block else false)
def jX (K:bP):Nat->List bm->List nB->aR->Option (List bm×aR)
 |0,_,_,_=>none
 |_+1,out,[],v=>some (out,v)
 |f+1,out,t::r,v=>match dT K t.block v with
  |some (.node x,v')=>bif vt K v' t x then jX K f (out++[x.bL]) (tG x x.kids.length++r) { v' with nodes:=v'.nodes+1 } else none
  |_=>none
def yI:bm:=⟨0,0,0,0⟩
def su (K:bP) (k rN:Int) (v:aR):Option (List bm×aR):=jX K (K.m+1) [] [⟨k,rN,yI,true⟩] v
def room (m:Nat) (W:al):Nat:=(List.range m).countP λb=> !du W b
theorem Zrn {P Q:Nat->Bool} : ∀ {l:al} {k:Nat},(∀b,Q b=true->P b=true)->k∈l->P k=true->Q k=false->l.countP Q+1<=l.countP P
 |[],_,_,h,_,_=>by cases h
 |a::l,k,hm,h,hp,hq=>by
  rw[List.countP_cons,List.countP_cons];rcases eM.1 h with rfl|h
  .rw[hp,hq]
   have:=List.countP_mono_left (l:=l) (p:=Q) (q:=P) λb _ hb=>hm b hb
   simp;omega
  .have:=Zrn hm h hp hq
   grind
theorem Zvi (m:Nat) (W:al):room m W<=m:=by
 unfold room;exact hU (List.countP_le_length) Do
variable {f:Bool} {e e' r r':DV} {k n slot:Int} {i lim m p:Nat} {s s' s0:St} {v v':aR} {A A' cs:ah} {l:aj} {T W:al} {K:bP}
theorem VS (hl:W.length=(m+63)/64) (h:fW m W k=true):room m (bN m W k)+1<=room m W:=by
 unfold fW at h;rw[aY,aY]at h;have⟨_,hm,hi⟩:=h;have qJ:=hm;unfold fN at qJ;rw[aY,bn,bn]at qJ;refine Zrn (k:=k.toNat) (λb hb=>?_) (uY.2 AC) hi ?_
 .rw[rD hl]at hb
  rw[lT]at hb⊢;rw[BB]at hb;exact hb.1
 .rw[rD hl,hm]
  simp
theorem yl {b:xW} (h:dT K k v=some (b,v')):fW K.m v.W k=true/\v'.W=bN K.m v.W k:=by
 grind[dT]
def vg (v:aR) (e:bm):Prop:=0<=e.slot/\∃(x:bB) (k:Nat),v.aG[e.slot.toNat]? =some x/\x.block=(k:Int)/\du v.W k=true
def Diff (l:List bm):Prop:=l.Pairwise λa b=>a.slot≠b.slot
theorem ZnH {x:jV} (h:ZX l= .node x):pH x=true/\x.kids.length<=12:=by
 unfold ZX at h;split at h
 .rename_i e;cases h;exact M6 e
 grind
theorem IP {x:jV} (h:pH x=true):0<=x.bL.slot/\x.bL.slot<1792:=by
 grind[pH]
theorem I8 {K:bP} : ∀ {f:Nat} {acc out xH:List bm} {todo:List nB} {v v':aR},v.W.length=(K.m+63)/64->jX K f out todo v=some (xH,v')->(∀e∈acc++out,vg v e)->Diff (acc++out)->(∀e∈acc++xH,vg v' e)/\Diff (acc++xH)/\v'.W.length=(K.m+63)/64/\(∀k,du v.W k=true->du v'.W k=true)/\v'.aG=v.aG/\v'.aK=v.aK/\v'.aF=v.aF/\v'.free=v.free
 |0,_,_,_,_,_,_,_,h,_,_=>by cases h
 |f+1,acc,out,xH,[],v,v',hl,h,h1,h2=>by cases h;grind
 |f+1,acc,out,xH,t::r,v,v',hl,h,h1,h2=>by
  unfold jX at h;cases ht:dT K t.block v with
  |none=>rw[ht]at h;cases h
  |some q=>
   have⟨b,v1⟩:=q;rw[ht]at h;have⟨g1,g2,g3,g4,g5,g6⟩:=Z4 ht;have⟨g7,g8⟩:=yl ht;cases b with
   |leaf x=>cases h
   |cm x=>cases h
   |queue x=>cases h
   |dir x=>cases h
   |none=>cases h
   |node x=>
    simp only at h;cases hf:vt K v1 t x with
    |false=>rw[hf]at h;cases h
    |true=>
     rw[hf,ae]at h;have gT: ∀k,du v.W k=true->du v1.W k=true:=λk hk=>by rw[g8,rD hl,hk];rfl
     have nn:v1.W.length=(K.m+63)/64:=by rw[g8,pC];exact hl
     have dW:=g7;unfold fW at dW;rw[aY,aY,bn]at dW;have⟨jy,vV,hki⟩:=dW;have PH:=(IP (ZnH g6.symm).1).1;unfold vt at hf;rw[aY]at hf;have HE:El v1 x.bL t.block=true:=by
      grind
     unfold El at HE;cases pY:v1.aG[x.bL.slot.toNat]? with
     |none=>rw[pY]at HE;cases HE
     |some y=>
      rw[pY]at HE;simp only[aY,and_true]at HE;have⟨Fo,Lf,HK⟩:=HE;have hyb:y.block=(t.block.toNat:Int):=by rw[eq_of_beq HK];omega
      have hold: ∀e∈acc++out,vg v1 e:=λe he=>by
       have⟨a1,z,k,a2,a3,a4⟩:=h1 e he;exact⟨a1,z,k,by rw[g1];exact a2,a3,gT k a4⟩
      have iL:vg v1 x.bL:=⟨PH,y,t.block.toNat,pY,hyb,by
       rw[g8,rD hl,vV];simp⟩
      have ah3: ∀e∈acc++out,e.slot≠x.bL.slot:=λe he heq=>by
       have⟨a1,z,k,a2,a3,a4⟩:=h1 e he;rw[heq,<-g1,pY]at a2;grind
      have key:=I8 (acc:=acc) (v:= { v1 with nodes:=v1.nodes+1 }) nn h (λe he=>by
       rw[<-fR]at he;rcases gI.1 he with he|he
       .exact hold e he
       .rw[cE.1 he];exact iL) (by
       unfold Diff;rw[<-fR,Mb];refine⟨h2,List.pairwise_singleton _ _,λa ha b hb=>?_⟩;rw[cE.1 hb];exact ah3 a ha)
      grind
variable {β:Type}
variable {K:bP} {s:St} {v:aR} {L:al} {z1 z2 z3 z4:Nat} {p1 p2 p3 p4:ai} {hd:ah}
def lX (s:St) (a:ai) (cs:ah):Prop:=(a=none/\cs=[])\/∃b rest,a=some (b,0)/\s[b]? =some (some ⟨false,cs++rest⟩)
theorem lX.fx {a:ai} (h:lX s a cs) (k:Fx T s s') (n: ∀b∈aN a,b∉T):lX s' a cs:=by
 rcases h with h1|⟨i,r,rfl,h3⟩
 .exact .inl h1
 .exact .inr ⟨i,r,rfl,k.2 i _ (n i (by simp[aN])) h3⟩
theorem lX.lt {a:ai} (h:lX s a cs): ∀b∈aN a,b<s.length:=by
 rcases h with⟨rfl,_⟩|⟨i,r,rfl,h3⟩
 .intro b hb;cases hb
 .intro b hb;rw[cE.1 hb];grind
theorem Zxm {a:ai} (h:lX s a cs) {sz n:Nat} (ds:ah) (hz:0<sz) (hn:cs.length=n*sz) (hd:ds.length=sz) (hl:n+1<=lim:=by omega):
  ∃b s',s.length<=b/\s'[b]? =some (some ⟨false,cs++ds⟩)/\Fx (aN a) s s'/\Kp s s'/\∀K:ai->M β,(ck ds λi=>bX i 0 sz λcs'=>cw sz a n cs' 1 lim K) s=K (some (b,0)) s':=by
 rcases h with⟨rfl,rfl⟩|⟨i,rest,rfl,hs⟩
 .have⟨b,s',h1,h2,h3,h4,h5⟩:=bg.Qi (β:=β) (s0:=[]) (s:=s) (a:=none) (cs:=[]) (bg.nil ⟨s,rfl⟩) ds hz hn hd hl
  rcases h2.2 with⟨e,_⟩|⟨i,e,_,h6⟩
  .cases e
  .cases e
   exact⟨b,s',h1,h6,⟨by have:=(eB.1 h6).1;omega,λi x _ e=>h4 i x e (λo e=>by cases e)⟩,h3,h5⟩
 .have j6:i<s.length:=Fd
  have lO:(s++[some (⟨false,ds⟩:bO)])[i]? =some (some (⟨false,cs++rest⟩:bO)):=by rw[mn j6];exact hs
  have dX:(s++[some (⟨false,ds⟩:bO)]).gP i=some (cs++rest):=by grind[St.gP]
  have hb:Nat.beq 1 0=false:=rfl;refine⟨s.length+1,(s++[some (⟨false,ds⟩:bO)]).set i none++[some (⟨false,cs++ds⟩:bO)],AC,?_,⟨by simp;omega,λy x hy e=>?_⟩,(aA.new _ _).kp.trans ((Kp.set lO none).trans (aA.new _ _).kp),λK=>?_⟩
  .rw[kL Do];simp
  .have hyl:=(eB.1 e).1
   have dQ:i≠y:=λe=>hy (by simp[aN,e])
   rw[mn (by simp;omega),jH dQ,mn hyl];exact e
  .rw[Zz,Z9 (f:=false) (all:=ds) Do AC,dE,dF AC]
   unfold cw;simp only[hb,gz hl,ae,af,dX];rw[eJ,gz (by rw[bz];omega),ae,dE,<-hn,FO];simp
theorem eK.akr (h:eK K s v L z1 p1 z2 p2 z3 p3 z4 p4 hd) (x:Int):
  ∃s',(∀Kc:M β,dG K.w 18 [.i x] Kc s=Kc s')/\eK K s' { v with nodes:=x } L z1 p1 z2 p2 z3 p3 z4 p4 hd/\Fx [K.w] s s'/\Kp s s':=by
 have dQ:=h.ne;have cU:=Fx.set s K.w (some (⟨false,sA K { v with nodes:=x } (dS z1 p1 v.aG.length) (dS z2 p2 v.aK.length) (dS z3 p3 v.aF.length) (dS z4 p4 v.free.length)⟩:bO));have qF:=cU.mono (T':=L) λy hy=>by rw[cE.1 hy];exact h.Fu
 refine⟨_,λKc=>?_,⟨?_,h.e1,h.e2,h.e3,h.e4,h.o1.fx cU λb hb=>?_,h.o2.fx cU λb hb=>?_,h.o3.fx cU λb hb=>?_,h.o4.fx cU λb hb=>?_,h.aK.fx qF (Nw.refl L s),h.set.fx cU (by simpa using dQ.1.symm) Fd,Sl.fx h.img qF h.off,h.off,h.own,h.nodup⟩,cU,Kp.set h.cell _⟩
 .rw[rk h.cell (by show 18<19;omega)]
  rfl
 .exact lA (eB.1 h.cell).1
 all_goals simpa using Fd
def GD (t:nB):ah:=[.i t.block,.i t.rN,.i t.par.slot,.i t.par.gen,.i t.par.key,.i t.par.value,.bool t.top]
def nY (l:List nB):ah:=(l.map GD).flatten
theorem Ns (l:List nB):(nY l).length=l.length*7:=by
 unfold nY;induction l with
 |nil=>rfl
 |cons e l ih=>rw[oe,BE,bz,ih,cQ];show 7+_=_;omega
theorem ZrY (l m:List nB):nY (l++m)=nY l++nY m:=by simp[nY]
theorem Vq (x:jV) (n:Nat):(tG x n).length=n:=by unfold tG;simp
theorem Zzp {Kn:ah->M ah} {Q:Out ah×St->Prop} (n:Nat) (akZ:s.length=s.length) (x:jV) (px:ai) (r:List nB) (t0:St) (Bq:ai) (hx:Fz t0 px (ints x.kids)) (ac4:x.kids.length<=12) (ho:lX t0 Bq (nY r.reverse)) (hr:r.length<100000) (ig: ∀b∈aN Bq,s.length<=b) (dI:s.length<=t0.length) (hn:20<=n)
  (hK: ∀t pT z,(z=7\/pT=none)->lX t pT (nY (tG x x.kids.length++r).reverse)->(∀b∈aN pT,s.length<=b/\(b∈aN Bq\/t0.length<=b))->Fx (aN Bq) t0 t->Ok Q (Kn [.slice z pT (r.length+x.kids.length)] t)) (z0:Nat) (xw:z0=7\/Bq=none):
  Ok Q (cY (λdC st=>
      bU 7 st λLR FI st=>
      aC .i64 st λfQ st=>
      aI st<|
      bif decide (fQ<(x.kids.length:Int))then
       bJ px λi6 o4=>
      aB (aP fQ x.kids.length)<|
      bD i6 (fQ.toNat*1+o4) λd3=>
      de .i64 d3 λfI=>
      ck [.i fI,.i fQ,.i x.bL.slot,.i x.bL.gen,.i x.bL.key,.i x.bL.value,.bool false] λi7=>
      bX i7 0 7 λfK=>
      cw 7 LR FI fK 1 1256584717458 λp1=>
      dC [.slice 7 p1 (FI+1),.i (ar (fQ+1))]
      else
       Kn [.slice 7 LR FI]) n [.slice z0 Bq r.length,.i 0] t0):=by
 refine Zj _ (λq y t=>∃(i z:Nat) (pT:ai),y=[.slice z pT (r.length+i),.i i]/\(z=7\/pT=none)/\i<=x.kids.length/\x.kids.length-i<=q/\lX t pT (nY (tG x i++r).reverse)/\(∀b∈aN pT,s.length<=b/\(b∈aN Bq\/t0.length<=b))/\Fx (aN Bq) t0 t/\Fz t px (ints x.kids)) ?_ x.kids.length n _ _ ⟨0,z0,Bq,rfl,xw,cB _,AC,ho,Fd,.refl _ _,hx⟩ AC;rintro q _ t ⟨i,z,pT,rfl,hz,hi,hq,hoT,OX,cU,Fl⟩ rec aL;simp only[av,Zf 7 z pT _ hz,aq];by_cases aw:i<x.kids.length
 .obtain⟨i1,o1,rfl⟩:=Fl.1.cF (by simp[ints];omega)
  rw[aX,bc,Zb (Zi aw),br,Fl.1.dO (ZC aw),bj];have Yu:(nY (tG x i++r).reverse).length=(r.length+i)*7:=by rw[Ns,List.length_reverse,bz,Vq];omega
  have⟨b,t1,g1,g2,g3,g4,g5⟩:=Zxm (β:=ah) hoT (sz:=7) (n:=r.length+i) (lim:=1256584717458) (GD ⟨x.kids[i],i,x.bL,false⟩) AC Yu rfl;refine Eq.mpr (congrArg (Ok _) (g5 _)) ?_;have kh:ar ((i:Int)+1)=((i+1:Nat):Int):=Zc;rw[kh];refine aL (x.kids.length-(i+1)) _ _ AC ⟨i+1,7,some (b,0),rfl,.inl rfl,AC,aM _,.inr ⟨b,[],rfl,?_⟩,?_,?_,Fl.kp g4⟩
  .rw[g2,gM,ZpQ,od,List.reverse_cons,ZrY]
   have:x.kids.getD i 0=x.kids[i]:=by rw[ef,cu aw];rfl
   rw[this];simp[nY]
  .intro y hy
   rw[cE.1 hy];have:=cU.1;omega
  .exact cU.step g3 λy hy=>(OX y hy).2
 .rw[aZ]
  have:i=x.kids.length:=AC
  subst this;grind
theorem ZwG {Bd:Zh} (h:F3 Bd) (n:Nat) (hn:8<=n) (a b:bm) (st:St):
  Ok (λo=>∃z s',o=(.val [.i z],s')/\aA st s'/\decide (z<0)=fD a b) (run Bd n 159 [.agg (fk a),.agg (fk b)] st):=by
 refine(abU h n hn a b st).mono ?_;rintro _ ⟨z,s',rfl,hp,e⟩;grind
variable {Q:Out β×St->Prop}
theorem Ok.join {f:ah->M β} {g:(ah->M β)->M β} (h: ∀jk,jk=f->Ok Q (g jk s)):Ok Q (cT f g s):=by rw[Za];exact h f rfl
theorem Zyn (pn:M β) (x:jV) (px:ai) (Kc:Int->Int->Int->Int->ai->Nat->M β):vC pn (.iface 6 (.agg (oP x 1 px))) 6 (λd=>ur d λbQ=>aC .i64 bQ λx8 r=>aC .i64 r λx9 r=>aC .i64 r λcX r=>aC .i64 r λee r=>bU 1 r λfj qf r=>aI r<|Kc x8 x9 cX ee fj qf)=Kc x.bL.slot x.bL.gen x.bL.key x.bL.value px x.kids.length:=rfl
def Mu (K:bP) (s:St) (v:aR) (L:al) (z1:Nat) (p1:ai) (z2:Nat) (p2:ai) (z3:Nat) (p3:ai) (z4:Nat) (p4:ai) (hd:ah) (R:Option (List bm×aR)) (o:Out ah×St):Prop:=match R with
 |none=>∃s',o=(.fy,s')/\Fx L s s'
 |some (out,v')=>∃p z s',o=(.val [.slice z p out.length],s')/\(z=4\/p=none)/\eK K s' v' L z1 p1 z2 p2 z3 p3 z4 p4 hd/\Fx L s s'/\lX s' p (bY out)/\(∀b∈aN p,s.length<=b)/\v'.nodes+(room K.m v'.W:Nat)<=v.nodes+(room K.m v.W:Nat)/\v.nodes<=v'.nodes/\out.length<=4000
theorem eK.PW (h:eK K s v L z1 p1 z2 p2 z3 p3 z4 p4 hd) (h0:rh s0 L hd v.aK) (hl: ∀x∈L,x<s0.length) (ha: ∀b o,K.a=some (b,o)->b<s0.length) (k0:Fx L s0 s) (k:Fx T s s') (hT: ∀x∈T,s0.length<=x):eK K s' v L z1 p1 z2 p2 z3 p3 z4 p4 hd/\Fx L s0 s':=by
 have hf:Fx L s0 s':=k0.step k λx hx=> .inr (hT x hx)
 exact⟨h.kl k Fd (λb o e hm=>by have:=ha b o e;have:=hT b hm;omega) (h0.fx hf (Nw.refl L s0)),hf⟩
theorem ZAm {Bd:Zh} (h:HA Bd) (n:Nat) (hK:DR K) (k rN:Int) (hW:eK K s v L z1 p1 z2 p2 z3 p3 z4 p4 hd) (h0:0<=K.sup.used) (h1:K.sup.used<=1792) (hs:(v.aG.length:Int)=K.sup.used) (jz:0<=v.nodes) (hnr:v.nodes+(room K.m v.W:Nat)<=5000) (hm:K.m<=3072) (hn:4010<=n):
  Ok (Mu K s v L z1 p1 z2 p2 z3 p3 z4 p4 hd (su K k rN v)) (run Bd n 233 [.ptr (some (K.w,0)),.i k,.i rN] s):=by
 obtain⟨n,rfl⟩: ∃k,n=k+2:=⟨n-2,AC⟩;rw[Ze,h.af2];unfold Ra GI DP ZsB vd ZuX az C_ Zm cW Zn N_ rr cA sJ iI Lb Li B0 su;simp only[eO,av,aq];rw[Zz];have EP:=hW.lt;have Hc: ∀b o,K.a=some (b,o)->b<s.length:=λb o e=>Sl.lt (e▸hW.img)
 have oK:=aA.new s (some (⟨false,[DV.int .i64 k,.i rN,.i 0,.i 0,.i 0,.i 0,.bool true]⟩:bO));have yR:(s++[some (⟨false,[DV.int .i64 k,.i rN,.i 0,.i 0,.i 0,.i 0,.bool true]⟩:bO)])[s.length]? =some (some ⟨false,nY [⟨k,rN,yI,true⟩]⟩):=by simp;rfl
 have tr:=hW.pre oK;generalize s++[some (⟨false,[DV.int .i64 k,.i rN,.i 0,.i 0,.i 0,.i 0,.bool true]⟩:bO)]=s0 at oK yR tr;have⟨R,hR⟩: ∃R,jX K (K.m+1) [] [⟨k,rN,yI,true⟩] v=R:=⟨_,rfl⟩;rw[hR,Za];have hrm:=Zvi K.m v.W;refine Zj _ (λq y t=>∃(f:Nat) (out:List bm) (todo:List nB) (u:aR) (zo:Nat) (po:ai) (zt:Nat) (pt:ai),y=[.slice zo po out.length,.slice zt pt todo.length]/\(zo=4\/po=none)/\(zt=7\/pt=none)/\room K.m u.W<=q/\room K.m u.W<f/\eK K t u L z1 p1 z2 p2 z3 p3 z4 p4 hd/\u.aG=v.aG/\u.aK=v.aK/\Fx L s t/\lX t po (bY out)/\lX t pt (nY todo.reverse)/\(∀b∈aN po,s.length<=b)/\(∀b∈aN pt,s.length<=b)/\(∀b∈aN po,b∉aN pt)/\v.nodes<=u.nodes/\u.nodes+(room K.m u.W:Nat)<=v.nodes+(room K.m v.W:Nat)/\out.length+room K.m u.W<=3072/\todo.length+12*room K.m u.W<=40000/\jX K f out todo u=R) ?_ (room K.m v.W) (n+1) _ _ ⟨K.m+1,[],[⟨k,rN,yI,true⟩],v,0,none,7,some (s.length,0),rfl,.inr rfl,.inl rfl,aM _,AC,tr,rfl,rfl,Fx.pre L oK,.inl ⟨rfl,rfl⟩,.inr ⟨s.length,[],rfl,by rw[gM];exact yR⟩,λ_ h=>(by cases h),λb hb=>by rw[cE.1 hb];exact aM _,λ_ h=>(by cases h),Int.le_refl _,Int.le_refl _,by simp;omega,by simp;omega,hR⟩ AC;rintro q _ t ⟨f,out,todo,u,zo,po,zt,pt,rfl,hzo,hzt,hrq,hrf,eu,jj,uS,cU,Pt,hot,Kg,qE,XT,KK,KM,iz,uQ,aO⟩ rec aL;rw[Zf 4 zo po _ hzo,Zf 7 zt pt _ hzt,aq];obtain⟨f,rfl⟩: ∃k,f=k+1:=⟨f-1,AC⟩;cases todo with
 |nil=>
  rw[show decide ((([]:List nB).length:Int)>0)=false from rfl,af];simp only[aV,aq];unfold jX at aO;rw[Zd,<-aO];exact .mk ⟨po,4,t,rfl,.inl rfl,eu,cU,Pt,Kg,KM,KK,AC⟩
 |cons e r=>
  unfold jX at aO;rw[aX (Fd:(((e::r).length:Nat):Int)>0),Za];rcases hot with⟨_,hx⟩|⟨bt,rest,rfl,ab7⟩
  .exfalso
   have:=congrArg List.length hx;rw[Ns]at this;simp at this
  have cM:ar ((((e::r).length:Nat):Int)-1)=(r.length:Int):=by
   have e3:((((e::r).length:Nat):Int)-1)=(r.length:Int):=Do
   have h9:r.length<100000:=AC
   rw[e3];exact Zc
  rw[cM,br,bc,Zb (Zi Do)];have CU:nY (e::r).reverse=nY r.reverse++GD e:=by
   rw[List.reverse_cons,ZrY];simp[nY]
  have Yx: ∀Kc:ah->M ah,bX bt (r.length*7+0) 7 Kc t=Kc (GD e) t:=λKc=>by
   rw[gQ,Z9 ab7 (by rw[bz,Ns,List.length_reverse,cQ];omega),CU,show r.length*7=(nY r.reverse).length by rw[Ns,List.length_reverse],fR,DG];rfl
  rw[Yx];unfold GD;simp only[av,au,aq];rw[Zb (by rw[aY,bn,bn];simp;omega)];refine Ok.wW (eu.take h (n+1) e.block hK.m hK.GL hK.len AC) ?_ ?_
  .intro s' hp
   cases ht:dT K e.block u with
   |none=>rw[ht]at hp aO;cases hp;rw[<-aO];exact⟨t,rfl,cU⟩
   |some q=>rw[ht]at hp;have⟨d,s2,e,_⟩:=hp;cases e
  intro ds t1 hp;cases ht:dT K e.block u with
  |none=>rw[ht]at hp;cases hp
  |some q=>
   have⟨b,u1⟩:=q;rw[ht]at hp aO;have⟨d,s2,e2,iV,mH,hb⟩:=hp;cases e2;have⟨g1,g2,g3,g4,g5,g6⟩:=Z4 ht;have⟨g7,g8⟩:=yl ht;have PD:=VS eu.set.len g7;rw[<-g8]at PD;have oE:Fx L s t1:=cU.trans (mH.mono λy hy=>by rw[cE.1 hy];exact eu.xA);rw[DL,aq];cases b with
   |leaf x=>obtain⟨rfl,_⟩:=hb;rw[<-aO];exact .mk ⟨t1,rfl,oE⟩
   |cm x=>obtain⟨rfl,_⟩:=hb;rw[<-aO];exact .mk ⟨t1,rfl,oE⟩
   |queue x=>obtain⟨rfl,_⟩:=hb;rw[<-aO];exact .mk ⟨t1,rfl,oE⟩
   |dir x=>obtain⟨p,rfl,_⟩:=hb;rw[<-aO];exact .mk ⟨t1,rfl,oE⟩
   |none=>cases hb;rw[<-aO];exact .mk ⟨t1,rfl,oE⟩
   |node x=>
    obtain⟨px,rfl,Le,hxr,ac4⟩:=hb;simp only at aO;rw[Zyn];have PH:=IP hxr;have vZ: ∀t',Fx L s t'->vt K u1 e x=false->Ok (Mu K s v L z1 p1 z2 p2 z3 p3 z4 p4 hd R) (some (.fy,t')):=λt' xh hf=>by
     rw[hf,af]at aO;rw[<-aO];exact .mk ⟨t',rfl,xh⟩
    have⟨c1,jg⟩: ∃c1,(bif (x.kids.length:Int)==e.rN then(bif e.top then true else fD e.par x.bL)else false)=c1:=⟨_,rfl⟩;have⟨c2,kU⟩: ∃c2,(bif decide (x.bL.slot<K.sup.used)then El u1 x.bL e.block else false)=c2:=⟨_,rfl⟩;have X8:vt K u1 e x=(c1&&c2):=by unfold vt;rw[jg,kU]
    refine Ok.join λaW kW=>?_
    have hA: ∀t2,eK K t2 u1 L z1 p1 z2 p2 z3 p3 z4 p4 hd->Fx L s t2->lX t2 po (bY out)->lX t2 (some (bt,0)) (nY r.reverse)->Fz t2 px (ints x.kids)->Ok (Mu K s v L z1 p1 z2 p2 z3 p3 z4 p4 hd R) (aW [.bool c1] t2):=by
     intro t2 mF gk aiT aiX ajP;rw[kW];simp only[au,aq];cases c1 with
     |false=>
      rw[pD h n rfl];exact vZ t2 gk (by rw[X8];rfl)
     |true=>
     rw[ue h n rfl,aq,bc,Zo mF.cell rfl,bj];refine Ok.join λbA C8=>?_
     have hB:Ok (Mu K s v L z1 p1 z2 p2 z3 p3 z4 p4 hd R) (bA [.bool c2] t2):=by
      rw[C8];simp only[au,aq];cases c2 with
      |false=>
       rw[pD h n rfl];exact vZ t2 gk (by rw[X8];rfl)
      |true=>
      rw[ue h n rfl];rw[X8,wC,ae]at aO;simp only[aq,bc];rw[Zo mF.cell rfl,bj];have p7:ar (u1.nodes+1)=u1.nodes+1:=Zc (by rw[g5];omega) (by rw[g5];omega);rw[p7,eJ];have⟨t3,e3,xb,fL,aiw⟩:=mF.akr (β:=ah) (u1.nodes+1);rw[e3];have oM:K.w∈L:=eu.Fu;have aco:Fx L s t3:=gk.trans (fL.mono λy hy=>by rw[cE.1 hy];exact oM);have ig: ∀b,s.length<=b->b∉[K.w]:=λb hb hm=>by rw[cE.1 hm]at hb;have:=EP _ oM;omega
      have aiU:=aiT.fx fL λb hb=>ig b (Kg b hb)
      have acL:=aiX.fx fL λb hb=>ig b (qE b hb)
      have ajQ:=ajP.kp aiw;have⟨bo,t4,q1,q2,q3,q4,q5⟩:=Zxm (β:=ah) aiU (sz:=4) (n:=out.length) (lim:=2199023255552) (fk x.bL) AC (Zu _) rfl;refine Eq.mpr (congrArg (Ok _) (q5 _)) ?_;have Yj:rh s L hd u1.aK:=by rw[g2,uS];exact hW.aK
      have⟨oC,tx⟩:=xb.PW Yj EP Hc aco q3 Kg;have aiY:=acL.fx q3 λb hb hm=>XT b hm hb
      have ajR:=ajQ.kp q4;have hs4:s.length<=t4.length:=tx.1;rw[Za];refine Zzp (s:=s) (n+1) rfl x px r t4 (some (bt,0)) ajR ac4 aiY (by simp at uQ;omega) qE hs4 AC (Kn:=λds=>bU 7 ds λaa1 aa2 st=>aI st<|bU 4 [.slice 4 (some (bo,0)) (out.length+1),.slice 7 aa1 aa2] λuV tJ st=>bU 7 st λaaZ aa0 st=>aI st<|rec [.slice 4 uV tJ,.slice 7 aaZ aa0]) ?_ 7 (.inl rfl);intro t5 pT z hz hT OX C3;rw[Zf 7 z pT _ hz,aV,aq];have ab5:bo∉aN (some (bt,0)):=λhm=>by
       have:=lX.lt acL bo hm;omega
      have xq:=aco.1;have⟨Ha,aif⟩:=oC.PW Yj EP Hc tx C3 qE;have ak8:bo<t4.length:=(eB.1 q2).1;refine aL (room K.m u1.W) _ _ AC ⟨f,out++[x.bL],tG x x.kids.length++r, { u1 with nodes:=u1.nodes+1 },4,some (bo,0),7,pT,?_,.inl rfl,.inl rfl,aM _,(AC:room K.m u1.W<f),Ha,by show u1.aG=_;rw[g1,jj],by show u1.aK=_;rw[g2,uS],aif,.inr ⟨bo,[],rfl,?_⟩,hT,λb hb=>?_,λb hb=>(OX b hb).1,λb hb hm=>?_,?_,?_,?_,?_,aO⟩
      .simp[Vq,tX]
      .rw[gM,Am]
       have:=C3.2 bo _ ab5 q2;simpa [bY]using this
      .rw[cE.1 hb];omega
      .rw[cE.1 hb]at hm
       rcases(OX bo hm).2 with h5|h5
       .exact ab5 h5
       .omega
      .show v.nodes<=u1.nodes+1
       rw[g5];omega
      .show u1.nodes+1+_<=_
       rw[g5];show u.nodes+1+(room K.m u1.W:Nat)<=_;omega
      .show(out++[x.bL]).length+room K.m u1.W<=_
       simp;omega
      .show(tG x x.kids.length++r).length+12*room K.m u1.W<=_
       rw[bz,Vq];simp at uQ;omega
     cases aw:decide (x.bL.slot<K.sup.used)with
     |false=>
      rw[aw,af]at kU;rw[af,kU];exact hB
     |true=>
      rw[aw,ae]at kU;have uM:=mW aw;rw[ae,bc,Zo mF.cell rfl];show Ok _ (dz 3 (.slice z1 p1 u1.aG.length) _ t2);rw[Z3 3 z1 p1 _ mF.e1];have zg:u1.aG.length=v.aG.length:=by rw[g1,jj]
      have⟨ks,yZ⟩: ∃ks:Nat,x.bL.slot=ks:=⟨x.bL.slot.toNat,AC⟩;have gm:ks<u1.aG.length:=by rw[zg];omega
      obtain⟨bs,rfl,vM⟩:=mF.o1.cF (by rw[ZB];omega);have np:u1.aG[ks]? =some u1.aG[ks]:=cu gm;unfold El at kU;rw[yZ,br,np]at kU;rw[bc,yZ,Zb (Zi gm),br,MX vM np];unfold eV;simp only[au,av,aq];simp only at kU;rw[kU];exact hB
    have hjL:K.j∈L:=eu.xA;have hnj: ∀b,s.length<=b->b∉[K.j]:=λb hb hm=>by rw[cE.1 hm]at hb;have:=EP _ hjL;omega
    have YH:=Pt.fx mH λb hb=>hnj b (Kg b hb)
    have YI:lX t1 (some (bt,0)) (nY r.reverse):= .inr ⟨bt,GD e++rest,rfl,by
     rw[<-fR,<-CU];exact mH.2 bt _ (hnj bt (qE bt (by simp[aN]))) ab7⟩
    cases EI:((x.kids.length:Int)==e.rN)with
    |false=>
     rw[EI,af]at jg;rw[af,jg];exact hA t1 iV oE YH YI Le
    |true=>
     rw[EI,ae]at jg;rw[ae];refine Ok.join λdA Pa=>?_
     cases htp:e.top with
     |true=>
      rw[htp,ae]at jg;rw[ae,Pa];simp only[au,aq];rw[jg];exact hA t1 iV oE YH YI Le
     |false=>
      rw[htp,af]at jg;rw[af];refine Ok.call (ZwG h.ajY (n+1) AC e.par x.bL t1) ?_;rintro _ ⟨z,t2,rfl,aU,e2⟩;refine⟨_,t2,rfl,?_⟩;rw[Pa];simp only[av,au,aq];rw[e2,jg];exact hA t2 (iV.pre aU) (oE.trans (Fx.pre L aU)) (YH.fx (Fx.pre [] aU) λ_ _ h=>by cases h) (YI.fx (Fx.pre [] aU) λ_ _ h=>by cases h) (Le.pre aU)
def e4 (e:bm):E4:=(e.slot,e.gen,e.key,e.value)
def Dy (x:E4):bm:=⟨x.1,x.2.1,x.2.2.1,x.2.2.2⟩
theorem Go.Gv.abO: ∀(l:List bm),Go.Gv.AL (bY l)=some (l.map e4)
 |[]=>rfl
 |e::l=>by
  show(match Go.Gv.AL (bY l)with|some l=>some ((e.slot,e.gen,e.key,e.value)::l)|none=>none)=_;rw[Go.Gv.abO l];rfl
theorem ZnC: ∀(l:List E4),nb l=bY (l.map Dy)
 |[]=>rfl
 |x::l=>by
  show tg x++nb l=_;rw[ZnC l];rfl
def lQ (l:List bm):List bm:=(jQ (l.map e4)).map Dy
theorem Vj (l:List bm):(lQ l).length=l.length:=by simp[lQ,lB,VA]
theorem Zpf (l:List bm):(lQ l).Perm l:=by
 unfold lQ;have:=(IS (l.map e4)).map Dy;rwa [zX,show Dy∘e4=id from rfl,List.map_id]at this
theorem VD {x y:E4} (h:x.1≠y.1):(fT x y||fT y x)=true:=by
 rw[mm,Ef,Ef];omega
theorem TD: ∀ {l:List bm},Diff l->Ek (l.map e4)=true
 |[],_=>rfl
 |e::l,.cons h1 h2=>by
  show((l.map e4).all (λy=>fT (e4 e) y||fT y (e4 e))&&Ek (l.map e4))=true;rw[TD h2,wC,wF];intro y hy;obtain⟨z,hz,rfl⟩:=oW.1 hy;exact VD (h1 z hz)
variable {Bd:Zh} [h:HA Bd]
theorem ZAl (n:Nat) (l:List bm) (p:ai) (st:St) (hs:lX st p (bY l)) (hd:Diff l) (hl:l.length<=1000000):
  ∃s',run Bd (n+1) 232 [.slice 4 p l.length,.func 159 [] []] st=some (.val [],s')/\lX s' p (bY (lQ l))/\Fx (aN p) st s':=by
 rw[Ze,h.af1];unfold Jl;rcases hs with⟨rfl,hx⟩|⟨b,rest,rfl,hb⟩
 .have h0:l.length=0:=by
   have:=congrArg List.length hx;rw[Zu,xS]at this;omega
  have h1:l=[]:=zW.1 h0;subst h1;exact⟨st,rfl,.inl ⟨rfl,rfl⟩,.refl _ _⟩
 .have dX:st.gP b=some (bY l++rest):=by grind[St.gP]
  simp only[dX];rw[gz (by rw[bz,Zu];omega),ae,dE,<-Zu,FO,Go.Gv.abO];simp only[TD hd,gz hl,Bool.and_self,ae];have pY:nb (jQ (l.map e4))=bY (lQ l):=ZnC _;rw[pY];have iZ:=sV [] (bY l) rest (bY (lQ l)) (by rw[Zu,Zu,Vj]);rw[iG,iG]at iZ;refine⟨_,rfl,.inr ⟨b,rest,rfl,?_⟩,Fx.set st b _⟩;rw[lA (eB.1 hb).1];grind
def dq (x:cy) (p:ai):ah:=[.i x.seq,.i x.blocks,.i x.dc,.i x.g,.i x.cm,.i x.used,.i x.free,.i x.dir,.slice 1 p x.aJ.length]
def nW (x:cy) (k:Int):Bool:=bif decide (k>=2)then decide (k<x.blocks)else false
def rp (x:cy):Bool:=(List.range x.aJ.length).all λi=>nW x (x.aJ.getD i 0)&& !decide (x.aJ.getD i 0∈x.aJ.take i)
def ZT (x:cy):Bool:=
 !(decide (x.seq<1)||(decide (x.seq>4611686018427387904)||(!pS x.blocks x.dc x.g||(decide (x.used<0)||(decide (x.used>x.dc)||(decide (x.free<0)||decide (x.free>x.used)))))))&&
 (!((bif x.used==0 then !(x.cm==0)else false)||((bif decide (x.used>0)then !nW x x.cm else false)||((bif !(x.dir==0)then !nW x x.dir else false)|| !((x.aJ.length:Int)==Av x.blocks x.dc x.g))))&&rp x)
theorem Zn9 (n:Nat) (x:cy) (p:ai) (b:Nat) (k:Int) (st:St) (hb:st[b]? =some (some ⟨false,dq x p⟩)):
  run Bd (n+1) 221 [.i k,.ptr (some (b,0))] st=some (.val [.bool (nW x k)],st):=by
 rw[Ze,h.afR];unfold Sf jt az Zm Lb nW
 try dsimp only
 rw[av,eO,aq,Za,bc];cases decide (k>=2)with
 |false=>rfl
 |true=>
  rw[ae,ae,Zo hb (d:= .i x.blocks) rfl];rfl
theorem Zk1 (n:Nat) (x:cy) (p:ai) (st:St) (hs:Sl st p (ints x.aJ)) (hl:x.aJ.length<1000) (hn:x.aJ.length+10<=n):
  run Bd n 197 [.agg (dq x p)] st=some (.val [.bool (ZT x)],st++[some ⟨false,dq x p⟩]):=by
 obtain⟨n,rfl⟩: ∃k,n=k+3:=⟨n-3,AC⟩;rw[Ze,h.afw];unfold SJ yd Zm az Q_ cN Zn bu En tY Lb Li ep vw ZT
 try dsimp only
 have hb:(st++[some (⟨false,dq x p⟩:bO)])[st.length]? =some (some ⟨false,dq x p⟩):=Do
 have eY:=hs.mono (aA.new st (some (⟨false,dq x p⟩:bO)));have AU:=λk=>Zn9 (n+1) x p st.length k _ hb
 have ld: ∀(k:Nat) (d:DV),(dq x p)[k]? =some d->∀Kc:DV->M ah,bD st.length k Kc (st++[some (⟨false,dq x p⟩:bO)])=Kc d (st++[some (⟨false,dq x p⟩:bO)]):=λk d e Kc=>Zo hb e Kc
 have ld3: ∀Kc:ah->M ah,bX st.length 1 3 Kc (st++[some (⟨false,dq x p⟩:bO)])=Kc [.i x.blocks,.i x.dc,.i x.g] (st++[some (⟨false,dq x p⟩:bO)]):=λKc=>by
  rw[Z9 hb (by show 1+3<=9;omega)];rfl
 show bh [.agg (dq x p)] _ st=_;rw[da];unfold dq;simp only[av,aV,aq];rw[Zz];change _=some (Out.val _,st++[some (⟨false,dq x p⟩:bO)]);have mG:([.i x.seq,.i x.blocks,.i x.dc,.i x.g,.i x.cm,.i x.used,.i x.free,.i x.dir,.slice 1 p x.aJ.length]:ah)=dq x p:=rfl;rw[mG];generalize (st++[some (⟨false,dq x p⟩:bO)])=s1 at hb eY AU ld ld3⊢;rw[ld 0 (.i x.seq) rfl,bj];refine ok_eq ?_;have⟨F1,hF1⟩: ∃F1,(decide (x.seq<1)||(decide (x.seq>4611686018427387904)||(!pS x.blocks x.dc x.g||(decide (x.used<0)||(decide (x.used>x.dc)||(decide (x.free<0)||decide (x.free>x.used)))))))=F1:=⟨_,rfl⟩;have⟨F2,J9⟩: ∃F2,((bif x.used==0 then !(x.cm==0)else false)||((bif decide (x.used>0)then !nW x x.cm else false)||((bif !(x.dir==0)then !nW x x.dir else false)|| !((x.aJ.length:Int)==Av x.blocks x.dc x.g))))=F2:=⟨_,rfl⟩;rw[hF1,J9];refine Ok.join λay h1=>?_
 have A1: ∀b,(decide (x.seq<1)||decide (x.seq>4611686018427387904))=b->Ok (λp=>p=(Out.val [DV.bool (!F1&&(!F2&&rp x))],s1)) (ay [.bool b] s1):=by
  intro b1 e1;rw[h1];simp only[au,aq];refine Ok.join λaH h2=>?_
  have A2: ∀b,(b1|| !pS x.blocks x.dc x.g)=b->Ok (λp=>p=(Out.val [DV.bool (!F1&&(!F2&&rp x))],s1)) (aH [.bool b] s1):=by
   intro b2 e2;rw[h2];simp only[au,aq];refine Ok.join λaW h3=>?_
   have A3: ∀b,(b2||decide (x.used<0))=b->Ok (λp=>p=(Out.val [DV.bool (!F1&&(!F2&&rp x))],s1)) (aW [.bool b] s1):=by
    intro b3 e3;rw[h3];simp only[au,aq];refine Ok.join λbA h4=>?_
    have A4: ∀b,(b3||decide (x.used>x.dc))=b->Ok (λp=>p=(Out.val [DV.bool (!F1&&(!F2&&rp x))],s1)) (bA [.bool b] s1):=by
     intro b4 e4;rw[h4];simp only[au,aq];refine Ok.join λcq h5=>?_
     have A5: ∀b,(b4||decide (x.free<0))=b->Ok (λp=>p=(Out.val [DV.bool (!F1&&(!F2&&rp x))],s1)) (cq [.bool b] s1):=by
      intro b5 e5;rw[h5];simp only[au,aq];refine Ok.join λdA h6=>?_
      have A6: ∀b,(b5||decide (x.free>x.used))=b->Ok (λp=>p=(Out.val [DV.bool (!F1&&(!F2&&rp x))],s1)) (dA [.bool b] s1):=by
       intro b6 e6;rw[h6];simp only[au,aq];have yS:F1=b6:=by rw[<-hF1,<-e6,<-e5,<-e4,<-e3,<-e2,<-e1];grind
       cases b6 with
       |true=>rw[ae,Zd,yS];exact .mk rfl
       |false=>
        rw[af,yS,bp,dL,ld 5 (.i x.used) rfl,bj];refine Ok.join λgU h7=>?_
        have B7: ∀b,(bif x.used==0 then !(x.cm==0)else false)=b->Ok (λp=>p=(Out.val [DV.bool (!F2&&rp x)],s1)) (gU [.bool b] s1):=by
         intro b7 e7;rw[h7];simp only[au,aq];refine Ok.join λiN h8=>?_
         have B8: ∀b,(b7||(bif decide (x.used>0)then !nW x x.cm else false))=b->Ok (λp=>p=(Out.val [DV.bool (!F2&&rp x)],s1)) (iN [.bool b] s1):=by
          intro b8 e8;rw[h8];simp only[au,aq];refine Ok.join λiO h9=>?_
          have B9: ∀b,(b8||(bif !(x.dir==0)then !nW x x.dir else false))=b->Ok (λp=>p=(Out.val [DV.bool (!F2&&rp x)],s1)) (iO [.bool b] s1):=by
           intro b9 e9;rw[h9];simp only[au,aq];refine Ok.join λkG OL=>?_
           have B10: ∀b,(b9|| !((x.aJ.length:Int)==Av x.blocks x.dc x.g))=b->Ok (λp=>p=(Out.val [DV.bool (!F2&&rp x)],s1)) (kG [.bool b] s1):=by
            intro Cy J0;rw[OL];simp only[au,aq];have ab4:F2=Cy:=by rw[<-J9,<-J0,<-e9,<-e8,<-e7];simp only[Bool.or_assoc]
            cases Cy with
            |true=>rw[ae,Zd,ab4];exact .mk rfl
            |false=>
             rw[af,ab4,bp,dL,ld 8 (.slice 1 p x.aJ.length) rfl,kA,Za];refine Zj _ (λq y s=>∃i:Nat,y=[.i i]/\i<=x.aJ.length/\x.aJ.length-i<=q/\s=s1/\((List.range i).all λi=>nW x (x.aJ.getD i 0)&& !decide (x.aJ.getD i 0∈x.aJ.take i))=true) ?_ x.aJ.length (n+2) _ _ ⟨0,rfl,AC,AC,rfl,rfl⟩ AC;rintro q _ s ⟨i,rfl,hi,hq,rfl,dt⟩ rec aL;simp only[av,aq];by_cases aw:i<x.aJ.length
             .obtain⟨i1,o1,rfl⟩:=eY.cF (by simp[ints];omega)
              rw[aX,bc,Zb (Zi aw),br,eY.dO (ZC aw),bj];have hw:ar ((i:Int)+1)=((i+1:Nat):Int):=Zc;have yW:x.aJ.getD i 0=x.aJ[i]:=by rw[ef,cu aw];rfl
              have cD:(nW x x.aJ[i]&& !decide (x.aJ[i]∈x.aJ.take i))=false->rp x=false:=λe=>List.all_eq_false.2 ⟨i,uY.2 aw,by rw[yW,e];decide⟩
              rw[Zk (AU x.aJ[i])];simp only[au,aq,Za];cases hb:nW x x.aJ[i]with
              |false=>
               rw[bp,ae,ae,Zd,cD (by rw[hb];rfl)];exact .mk rfl
              |true=>
               rw[bw,af,ld 8 (.slice 1 (some (i1,o1)) x.aJ.length) rfl,kA,Zb (by rw[aY,bn,bn];omega)];have Y3:(x.aJ.take i).length=i:=by rw[cR];omega
               have cd:Sl s (some (i1,o1)) (ints (x.aJ.take i)):=by
                have:=Sl.lu eY i;rwa [show(ints x.aJ).take i=ints (x.aJ.take i) by unfold ints;rw[List.map_take]]at this
               have hc:=ZjR (n+2) (x.aJ.take i) x.aJ[i] _ s cd AC AC;rw[Y3]at hc;rw[Zk hc,au,aq];cases hm:decide (x.aJ[i]∈x.aJ.take i)with
               |true=>
                rw[ae,Zd,cD (by rw[hb,hm];rfl)];exact .mk rfl
               |false=>
                rw[af,hw];refine aL (x.aJ.length-(i+1)) _ _ AC ⟨i+1,rfl,AC,aM _,rfl,?_⟩;rw[qW,tT,dt,wE,List.all_nil,yW,hb,hm];rfl
             .rw[aZ,Zd]
              rw[show i=x.aJ.length by omega]at dt;unfold rp;rw[dt];exact .mk rfl
           cases b9 with
           |true=>rw[ae];exact B10 true rfl
           |false=>
            rw[af,ld 8 (.slice 1 p x.aJ.length) rfl,kA,ld3];simp only[av,aq];rw[rj (ZqS n x.blocks x.dc x.g s1) (.refl s1),av,aq];exact B10 _ rfl
          cases b8 with
          |true=>rw[ae];exact B9 true rfl
          |false=>
           rw[af,ld 7 (.i x.dir) rfl,bj,Za];cases hd:(!(x.dir==0))with
           |false=>rw[af];simp only[au,aq];exact B9 _ (by rw[hd];rfl)
           |true=>
            rw[ae,ld 7 (.i x.dir) rfl,bj,Zk (AU x.dir),au,aq];exact B9 _ (by rw[hd];rfl)
         cases b7 with
         |true=>rw[ae];exact B8 true rfl
         |false=>
          rw[af,ld 5 (.i x.used) rfl,bj,Za];cases hd:decide (x.used>0)with
          |false=>rw[af];simp only[au,aq];exact B8 _ (by rw[hd];rfl)
          |true=>
           rw[ae,ld 4 (.i x.cm) rfl,bj,Zk (AU x.cm),au,aq];exact B8 _ (by rw[hd];rfl)
        cases hu:(x.used==0)with
        |true=>rw[ae,ld 4 (.i x.cm) rfl,bj];exact B7 _ (by rw[hu];rfl)
        |false=>rw[af];exact B7 _ (by rw[hu];rfl)
      cases b5 with
      |true=>rw[ae];exact A6 true rfl
      |false=>rw[af,ld 6 (.i x.free) rfl,bj,ld 5 (.i x.used) rfl,bj];exact A6 _ rfl
     cases b4 with
     |true=>rw[ae];exact A5 true rfl
     |false=>rw[af,ld 6 (.i x.free) rfl,bj];exact A5 _ rfl
    cases b3 with
    |true=>rw[ae];exact A4 true rfl
    |false=>rw[af,ld 5 (.i x.used) rfl,bj,ld 2 (.i x.dc) rfl,bj];exact A4 _ rfl
   cases b2 with
   |true=>rw[ae];exact A3 true rfl
   |false=>rw[af,ld 5 (.i x.used) rfl,bj];exact A3 _ rfl
  cases b1 with
  |true=>rw[ae];exact A2 true rfl
  |false=>
   rw[af,ld3];simp only[av,aq];rw[Zk (Zl4 (n+1) x.blocks x.dc x.g s1),au,aq];exact A2 _ rfl
 cases hc:decide (x.seq<1)with
 |true=>rw[ae];grind
 |false=>rw[af,ld 0 (.i x.seq) rfl,bj];grind
def mw (K:bP):Int->ak->List bm->aR->Option (List bm×aR)
 |_,[],acc,v=>some (acc,v)
 |k,y::r,acc,v=>bif !(y==0)then(match su K y k v with
   |none=>none
   |some (out,v')=>mw K (k+1) r (acc++out) v')else mw K (k+1) r acc v
def AD (v:aR) (k:Nat) (nm:aj):Bool:=bif decide (k=0)then true else(match v.aK[k-1]? with
 |none=>false
 |some x=>decide (cmpL (dM x.name) (dM nm)<0))
def uy (K:bP):Nat->ak->aR->Option aR
 |_,[],v=>some v
 |k,y::r,v=>match dT K y v with
  |some (.queue q,v1)=>bif AD v1 k q.name then(match mw K 0 q.dH [] v1 with
   |none=>none
   |some (es,v2)=>uy K (k+1) r { v2 with aK:=v2.aK++[⟨q.name,lQ es⟩] })else none
  |_=>none
def rz (K:bP) (v:aR):Option aR:=bif K.sup.dir==0 then some v else(match dT K K.sup.dir v with
 |some (.dir x,v')=>uy K 0 x v'
 |_=>none)
def qT (m:Nat):aR:=⟨jl m [0,1],[],[],[],[],0⟩
def tQ (K:bP):Option aR:=match oy K (qT K.m)with
 |none=>none
 |some v1=>match tm K v1 with
  |none=>none
  |some v2=>match rz K v2 with
   |none=>none
   |some v3=>bif decide ((zy v3:Int)=v3.nodes)then some (uT v3)else none
theorem I4 {K:bP} : ∀ {l:ak} {k:Int} {acc es:List bm} {v v':aR},v.W.length=(K.m+63)/64->mw K k l acc v=some (es,v')->(∀e∈acc,vg v e)->Diff acc->(∀e∈es,vg v' e)/\Diff es/\v'.W.length=(K.m+63)/64/\v'.aG=v.aG/\v'.aK=v.aK/\v'.aF=v.aF/\v'.free=v.free
 |[],_,_,_,_,_,hl,h,h1,h2=>by cases h;grind
 |y::r,k,acc,es,v,v',hl,h,h1,h2=>by
  unfold mw at h;cases hy:(!(y==0))with
  |false=>rw[hy,af]at h;exact I4 hl h h1 h2
  |true=>
   rw[hy,ae]at h;cases ht:su K y k v with
   |none=>rw[ht]at h;cases h
   |some q=>
    have⟨out,v1⟩:=q;rw[ht]at h;have⟨a1,a2,a3,_,a5,a6,a7,a8⟩:=I8 (acc:=acc) hl ht (by simpa using h1) (by simpa using h2);have⟨b1,b2,b3,b4,b5,b6,b7⟩:=I4 a3 h a1 a2;grind
theorem aem {a:ai} (h:lX s a cs) {sz n:Nat} (ds:ah) (hz:0<sz) (hn:cs.length=n*sz) (hd:ds.length=m*sz) (hl:n+m<=lim):
  ∃a' s',lX s' a' (cs++ds)/\Fx (aN a) s s'/\Kp s s'/\(∀b∈aN a',b∈aN a\/s.length<=b)/\∀K:ai->M β,cw sz a n ds m lim K s=K a' s':=by
 by_cases hm:m=0
 .subst hm
  have:ds=[]:=Fd
  subst this;exact⟨a,s,by rwa [gM],.refl _ _,.refl _,λ_ h=> .inl h,λK=>rfl⟩
 .have hb:Nat.beq m 0=false:=by cases m with|zero=>exact absurd rfl hm|succ m=>rfl
  rcases h with⟨rfl,rfl⟩|⟨i,rest,rfl,hs⟩
  .have h0:n=0:=by
    rcases Ic.1 (show n*sz=0 by simpa using hn.symm)with h|h
    .exact h
    .omega
   subst h0;refine⟨some (s.length,0),s++[some (⟨false,ds⟩:bO)],.inr Do,Fx.pre _ (aA.new _ _),(aA.new _ _).kp,λb hb=> .inr (by rw[cE.1 hb];exact aM _),λK=>?_⟩;unfold cw;rw[hb,gz hl,ae,af];rfl
  .have dX:s.gP i=some (cs++rest):=by grind[St.gP]
   refine⟨some (s.length,0),s.set i none++[some (⟨false,cs++ds⟩:bO)],.inr Do,⟨Do,λy x hy e=>?_⟩,(Kp.set hs none).trans (aA.new _ _).kp,λb hb=> .inr (by rw[cE.1 hb];exact aM _),λK=>?_⟩
   .have hyl:=(eB.1 e).1
    have dQ:i≠y:=λe=>hy (by simp[aN,e])
    rw[mn (by simp;omega),jH dQ];exact e
   .unfold cw
    simp only[hb,gz hl,ae,af,dX];rw[eJ,gz (by rw[bz];omega),ae,dE,<-hn,FO]
theorem Zyc {Bd:Zh} (hT:HA Bd) (n:Nat) (hK:DR K) (nm:aj) (x:ak) (hx:x.length=12) (s0:St) (L0:al) (hW:eK K s v L z1 p1 z2 p2 z3 p3 z4 p4 hd) (vQ:Fx L0 s0 s) (ET:Nw L0 s0 L) (h0:0<=K.sup.used) (h1:K.sup.used<=1792) (hs:(v.aG.length:Int)=K.sup.used) (jz:0<=v.nodes) (hnr:v.nodes+(room K.m v.W:Nat)<=5000) (hm:K.m<=3072) (hn:4020<=n)
  (R:Option aR) (Kn:ah->M ah)
  (cD:mw K 0 x [] v=none->R=none)
  (aO: ∀es w,mw K 0 x [] v=some (es,w)->∀t p z,(z=4\/p=none)->eK K t w L z1 p1 z2 p2 z3 p3 z4 p4 hd->Fx L s t->lX t p (bY es)->(∀b∈aN p,s.length<=b)->w.nodes+(room K.m w.W:Nat)<=v.nodes+(room K.m v.W:Nat)->v.nodes<=w.nodes->es.length<=50000->Ok (sK K s0 L0 R []) (Kn [.agg [.str nm,.slice 4 p es.length]] t)):
  Ok (sK K s0 L0 R []) (cY (λdC st=>
      bh st λkQ st=>
      fa kQ λh2 r=>
      bU 4 r λh3 AT r=>
      aI r<|
      aC .i64 st λcX st=>
      aI st<|
      bif decide (cX<12)then
       aB (aP cX 12)<|
      eS (ints x) (cX.toNat*1) λd6=>
      de .i64 d6 λee=>
      cT (λst=>
       bh st λnH st=>
      fa nH λh4 r=>
      bU 4 r λh5 Xz r=>
      aI r<|
      aI st<|
      dC [.agg [.str h4,.slice 4 h5 Xz],.i (ar (cX+1))]) λcq=>
      bif !(ee==0)then
       cV (run Bd n 233 [.ptr (some (K.w,0)),.i ee,.i cX]) λds=>
      bU 4 ds λfj qf ds=>
      aI ds<|
      dx fj (qf*4) λyE=>
      cw 4 h3 AT yE qf 2199023255552 λp1=>
      cq [.agg [.str h2,.slice 4 p1 (AT+qf)]]
      else
       cq [.agg [.str h2,.slice 4 h3 AT]]
      else
       Kn [.agg [.str h2,.slice 4 h3 AT]]) n [.agg [.str nm,.slice 0 none 0],.i 0] s):=by
 have EP:=hW.lt;have Hc: ∀b o,K.a=some (b,o)->b<s.length:=λb o e=>Sl.lt (e▸hW.img)
 have⟨G,hG⟩: ∃G,mw K 0 x [] v=G:=⟨_,rfl⟩;rw[hG]at aO cD;refine Zj _ (λq y t=>∃(i:Nat) (acc:List bm) (u:aR) (z:Nat) (p:ai),y=[.agg [.str nm,.slice z p acc.length],.i i]/\(z=4\/p=none)/\i<=12/\12-i<=q/\eK K t u L z1 p1 z2 p2 z3 p3 z4 p4 hd/\u.aG=v.aG/\u.aK=v.aK/\Fx L s t/\lX t p (bY acc)/\(∀b∈aN p,s.length<=b)/\v.nodes<=u.nodes/\u.nodes+(room K.m u.W:Nat)<=v.nodes+(room K.m v.W:Nat)/\acc.length<=4000*i/\mw K i (x.drop i) acc u=G) ?_ 12 n _ _ ⟨0,[],v,0,none,rfl,.inr rfl,AC,AC,hW,rfl,rfl,.refl L s,.inl ⟨rfl,rfl⟩,λ_ h=>(by cases h),Int.le_refl _,Int.le_refl _,Do,by simpa using hG⟩ AC;rintro q _ t ⟨i,acc,u,z,p,rfl,hz,hi,hq,eu,jj,uS,cU,dX,CT,KK,KM,xc,ez⟩ rec aL;simp only[da,bT,av,Zf 4 z p _ hz,aq,Za];by_cases aw:i<12
 .have gj:x.drop i=(x[i]' AC)::x.drop (i+1):=jd AC
  rw[gj]at ez;rw[aX,Zb (show aP (i:Int) 12=true from Zi aw),br,cS,iu (ZC),bj];generalize x[i]' AC=y at ez;have hw:ar ((i:Int)+1)=((i+1:Nat):Int):=Zc;have uF:((i+1:Nat):Int)=(i:Int)+1:=AC
  rw[hw];unfold mw at ez;cases hy:(!(y==0))with
  |false=>
   rw[hy,af]at ez;rw[af];exact aL (12-(i+1)) _ _ AC ⟨i+1,acc,u,4,p,rfl,.inl rfl,AC,aM _,eu,jj,uS,cU,dX,CT,KK,KM,AC,by rw[uF];exact ez⟩
  |true=>
   rw[hy,ae]at ez;rw[ae];have nl:Fx L0 s0 t:=vQ.step cU ET;refine Ok.wW (ZAm hT n hK y i eu h0 h1 (by rw[jj];exact hs) AC AC hm AC) ?_ ?_
   .intro t' hp
    cases ht:su K y i u with
    |some q=>rw[ht]at hp;have⟨_,_,_,e,_⟩:=hp;cases e
    |none=>
     rw[ht]at hp ez;have⟨t2,e,nj⟩:=hp;cases e;rw[cD ez.symm];exact⟨t',rfl,nl.step nj ET⟩
   .intro ds t' hp
    cases ht:su K y i u with
    |none=>rw[ht]at hp;have⟨_,e,_⟩:=hp;cases e
    |some q=>
     have⟨out,u1⟩:=q;rw[ht]at hp ez;have⟨po,zo,t2,e,hzo,iV,mH,Pt,Kg,als,alr,iz⟩:=hp;cases e;simp only at ez;have⟨_,_,_,_,a5,a6,_,_⟩:=I8 (acc:=[]) eu.set.len ht (λ_ h=>by cases h) .nil;rw[Zf 4 zo po _ hzo,aq];have dI:Sl t' po (bY out):=by
      rcases Pt with⟨rfl,h2⟩|⟨b,rest,rfl,h2⟩
      .exact h2
      .exact⟨false,_,h2,by rw[bz];omega,by rw[dE,FO]⟩
     have nP:=iC (β:=ah) dI;rw[Zu]at nP;rw[nP];have aiW:=dX.fx mH λb hb lM=>by have:=EP b lM;have:=CT b hb;omega
     have⟨pa,t3,b1,b2,b3,b4,b5⟩:=aem (β:=ah) aiW (sz:=4) (n:=acc.length) (m:=out.length) (lim:=2199023255552) (bY out) AC (Zu _) (Zu _) AC;rw[b5];have oE:Fx L s t':=cU.trans mH;have⟨xb,fL⟩:=iV.PW (by rw[a6,uS];exact hW.aK) EP Hc oE b2 CT;refine aL (12-(i+1)) _ _ AC ⟨i+1,acc++out,u1,4,pa,by rw[bz],.inl rfl,AC,aM _,xb,a5.trans jj,a6.trans uS,fL,by rw[Am];exact b1,λb hb=>?_,AC,AC,by rw[bz];omega,by rw[uF];exact ez⟩;rcases b4 b hb with h5|h5
     .exact CT b h5
     .have:=oE.1;omega
 .rw[aZ]
  rw[ly AC]at ez;exact aO acc u ez.symm t p 4 (.inl rfl) eu cU dX CT KM KK AC
theorem SY {x:ZH} (h:ZL l=some x):x.name.length<=24/\na x=true:=by
 unfold ZL at h;split at h
 .cases h
 .rename_i k t b _
  cases e:(decide (k=5)&&(decide (t<=24)&&ZD (b.drop (28+t))))with
  |false=>rw[e]at h;cases h
  |true=>
   rw[e]at h;cases e2:na (jY b t)with
   |false=>rw[e2]at h;cases h
   |true=>
    rw[e2]at h;cases h;rw[aY,aY,bn]at e;refine⟨?_,e2⟩;have:=mW e.2.1;show((b.drop 28).take t).length<=24;rw[cR];omega
theorem Zm6 {x:ZH} (h:ZX l= .queue x):ZL l=some x:=by
 grind[ZX]
theorem Vw {b:xW} (h:dT K k v=some (b,v')):ZX (ZG K.img k.toNat)=b:=by
 grind[dT]
theorem Zz0 (pn:M β) (p:ai) (m:Nat) (Kc:ai->Nat->M β):vC pn (.iface 3 (.agg [.slice 1 p m])) 3 (λd=>ur d λcs=>bU 1 cs λx xn r=>aI r<|Kc x xn)=Kc p m:=rfl
theorem ZxF (pn:M β) (q:ZH) (Kc:aj->Int->ah->M β):vC pn (.iface 4 (.agg (Z1 q))) 4 (λd=>ur d λcs=>fa cs λx7 r1=>aC .i64 r1 λx8 r2=>Kc x7 x8 r2)=Kc q.name q.mask (ints q.dH):=rfl
theorem V4 {K:bP} : ∀ {l:ak} {k:Nat} {v v':aR},v.W.length=(K.m+63)/64->uy K k l v=some v'->v'.aG=v.aG/\v'.aF=v.aF/\v'.free=v.free/\v'.aK.length=v.aK.length+l.length
 |[],_,_,_,_,h=>by cases h;simp
 |y::r,k,v,v',hl,h=>by
  unfold uy at h;split at h
  .rename_i q v1 ht
   cases hn:AD v1 k q.name with
   |false=>rw[hn]at h;cases h
   |true=>
    rw[hn,ae]at h;have⟨g1,g2,g3,g4,g5,g6⟩:=Z4 ht;split at h
    .cases h
    .rename_i es v2 hh
     have⟨_,_,b3,b4,b5,b6,b7⟩:=I4 (by rw[(yl ht).2,pC];exact hl) hh (λ_ h=>by cases h) .nil;have⟨c1,c2,c3,c4⟩:=V4 (by exact b3) h;grind
  .cases h
theorem bg.Qb {a:ai} (h:bg [] s a cs): ∀b∈aN a,∃c,s[b]? =some (some ⟨false,c⟩):=by
 rcases h.2 with⟨rfl,_⟩|⟨i,rfl,_,h3⟩
 .intro b hb;cases hb
 .intro b hb;rw[cE.1 hb];exact⟨_,h3⟩
theorem eK.kp (h:eK K s v L z1 p1 z2 p2 z3 p3 z4 p4 hd) (k:Fx L s s'):Kp s s':=by
 intro i all e;refine k.2 i _ (λhm=>?_) e;have ho: ∃c,s[i]? =some (some ⟨false,c⟩):=by
  rw[h.own]at hm;simp only[eM,gI]at hm;rcases hm with rfl|rfl|rfl|hm|hm|hm|hm
  .exact⟨_,h.cell⟩
  .exact⟨_,h.set.hd⟩
  .exact⟨_,h.set.wd⟩
  .exact h.o1.Qb i hm
  .exact h.o2.Qb i hm
  .exact h.o3.Qb i hm
  .exact h.o4.Qb i hm
 grind
theorem Zxn (n:Nat) (hK:DR K) (hW:Wk K s v L) (h0:0<=K.sup.used) (h1:K.sup.used<=1792) (hs:(v.aG.length:Int)=K.sup.used) (jz:0<=v.nodes) (hnr:v.nodes+(room K.m v.W:Nat)<=5000) (hm:K.m<=3072) (hh:v.aK=[]) (hn:4030<=n):
  Ok (sK K s L (rz K v) []) (run Bd n 231 [.ptr (some (K.w,0))] s):=by
 obtain⟨n,rfl⟩: ∃k,n=k+2:=⟨n-2,AC⟩;rw[Ze,h.af0];unfold Q4 jt Zm vd bZ Q_ cN Zn az C_ cW cA iI Li Lb
 try dsimp only
 have⟨R,hR⟩: ∃R,rz K v=R:=⟨_,rfl⟩;rw[hR];unfold rz at hR;simp only[eO,aq,bc];have⟨z1,p1,z2,p2,z3,p3,z4,p4,hd,hW⟩:=hW;rw[Zo hW.cell rfl];show Ok _ (de .i64 (.i K.sup.dir) _ s);rw[bj];cases yU:(K.sup.dir==0)with
 |true=>
  rw[yU,ae]at hR;rw[ae,<-hR,Zd];exact .mk ⟨s,L,rfl,hW.wk,.refl L s,.refl L s⟩
 |false=>
 rw[yU,af]at hR;rw[af,Zo hW.cell rfl];show Ok _ (de .i64 (.i K.sup.dir) _ s);rw[bj];refine Ok.wW (hW.take h (n+1) K.sup.dir hK.m hK.GL hK.len AC) ?_ ?_
 .intro s' hp
  cases ht:dT K K.sup.dir v with
  |none=>rw[ht]at hp hR;cases hp;rw[<-hR];exact⟨s,rfl,.refl L s⟩
  |some q=>rw[ht]at hp;grind
 intro ds s1 hp;cases ht:dT K K.sup.dir v with
 |none=>rw[ht]at hp;cases hp
 |some q=>
 have⟨b,v1⟩:=q;rw[ht]at hp hR;have⟨d,s2,e2,iV,mH,hb⟩:=hp;cases e2;have⟨g1,g2,g3,g4,g5,g6⟩:=Z4 ht;have⟨g7,g8⟩:=yl ht;have PD:=VS hW.set.len g7;rw[<-g8]at PD;have oE:Fx L s s1:=mH.mono λy hy=>by rw[cE.1 hy];exact hW.xA
 rw[DL,aq];cases b with
 |leaf x=>obtain⟨rfl,_⟩:=hb;rw[<-hR];exact .mk ⟨s1,rfl,oE⟩
 |cm x=>obtain⟨rfl,_⟩:=hb;rw[<-hR];exact .mk ⟨s1,rfl,oE⟩
 |queue x=>obtain⟨rfl,_⟩:=hb;rw[<-hR];exact .mk ⟨s1,rfl,oE⟩
 |node x=>obtain⟨p,rfl,_⟩:=hb;rw[<-hR];exact .mk ⟨s1,rfl,oE⟩
 |none=>cases hb;rw[<-hR];exact .mk ⟨s1,rfl,oE⟩
 |dir x=>
 obtain⟨px,rfl,Le,alH⟩:=hb;simp only at hR;rw[Zz0,Za];refine Zj _ (λq y t=>∃(i:Nat) (u:aR) (Lu:al),y=[.i i]/\i<=x.length/\x.length-i<=q/\Wk K t u Lu/\Fx L s t/\Nw L s Lu/\Fz t px (ints x)/\u.aG=v.aG/\u.aK.length=i/\(∀g∈u.aK,g.name.length<=24)/\v.nodes<=u.nodes/\u.nodes+(room K.m u.W:Nat)<=v.nodes+(room K.m v.W:Nat)/\uy K i (x.drop i) u=R) ?_ x.length (n+1) _ _ ⟨0,v1,L,rfl,cB _,AC,iV.wk,oE,.refl L s,Le,g1,by rw[g2,hh];rfl,(by rw[g2,hh];intro _ h;cases h),by rw[g5];omega,by rw[g5];omega,by simpa using hR⟩ AC;rintro q _ t ⟨i,u,Lu,rfl,hi,hq,eu,fS,j9,Fl,jj,uS,hun,KK,KM,aO⟩ rec aL;have⟨y1,r1,y2,r2,y3,r3,y4,r4,ud,eu⟩:=eu;rw[av,aq];by_cases aw:i<x.length
 .obtain⟨i1,o1,rfl⟩:=Fl.1.cF (by simp[ints];omega)
  rw[aX];refine Ok.join λaH j7=>?_
  rw[bc,Zb (Zi aw),br,Fl.1.dO (ZC aw),bj];have gj:x.drop i=x[i]::x.drop (i+1):=jd aw;rw[gj]at aO;generalize x[i]=y at aO;unfold uy at aO;refine Ok.wW (eu.take h (n+1) y hK.m hK.GL hK.len AC) ?_ ?_
  .intro s' hp
   cases lg:dT K y u with
   |none=>rw[lg]at hp aO;cases hp;rw[<-aO];exact⟨t,rfl,fS⟩
   |some q=>rw[lg]at hp;grind
  intro ds t1 hp;cases lg:dT K y u with
  |none=>rw[lg]at hp;cases hp
  |some q=>
  have⟨b,u1⟩:=q;rw[lg]at hp aO;have⟨d,s2,e2,mF,gk,hb⟩:=hp;cases e2;have⟨k1,k2,k3,k4,k5,k6⟩:=Z4 lg;have⟨k7,k8⟩:=yl lg;have ajo:=VS eu.set.len k7;rw[<-k8]at ajo;have acm:Fx Lu t t1:=gk.mono λy hy=>by rw[cE.1 hy];exact eu.xA
  have tw:Fx L s t1:=fS.step acm j9;rw[DL,aq];cases b with
  |leaf x=>obtain⟨rfl,_⟩:=hb;rw[<-aO];exact .mk ⟨t1,rfl,tw⟩
  |cm x=>obtain⟨rfl,_⟩:=hb;rw[<-aO];exact .mk ⟨t1,rfl,tw⟩
  |dir x=>obtain⟨p,rfl,_⟩:=hb;rw[<-aO];exact .mk ⟨t1,rfl,tw⟩
  |node x=>obtain⟨p,rfl,_⟩:=hb;rw[<-aO];exact .mk ⟨t1,rfl,tw⟩
  |none=>cases hb;rw[<-aO];exact .mk ⟨t1,rfl,tw⟩
  |queue qv=>
  obtain⟨rfl,y9⟩:=hb;simp only at aO;rw[ZxF];have⟨PB,_⟩:=SY (Zm6 (Vw lg));have Bj:Fz t1 (some (i1,o1)) (ints x):=Fl.kp (eu.kp acm);have EO:(ints qv.dH).length=12:=by simp[ints,y9]
  rw[bK (cs:=ints qv.dH) (n:=12) EO,bK (n:=14) (by simp[EO])];refine Ok.join λaW kW=>?_
  have hA: ∀t2 bb,AD u1 i qv.name=bb->eK K t2 u1 Lu y1 r1 y2 r2 y3 r3 y4 r4 ud->Fx L s t2->Fz t2 (some (i1,o1)) (ints x)->Ok (sK K s L R []) (aW [.bool bb] t2):=by
   intro t2 bb EF xb fL Y9;rw[kW];simp only[au,aq];cases bb with
   |false=>
    rw[EF,af]at aO;rw[pD h n rfl,<-aO];exact .mk ⟨t2,rfl,fL⟩
   |true=>
    rw[EF,ae]at aO;rw[ue h n rfl,aq];refine Ok.join λbA C8=>?_
    rw[dF AC];refine Zyc h (n+1) hK qv.name qv.dH y9 s L xb fL j9 h0 h1 (by rw[k1,jj];exact hs) (by rw[k5];omega) (by rw[k5];omega) hm AC R bA ?_ ?_
    .grind
    intro es w he t3 p z hz oC tx dX CT aiH aiF Ko;rw[he]at aO;simp only at aO;have⟨c1,c2,c3,c4,c5,c6,c7⟩:=I4 xb.set.len he (λ_ h=>by cases h) .nil;rw[C8];simp only[da,bT,aV,aq];have⟨t4,e4,oI,C3⟩:=ZAl n es p t3 dX c2 AC;rw[Zk e4,aq];have Hc: ∀b o,K.a=some (b,o)->b<t2.length:=λb o e=>Sl.lt (e▸xb.img)
    have p7:w.aK=u.aK:=c5.trans k2;have hh2:rh t2 Lu ud w.aK:=by rw[c5];exact xb.aK
    have⟨Ha,acp⟩:=oC.PW hh2 xb.lt Hc tx C3 CT;have hx5:Fz t4 (some (i1,o1)) (ints x):=Y9.kp (xb.kp acp);have acq:Fx L s t4:=fL.step acp j9;rw[Zo Ha.cell rfl];show Ok _ (dz 2 (.slice y2 r2 w.aK.length) _ t4);rw[Z3 2 y2 r2 _ Ha.e2,<-Vj es];have dI:Sl t4 p (bY (lQ es)):=by
     rcases oI with⟨rfl,h2⟩|⟨b,rest,rfl,h2⟩
     .exact h2
     .exact⟨false,_,h2,by rw[bz];omega,by rw[dE,FO]⟩
    have Py:lW Lu p:=lW.aN λb hb hm=>by have:=CT b hb;have:=xb.lt b hm;omega
    have⟨b,t5,t6,L6,q1,q2,q3,q4,q5,q6⟩:=Ha.ako (β:=ah) ⟨qv.name,lQ es⟩ (by rw[p7,uS];omega) (z:=4) (.inl rfl) dI Py;refine Eq.mpr (congrArg (Ok _) (q1 _)) ?_;refine Eq.mpr (congrArg (Ok _) (q2 _)) ?_;rw[j7];simp only[aq];have kh:ar ((i:Int)+1)=((i+1:Nat):Int):=Zc;rw[kh];refine aL (x.length-(i+1)) _ _ AC ⟨i+1,_,L6,rfl,AC,aM _,q3.wk,acq.step q4 j9,j9.trans acq.1 q5,hx5.kp (Ha.kp q4),(c4.trans k1).trans jj,?_,?_,?_,?_,aO⟩
    .show(w.aK++[_]).length=i+1
     rw[bz,p7,uS];rfl
    .intro g hg
     have oF:g∈w.aK++[⟨qv.name,lQ es⟩]:=hg;rw[p7]at oF;rcases gI.1 oF with oF|oF
     .exact hun g oF
     .rw[cE.1 oF];exact PB
    .show v.nodes<=w.nodes
     rw[k5]at aiF;omega
    .show w.nodes+(room K.m w.W:Nat)<=_
     rw[k5]at aiH;omega
  by_cases vS:i=0
  .subst vS
   rw[oA FS];exact hA t1 true rfl mF tw Bj
  .have hib:((i:Int)==0)=false:=by rw[eN];omega
   rw[hib,af,Zo mF.cell rfl];show Ok _ (dz 2 (.slice y2 r2 u1.aK.length) _ t1);rw[Z3 2 y2 r2 _ mF.e2];have uK:u1.aK.length=i:=by rw[k2];exact uS
   have alF:ud.length=u1.aK.length*2:=mF.aK.aK.len;obtain⟨b,rfl,vM⟩:=mF.o2.cF AC;have cM:ar ((i:Int)-1)=((i-1:Nat):Int):=by rw[Zc];omega
   have Yh:u1.aK[i-1]? =some u1.aK[i-1]:=cu AC;rw[bc,cM,Zb (Zi),br,DZ mF.o2.sl mF.aK.aK Yh];have hgm:u1.aK[i-1].name.length<=24:=hun _ (by rw[<-k2];exact ku _);have⟨gg,xj⟩: ∃gg,u1.aK[i-1]=gg:=⟨_,rfl⟩;rw[xj]at Yh hgm⊢;rw[xX];refine Ok.cv (ZpT (n+1) gg.name qv.name AC AC AC AC t1) λt2 aU=>?_
   rw[av,aq];refine hA t2 _ ?_ (mF.pre aU) (tw.trans (Fx.pre _ aU)) (Bj.kp aU.kp);unfold AD;rw[aZ vS,Yh]
 .rw[aZ]
  simp only[Zd];rw[ly AC]at aO;rw[<-aO];exact .mk ⟨t,Lu,rfl,eu.wk,fS,j9⟩
theorem Fx.adE (h:Fx [] s s'):aA s s':=by
 refine⟨s'.drop s.length,?_⟩;have:s'.take s.length=s:=by
  apply tU;intro i;by_cases hi:i<s.length
  .rw[List.getElem?_take_of_lt hi]
   have e:s[i]? =some s[i]:=cu hi;rw[e];exact h.2 i _ (λh=>by cases h) e
  grind
 conv=>lhs;rw[<-oX s.length s',this]
theorem Ok.abL {P:Out ah×St->Prop} {m:M ah} {H:Bool->M β} (h:Ok P (m s))
  (k1: ∀s',P (.fy,s')->Ok Q (H true s')) (k2: ∀ds s',P (.val ds,s')->Ok Q (H false s')):Ok Q (vD m H s):=by
 have⟨⟨o,s'⟩,e,hp⟩:=h;unfold vD;rw[e];cases o with
 |val ds=>exact k2 ds s' hp
 |fy=>exact k1 s' hp
theorem Zy7 {all:ah} {k:IntKind} (h:s[i]? =some (some ⟨f,all⟩)) (hd:all[p]? =some (.int k n)) (K:IntKind->Int->M β):yD i p K s=K k n s:=by
 unfold yD;rw[Zo h hd]
theorem VX {all:ah} (h:s[i]? =some (some ⟨f,all⟩)) (hd:all[p]? =some (.i n)) (K:M β):iE i p .i64 n K s=K s:=by
 unfold iE;rw[Zo h hd];simp
def Kept (v v':aR):Prop:=v'.aK=v.aK/\v'.aF=v.aF/\v'.free=v.free/\v'.nodes=v.nodes
theorem Kept.refl (v:aR):Kept v v:=⟨rfl,rfl,rfl,rfl⟩
theorem Kept.trans {a b c:aR} (h:Kept a b) (k:Kept b c):Kept a c:=⟨k.1.trans h.1,k.2.1.trans h.2.1,k.2.2.1.trans h.2.2.1,k.2.2.2.trans h.2.2.2⟩
theorem US {b:xW} (h:dT K k v=some (b,v')):Kept v v':=by
 have⟨_,h2,h3,h4,h5,_⟩:=Z4 h;exact⟨h2,h3,h4,h5⟩
theorem ZnY {K:bP} : ∀ {x:List bB} {k:Int} {v v':aR},nG K k x v=some v'->Kept v v'
 |[],_,_,_,h=>by cases h;exact .refl _
 |x::r,k,v,v',h=>by
  unfold nG at h;cases h1:qw K k x v with
  |none=>rw[h1]at h;cases h
  |some w=>
   rw[h1]at h;refine Kept.trans ?_ (ZnY h);unfold qw at h1;cases h2:decide (k>=K.sup.used)with
   |true=>
    rw[h2,ae]at h1;cases h3:ot x with
    |true=>rw[h3]at h1;cases h1;exact .refl _
    |false=>rw[h3]at h1;cases h1
   |false=>
    rw[h2,af]at h1;cases h3:pF K.sup x with
    |true=>rw[h3]at h1;cases h1;exact⟨rfl,rfl,rfl,rfl⟩
    |false=>rw[h3]at h1;cases h1
theorem Zv7 (h:nr K k slot v=some v'):Kept v v':=by
 unfold nr at h;split at h
 .rename_i x v1 ht
  exact(US ht).trans (ZnY h)
 .cases h
theorem TT {K:bP} {cH x5:Int} : ∀ {x:ak} {k:Int} {v v':aR},kO K cH x5 k x v=some v'->Kept v v'
 |[],_,_,_,h=>by cases h;exact .refl _
 |y::r,k,v,v',h=>by
  unfold kO at h;cases h1:((!(y==0))==decide (x5*16+k<cH))with
  |false=>rw[h1]at h;cases h
  |true=>
   rw[h1,ae]at h;cases h2:(!(y==0))with
   |false=>rw[h2]at h;exact TT h
   |true=>
    rw[h2,ae]at h;split at h
    .cases h
    .rename_i w hw
     exact(Zv7 hw).trans (TT h)
theorem TO {K:bP} {cH:Int} : ∀ {x:ak} {k:Int} {v v':aR},ou K cH k x v=some v'->Kept v v'
 |[],_,_,_,h=>by cases h;exact .refl _
 |y::r,k,v,v',h=>by
  unfold ou at h;cases h1:((!(y==0))==decide (k*16<cH))with
  |false=>rw[h1]at h;cases h
  |true=>
   rw[h1,ae]at h;cases h2:(y==0)with
   |true=>rw[h2]at h;exact TO h
   |false=>
    rw[h2,af]at h;split at h
    .rename_i x v1 ht
     split at h
     .cases h
     .rename_i w hw
      exact((US ht).trans (TT hw)).trans (TO h)
    .cases h
theorem ZnQ (h:oy K v=some v'):Kept v v':=by
 unfold oy at h;cases h1:(K.sup.used==0)with
 |true=>rw[h1]at h;cases h;exact .refl _
 |false=>
  rw[h1,af]at h;split at h
  .rename_i x v1 ht
   exact(US ht).trans (TO h)
  .cases h
theorem Zn1 {K:bP} : ∀ {f:Nat} {fl rS:List Bool} {k:Int} {v v':aR},nF K f fl k v=some (rS,v')->v'.aG=v.aG/\v'.aK=v.aK/\v'.aF=v.aF/\v'.nodes=v.nodes
 |0,_,_,_,_,_,h=>by cases h
 |f+1,fl,rS,k,v,v',h=>by
  unfold nF at h;cases h1:(k==0)with
  |true=>rw[h1]at h;grind
  |false=>
   rw[h1,af]at h;cases h2:decide (k<=K.sup.used)with
   |false=>rw[h2]at h;cases h
   |true=>
    rw[h2,ae]at h;split at h
    .cases h
    .rename_i x hx
     cases h3:(bif (bif !x.live then decide (x.gen<K.sup.g)else false)then !fl.getD (k-1).toNat false else false)with
     |false=>rw[h3]at h;cases h
     |true=>
      rw[h3,ae]at h;exact Zn1 (v:= { v with free:=v.free++[k-1] }) h
theorem ZoS (h:tm K v=some v'):v'.aG=v.aG/\v'.aK=v.aK/\v'.aF=v.aF/\v'.nodes=v.nodes:=by
 unfold tm at h;cases h1:nF K (K.sup.used.toNat+1) (List.replicate K.sup.used.toNat false) K.sup.free v with
 |none=>rw[h1]at h;cases h
 |some q=>
  have⟨fl,w⟩:=q;rw[h1]at h;unfold Cg at h;simp only at h;cases h2:rI K fl w.aG with
  |false=>rw[h2]at h;cases h
  |true=>rw[h2]at h;cases h;exact Zn1 h1
theorem Zmc (hl:v.W.length=(K.m+63)/64) (h:rz K v=some v'):v'.aG=v.aG/\v'.aF=v.aF/\v'.free=v.free:=by
 unfold rz at h;cases h1:(K.sup.dir==0)with
 |true=>rw[h1]at h;grind
 |false=>
  rw[h1,af]at h;split at h
  .rename_i x v1 ht
   have⟨g1,g2,g3,g4,g5,g6⟩:=Z4 ht;have⟨c1,c2,c3,c4⟩:=V4 (by rw[(yl ht).2,pC];exact hl) h;grind
  .cases h
def fw (x:cy) (v:aR):eR:=⟨x.blocks,x.dc,x.g,v.aK,v.aF,v.free⟩
def nX:eR:=⟨0,0,0,[],[],[]⟩
def sy (K:bP):Option (Option aR):=bif ZT K.sup then(bif decide (K.sup.blocks<=((K.img.length/64:Nat):Int))then some (tQ K)else some none)else none
def abm (s:St) (m:Nat) (x:cy) (r:Option (Option aR)) (o:Out ah×St):Prop:=match r with
 |none=>∃s',o=(.val [.agg (dw nX 0 none 0 none 0 none),.ptr none,.i 2],s')/\aA s s'
 |some none=>∃s',o=(.val [.agg (dw nX 0 none 0 none 0 none),.ptr none,.i 31],s')/\aA s s'
 |some (some v)=>∃s' z2 p2 z3 p3 z4 p4 i j,o=(.val [.agg (dw (fw x v) z2 p2 z3 p3 z4 p4),.ptr (some (i,0)),.i 0],s')/\aA s s'/\(z2=2\/p2=none)/\(z3=1\/p3=none)/\(z4=1\/p4=none)/\jK s' (fw x v) p2 p3 p4/\gJ s' false i j m v.W/\s.length<=j/\i≠j
structure qj (s:St) (b:Nat) (A:List DV) (r e:DV):Prop where
 st:s[b+1]? =some (some ⟨false,A⟩)
 re:s[b+2]? =some (some ⟨false,[r]⟩)
 er:s[b+3]? =some (some ⟨false,[e]⟩)
 len:A.length=6
theorem qj.fx {b:Nat} (h:qj s b A r e) (k:Fx T s s') (hT: ∀x∈T,x<b\/b+4<=x):qj s' b A r e:=
 ⟨k.2 _ _ Fd h.st,k.2 _ _ Fd h.re,k.2 _ _ Fd h.er,h.len⟩
theorem qj.aaV {b:Nat} (h:qj s b A r e) (A':ah) (r' e':DV) (hl:A'.length=6): ∃s',(∀K:M β,(dG (b+1) 0 A'<|dG (b+2) 0 [r']<|dG (b+3) 0 [e'] K) s=K s')/\qj s' b A' r' e'/\Fx [b+1,b+2,b+3] s s':=by
 have h1:=(eB.1 h.st).1;have h2:=(eB.1 h.re).1;have h3:=(eB.1 h.er).1;have iZ:cG A 0 A'=A':=by
  have:=sV [] A [] A' (by rw[h.len,hl]);simpa using this
 refine⟨((s.set (b+1) (some ⟨false,A'⟩)).set (b+2) (some ⟨false,[r']⟩)).set (b+3) (some ⟨false,[e']⟩),λK=>?_,⟨?_,?_,?_,hl⟩,⟨Do,λi x hi e=>?_⟩⟩
 .rw[NF h.st (by rw[h.len,hl];omega),iZ,rk (by rw[jH AC];exact h.re) (by show 0<1;omega),rk (by rw[jH AC,jH AC];exact h.er) (by show 0<1;omega)]
  rfl
 .rw[jH AC,jH AC,lA h1]
 .rw[jH AC,lA (by simpa using h2)]
 .rw[lA (by simpa using h3)]
 grind
theorem qj.zA {b:Nat} (h:qj s b A r e):(bX (b+1) 0 6 λo=>bD (b+2) 0 λo1=>bD (b+3) 0 λo2=>ax [.agg o,o1,o2]) s=some (.val [.agg A,r,e],s):=by
 rw[Z9 h.st (by rw[h.len];omega),Zo h.re rfl,Zo h.er rfl,dE,dF (by rw[h.len];omega),Zd]
theorem TV {x:cy} (h:ZT x=true):pS x.blocks x.dc x.g=true/\0<=x.used/\x.used<=x.dc/\0<=x.free/\x.free<=x.used:=by
 grind[ZT]
theorem ZR {b s g:Int} (h:pS b s g=true):16<=b/\b<=3072/\1<=s/\s<=1792/\1<=g/\g<=4294967295:=by
 grind[pS]
theorem qj.cg {b:Nat} (h:qj s b (dw nX 0 none 0 none 0 none) r e) (h':qj s' b A' r' e') (k:Fx [b+1,b+2,b+3] s s') {p:ai} {es:List bm} (hs:Sl s p (bY es)):Sl s' p (bY es):=by
 cases p with
 |none=>exact hs
 |some q=>
  have⟨i,o⟩:=q;by_cases hi:i∈[b+1,b+2,b+3]
  .have Pj:es=[]:=by
    cases es with
    |nil=>rfl
    |cons x es=>
     exfalso;have⟨f,all,e1,e2,e3⟩:=hs;have hlen:(bY (x::es)).length=4+(bY es).length:=by
      rw[Zu,Zu,cQ];omega
     simp only[eM,tW,pj]at hi;rcases hi with rfl|rfl|rfl
     .rw[h.st]at e1
      cases e1;have h6:(dw nX 0 none 0 none 0 none).length=6:=rfl;have ho:o=0\/o=1\/o=2:=AC
      have e4:=congrArg (λl=>l[3-o]?) e3;rw[List.getElem?_take_of_lt AC,BG]at e4;rcases ho with rfl|rfl|rfl<;>cases e4
     .rw[h.re]at e1
      grind
     .rw[h.er]at e1
      grind
   subst Pj;have⟨f,all,e1,e2,_⟩:=hs;simp only[eM,tW,pj]at hi;rcases hi with rfl|rfl|rfl
   .rw[h.st]at e1
    cases e1;refine⟨false,_,h'.st,?_,rfl⟩;have:=h'.len;have h6:(dw nX 0 none 0 none 0 none).length=6:=rfl;omega
   .rw[h.re]at e1
    cases e1;exact⟨false,_,h'.re,e2,rfl⟩
   .rw[h.er]at e1
    cases e1;exact⟨false,_,h'.er,e2,rfl⟩
  .exact Sl.fx hs k λb' o' e=>by cases e;exact hi
theorem jo.cg {s s':St} (h: ∀(p:ai) (es:List bm),Sl s p (bY es)->Sl s' p (bY es)): ∀ {ds:ah} {xs:List dJ},jo s ds xs->jo s' ds xs
 |_,[],h1=>h1
 |_,_::_,⟨z,p,t,hz,h1,h2,h3⟩=>⟨z,p,t,hz,h1,h p _ h2,h3.cg h⟩
def ad5 (K:bP) (s:St) (b:Nat) (r:Option aR) (o:Out ah×St):Prop:=match r with
 |none=>∃s',o=(.fy,s')/\Fx [] s s'
 |some v=>∃s' ds z2 p2 z3 p3 z4 p4,o=(.val ds,s')/\Fx [b+1,b+2,b+3] s s'/\qj s' b (dw (fw K.sup v) z2 p2 z3 p3 z4 p4) (.ptr (some (K.i,0))) (.i 0)/\(z2=2\/p2=none)/\(z3=1\/p3=none)/\(z4=1\/p4=none)/\jK s' (fw K.sup v) p2 p3 p4/\gJ s' false K.i K.j K.m v.W
theorem Zts (n:Nat) (a:ai) (img:aj) (x:cy) (pc:ai) (s:St) (ha:c9 s a img) (hc:Sl s pc (ints x.aJ)) (hl:img.length<1000000) (cO:x.aJ.length<1000) (hn:5000<=n):
  ∃K:bP,K.m=x.blocks.toNat/\K.img=img/\K.sup=x/\Ok (abm s x.blocks.toNat x (sy K)) (run Bd n 171 [.slice 1 a img.length,.agg (dq x pc)] s):=by
 obtain⟨n,rfl⟩: ∃k,n=k+3:=⟨n-3,AC⟩;refine⟨⟨s.length+8,s.length+7,s.length+6,x.blocks.toNat,a,img,x,pc⟩,rfl,rfl,rfl,?_⟩;have⟨K,hK⟩: ∃K:bP,(⟨s.length+8,s.length+7,s.length+6,x.blocks.toNat,a,img,x,pc⟩:bP)=K:=⟨_,rfl⟩;rw[hK];have kw:s.length+8=K.w:=by rw[<-hK]
 have ki:s.length+7=K.i:=by rw[<-hK]
 have kj:s.length+6=K.j:=by rw[<-hK]
 have km:K.m=x.blocks.toNat:=by rw[<-hK]
 have ka:a=K.a:=by rw[<-hK]
 have kg:img=K.img:=by rw[<-hK]
 have ks:x=K.sup:=by rw[<-hK]
 have kp:pc=K.pc:=by rw[<-hK]
 clear hK;have⟨R,hR⟩: ∃R,sy K=R:=⟨_,rfl⟩;rw[hR];unfold sy at hR;rw[<-ks,<-kg]at hR;rw[Ze,h.afg];unfold MR yd Z6 bu Zm C_ jt En cA ZF Lp Li ZP Lb gA vh
 try dsimp only
 rw[aV,da];unfold dq;simp only[av,aV,aq];have ze:([.i x.seq,.i x.blocks,.i x.dc,.i x.g,.i x.cm,.i x.used,.i x.free,.i x.dir,.slice 1 pc x.aJ.length]:ah)=dq x pc:=rfl;rw[ze,Zz,Zz,Zz,Zz];have ajD:([.i 0,.i 0,.i 0,.slice 0 none 0,.slice 0 none 0,.slice 0 none 0]:ah)=dw nX 0 none 0 none 0 none:=rfl;rw[ajD];have l1: ∀c,(s++[some (c:bO)]).length=s.length+1:=λc=>by simp
 have l2: ∀c d,((s++[some (c:bO)])++[some (d:bO)]).length=s.length+2:=λc d=>by simp
 have l3: ∀c d e,(((s++[some (c:bO)])++[some (d:bO)])++[some (e:bO)]).length=s.length+3:=λc d e=>by simp
 rw[l1,l2,l3];have⟨S1,G7⟩: ∃S1,(((s++[some (⟨false,dq x pc⟩:bO)])++[some (⟨false,dw nX 0 none 0 none 0 none⟩:bO)])++[some (⟨false,[.ptr none]⟩:bO)])++[some (⟨false,[.i 0]⟩:bO)]=S1:=⟨_,rfl⟩;rw[G7];have aD:aA s S1:=by rw[<-G7];exact((((aA.new _ _).trans (aA.new _ _)).trans (aA.new _ _)).trans (aA.new _ _))
 have Pf:S1.length=s.length+4:=by rw[<-G7];simp
 have h9:S1[s.length]? =some (some ⟨false,dq x pc⟩):=by rw[<-G7];simp
 have OQ:qj S1 s.length (dw nX 0 none 0 none 0 none) (.ptr none) (.i 0):=by
  rw[<-G7];exact⟨Do,Do,Do,rfl⟩
 clear G7;rw[Z9 h9 (by show 0+9<=9;omega)];show Ok _ (aC .i64 (dq x pc) _ S1);unfold dq;simp only[av,aV,aq];rw[ze];have hsR:=Zk1 (n+2) x pc S1 (hc.mono aD) cO AC;rw[Zk hsR,au,aq];have⟨S2,OU⟩: ∃S2,S1++[some (⟨false,dq x pc⟩:bO)]=S2:=⟨_,rfl⟩;rw[OU];have aU:aA S1 S2:=by rw[<-OU];exact aA.new _ _
 have Hq:S2.length=s.length+5:=by rw[<-OU];simp[Pf]
 have ON:=aU.get h9;have XA:qj S2 s.length (dw nX 0 none 0 none 0 none) (.ptr none) (.i 0):=⟨aU.get OQ.st,aU.get OQ.re,aU.get OQ.er,rfl⟩;have iX:=aD.trans aU;clear OU aD aU OQ h9 hsR;have C1: ∀S3,Fx [s.length+1,s.length+2,s.length+3] S2 S3->aA s S3:=λS3 k=>by
  refine Fx.adE ((Fx.pre [] iX).step k λy hy=> .inr ?_);grind
 cases pZ:ZT x with
 |false=>
  rw[pZ,af]at hR;have⟨S3,e3,J8,X5⟩:=XA.aaV (β:=ah) (dw nX 0 none 0 none 0 none) (.ptr none) (.i 2) rfl;rw[bp,ae,e3,J8.zA,<-hR];exact .mk ⟨S3,rfl,C1 S3 X5⟩
 |true=>
 rw[pZ,ae]at hR;rw[bw,af];have⟨AZ,uR,wc,vQ,C0⟩:=TV pZ;have⟨g1,g2,g3,g4,g5,g6⟩:=ZR AZ;refine Ok.abL (P:=ad5 K S2 s.length (bif decide (x.blocks<=((img.length/64:Nat):Int))then tQ K else none)) ?_ ?_ ?_
 .have PQ: ∃m:Nat,x.blocks=(m:Int):=Fd
  rw[Zo ON (d:= .i x.blocks) rfl,bj];have hw:ar ((img.length:Int).tdiv 64)=((img.length/64:Nat):Int):=by
   rw[WY AC,br];exact Zc
  rw[hw];cases hZ:decide (x.blocks<=((img.length/64:Nat):Int))with
  |false=>
   rw[pD h (n+1) rfl,af];exact .mk ⟨S2,rfl,.refl _ _⟩
  |true=>
  have ahX:=mW hZ;rw[ue h (n+1) rfl,ae,aq,Z9 ON (by show 0+9<=9;omega)];show Ok _ (aC .i64 (dq x pc) _ S2);unfold dq;simp only[av,aV,aq];rw[Zo ON (d:= .i x.blocks) rfl,bj,Zz];have⟨S3,ED⟩: ∃S3,S2++[some (⟨false,[.i 0,.i 1]⟩:bO)]=S3:=⟨_,rfl⟩;have cz:aA S2 S3:=by rw[<-ED];exact aA.new _ _
  have Pg:S3.length=s.length+6:=by rw[<-ED];simp[Hq]
  have ajr:Sl S3 (some (S2.length,0)) (ints [0,1]):=⟨false,[.i 0,.i 1],by rw[<-ED];simp,aM _,rfl⟩;rw[ED];have⟨m,hm⟩:=PQ;have⟨S4,e4,fe,acy,HF⟩:=UQ (n+2) m [0,1] (some (S2.length,0)) S3 AC ajr (by show 2<1000000;omega) Fd;have XE:m=K.m:=by rw[km,hm];rfl
  have e4':run Bd (n+2) 177 [.i x.blocks,.slice 1 (some (S2.length,0)) 2] S3=some (.val [.ptr (some (S3.length+1,0))],S4):=by rw[hm];exact e4
  rw[rj e4' fe,eO,aq];have h94:=fe.get (cz.get ON);rw[Z9 h94 (by show 1+3<=9;omega)];show Ok _ (aC .i64 (.i x.blocks::[.i x.dc,.i x.g]) _ S4);simp only[av,aq];rw[Zz];have Y6:S4.length=K.w:=by rw[acy,Pg];omega
  have qH:S3.length+1=K.i:=by rw[Pg];omega
  rw[Y6,qH];have ajw:gJ S4 false K.i K.j K.m (jl K.m [0,1]):=by
   rw[qH]at HF;rw[<-kj,<-Pg,<-XE];exact HF
  have⟨S5,G8⟩: ∃S5,S4++[some (⟨false,sA K (qT K.m) (dS 0 none 0) (dS 0 none 0) (dS 0 none 0) (dS 0 none 0)⟩:bO)]=S5:=⟨_,rfl⟩;have mG:([.slice 1 a img.length,.i x.seq,.i x.blocks,.i x.dc,.i x.g,.i x.cm,.i x.used,.i x.free,.i x.dir,.slice 1 pc x.aJ.length,.ptr (some (K.i,0)),.slice 0 none 0,.i x.blocks,.i x.dc,.i x.g,.slice 0 none 0,.slice 0 none 0,.slice 0 none 0,.i 0]:ah)=sA K (qT K.m) (dS 0 none 0) (dS 0 none 0) (dS 0 none 0) (dS 0 none 0):=by
   unfold sA;rw[<-ka,<-kg,<-ks,<-kp];rfl
  rw[mG,G8];have kb:aA S4 S5:=by rw[<-G8];exact aA.new _ _
  have alm:S5.length=s.length+9:=by rw[<-G8];simp[acy,Pg]
  have ahN:S5[K.w]? =some (some ⟨false,sA K (qT K.m) (dS 0 none 0) (dS 0 none 0) (dS 0 none 0) (dS 0 none 0)⟩):=by rw[<-G8,<-Y6];simp
  have Pu:aA s S5:=((iX.trans cz).trans fe).trans kb;have hW:eK K S5 (qT K.m) [K.w,K.i,K.j] 0 none 0 none 0 none 0 none []:=by
   refine⟨ahN,.inr rfl,.inr rfl,.inr rfl,.inr rfl,bg.nil ⟨S5,rfl⟩,bg.nil ⟨S5,rfl⟩,bg.nil ⟨S5,rfl⟩,bg.nil ⟨S5,rfl⟩,rfl,ajw.pre kb,?_,?_,rfl,?_⟩
   .rw[<-ka,<-kg];exact ha.mono Pu
   .rw[<-ka]
    rintro b o rfl hm;have:=Sl.lt ha;simp only[eM,tW,pj]at hm;omega
   .simp only[zY,eM,tW,pj,not_or]
    refine⟨⟨AC,AC⟩,AC,not_false,.nil⟩
  have hC5:qj S5 s.length (dw nX 0 none 0 none 0 none) (.ptr none) (.i 0):=XA.fx (Fx.pre [] ((cz.trans fe).trans kb)) λy hy=>by cases hy
  have ah9:Fx [] S2 S5:=Fx.pre [] ((cz.trans fe).trans kb);have abW:DR K:=⟨by rw[<-ks,hm,XE],by rw[<-kg,<-XE];omega,by rw[<-kg];exact hl⟩;have iL: ∀y∈[K.w,K.i,K.j],S2.length<=y:=λy hy=>by
   simp only[eM,tW,pj]at hy;omega
  have vZ: ∀t,Fx [K.w,K.i,K.j] S5 t->Fx [] S2 t:=λt k=>ah9.step k λy hy=> .inr (iL y hy)
  have⟨W1,iV⟩: ∃W1,tQ K=W1:=⟨_,rfl⟩;rw[iV];unfold tQ at iV;have XF:0<=K.sup.used:=by rw[<-ks];exact uR
  have XG:K.sup.used<=1792:=by rw[<-ks];omega
  have hKf:0<=K.sup.free:=by rw[<-ks];exact vQ
  have ahL:K.m<=3072:=AC
  refine Ok.wW (ZyW (n+2) abW hW.wk (by show 0<1000;omega) AC) ?_ ?_
  .intro t hp
   cases hr:oy K (qT K.m)with
   |none=>rw[hr]at hp iV;have⟨_,e,hf⟩:=hp;cases e;rw[<-iV];exact⟨t,rfl,vZ t hf⟩
   |some v=>rw[hr]at hp;have⟨_,_,e,_⟩:=hp;cases e
  intro ds t1 hp;cases ke:oy K (qT K.m)with
  |none=>rw[ke]at hp;have⟨_,e,_⟩:=hp;cases e
  |some v1=>
  rw[ke]at hp iV;have⟨_,L1,e,ahO,mH,YB⟩:=hp;cases e;simp only at iV;rw[aq];have⟨k1,k2,k3,k4⟩:=ZnQ ke;have⟨eY,ajh⟩:=Zrt XF XG rfl ke;refine Ok.wW (ZzB (n+2) ahO XF XG hKf eY ajh k1 k3 AC) ?_ ?_
  .intro t hp
   cases hr:tm K v1 with
   |none=>rw[hr]at hp iV;have⟨_,e,hf⟩:=hp;cases e;rw[<-iV];exact⟨t,rfl,vZ t (mH.step hf YB)⟩
   |some v=>rw[hr]at hp;have⟨_,_,e,_⟩:=hp;cases e
  intro ds t2 hp;cases iB:tm K v1 with
  |none=>rw[iB]at hp;have⟨_,e,_⟩:=hp;cases e
  |some v2=>
  rw[iB]at hp iV;have⟨_,L2,e,abY,gk,aiI⟩:=hp;cases e;simp only at iV;rw[aq];have⟨q1,q2,q3,q4⟩:=ZoS iB;have Yb:Fx [K.w,K.i,K.j] S5 t2:=mH.step gk YB;have YC:Nw [K.w,K.i,K.j] S5 L2:=YB.trans mH.1 aiI;have Hb:v2.W.length=(K.m+63)/64:=by have⟨_,_,_,_,_,_,_,_,_,hw⟩:=abY;exact hw.set.len
  have ET:v2.nodes=0:=by rw[q4,k4];rfl
  have PD:=Zvi K.m v2.W;refine Ok.wW (Zxn (n+2) abW abY XF XG (by rw[q1];exact eY) (by rw[ET];exact Int.le_refl _) (by rw[ET];omega) ahL (by rw[q2,k1];rfl) AC) ?_ ?_
  .intro t hp
   cases hr:rz K v2 with
   |none=>rw[hr]at hp iV;have⟨_,e,hf⟩:=hp;cases e;rw[<-iV];exact⟨t,rfl,vZ t (Yb.step hf YC)⟩
   |some v=>rw[hr]at hp;have⟨_,_,e,_⟩:=hp;cases e
  intro ds t3 hp;cases K1:rz K v2 with
  |none=>rw[K1]at hp;have⟨_,e,_⟩:=hp;cases e
  |some v3=>
  rw[K1]at hp iV;have⟨_,L3,e,ahP,fL,aiJ⟩:=hp;cases e;simp only at iV;rw[aq];have⟨w1,w2,w3⟩:=Zmc Hb K1;have acn:Fx [K.w,K.i,K.j] S5 t3:=Yb.step fL YC;have acF:Nw [K.w,K.i,K.j] S5 L3:=YC.trans Yb.1 aiJ;have dI:(v3.aG.length:Int)=K.sup.used:=by rw[w1,q1];exact eY
  have jx:v3.aF=[]:=by rw[w2,q3,k2];rfl
  have⟨y1,r1,y2,r2,y3,r3,y4,r4,hd,XP⟩:=ahP;rw[Zy7 XP.cell (k:= .i64) (n:=v3.nodes) rfl,Zo XP.cell (d:= .i v3.nodes) rfl,bj];refine Ok.call (ZzZ (n+2) XP.wk AC (by rw[jx];show 0<100000;omega) AC) ?_;rintro _ ⟨t4,L4,rfl,ahQ,tx,aiK⟩;refine⟨_,t4,rfl,?_⟩;rw[av,aq];have Yc:Fx [K.w,K.i,K.j] S5 t4:=acn.step tx acF;have aiL:Nw [K.w,K.i,K.j] S5 L4:=acF.trans acn.1 aiK;have⟨y1,r1,y2,r2,y3,r3,y4,r4,hd,oC⟩:=ahQ;have CV:(sA K (uT v3) (dS y1 r1 (uT v3).aG.length) (dS y2 r2 (uT v3).aK.length) (dS y3 r3 (uT v3).aF.length) (dS y4 r4 (uT v3).free.length))[18]? =some (.i v3.nodes):=rfl;rw[VX oC.cell CV,VX oC.cell CV];have XT:(((zy v3:Int))==v3.nodes)=decide ((zy v3:Int)=v3.nodes):=rfl;rw[XT];cases eX:decide ((zy v3:Int)=v3.nodes)with
  |false=>
   rw[eX,af]at iV;rw[pD h (n+1) rfl,<-iV];exact .mk ⟨t4,rfl,vZ t4 Yc⟩
  |true=>
  rw[eX,ae]at iV;rw[ue h (n+1) rfl,aq,VX oC.cell CV,Z9 oC.cell Fd];show Ok _ (aC .i64 (.i K.sup.blocks:: .i K.sup.dc:: .i K.sup.g::dS y2 r2 (uT v3).aK.length::dS y3 r3 (uT v3).aF.length::dS y4 r4 (uT v3).free.length::[]) _ t4);unfold dS;simp only[av,Zf 2 y2 r2 _ oC.e2,Zf 1 y3 r3 _ oC.e3,Zf 1 y4 r4 _ oC.e4,aq];rw[Zo oC.cell (d:= .ptr (some (K.i,0))) rfl,Mk];have yP:apart (some (s.length+1,0)) K.w=true:=by
   show(!Nat.beq K.w (s.length+1))=true;cases hbq:Nat.beq K.w (s.length+1)with
   |false=>rfl
   |true=>have:=dP hbq;omega
  rw[Zb yP];have OR:qj t4 s.length (dw nX 0 none 0 none 0 none) (.ptr none) (.i 0):=hC5.fx Yc λy hy=>by
   have:=iL y hy;omega
  have⟨t5,e5,hC6,nk⟩:=OR.aaV (β:=ah) (dw (fw K.sup (uT v3)) 2 r2 1 r3 1 r4) (.ptr (some (K.i,0))) (.i 0) rfl;refine Eq.mpr (congrArg (Ok _) (e5 (ax []))) ?_;rw[Zd,<-iV];have cD: ∀y∈L4,y∉[s.length+1,s.length+2,s.length+3]:=λy hy hm=>by
   have h1:S2.length<=y:=by
    rcases aiL y hy with h2|h2
    .exact iL y h2
    omega
   simp only[eM,tW,pj]at hm;omega
  have KR:=oC.own;refine .mk ⟨t5,[],2,r2,1,r3,1,r4,rfl,((vZ t4 Yc).mono λy hy=>by cases hy).trans nk,hC6,.inl rfl,.inl rfl,.inl rfl,⟨⟨hd,(oC.o2.fx nk λy hy=>cD y (by rw[KR];simp[hy])).sl,jo.cg (λ_ _ k=>OR.cg hC6 nk k) oC.aK.aK⟩,(oC.o3.fx nk λy hy=>cD y (by rw[KR];simp[hy])).sl,(oC.o4.fx nk λy hy=>cD y (by rw[KR];simp[hy])).sl⟩,oC.set.fx nk (cD _ (by rw[KR];simp)) (cD _ (by rw[KR];simp))⟩
 .intro S3 hp
  cases hb:(bif decide (x.blocks<=((img.length/64:Nat):Int))then tQ K else none)with
  |some v=>rw[hb]at hp;have⟨_,_,_,_,_,_,_,_,e,_⟩:=hp;cases e
  |none=>
   rw[hb]at hp;have⟨_,e,hf⟩:=hp;cases e;rw[ae];have J8:=XA.fx hf λy hy=>by cases hy
   have⟨S4,e4,OR,EJ⟩:=J8.aaV (β:=ah) (dw nX 0 none 0 none 0 none) (.ptr none) (.i 31) rfl;have XM:R=some none:=by
    rw[<-hR];grind
   rw[XM];refine Ok.abL (P:=λo=>o=(.val [],S4)) (by rw[e4];exact .mk rfl) ?_ ?_
   .intro S5 e;cases e
   .intro ds S5 e
    cases e;rw[af,OR.zA];exact .mk ⟨S4,rfl,C1 S4 ((hf.mono λy hy=>by cases hy).trans EJ)⟩
 .intro ds S3 hp
  cases hb:(bif decide (x.blocks<=((img.length/64:Nat):Int))then tQ K else none)with
  |none=>rw[hb]at hp;have⟨_,e,_⟩:=hp;cases e
  |some v=>
   rw[hb]at hp;have⟨_,_,z2,p2,z3,p3,z4,p4,e,hf,J8,gp,jP,xx,cd,dp⟩:=hp;cases e;rw[af,J8.zA];have XM:R=some (some v):=by
    rw[<-hR];grind
   rw[XM,<-km,ks];exact .mk ⟨S3,z2,p2,z3,p3,z4,p4,K.i,K.j,rfl,C1 S3 hf,gp,jP,xx,cd,dp,AC,AC⟩
def qU (img:aj) (x:cy):bP:=⟨0,0,0,x.blocks.toNat,none,img,x,none⟩
section
variable (w i j m:Nat) (a:ai) (img:aj) (x:cy) (pc:ai)
theorem Zs8: ∀(l:List bB) (k:Int) (v:aR),nG ⟨w,i,j,m,a,img,x,pc⟩ k l v=nG ⟨0,0,0,m,none,img,x,none⟩ k l v
 |[],_,_=>rfl
 |y::r,k,v=>by
  unfold nG;rw[show qw ⟨w,i,j,m,a,img,x,pc⟩ k y v=qw ⟨0,0,0,m,none,img,x,none⟩ k y v from rfl];cases qw ⟨0,0,0,m,none,img,x,none⟩ k y v with
  |none=>rfl
  |some v'=>exact Zs8 r (k+1) v'
theorem ZAs (k slot:Int) (v:aR):nr ⟨w,i,j,m,a,img,x,pc⟩ k slot v=nr ⟨0,0,0,m,none,img,x,none⟩ k slot v:=by
 unfold nr;rw[show dT ⟨w,i,j,m,a,img,x,pc⟩ k v=dT ⟨0,0,0,m,none,img,x,none⟩ k v from rfl];cases dT ⟨0,0,0,m,none,img,x,none⟩ k v with
 |none=>rfl
 |some q=>
  have⟨b,v1⟩:=q;cases b<;>first|rfl|exact Zs8 w i j m a img x pc _ _ _
theorem V1 (cH x5:Int): ∀(l:ak) (k:Int) (v:aR),kO ⟨w,i,j,m,a,img,x,pc⟩ cH x5 k l v=kO ⟨0,0,0,m,none,img,x,none⟩ cH x5 k l v
 |[],_,_=>rfl
 |y::r,k,v=>by
  unfold kO;rw[ZAs,V1 cH x5 r (k+1) v];cases nr ⟨0,0,0,m,none,img,x,none⟩ y ((x5*16+k)*7) v with
  |none=>rfl
  |some v'=>simp only[V1 cH x5 r (k+1) v']
theorem VV (cH:Int): ∀(l:ak) (k:Int) (v:aR),ou ⟨w,i,j,m,a,img,x,pc⟩ cH k l v=ou ⟨0,0,0,m,none,img,x,none⟩ cH k l v
 |[],_,_=>rfl
 |y::r,k,v=>by
  unfold ou;rw[show dT ⟨w,i,j,m,a,img,x,pc⟩ y v=dT ⟨0,0,0,m,none,img,x,none⟩ y v from rfl,VV cH r (k+1) v];cases dT ⟨0,0,0,m,none,img,x,none⟩ y v with
  |none=>rfl
  |some q=>
   have⟨b,v1⟩:=q;cases b<;>try rfl
   rename_i z;simp only[V1];cases kO ⟨0,0,0,m,none,img,x,none⟩ cH k 0 z v1 with
   |none=>rfl
   |some v2=>simp only[VV cH r (k+1) v2]
theorem ZyP (v:aR):oy ⟨w,i,j,m,a,img,x,pc⟩ v=oy ⟨0,0,0,m,none,img,x,none⟩ v:=by
 unfold oy;rw[show dT ⟨w,i,j,m,a,img,x,pc⟩ x.cm v=dT ⟨0,0,0,m,none,img,x,none⟩ x.cm v from rfl];simp[VV]
theorem Zto: ∀(f:Nat) (fl:List Bool) (k:Int) (v:aR),nF ⟨w,i,j,m,a,img,x,pc⟩ f fl k v=nF ⟨0,0,0,m,none,img,x,none⟩ f fl k v
 |0,_,_,_=>rfl
 |f+1,fl,k,v=>by
  unfold nF;cases v.aG[(k-1).toNat]? with
  |none=>rfl
  |some y=>simp only[Zto f]
theorem ZtO: ∀(l:List bB) (fl:List Bool),rI ⟨w,i,j,m,a,img,x,pc⟩ fl l=rI ⟨0,0,0,m,none,img,x,none⟩ fl l
 |[],_=>by unfold rI;rfl
 |y::r,fl=>by
  unfold rI;rw[ZtO r];rfl
theorem ZzV (v:aR):tm ⟨w,i,j,m,a,img,x,pc⟩ v=tm ⟨0,0,0,m,none,img,x,none⟩ v:=by
 simp[tm,Zto,Cg,ZtO]
theorem ZtE: ∀(f:Nat) (out:List bm) (todo:List nB) (v:aR),jX ⟨w,i,j,m,a,img,x,pc⟩ f out todo v=jX ⟨0,0,0,m,none,img,x,none⟩ f out todo v
 |0,_,_,_=>rfl
 |f+1,out,[],v=>rfl
 |f+1,out,t::r,v=>by
  unfold jX;rw[show dT ⟨w,i,j,m,a,img,x,pc⟩ t.block v=dT ⟨0,0,0,m,none,img,x,none⟩ t.block v from rfl];cases dT ⟨0,0,0,m,none,img,x,none⟩ t.block v with
  |none=>rfl
  |some q=>
   have⟨b,v1⟩:=q;cases b<;>try rfl
   rename_i z;simp only[ZtE f];rfl
theorem U4: ∀(l:ak) (k:Int) (acc:List bm) (v:aR),mw ⟨w,i,j,m,a,img,x,pc⟩ k l acc v=mw ⟨0,0,0,m,none,img,x,none⟩ k l acc v
 |[],_,_,_=>rfl
 |y::r,k,acc,v=>by
  unfold mw;rw[show su ⟨w,i,j,m,a,img,x,pc⟩ y k v=su ⟨0,0,0,m,none,img,x,none⟩ y k v from ZtE w i j m a img x pc _ _ _ _,U4 r (k+1) acc v];cases su ⟨0,0,0,m,none,img,x,none⟩ y k v with
  |none=>rfl
  |some q=>
   have⟨es,v1⟩:=q;simp only[U4 r (k+1)]
theorem Zu2: ∀(l:ak) (k:Nat) (v:aR),uy ⟨w,i,j,m,a,img,x,pc⟩ k l v=uy ⟨0,0,0,m,none,img,x,none⟩ k l v
 |[],_,_=>rfl
 |y::r,k,v=>by
  unfold uy;rw[show dT ⟨w,i,j,m,a,img,x,pc⟩ y v=dT ⟨0,0,0,m,none,img,x,none⟩ y v from rfl];cases dT ⟨0,0,0,m,none,img,x,none⟩ y v with
  |none=>rfl
  |some q=>
   have⟨b,v1⟩:=q;cases b<;>try rfl
   rename_i z;simp only[U4];cases mw ⟨0,0,0,m,none,img,x,none⟩ 0 z.dH [] v1 with
   |none=>rfl
   |some q=>
    have⟨es,v2⟩:=q;simp only[Zu2 r (k+1)]
theorem Zw7 (v:aR):rz ⟨w,i,j,m,a,img,x,pc⟩ v=rz ⟨0,0,0,m,none,img,x,none⟩ v:=by
 unfold rz;rw[show dT ⟨w,i,j,m,a,img,x,pc⟩ x.dir v=dT ⟨0,0,0,m,none,img,x,none⟩ x.dir v from rfl];simp[Zu2]
theorem Zz1:tQ ⟨w,i,j,m,a,img,x,pc⟩=tQ ⟨0,0,0,m,none,img,x,none⟩:=by
 unfold tQ;simp only[ZyP w i j m a img x pc,ZzV w i j m a img x pc,Zw7 w i j m a img x pc]
end
theorem Zwq (K:bP) (h:K.m=K.sup.blocks.toNat):sy K=sy (qU K.img K.sup):=by
 have⟨w,i,j,m,a,img,sup,pc⟩:=K;simp only at h;subst h;unfold sy;rw[Zz1];rfl
theorem Zl1 (n:Nat) (a:ai) (img:aj) (x:cy) (pc:ai) (s:St) (ha:c9 s a img) (hc:Sl s pc (ints x.aJ)) (hl:img.length<1000000) (cO:x.aJ.length<1000) (hn:5000<=n:=by omega):
  Ok (abm s x.blocks.toNat x (sy (qU img x))) (run Bd n 171 [.slice 1 a img.length,.agg (dq x pc)] s):=by
 have⟨K,h1,h2,h3,h4⟩:=Zts n a img x pc s ha hc hl cO hn;rw[Zwq K (by rw[h1,h3]),h2,h3]at h4;exact h4
end Go.Gv.F
