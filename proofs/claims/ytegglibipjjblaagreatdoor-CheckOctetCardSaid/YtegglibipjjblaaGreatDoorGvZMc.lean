/- The walker's trees: what they are, no program in sight. -/
import Derived.Test.YtegglibipjjblaaGreatDoorGvZMb
set_option linter.all false
namespace Go.Gv.F
open Go.Gv
structure l8 where
 block:Int
 sq:Int
 par:aP
 top:Bool
def nH (x:jz) (n:Nat):List l8:=((List.range n).map λi=>(⟨x.kids.getD i 0,i,x.br,false⟩:l8)).reverse
theorem IM (x:jz) (n:Nat):nH x (n+1)=⟨x.kids.getD n 0,n,x.br,false⟩::nH x n:=by
 simp[nH,tl,eV,List.reverse_append]
def Ch (v:aI) (e:aP) (k:Int):Bool:=match v.ay[e.slot.toNat]? with
 |none=>false
 |some x=>(x.live==true)&&((x.gen==e.gen)&&((x.block==k)&&true))
def qj (K:bu) (v:aI) (t:l8) (x:jz):Bool:=
 (bif (x.kids.length:Int)==t.sq then(bif t.top then true else eX t.par x.br)else false)&&
 (bif decide (x.br.slot<K.sup.used)then Ch v x.br t.block else false)
def ZT (K:bu):Nat->List aP->List l8->aI->Option (List aP×aI)
 |0,_,_,_=>none
 |_+1,out,[],v=>some (out,v)
 |f+1,out,t::r,v=>match dC K t.block v with
  |some (.node x,v')=>bif qj K v' t x then ZT K f (out++[x.br]) (nH x x.kids.length++r) { v' with nodes:=v'.nodes+1 } else none
  |_=>none
def xB:aP:=⟨0,0,0,0⟩
def oY (K:bu) (k sq:Int) (v:aI):Option (List aP×aI):=ZT K (K.m+1) [] [⟨k,sq,xB,true⟩] v
def room (m:Nat) (W:al):Nat:=(List.range m).countP λb=> !cD W b
theorem ZrN {P Q:Nat->Bool} : ∀ {l:al} {k:Nat},(∀b,Q b=true->P b=true)->k∈l->P k=true->Q k=false->l.countP Q+1<=l.countP P
 |[],_,_,h,_,_=>by cases h
 |a::l,k,hm,h,hp,hq=>by
  rw[List.countP_cons,List.countP_cons];rcases ep.1 h with rfl|h
  .rw[hp,hq]
   have:=List.countP_mono_left (l:=l) (p:=Q) (q:=P) λb _ hb=>hm b hb
   simp;omega
  .have:=ZrN hm h hp hq
   grind
theorem Zvw (m:Nat) (W:al):room m W<=m:=by
 unfold room;exact ij (List.countP_le_length) Do
variable {f:Bool} {e e' r r':DV} {k n slot:Int} {i lim m p:Nat} {s s' s0:St} {v v':aI} {A A' cs:ah} {l:aj} {T W:al} {K:bu}
theorem VI (hl:W.length=(m+63)/64) (h:fK m W k=true):room m (bA m W k)+1<=room m W:=by
 unfold fK at h;rw[aS,aS]at h;have⟨_,hm,hi⟩:=h;have rC:=hm;unfold fe at rC;rw[aS,bq,bq]at rC;refine ZrN (k:=k.toNat) (λb hb=>?_) (uG.2 AC) hi ?_
 .rw[oz hl]at hb
  rw[kN]at hb⊢;rw[yf]at hb;exact hb.1
 .rw[oz hl,hm]
  simp
theorem yB {b:xa} (h:dC K k v=some (b,v')):fK K.m v.W k=true/\v'.W=bA K.m v.W k:=by
 grind[dC]
def vM (v:aI) (e:aP):Prop:=0<=e.slot/\∃(x:aX) (k:Nat),v.ay[e.slot.toNat]? =some x/\x.block=(k:Int)/\cD v.W k=true
def Diff (l:List aP):Prop:=l.Pairwise λa b=>a.slot≠b.slot
theorem ZnL {x:jz} (h:ZA l= .node x):mb x=true/\x.kids.length<=12:=by
 unfold ZA at h;split at h
 .rename_i e;cases h;exact Nn e
 grind
theorem Iw {x:jz} (h:mb x=true):0<=x.br.slot/\x.br.slot<1792:=by
 grind[mb]
theorem IX {K:bu} : ∀ {f:Nat} {acc out xZ:List aP} {todo:List l8} {v v':aI},v.W.length=(K.m+63)/64->ZT K f out todo v=some (xZ,v')->(∀e∈acc++out,vM v e)->Diff (acc++out)->(∀e∈acc++xZ,vM v' e)/\Diff (acc++xZ)/\v'.W.length=(K.m+63)/64/\(∀k,cD v.W k=true->cD v'.W k=true)/\v'.ay=v.ay/\v'.aD=v.aD/\v'.gens=v.gens/\v'.free=v.free
 |0,_,_,_,_,_,_,_,h,_,_=>by cases h
 |f+1,acc,out,xZ,[],v,v',hl,h,h1,h2=>by cases h;grind
 |f+1,acc,out,xZ,t::r,v,v',hl,h,h1,h2=>by
  unfold ZT at h;cases ht:dC K t.block v
  .rw[ht]at h;cases h
  .rename_i q;have⟨b,v1⟩:=q;rw[ht]at h;have⟨g1,g2,g3,g4,g5,g6⟩:=Z4 ht;have⟨g7,g8⟩:=yB ht;cases b with
   |leaf x=>cases h
   |bY x=>cases h
   |queue x=>cases h
   |dir x=>cases h
   |none=>cases h
   |node x=>
    simp only at h;cases hf:qj K v1 t x
    .rw[hf]at h;cases h
    .rw[hf,ae]at h;have fA: ∀k,cD v.W k=true->cD v1.W k=true:=λk hk=>by rw[g8,oz hl,hk];rfl
     have nz:v1.W.length=(K.m+63)/64:=by rw[g8,np];exact hl
     have ec:=g7;unfold fK at ec;rw[aS,aS,bq]at ec;have⟨jR,wF,hki⟩:=ec;have PS:=(Iw (ZnL g6.symm).1).1;unfold qj at hf;rw[aS]at hf;have C7:Ch v1 x.br t.block=true:=by
      grind
     unfold Ch at C7;cases qH:v1.ay[x.br.slot.toNat]?
     .rw[qH]at C7;cases C7
     .rename_i y;rw[qH]at C7;simp only[aS,and_true]at C7;have⟨E8,Ld,HH⟩:=C7;have hyb:y.block=(t.block.toNat:Int):=by rw[eq_of_beq HH];omega
      have hold: ∀e∈acc++out,vM v1 e:=λe he=>by
       have⟨a1,z,k,a2,a3,a4⟩:=h1 e he;exact⟨a1,z,k,by rw[g1];exact a2,a3,fA k a4⟩
      have iY:vM v1 x.br:=⟨PS,y,t.block.toNat,qH,hyb,by
       rw[g8,oz hl,wF];simp⟩
      have Pa: ∀e∈acc++out,e.slot≠x.br.slot:=λe he heq=>by
       have⟨a1,z,k,a2,a3,a4⟩:=h1 e he;rw[heq,<-g1,qH]at a2;grind
      have key:=IX (acc:=acc) (v:= { v1 with nodes:=v1.nodes+1 }) nz h (λe he=>by
       rw[<-dL]at he;rcases ga.1 he with he|he
       .exact hold e he
       .rw[cH.1 he];exact iY) (by
       unfold Diff;rw[<-dL,Mg];refine⟨h2,List.pairwise_singleton _ _,λa ha b hb=>?_⟩;rw[cH.1 hb];exact Pa a ha)
      grind
variable {Y:Type}
variable {K:bu} {s:St} {v:aI} {L:al} {z1 z2 z3 z4:Nat} {p1 p2 p3 p4:ai} {hd:ah}
def mH (s:St) (a:ai) (cs:ah):Prop:=(a=none/\cs=[])\/∃b rest,a=some (b,0)/\s[b]? =some (some ⟨false,cs++rest⟩)
theorem mH.fx {a:ai} (h:mH s a cs) (k:Fx T s s') (n: ∀b∈aM a,b∉T):mH s' a cs:=by
 rcases h with h1|⟨i,r,rfl,h3⟩
 .exact .inl h1
 .exact .inr ⟨i,r,rfl,k.2 i _ (n i (by simp[aM])) h3⟩
theorem mH.lt {a:ai} (h:mH s a cs): ∀b∈aM a,b<s.length:=by
 rcases h with⟨rfl,_⟩|⟨i,r,rfl,h3⟩
 .intro b hb;cases hb
 .intro b hb;rw[cH.1 hb];grind
theorem Zxf {a:ai} (h:mH s a cs) {sz n:Nat} (ds:ah) (hz:0<sz) (hn:cs.length=n*sz) (hd:ds.length=sz) (hl:n+1<=lim:=by omega):
  ∃b s',s.length<=b/\s'[b]? =some (some ⟨false,cs++ds⟩)/\Fx (aM a) s s'/\Kp s s'/\∀K:ai->M Y,(cj ds λi=>bV i 0 sz λcs'=>cu sz a n cs' 1 lim K) s=K (some (b,0)) s':=by
 rcases h with⟨rfl,rfl⟩|⟨i,rest,rfl,hs⟩
 .have⟨b,s',h1,h2,h3,h4,h5⟩:=bc.Qj (Y:=Y) (s0:=[]) (s:=s) (a:=none) (cs:=[]) (bc.nil ⟨s,rfl⟩) ds hz hn hd hl
  rcases h2.2 with⟨e,_⟩|⟨i,e,_,h6⟩
  .cases e
  .cases e
   exact⟨b,s',h1,h6,⟨by have:=(eE.1 h6).1;omega,λi x _ e=>h4 i x e (λo e=>by cases e)⟩,h3,h5⟩
 .have j3:i<s.length:=Fd
  have mo:(s++[some (⟨false,ds⟩:bQ)])[i]? =some (some (⟨false,cs++rest⟩:bQ)):=by rw[nc j3];exact hs
  have eD:(s++[some (⟨false,ds⟩:bQ)]).iB i=some (cs++rest):=by grind[St.iB]
  have hb:Nat.beq 1 0=false:=rfl;refine⟨s.length+1,(s++[some (⟨false,ds⟩:bQ)]).set i none++[some (⟨false,cs++ds⟩:bQ)],AC,?_,⟨by simp;omega,λy x hy e=>?_⟩,(aB.new _ _).kp.trans ((Kp.set mo none).trans (aB.new _ _).kp),λK=>?_⟩
  .rw[kO Do];simp
  .have hyl:=(eE.1 e).1
   have cV:i≠y:=λe=>hy (by simp[aM,e])
   rw[nc (by simp;omega),ig cV,nc hyl];exact e
  .rw[ZD,kq (f:=false) (all:=ds) Do AC,dF,dG AC]
   unfold cu;simp only[hb,gO hl,ae,af,eD];rw[fq,gO (by rw[ba];omega),ae,dF,<-hn,DA];simp
theorem eL.akZ (h:eL K s v L z1 p1 z2 p2 z3 p3 z4 p4 hd) (x:Int):
  ∃s',(∀Kc:M Y,dE K.w 18 [.i x] Kc s=Kc s')/\eL K s' { v with nodes:=x } L z1 p1 z2 p2 z3 p3 z4 p4 hd/\Fx [K.w] s s'/\Kp s s':=by
 have cV:=h.ne;have cP:=Fx.set s K.w (some (⟨false,tc K { v with nodes:=x } (dT z1 p1 v.ay.length) (dT z2 p2 v.aD.length) (dT z3 p3 v.gens.length) (dT z4 p4 v.free.length)⟩:bQ));have rq:=cP.mono (T':=L) λy hy=>by rw[cH.1 hy];exact h.Ff
 refine⟨_,λKc=>?_,⟨?_,h.e1,h.e2,h.e3,h.e4,h.o1.fx cP λb hb=>?_,h.o2.fx cP λb hb=>?_,h.o3.fx cP λb hb=>?_,h.o4.fx cP λb hb=>?_,h.aD.fx rq (Nw.refl L s),h.set.fx cP (by simpa using cV.1.symm) Fd,Sl.fx h.img rq h.off,h.off,h.own,h.nodup⟩,cP,Kp.set h.cell _⟩
 .rw[sa h.cell (by show 18<19;omega)]
  rfl
 .exact ke (eE.1 h.cell).1
 all_goals simpa using Fd
def GG (t:l8):ah:=[.i t.block,.i t.sq,.i t.par.slot,.i t.par.gen,.i t.par.key,.i t.par.value,.bool t.top]
def oX (l:List l8):ah:=(l.map GG).flatten
theorem Nf (l:List l8):(oX l).length=l.length*7:=by
 unfold oX;induction l with
 |nil=>rfl
 |cons e l ih=>rw[kf,vH,ba,ih,cQ];show 7+_=_;omega
theorem Zry (l m:List l8):oX (l++m)=oX l++oX m:=by simp[oX]
theorem Vk (x:jz) (n:Nat):(nH x n).length=n:=by unfold nH;simp
theorem ZzZ {Kn:ah->M ah} {Q:Out ah×St->Prop} (n:Nat) (alB:s.length=s.length) (x:jz) (px:ai) (r:List l8) (t0:St) (Bo:ai) (hx:Fz t0 px (ints x.kids)) (ad0:x.kids.length<=12) (ho:mH t0 Bo (oX r.reverse)) (hr:r.length<100000) (iG: ∀b∈aM Bo,s.length<=b) (dR:s.length<=t0.length) (hn:20<=n)
  (hK: ∀t pT z,(z=7\/pT=none)->mH t pT (oX (nH x x.kids.length++r).reverse)->(∀b∈aM pT,s.length<=b/\(b∈aM Bo\/t0.length<=b))->Fx (aM Bo) t0 t->Ok Q (Kn [.slice z pT (r.length+x.kids.length)] t)) (z0:Nat) (xS:z0=7\/Bo=none):
  Ok Q (dc (λdP st=>
      ca 7 st λLO Fo st=>
      aC .i64 st λgN st=>
      aF st<|
      bif decide (gN<(x.kids.length:Int))then
       bK px λi6 o4=>
      aA (aO gN x.kids.length)<|
      bH i6 (gN.toNat*1+o4) λd3=>
      db .i64 d3 λgX=>
      cj [.i gX,.i gN,.i x.br.slot,.i x.br.gen,.i x.br.key,.i x.br.value,.bool false] λi7=>
      bV i7 0 7 λfQ=>
      cu 7 LO Fo fQ 1 1256584717458 λp1=>
      dP [.slice 7 p1 (Fo+1),.i (aq (gN+1))]
      else
       Kn [.slice 7 LO Fo]) n [.slice z0 Bo r.length,.i 0] t0):=by
 refine Zj _ (λq y t=>∃(i z:Nat) (pT:ai),y=[.slice z pT (r.length+i),.i i]/\(z=7\/pT=none)/\i<=x.kids.length/\x.kids.length-i<=q/\mH t pT (oX (nH x i++r).reverse)/\(∀b∈aM pT,s.length<=b/\(b∈aM Bo\/t0.length<=b))/\Fx (aM Bo) t0 t/\Fz t px (ints x.kids)) ?_ x.kids.length n _ _ ⟨0,z0,Bo,rfl,xS,cN _,AC,ho,Fd,.refl _ _,hx⟩ AC;rintro q _ t ⟨i,z,pT,rfl,hz,hi,hq,hoT,O7,cP,EY⟩ rec aN;simp only[au,Zh 7 z pT _ hz,ao];by_cases av:i<x.kids.length
 .obtain⟨i1,o1,rfl⟩:=EY.1.cS (by simp[ints];omega)
  rw[aR,bh,Zc (Zi av),bn,EY.1.dX (ZJ av),bg];have Y1:(oX (nH x i++r).reverse).length=(r.length+i)*7:=by rw[Nf,List.length_reverse,ba,Vk];omega
  have⟨b,t1,g1,g2,g3,g4,g5⟩:=Zxf (Y:=ah) hoT (sz:=7) (n:=r.length+i) (lim:=1256584717458) (GG ⟨x.kids[i],i,x.br,false⟩) AC Y1 rfl;refine Eq.mpr (congrArg (Ok _) (g5 _)) ?_;have lN:aq ((i:Int)+1)=((i+1:Nat):Int):=Zb;rw[lN];refine aN (x.kids.length-(i+1)) _ _ AC ⟨i+1,7,some (b,0),rfl,.inl rfl,AC,aJ _,.inr ⟨b,[],rfl,?_⟩,?_,?_,EY.kp g4⟩
  .rw[g2,fP,IM,oo,List.reverse_cons,Zry]
   have:x.kids.getD i 0=x.kids[i]:=by rw[cz,cc av];rfl
   rw[this];simp[oX]
  .intro y hy
   rw[cH.1 hy];have:=cP.1;omega
  .exact cP.step g3 λy hy=>(O7 y hy).2
 .rw[aU]
  have:i=x.kids.length:=AC
  subst this;grind
theorem ZxF {Bd:Zg} (h:FT Bd) (n:Nat) (hn:8<=n) (a b:aP) (st:St):
  Ok (λo=>∃z s',o=(.val [.i z],s')/\aB st s'/\decide (z<0)=eX a b) (run Bd n 159 [.agg (fJ a),.agg (fJ b)] st):=by
 refine(acG h n hn a b st).mono ?_;rintro _ ⟨z,s',rfl,hp,e⟩;grind
variable {Q:Out Y×St->Prop}
theorem Ok.join {f:ah->M Y} {g:(ah->M Y)->M Y} (h: ∀jk,jk=f->Ok Q (g jk s)):Ok Q (cO f g s):=by rw[Za];exact h f rfl
theorem ZyS (pn:M Y) (x:jz) (px:ai) (Kc:Int->Int->Int->Int->ai->Nat->M Y):we pn (.iface 6 (.agg (pY x 1 px))) 6 (λd=>uY d λbU=>aC .i64 bU λx8 r=>aC .i64 r λx9 r=>aC .i64 r λdr r=>aC .i64 r λeU r=>ca 1 r λfZ qN r=>aF r<|Kc x8 x9 dr eU fZ qN)=Kc x.br.slot x.br.gen x.br.key x.br.value px x.kids.length:=rfl
def My (K:bu) (s:St) (v:aI) (L:al) (z1:Nat) (p1:ai) (z2:Nat) (p2:ai) (z3:Nat) (p3:ai) (z4:Nat) (p4:ai) (hd:ah) (R:Option (List aP×aI)) (o:Out ah×St):Prop:=match R with
 |none=>∃s',o=(.fH,s')/\Fx L s s'
 |some (out,v')=>∃p z s',o=(.val [.slice z p out.length],s')/\(z=4\/p=none)/\eL K s' v' L z1 p1 z2 p2 z3 p3 z4 p4 hd/\Fx L s s'/\mH s' p (bW out)/\(∀b∈aM p,s.length<=b)/\v'.nodes+(room K.m v'.W:Nat)<=v.nodes+(room K.m v.W:Nat)/\v.nodes<=v'.nodes/\out.length<=4000
theorem eL.P5 (h:eL K s v L z1 p1 z2 p2 z3 p3 z4 p4 hd) (h0:rX s0 L hd v.aD) (hl: ∀x∈L,x<s0.length) (ha: ∀b o,K.a=some (b,o)->b<s0.length) (k0:Fx L s0 s) (k:Fx T s s') (hT: ∀x∈T,s0.length<=x):eL K s' v L z1 p1 z2 p2 z3 p3 z4 p4 hd/\Fx L s0 s':=by
 have hf:Fx L s0 s':=k0.step k λx hx=> .inr (hT x hx)
 exact⟨h.kE k Fd (λb o e hm=>by have:=ha b o e;have:=hT b hm;omega) (h0.fx hf (Nw.refl L s0)),hf⟩
theorem ZAk {Bd:Zg} (h:HA Bd) (n:Nat) (hK:DL K) (k sq:Int) (hW:eL K s v L z1 p1 z2 p2 z3 p3 z4 p4 hd) (h0:0<=K.sup.used) (h1:K.sup.used<=1792) (hs:(v.ay.length:Int)=K.sup.used) (eJ:0<=v.nodes) (hnr:v.nodes+(room K.m v.W:Nat)<=5000) (hm:K.m<=3072) (hn:4010<=n):
  Ok (My K s v L z1 p1 z2 p2 z3 p3 z4 p4 hd (oY K k sq v)) (run Bd n 233 [.ptr (some (K.w,0)),.i k,.i sq] s):=by
 obtain⟨n,rfl⟩: ∃k,n=k+2:=⟨n-2,AC⟩;rw[Ze,h.agJ];unfold Rk GH DK Ztr vK Zvc az C_ Zm cT Zo N_ se cK tx iT Lb Li BU oY;simp only[fw,au,ao];rw[ZD];have EF:=hW.lt;have Hb: ∀b o,K.a=some (b,o)->b<s.length:=λb o e=>Sl.lt (e▸hW.img)
 have pU:=aB.new s (some (⟨false,[DV.int .i64 k,.i sq,.i 0,.i 0,.i 0,.i 0,.bool true]⟩:bQ));have yX:(s++[some (⟨false,[DV.int .i64 k,.i sq,.i 0,.i 0,.i 0,.i 0,.bool true]⟩:bQ)])[s.length]? =some (some ⟨false,oX [⟨k,sq,xB,true⟩]⟩):=by simp;rfl
 have tV:=hW.pre pU;generalize s++[some (⟨false,[DV.int .i64 k,.i sq,.i 0,.i 0,.i 0,.i 0,.bool true]⟩:bQ)]=s0 at pU yX tV;have⟨R,hR⟩: ∃R,ZT K (K.m+1) [] [⟨k,sq,xB,true⟩] v=R:=⟨_,rfl⟩;rw[hR,Za];have hrm:=Zvw K.m v.W;refine Zj _ (λq y t=>∃(f:Nat) (out:List aP) (todo:List l8) (u:aI) (zo:Nat) (po:ai) (zt:Nat) (pt:ai),y=[.slice zo po out.length,.slice zt pt todo.length]/\(zo=4\/po=none)/\(zt=7\/pt=none)/\room K.m u.W<=q/\room K.m u.W<f/\eL K t u L z1 p1 z2 p2 z3 p3 z4 p4 hd/\u.ay=v.ay/\u.aD=v.aD/\Fx L s t/\mH t po (bW out)/\mH t pt (oX todo.reverse)/\(∀b∈aM po,s.length<=b)/\(∀b∈aM pt,s.length<=b)/\(∀b∈aM po,b∉aM pt)/\v.nodes<=u.nodes/\u.nodes+(room K.m u.W:Nat)<=v.nodes+(room K.m v.W:Nat)/\out.length+room K.m u.W<=3072/\todo.length+12*room K.m u.W<=40000/\ZT K f out todo u=R) ?_ (room K.m v.W) (n+1) _ _ ⟨K.m+1,[],[⟨k,sq,xB,true⟩],v,0,none,7,some (s.length,0),rfl,.inr rfl,.inl rfl,aJ _,AC,tV,rfl,rfl,Fx.pre L pU,.inl ⟨rfl,rfl⟩,.inr ⟨s.length,[],rfl,by rw[fP];exact yX⟩,λ_ h=>(by cases h),λb hb=>by rw[cH.1 hb];exact aJ _,λ_ h=>(by cases h),Int.le_refl _,Int.le_refl _,by simp;omega,by simp;omega,hR⟩ AC;rintro q _ t ⟨f,out,todo,u,zo,po,zt,pt,rfl,hzo,hzt,hrq,hrf,eB,j7,vy,cP,PE,C2,J1,sv,Yi,KB,KC,iz,rG,aL⟩ rec aN;rw[Zh 4 zo po _ hzo,Zh 7 zt pt _ hzt,ao];obtain⟨f,rfl⟩: ∃k,f=k+1:=⟨f-1,AC⟩;cases todo with
 |nil=>
  rw[show decide ((([]:List l8).length:Int)>0)=false from rfl,af];simp only[aZ,ao];unfold ZT at aL;rw[Zd,<-aL];exact .mk ⟨po,4,t,rfl,.inl rfl,eB,cP,PE,J1,KC,KB,AC⟩
 |cons e r=>
  unfold ZT at aL;rw[aR (Fd:(((e::r).length:Nat):Int)>0),Za];rcases C2 with⟨_,hx⟩|⟨bt,rest,rfl,acS⟩
  .exfalso
   have:=congrArg List.length hx;rw[Nf]at this;simp at this
  have cL:aq ((((e::r).length:Nat):Int)-1)=(r.length:Int):=by
   have e3:((((e::r).length:Nat):Int)-1)=(r.length:Int):=Do
   have h9:r.length<100000:=AC
   rw[e3];exact Zb
  rw[cL,bn,bh,Zc (Zi Do)];have CK:oX (e::r).reverse=oX r.reverse++GG e:=by
   rw[List.reverse_cons,Zry];simp[oX]
  have Y5: ∀Kc:ah->M ah,bV bt (r.length*7+0) 7 Kc t=Kc (GG e) t:=λKc=>by
   rw[fE,kq acS (by rw[ba,Nf,List.length_reverse,cQ];omega),CK,show r.length*7=(oX r.reverse).length by rw[Nf,List.length_reverse],dL,uD];rfl
  rw[Y5];unfold GG;simp only[au,ar,ao];rw[Zc (by rw[aS,bq,bq];simp;omega)];refine Ok.xy (eB.take h (n+1) e.block hK.m hK.GL hK.len AC) ?_ ?_
  .intro s' hp
   cases ht:dC K e.block u
   .rw[ht]at hp aL;cases hp;rw[<-aL];exact⟨t,rfl,cP⟩
   .rename_i q;rw[ht]at hp;have⟨d,s2,e,_⟩:=hp;cases e
  intro ds t1 hp;cases ht:dC K e.block u
  .rw[ht]at hp;cases hp
  .rename_i q;have⟨b,u1⟩:=q;rw[ht]at hp aL;have⟨d,s2,e2,jo,ny,hb⟩:=hp;cases e2;have⟨g1,g2,g3,g4,g5,g6⟩:=Z4 ht;have⟨g7,g8⟩:=yB ht;have C6:=VI eB.set.len g7;rw[<-g8]at C6;have pQ:Fx L s t1:=cP.trans (ny.mono λy hy=>by rw[cH.1 hy];exact eB.xU);rw[DG,ao];cases b with
   |leaf x=>obtain⟨rfl,_⟩:=hb;rw[<-aL];exact .mk ⟨t1,rfl,pQ⟩
   |bY x=>obtain⟨rfl,_⟩:=hb;rw[<-aL];exact .mk ⟨t1,rfl,pQ⟩
   |queue x=>obtain⟨rfl,_⟩:=hb;rw[<-aL];exact .mk ⟨t1,rfl,pQ⟩
   |dir x=>obtain⟨p,rfl,_⟩:=hb;rw[<-aL];exact .mk ⟨t1,rfl,pQ⟩
   |none=>cases hb;rw[<-aL];exact .mk ⟨t1,rfl,pQ⟩
   |node x=>
    obtain⟨px,rfl,La,hxr,ad0⟩:=hb;simp only at aL;rw[ZyS];have PS:=Iw hxr;have wH: ∀t',Fx L s t'->qj K u1 e x=false->Ok (My K s v L z1 p1 z2 p2 z3 p3 z4 p4 hd R) (some (.fH,t')):=λt' xI hf=>by
     rw[hf,af]at aL;rw[<-aL];exact .mk ⟨t',rfl,xI⟩
    have⟨c1,gV⟩: ∃c1,(bif (x.kids.length:Int)==e.sq then(bif e.top then true else eX e.par x.br)else false)=c1:=⟨_,rfl⟩;have⟨c2,jC⟩: ∃c2,(bif decide (x.br.slot<K.sup.used)then Ch u1 x.br e.block else false)=c2:=⟨_,rfl⟩;have YC:qj K u1 e x=(c1&&c2):=by unfold qj;rw[gV,jC]
    refine Ok.join λaW oe=>?_
    have hA: ∀t2,eL K t2 u1 L z1 p1 z2 p2 z3 p3 z4 p4 hd->Fx L s t2->mH t2 po (bW out)->mH t2 (some (bt,0)) (oX r.reverse)->Fz t2 px (ints x.kids)->Ok (My K s v L z1 p1 z2 p2 z3 p3 z4 p4 hd R) (aW [.bool c1] t2):=by
     intro t2 ml gu ajq aju akl;rw[oe];simp only[ar,ao];cases c1 with
     |false=>
      rw[qk h n rfl];exact wH t2 gu (by rw[YC];rfl)
     |true=>
     rw[uS h n rfl,ao,bh,Zn ml.cell rfl,bg];refine Ok.join λbG CW=>?_
     have hB:Ok (My K s v L z1 p1 z2 p2 z3 p3 z4 p4 hd R) (bG [.bool c2] t2):=by
      rw[CW];simp only[ar,ao];cases c2 with
      |false=>
       rw[qk h n rfl];exact wH t2 gu (by rw[YC];rfl)
      |true=>
      rw[uS h n rfl];rw[YC,BA,ae]at aL;simp only[ao,bh];rw[Zn ml.cell rfl,bg];have sP:aq (u1.nodes+1)=u1.nodes+1:=Zb (by rw[g5];omega) (by rw[g5];omega);rw[sP,fq];have⟨t3,e3,xF,fR,ai5⟩:=ml.akZ (Y:=ah) (u1.nodes+1);rw[e3];have mq:K.w∈L:=eB.Ff;have adb:Fx L s t3:=gu.trans (fR.mono λy hy=>by rw[cH.1 hy];exact mq);have iG: ∀b,s.length<=b->b∉[K.w]:=λb hb hm=>by rw[cH.1 hm]at hb;have:=EF _ mq;omega
      have ajr:=ajq.fx fR λb hb=>iG b (J1 b hb)
      have adD:=aju.fx fR λb hb=>iG b (sv b hb)
      have akm:=akl.kp ai5;have⟨bo,t4,q1,q2,q3,q4,q5⟩:=Zxf (Y:=ah) ajr (sz:=4) (n:=out.length) (lim:=2199023255552) (fJ x.br) AC (Zt _) rfl;refine Eq.mpr (congrArg (Ok _) (q5 _)) ?_;have YN:rX s L hd u1.aD:=by rw[g2,vy];exact hW.aD
      have⟨pM,tZ⟩:=xF.P5 YN EF Hb adb q3 J1;have ajv:=adD.fx q3 λb hb hm=>Yi b hm hb
      have akn:=akm.kp q4;have hs4:s.length<=t4.length:=tZ.1;rw[Za];refine ZzZ (s:=s) (n+1) rfl x px r t4 (some (bt,0)) akn ad0 ajv (by simp at rG;omega) sv hs4 AC (Kn:=λds=>ca 7 ds λabI abJ st=>aF st<|ca 4 [.slice 4 (some (bo,0)) (out.length+1),.slice 7 abI abJ] λvD uo st=>ca 7 st λabG abH st=>aF st<|rec [.slice 4 vD uo,.slice 7 abG abH]) ?_ 7 (.inl rfl);intro t5 pT z hz hT O7 CT;rw[Zh 7 z pT _ hz,aZ,ao];have acQ:bo∉aM (some (bt,0)):=λhm=>by
       have:=mH.lt adD bo hm;omega
      have xQ:=adb.1;have⟨G9,aiQ⟩:=pM.P5 YN EF Hb tZ CT sv;have alL:bo<t4.length:=(eE.1 q2).1;refine aN (room K.m u1.W) _ _ AC ⟨f,out++[x.br],nH x x.kids.length++r, { u1 with nodes:=u1.nodes+1 },4,some (bo,0),7,pT,?_,.inl rfl,.inl rfl,aJ _,(AC:room K.m u1.W<f),G9,by show u1.ay=_;rw[g1,j7],by show u1.aD=_;rw[g2,vy],aiQ,.inr ⟨bo,[],rfl,?_⟩,hT,λb hb=>?_,λb hb=>(O7 b hb).1,λb hb hm=>?_,?_,?_,?_,?_,aL⟩
      .simp[Vk,tm]
      .rw[fP,Aq]
       have:=CT.2 bo _ acQ q2;simpa [bW]using this
      .rw[cH.1 hb];omega
      .rw[cH.1 hb]at hm
       rcases(O7 bo hm).2 with h5|h5
       .exact acQ h5
       .omega
      .show v.nodes<=u1.nodes+1
       rw[g5];omega
      .show u1.nodes+1+_<=_
       rw[g5];show u.nodes+1+(room K.m u1.W:Nat)<=_;omega
      .show(out++[x.br]).length+room K.m u1.W<=_
       simp;omega
      .show(nH x x.kids.length++r).length+12*room K.m u1.W<=_
       rw[ba,Vk];simp at rG;omega
     cases av:decide (x.br.slot<K.sup.used)
     .rw[av,af]at jC;rw[af,jC];exact hB
     .rw[av,ae]at jC;have vv:=ng av;rw[ae,bh,Zn ml.cell rfl];show Ok _ (dB 3 (.slice z1 p1 u1.ay.length) _ t2);rw[Z5 3 z1 p1 _ ml.e1];have zC:u1.ay.length=v.ay.length:=by rw[g1,j7]
      have⟨ks,zm⟩: ∃ks:Nat,x.br.slot=ks:=⟨x.br.slot.toNat,AC⟩;have fM:ks<u1.ay.length:=by rw[zC];omega
      obtain⟨bs,rfl,y7⟩:=ml.o1.cS (by rw[ZE];omega);have oi:u1.ay[ks]? =some u1.ay[ks]:=cc fM;unfold Ch at jC;rw[zm,bn,oi]at jC;rw[bh,zm,Zc (Zi fM),bn,MZ y7 oi];unfold eZ;simp only[ar,au,ao];simp only at jC;rw[jC];exact hB
    have hjL:K.j∈L:=eB.xU;have hnj: ∀b,s.length<=b->b∉[K.j]:=λb hb hm=>by rw[cH.1 hm]at hb;have:=EF _ hjL;omega
    have aah:=PE.fx ny λb hb=>hnj b (J1 b hb)
    have aai:mH t1 (some (bt,0)) (oX r.reverse):= .inr ⟨bt,GG e++rest,rfl,by
     rw[<-dL,<-CK];exact ny.2 bt _ (hnj bt (sv bt (by simp[aM]))) acS⟩
    cases Ez:((x.kids.length:Int)==e.sq)
    .rw[Ez,af]at gV;rw[af,gV];exact hA t1 jo pQ aah aai La
    .rw[Ez,ae]at gV;rw[ae];refine Ok.join λdS adm=>?_
     cases htp:e.top
     .rw[htp,af]at gV;rw[af];refine Ok.call (ZxF h.akt (n+1) AC e.par x.br t1) ?_;rintro _ ⟨z,t2,rfl,bd,e2⟩;refine⟨_,t2,rfl,?_⟩;rw[adm];simp only[au,ar,ao];rw[e2,gV];exact hA t2 (jo.pre bd) (pQ.trans (Fx.pre L bd)) (aah.fx (Fx.pre [] bd) λ_ _ h=>by cases h) (aai.fx (Fx.pre [] bd) λ_ _ h=>by cases h) (La.pre bd)
     .rw[htp,ae]at gV;rw[ae,adm];simp only[ar,ao];rw[gV];exact hA t1 jo pQ aah aai La
def e4 (e:aP):E4:=(e.slot,e.gen,e.key,e.value)
def Dt (x:E4):aP:=⟨x.1,x.2.1,x.2.2.1,x.2.2.2⟩
theorem Go.Gv.acA: ∀(l:List aP),Go.Gv.AJ (bW l)=some (l.map e4)
 |[]=>rfl
 |e::l=>by
  show(match Go.Gv.AJ (bW l)with|some l=>some ((e.slot,e.gen,e.key,e.value)::l)|none=>none)=_;rw[Go.Gv.acA l];rfl
theorem ZnK: ∀(l:List E4),nR l=bW (l.map Dt)
 |[]=>rfl
 |x::l=>by
  show tN x++nR l=_;rw[ZnK l];rfl
def kK (l:List aP):List aP:=(kb (l.map e4)).map Dt
theorem UW (l:List aP):(kK l).length=l.length:=by simp[kK,mC,UK]
theorem Zpd (l:List aP):(kK l).Perm l:=by
 unfold kK;have:=(IG (l.map e4)).map Dt;rwa [uF,show Dt∘e4=id from rfl,List.map_id]at this
theorem VU {x y:E4} (h:x.1≠y.1):(fY x y||fY y x)=true:=by
 rw[mB,D7,D7];omega
theorem Sw: ∀ {l:List aP},Diff l->Ef (l.map e4)=true
 |[],_=>rfl
 |e::l,.cons h1 h2=>by
  show((l.map e4).all (λy=>fY (e4 e) y||fY y (e4 e))&&Ef (l.map e4))=true;rw[Sw h2,BA,qP];intro y hy;obtain⟨z,hz,rfl⟩:=jK.1 hy;exact VU (h1 z hz)
variable {Bd:Zg} [h:HA Bd]
theorem ZAL (n:Nat) (l:List aP) (p:ai) (st:St) (hs:mH st p (bW l)) (hd:Diff l) (hl:l.length<=1000000):
  ∃s',run Bd (n+1) 232 [.slice 4 p l.length,.func 159 [] []] st=some (.val [],s')/\mH s' p (bW (kK l))/\Fx (aM p) st s':=by
 rw[Ze,h.agI];unfold Jc;rcases hs with⟨rfl,hx⟩|⟨b,rest,rfl,hb⟩
 .have h0:l.length=0:=by
   have:=congrArg List.length hx;rw[Zt,Aa]at this;omega
  have h1:l=[]:=z8.1 h0;subst h1;exact⟨st,rfl,.inl ⟨rfl,rfl⟩,.refl _ _⟩
 .have eD:st.iB b=some (bW l++rest):=by grind[St.iB]
  simp only[eD];rw[gO (by rw[ba,Zt];omega),ae,dF,<-Zt,DA,Go.Gv.acA];simp only[Sw hd,gO hl,Bool.and_self,ae];have qH:nR (kb (l.map e4))=bW (kK l):=ZnK _;rw[qH];have ja:=tC [] (bW l) rest (bW (kK l)) (by rw[Zt,Zt,UW]);rw[gR,gR]at ja;refine⟨_,rfl,.inr ⟨b,rest,rfl,?_⟩,Fx.set st b _⟩;rw[ke (eE.1 hb).1];grind
def dI (x:cm) (p:ai):ah:=[.i x.seq,.i x.blocks,.i x.cW,.i x.g,.i x.bY,.i x.used,.i x.free,.i x.dir,.slice 1 p x.aK.length]
def oT (x:cm) (k:Int):Bool:=bif decide (k>=2)then decide (k<x.blocks)else false
def rZ (x:cm):Bool:=(List.range x.aK.length).all λi=>oT x (x.aK.getD i 0)&& !decide (x.aK.getD i 0∈x.aK.take i)
def ZP (x:cm):Bool:=
 !(decide (x.seq<1)||(decide (x.seq>4611686018427387904)||(!qA x.blocks x.cW x.g||(decide (x.used<0)||(decide (x.used>x.cW)||(decide (x.free<0)||decide (x.free>x.used)))))))&&
 (!((bif x.used==0 then !(x.bY==0)else false)||((bif decide (x.used>0)then !oT x x.bY else false)||((bif !(x.dir==0)then !oT x x.dir else false)|| !((x.aK.length:Int)==Ax x.blocks x.cW x.g))))&&rZ x)
theorem Zon (n:Nat) (x:cm) (p:ai) (b:Nat) (k:Int) (st:St) (hb:st[b]? =some (some ⟨false,dI x p⟩)):
  run Bd (n+1) 221 [.i k,.ptr (some (b,0))] st=some (.val [.bool (oT x k)],st):=by
 rw[Ze,h.agy];unfold Rz jO az Zm Lb oT
 try dsimp only
 rw[au,fw,ao,Za,bh];cases decide (k>=2)
 .rfl
 .rw[ae,ae,Zn hb (d:= .i x.blocks) rfl];rfl
theorem Zkw (n:Nat) (x:cm) (p:ai) (st:St) (hs:Sl st p (ints x.aK)) (hl:x.aK.length<1000) (hn:x.aK.length+10<=n):
  run Bd n 197 [.agg (dI x p)] st=some (.val [.bool (ZP x)],st++[some ⟨false,dI x p⟩]):=by
 obtain⟨n,rfl⟩: ∃k,n=k+3:=⟨n-3,AC⟩;rw[Ze,h.agd];unfold SK yp Zm az Q_ dj Zo bF Ei rW Lb Li fj vX ZP
 try dsimp only
 have hb:(st++[some (⟨false,dI x p⟩:bQ)])[st.length]? =some (some ⟨false,dI x p⟩):=Do
 have fW:=hs.mono (aB.new st (some (⟨false,dI x p⟩:bQ)));have AS:=λk=>Zon (n+1) x p st.length k _ hb
 have ld: ∀(k:Nat) (d:DV),(dI x p)[k]? =some d->∀Kc:DV->M ah,bH st.length k Kc (st++[some (⟨false,dI x p⟩:bQ)])=Kc d (st++[some (⟨false,dI x p⟩:bQ)]):=λk d e Kc=>Zn hb e Kc
 have ld3: ∀Kc:ah->M ah,bV st.length 1 3 Kc (st++[some (⟨false,dI x p⟩:bQ)])=Kc [.i x.blocks,.i x.cW,.i x.g] (st++[some (⟨false,dI x p⟩:bQ)]):=λKc=>by
  rw[kq hb (by show 1+3<=9;omega)];rfl
 show bp [.agg (dI x p)] _ st=_;rw[cX];unfold dI;simp only[au,aZ,ao];rw[ZD];change _=some (Out.val _,st++[some (⟨false,dI x p⟩:bQ)]);have qC:([.i x.seq,.i x.blocks,.i x.cW,.i x.g,.i x.bY,.i x.used,.i x.free,.i x.dir,.slice 1 p x.aK.length]:ah)=dI x p:=rfl;rw[qC];generalize (st++[some (⟨false,dI x p⟩:bQ)])=s1 at hb fW AS ld ld3⊢;rw[ld 0 (.i x.seq) rfl,bg];refine ok_eq ?_;have⟨F1,tU⟩: ∃F1,(decide (x.seq<1)||(decide (x.seq>4611686018427387904)||(!qA x.blocks x.cW x.g||(decide (x.used<0)||(decide (x.used>x.cW)||(decide (x.free<0)||decide (x.free>x.used)))))))=F1:=⟨_,rfl⟩;have⟨F2,CE⟩: ∃F2,((bif x.used==0 then !(x.bY==0)else false)||((bif decide (x.used>0)then !oT x x.bY else false)||((bif !(x.dir==0)then !oT x x.dir else false)|| !((x.aK.length:Int)==Ax x.blocks x.cW x.g))))=F2:=⟨_,rfl⟩;rw[tU,CE];refine Ok.join λax h1=>?_
 have A1: ∀b,(decide (x.seq<1)||decide (x.seq>4611686018427387904))=b->Ok (λp=>p=(Out.val [DV.bool (!F1&&(!F2&&rZ x))],s1)) (ax [.bool b] s1):=by
  intro b1 e1;rw[h1];simp only[ar,ao];refine Ok.join λaG h2=>?_
  have A2: ∀b,(b1|| !qA x.blocks x.cW x.g)=b->Ok (λp=>p=(Out.val [DV.bool (!F1&&(!F2&&rZ x))],s1)) (aG [.bool b] s1):=by
   intro b2 e2;rw[h2];simp only[ar,ao];refine Ok.join λaW h3=>?_
   have A3: ∀b,(b2||decide (x.used<0))=b->Ok (λp=>p=(Out.val [DV.bool (!F1&&(!F2&&rZ x))],s1)) (aW [.bool b] s1):=by
    intro b3 e3;rw[h3];simp only[ar,ao];refine Ok.join λbG h4=>?_
    have A4: ∀b,(b3||decide (x.used>x.cW))=b->Ok (λp=>p=(Out.val [DV.bool (!F1&&(!F2&&rZ x))],s1)) (bG [.bool b] s1):=by
     intro b4 e4;rw[h4];simp only[ar,ao];refine Ok.join λcA h5=>?_
     have A5: ∀b,(b4||decide (x.free<0))=b->Ok (λp=>p=(Out.val [DV.bool (!F1&&(!F2&&rZ x))],s1)) (cA [.bool b] s1):=by
      intro b5 e5;rw[h5];simp only[ar,ao];refine Ok.join λdS h6=>?_
      have A6: ∀b,(b5||decide (x.free>x.used))=b->Ok (λp=>p=(Out.val [DV.bool (!F1&&(!F2&&rZ x))],s1)) (dS [.bool b] s1):=by
       intro b6 e6;rw[h6];simp only[ar,ao];have yY:F1=b6:=by rw[<-tU,<-e6,<-e5,<-e4,<-e3,<-e2,<-e1];grind
       cases b6
       .rw[af,yY,bD,dt,ld 5 (.i x.used) rfl,bg];refine Ok.join λhZ h7=>?_
        have B7: ∀b,(bif x.used==0 then !(x.bY==0)else false)=b->Ok (λp=>p=(Out.val [DV.bool (!F2&&rZ x)],s1)) (hZ [.bool b] s1):=by
         intro b7 e7;rw[h7];simp only[ar,ao];refine Ok.join λjb h8=>?_
         have B8: ∀b,(b7||(bif decide (x.used>0)then !oT x x.bY else false))=b->Ok (λp=>p=(Out.val [DV.bool (!F2&&rZ x)],s1)) (jb [.bool b] s1):=by
          intro b8 e8;rw[h8];simp only[ar,ao];refine Ok.join λjc h9=>?_
          have B9: ∀b,(b8||(bif !(x.dir==0)then !oT x x.dir else false))=b->Ok (λp=>p=(Out.val [DV.bool (!F2&&rZ x)],s1)) (jc [.bool b] s1):=by
           intro b9 e9;rw[h9];simp only[ar,ao];refine Ok.join λkZ OS=>?_
           have B10: ∀b,(b9|| !((x.aK.length:Int)==Ax x.blocks x.cW x.g))=b->Ok (λp=>p=(Out.val [DV.bool (!F2&&rZ x)],s1)) (kZ [.bool b] s1):=by
            intro GI JM;rw[OS];simp only[ar,ao];have acP:F2=GI:=by rw[<-CE,<-JM,<-e9,<-e8,<-e7];simp only[Bool.or_assoc]
            cases GI
            .rw[af,acP,bD,dt,ld 8 (.slice 1 p x.aK.length) rfl,kP,Za];refine Zj _ (λq y s=>∃i:Nat,y=[.i i]/\i<=x.aK.length/\x.aK.length-i<=q/\s=s1/\((List.range i).all λi=>oT x (x.aK.getD i 0)&& !decide (x.aK.getD i 0∈x.aK.take i))=true) ?_ x.aK.length (n+2) _ _ ⟨0,rfl,AC,AC,rfl,rfl⟩ AC;rintro q _ s ⟨i,rfl,hi,hq,rfl,dH⟩ rec aN;simp only[au,ao];by_cases av:i<x.aK.length
             .obtain⟨i1,o1,rfl⟩:=fW.cS (by simp[ints];omega)
              rw[aR,bh,Zc (Zi av),bn,fW.dX (ZJ av),bg];have hw:aq ((i:Int)+1)=((i+1:Nat):Int):=Zb;have zg:x.aK.getD i 0=x.aK[i]:=by rw[cz,cc av];rfl
              have cC:(oT x x.aK[i]&& !decide (x.aK[i]∈x.aK.take i))=false->rZ x=false:=λe=>List.all_eq_false.2 ⟨i,uG.2 av,by rw[zg,e];decide⟩
              rw[Zk (AS x.aK[i])];simp only[ar,ao,Za];cases hb:oT x x.aK[i]
              .rw[bD,ae,ae,Zd,cC (by rw[hb];rfl)];exact .mk rfl
              .rw[bI,af,ld 8 (.slice 1 (some (i1,o1)) x.aK.length) rfl,kP,Zc (by rw[aS,bq,bq];omega)];have hti:(x.aK.take i).length=i:=by rw[cB];omega
               have cq:Sl s (some (i1,o1)) (ints (x.aK.take i)):=by
                have:=Sl.mu fW i;rwa [show(ints x.aK).take i=ints (x.aK.take i) by unfold ints;rw[List.map_take]]at this
               have hc:=Zjv (n+2) (x.aK.take i) x.aK[i] _ s cq AC AC;rw[hti]at hc;rw[Zk hc,ar,ao];cases hm:decide (x.aK[i]∈x.aK.take i)
               .rw[af,hw];refine aN (x.aK.length-(i+1)) _ _ AC ⟨i+1,rfl,AC,aJ _,rfl,?_⟩;rw[tl,uC,dH,wY,List.all_nil,zg,hb,hm];rfl
               .rw[ae,Zd,cC (by rw[hb,hm];rfl)];exact .mk rfl
             .rw[aU,Zd]
              rw[show i=x.aK.length by omega]at dH;unfold rZ;rw[dH];exact .mk rfl
            .rw[ae,Zd,acP];exact .mk rfl
           cases b9
           .rw[af,ld 8 (.slice 1 p x.aK.length) rfl,kP,ld3];simp only[au,ao];rw[qY (ZqP n x.blocks x.cW x.g s1) (.refl s1),au,ao];exact B10 _ rfl
           .rw[ae];exact B10 true rfl
          cases b8
          .rw[af,ld 7 (.i x.dir) rfl,bg,Za];cases hd:(!(x.dir==0))
           .rw[af];simp only[ar,ao];exact B9 _ (by rw[hd];rfl)
           .rw[ae,ld 7 (.i x.dir) rfl,bg,Zk (AS x.dir),ar,ao];exact B9 _ (by rw[hd];rfl)
          .rw[ae];exact B9 true rfl
         cases b7
         .rw[af,ld 5 (.i x.used) rfl,bg,Za];cases hd:decide (x.used>0)
          .rw[af];simp only[ar,ao];exact B8 _ (by rw[hd];rfl)
          .rw[ae,ld 4 (.i x.bY) rfl,bg,Zk (AS x.bY),ar,ao];exact B8 _ (by rw[hd];rfl)
         .rw[ae];exact B8 true rfl
        cases hu:(x.used==0)
        .rw[af];exact B7 _ (by rw[hu];rfl)
        .rw[ae,ld 4 (.i x.bY) rfl,bg];exact B7 _ (by rw[hu];rfl)
       .rw[ae,Zd,yY];exact .mk rfl
      cases b5
      .rw[af,ld 6 (.i x.free) rfl,bg,ld 5 (.i x.used) rfl,bg];exact A6 _ rfl
      .rw[ae];exact A6 true rfl
     cases b4
     .rw[af,ld 6 (.i x.free) rfl,bg];exact A5 _ rfl
     .rw[ae];exact A5 true rfl
    cases b3
    .rw[af,ld 5 (.i x.used) rfl,bg,ld 2 (.i x.cW) rfl,bg];exact A4 _ rfl
    .rw[ae];exact A4 true rfl
   cases b2
   .rw[af,ld 5 (.i x.used) rfl,bg];exact A3 _ rfl
   .rw[ae];exact A3 true rfl
  cases b1
  .rw[af,ld3];simp only[au,ao];rw[Zk (ZlH (n+1) x.blocks x.cW x.g s1),ar,ao];exact A2 _ rfl
  .rw[ae];exact A2 true rfl
 cases hc:decide (x.seq<1)
 .rw[af,ld 0 (.i x.seq) rfl,bg];grind
 .rw[ae];grind
def Z2 (K:bu):Int->ak->List aP->aI->Option (List aP×aI)
 |_,[],acc,v=>some (acc,v)
 |k,y::r,acc,v=>bif !(y==0)then(match oY K y k v with
   |none=>none
   |some (out,v')=>Z2 K (k+1) r (acc++out) v')else Z2 K (k+1) r acc v
def v8 (v:aI) (k:Nat) (nm:aj):Bool:=bif decide (k=0)then true else(match v.aD[k-1]? with
 |none=>false
 |some x=>decide (cmpL (dK x.name) (dK nm)<0))
def oD (K:bu):Nat->ak->aI->Option aI
 |_,[],v=>some v
 |k,y::r,v=>match dC K y v with
  |some (.queue q,v1)=>bif v8 v1 k q.name then(match Z2 K 0 q.cF [] v1 with
   |none=>none
   |some (es,v2)=>oD K (k+1) r { v2 with aD:=v2.aD++[⟨q.name,kK es⟩] })else none
  |_=>none
def nS (K:bu) (v:aI):Option aI:=bif K.sup.dir==0 then some v else(match dC K K.sup.dir v with
 |some (.dir x,v')=>oD K 0 x v'
 |_=>none)
def lj (m:Nat):aI:=⟨gD m [0,1],[],[],[],[],0⟩
def om (K:bu):Option aI:=match lD K (lj K.m)with
 |none=>none
 |some v1=>match oa K v1 with
  |none=>none
  |some v2=>match nS K v2 with
   |none=>none
   |some v3=>bif decide ((vB v3:Int)=v3.nodes)then some (sR v3)else none
theorem IJ {K:bu} : ∀ {l:ak} {k:Int} {acc es:List aP} {v v':aI},v.W.length=(K.m+63)/64->Z2 K k l acc v=some (es,v')->(∀e∈acc,vM v e)->Diff acc->(∀e∈es,vM v' e)/\Diff es/\v'.W.length=(K.m+63)/64/\v'.ay=v.ay/\v'.aD=v.aD/\v'.gens=v.gens/\v'.free=v.free
 |[],_,_,_,_,_,hl,h,h1,h2=>by cases h;grind
 |y::r,k,acc,es,v,v',hl,h,h1,h2=>by
  unfold Z2 at h;cases hy:(!(y==0))
  .rw[hy,af]at h;exact IJ hl h h1 h2
  .rw[hy,ae]at h;cases ht:oY K y k v
   .rw[ht]at h;cases h
   .rename_i q;have⟨out,v1⟩:=q;rw[ht]at h;have⟨a1,a2,a3,_,a5,a6,a7,a8⟩:=IX (acc:=acc) hl ht (by simpa using h1) (by simpa using h2);have⟨b1,b2,b3,b4,b5,b6,b7⟩:=IJ a3 h a1 a2;grind
theorem ae6 {a:ai} (h:mH s a cs) {sz n:Nat} (ds:ah) (hz:0<sz) (hn:cs.length=n*sz) (hd:ds.length=m*sz) (hl:n+m<=lim):
  ∃a' s',mH s' a' (cs++ds)/\Fx (aM a) s s'/\Kp s s'/\(∀b∈aM a',b∈aM a\/s.length<=b)/\∀K:ai->M Y,cu sz a n ds m lim K s=K a' s':=by
 by_cases hm:m=0
 .subst hm
  have:ds=[]:=Fd
  subst this;exact⟨a,s,by rwa [fP],.refl _ _,.refl _,λ_ h=> .inl h,λK=>rfl⟩
 .have hb:Nat.beq m 0=false:=by cases m with|zero=>exact absurd rfl hm|succ m=>rfl
  rcases h with⟨rfl,rfl⟩|⟨i,rest,rfl,hs⟩
  .have h0:n=0:=by
    rcases H6.1 (show n*sz=0 by simpa using hn.symm)with h|h
    .exact h
    .omega
   subst h0;refine⟨some (s.length,0),s++[some (⟨false,ds⟩:bQ)],.inr Do,Fx.pre _ (aB.new _ _),(aB.new _ _).kp,λb hb=> .inr (by rw[cH.1 hb];exact aJ _),λK=>?_⟩;unfold cu;rw[hb,gO hl,ae,af];rfl
  .have eD:s.iB i=some (cs++rest):=by grind[St.iB]
   refine⟨some (s.length,0),s.set i none++[some (⟨false,cs++ds⟩:bQ)],.inr Do,⟨Do,λy x hy e=>?_⟩,(Kp.set hs none).trans (aB.new _ _).kp,λb hb=> .inr (by rw[cH.1 hb];exact aJ _),λK=>?_⟩
   .have hyl:=(eE.1 e).1
    have cV:i≠y:=λe=>hy (by simp[aM,e])
    rw[nc (by simp;omega),ig cV];exact e
   .unfold cu
    simp only[hb,gO hl,ae,af,eD];rw[fq,gO (by rw[ba];omega),ae,dF,<-hn,DA]
theorem Zzj {Bd:Zg} (hT:HA Bd) (n:Nat) (hK:DL K) (nm:aj) (x:ak) (hx:x.length=12) (s0:St) (L0:al) (hW:eL K s v L z1 p1 z2 p2 z3 p3 z4 p4 hd) (wz:Fx L0 s0 s) (EI:Nw L0 s0 L) (h0:0<=K.sup.used) (h1:K.sup.used<=1792) (hs:(v.ay.length:Int)=K.sup.used) (eJ:0<=v.nodes) (hnr:v.nodes+(room K.m v.W:Nat)<=5000) (hm:K.m<=3072) (hn:4020<=n)
  (R:Option aI) (Kn:ah->M ah)
  (cC:Z2 K 0 x [] v=none->R=none)
  (aL: ∀es w,Z2 K 0 x [] v=some (es,w)->∀t p z,(z=4\/p=none)->eL K t w L z1 p1 z2 p2 z3 p3 z4 p4 hd->Fx L s t->mH t p (bW es)->(∀b∈aM p,s.length<=b)->w.nodes+(room K.m w.W:Nat)<=v.nodes+(room K.m v.W:Nat)->v.nodes<=w.nodes->es.length<=50000->Ok (tz K s0 L0 R []) (Kn [.agg [.str nm,.slice 4 p es.length]] t)):
  Ok (tz K s0 L0 R []) (dc (λdP st=>
      bp st λmQ st=>
      ft mQ λh2 r=>
      ca 4 r λh3 AR r=>
      aF r<|
      aC .i64 st λdr st=>
      aF st<|
      bif decide (dr<12)then
       aA (aO dr 12)<|
      eW (ints x) (dr.toNat*1) λd6=>
      db .i64 d6 λeU=>
      cO (λst=>
       bp st λoC st=>
      ft oC λh4 r=>
      ca 4 r λh5 XV r=>
      aF r<|
      aF st<|
      dP [.agg [.str h4,.slice 4 h5 XV],.i (aq (dr+1))]) λcA=>
      bif !(eU==0)then
       c9 (run Bd n 233 [.ptr (some (K.w,0)),.i eU,.i dr]) λds=>
      ca 4 ds λfZ qN ds=>
      aF ds<|
      dV fZ (qN*4) λyM=>
      cu 4 h3 AR yM qN 2199023255552 λp1=>
      cA [.agg [.str h2,.slice 4 p1 (AR+qN)]]
      else
       cA [.agg [.str h2,.slice 4 h3 AR]]
      else
       Kn [.agg [.str h2,.slice 4 h3 AR]]) n [.agg [.str nm,.slice 0 none 0],.i 0] s):=by
 have EF:=hW.lt;have Hb: ∀b o,K.a=some (b,o)->b<s.length:=λb o e=>Sl.lt (e▸hW.img)
 have⟨G,hG⟩: ∃G,Z2 K 0 x [] v=G:=⟨_,rfl⟩;rw[hG]at aL cC;refine Zj _ (λq y t=>∃(i:Nat) (acc:List aP) (u:aI) (z:Nat) (p:ai),y=[.agg [.str nm,.slice z p acc.length],.i i]/\(z=4\/p=none)/\i<=12/\12-i<=q/\eL K t u L z1 p1 z2 p2 z3 p3 z4 p4 hd/\u.ay=v.ay/\u.aD=v.aD/\Fx L s t/\mH t p (bW acc)/\(∀b∈aM p,s.length<=b)/\v.nodes<=u.nodes/\u.nodes+(room K.m u.W:Nat)<=v.nodes+(room K.m v.W:Nat)/\acc.length<=4000*i/\Z2 K i (x.drop i) acc u=G) ?_ 12 n _ _ ⟨0,[],v,0,none,rfl,.inr rfl,AC,AC,hW,rfl,rfl,.refl L s,.inl ⟨rfl,rfl⟩,λ_ h=>(by cases h),Int.le_refl _,Int.le_refl _,Do,by simpa using hG⟩ AC;rintro q _ t ⟨i,acc,u,z,p,rfl,hz,hi,hq,eB,j7,vy,cP,eD,CJ,KB,KC,AV,eC⟩ rec aN;simp only[cX,bZ,au,Zh 4 z p _ hz,ao,Za];by_cases av:i<12
 .have gr:x.drop i=(x[i]' AC)::x.drop (i+1):=iR AC
  rw[gr]at eC;rw[aR,Zc (show aO (i:Int) 12=true from Zi av),bn,cR,iI (ZJ),bg];generalize x[i]' AC=y at eC;have hw:aq ((i:Int)+1)=((i+1:Nat):Int):=Zb;have vn:((i+1:Nat):Int)=(i:Int)+1:=AC
  rw[hw];unfold Z2 at eC;cases hy:(!(y==0))
  .rw[hy,af]at eC;rw[af];exact aN (12-(i+1)) _ _ AC ⟨i+1,acc,u,4,p,rfl,.inl rfl,AC,aJ _,eB,j7,vy,cP,eD,CJ,KB,KC,AC,by rw[vn];exact eC⟩
  .rw[hy,ae]at eC;rw[ae];have qF:Fx L0 s0 t:=wz.step cP EI;refine Ok.xy (ZAk hT n hK y i eB h0 h1 (by rw[j7];exact hs) AC AC hm AC) ?_ ?_
   .intro t' hp
    cases ht:oY K y i u
    .rw[ht]at hp eC;have⟨t2,e,pO⟩:=hp;cases e;rw[cC eC.symm];exact⟨t',rfl,qF.step pO EI⟩
    .rename_i q;rw[ht]at hp;have⟨_,_,_,e,_⟩:=hp;cases e
   .intro ds t' hp
    cases ht:oY K y i u
    .rw[ht]at hp;have⟨_,e,_⟩:=hp;cases e
    .rename_i q;have⟨out,u1⟩:=q;rw[ht]at hp eC;have⟨po,zo,t2,e,hzo,jo,ny,PE,J1,al3,al2,iz⟩:=hp;cases e;simp only at eC;have⟨_,_,_,_,a5,a6,_,_⟩:=IX (acc:=[]) eB.set.len ht (λ_ h=>by cases h) .nil;rw[Zh 4 zo po _ hzo,ao];have dR:Sl t' po (bW out):=by
      rcases PE with⟨rfl,h2⟩|⟨b,rest,rfl,h2⟩
      .exact h2
      .exact⟨false,_,h2,by rw[ba];omega,by rw[dF,DA]⟩
     have j5:=j9 (Y:=ah) dR;rw[Zt]at j5;rw[j5];have ajt:=eD.fx ny λb hb mn=>by have:=EF b mn;have:=CJ b hb;omega
     have⟨pa,t3,b1,b2,b3,b4,b5⟩:=ae6 (Y:=ah) ajt (sz:=4) (n:=acc.length) (m:=out.length) (lim:=2199023255552) (bW out) AC (Zt _) (Zt _) AC;rw[b5];have pQ:Fx L s t':=cP.trans ny;have⟨xF,fR⟩:=jo.P5 (by rw[a6,vy];exact hW.aD) EF Hb pQ b2 CJ;refine aN (12-(i+1)) _ _ AC ⟨i+1,acc++out,u1,4,pa,by rw[ba],.inl rfl,AC,aJ _,xF,a5.trans j7,a6.trans vy,fR,by rw[Aq];exact b1,λb hb=>?_,AC,AC,by rw[ba];omega,by rw[vn];exact eC⟩;rcases b4 b hb with h5|h5
     .exact CJ b h5
     .have:=pQ.1;omega
 .rw[aU]
  rw[lx AC]at eC;exact aL acc u eC.symm t p 4 (.inl rfl) eB cP eD CJ KC KB AC
theorem SH {x:ZL} (h:ZH l=some x):x.name.length<=24/\mL x=true:=by
 unfold ZH at h;split at h
 .cases h
 .rename_i k t b _
  cases e:(decide (k=5)&&(decide (t<=24)&&ZB (b.drop (28+t))))
  .rw[e]at h;cases h
  .rw[e]at h;cases e2:mL (Z1 b t)
   .rw[e2]at h;cases h
   .rw[e2]at h;cases h;rw[aS,aS,bq]at e;refine⟨?_,e2⟩;have:=ng e.2.1;show((b.drop 28).take t).length<=24;rw[cB];omega
theorem Zmi {x:ZL} (h:ZA l= .queue x):ZH l=some x:=by
 grind[ZA]
theorem Vw {b:xa} (h:dC K k v=some (b,v')):ZA (Zv K.img k.toNat)=b:=by
 grind[dC]
theorem ZAF (pn:M Y) (p:ai) (m:Nat) (Kc:ai->Nat->M Y):we pn (.iface 3 (.agg [.slice 1 p m])) 3 (λd=>uY d λcs=>ca 1 cs λx xn r=>aF r<|Kc x xn)=Kc p m:=rfl
theorem ZxT (pn:M Y) (q:ZL) (Kc:aj->Int->ah->M Y):we pn (.iface 4 (.agg (Z0 q))) 4 (λd=>uY d λcs=>ft cs λx7 r1=>aC .i64 r1 λx8 r2=>Kc x7 x8 r2)=Kc q.name q.mask (ints q.cF):=rfl
theorem Wb {K:bu} : ∀ {l:ak} {k:Nat} {v v':aI},v.W.length=(K.m+63)/64->oD K k l v=some v'->v'.ay=v.ay/\v'.gens=v.gens/\v'.free=v.free/\v'.aD.length=v.aD.length+l.length
 |[],_,_,_,_,h=>by cases h;simp
 |y::r,k,v,v',hl,h=>by
  unfold oD at h;split at h
  .rename_i q v1 ht
   cases hn:v8 v1 k q.name
   .rw[hn]at h;cases h
   .rw[hn,ae]at h;have⟨g1,g2,g3,g4,g5,g6⟩:=Z4 ht;split at h
    .cases h
    .rename_i es v2 hh
     have⟨_,_,b3,b4,b5,b6,b7⟩:=IJ (by rw[(yB ht).2,np];exact hl) hh (λ_ h=>by cases h) .nil;have⟨c1,c2,c3,c4⟩:=Wb (by exact b3) h;grind
  .cases h
theorem bc.Qf {a:ai} (h:bc [] s a cs): ∀b∈aM a,∃c,s[b]? =some (some ⟨false,c⟩):=by
 rcases h.2 with⟨rfl,_⟩|⟨i,rfl,_,h3⟩
 .intro b hb;cases hb
 .intro b hb;rw[cH.1 hb];exact⟨_,h3⟩
theorem eL.kp (h:eL K s v L z1 p1 z2 p2 z3 p3 z4 p4 hd) (k:Fx L s s'):Kp s s':=by
 intro i all e;refine k.2 i _ (λhm=>?_) e;have ho: ∃c,s[i]? =some (some ⟨false,c⟩):=by
  rw[h.own]at hm;simp only[ep,ga]at hm;rcases hm with rfl|rfl|rfl|hm|hm|hm|hm
  .exact⟨_,h.cell⟩
  .exact⟨_,h.set.hd⟩
  .exact⟨_,h.set.wd⟩
  .exact h.o1.Qf i hm
  .exact h.o2.Qf i hm
  .exact h.o3.Qf i hm
  .exact h.o4.Qf i hm
 grind
theorem Zx2 (n:Nat) (hK:DL K) (hW:Wk K s v L) (h0:0<=K.sup.used) (h1:K.sup.used<=1792) (hs:(v.ay.length:Int)=K.sup.used) (eJ:0<=v.nodes) (hnr:v.nodes+(room K.m v.W:Nat)<=5000) (hm:K.m<=3072) (hh:v.aD=[]) (hn:4030<=n):
  Ok (tz K s L (nS K v) []) (run Bd n 231 [.ptr (some (K.w,0))] s):=by
 obtain⟨n,rfl⟩: ∃k,n=k+2:=⟨n-2,AC⟩;rw[Ze,h.agH];unfold Q3 jO Zm vK ck Q_ dj Zo az C_ cT cK iT Li Lb
 try dsimp only
 have⟨R,hR⟩: ∃R,nS K v=R:=⟨_,rfl⟩;rw[hR];unfold nS at hR;simp only[fw,ao,bh];have⟨z1,p1,z2,p2,z3,p3,z4,p4,hd,hW⟩:=hW;rw[Zn hW.cell rfl];show Ok _ (db .i64 (.i K.sup.dir) _ s);rw[bg];cases zd:(K.sup.dir==0)with
 |true=>
  rw[zd,ae]at hR;rw[ae,<-hR,Zd];exact .mk ⟨s,L,rfl,hW.wk,.refl L s,.refl L s⟩
 |false=>
 rw[zd,af]at hR;rw[af,Zn hW.cell rfl];show Ok _ (db .i64 (.i K.sup.dir) _ s);rw[bg];refine Ok.xy (hW.take h (n+1) K.sup.dir hK.m hK.GL hK.len AC) ?_ ?_
 .intro s' hp
  cases ht:dC K K.sup.dir v
  .rw[ht]at hp hR;cases hp;rw[<-hR];exact⟨s,rfl,.refl L s⟩
  .rename_i q;rw[ht]at hp;grind
 intro ds s1 hp;cases ht:dC K K.sup.dir v with
 |none=>rw[ht]at hp;cases hp
 |some q=>
 have⟨b,v1⟩:=q;rw[ht]at hp hR;have⟨d,s2,e2,jo,ny,hb⟩:=hp;cases e2;have⟨g1,g2,g3,g4,g5,g6⟩:=Z4 ht;have⟨g7,g8⟩:=yB ht;have C6:=VI hW.set.len g7;rw[<-g8]at C6;have pQ:Fx L s s1:=ny.mono λy hy=>by rw[cH.1 hy];exact hW.xU
 rw[DG,ao];cases b with
 |leaf x=>obtain⟨rfl,_⟩:=hb;rw[<-hR];exact .mk ⟨s1,rfl,pQ⟩
 |bY x=>obtain⟨rfl,_⟩:=hb;rw[<-hR];exact .mk ⟨s1,rfl,pQ⟩
 |queue x=>obtain⟨rfl,_⟩:=hb;rw[<-hR];exact .mk ⟨s1,rfl,pQ⟩
 |node x=>obtain⟨p,rfl,_⟩:=hb;rw[<-hR];exact .mk ⟨s1,rfl,pQ⟩
 |none=>cases hb;rw[<-hR];exact .mk ⟨s1,rfl,pQ⟩
 |dir x=>
 obtain⟨px,rfl,La,amg⟩:=hb;simp only at hR;rw[ZAF,Za];refine Zj _ (λq y t=>∃(i:Nat) (u:aI) (Lu:al),y=[.i i]/\i<=x.length/\x.length-i<=q/\Wk K t u Lu/\Fx L s t/\Nw L s Lu/\Fz t px (ints x)/\u.ay=v.ay/\u.aD.length=i/\(∀g∈u.aD,g.name.length<=24)/\v.nodes<=u.nodes/\u.nodes+(room K.m u.W:Nat)<=v.nodes+(room K.m v.W:Nat)/\oD K i (x.drop i) u=R) ?_ x.length (n+1) _ _ ⟨0,v1,L,rfl,cN _,AC,jo.wk,pQ,.refl L s,La,g1,by rw[g2,hh];rfl,(by rw[g2,hh];intro _ h;cases h),by rw[g5];omega,by rw[g5];omega,by simpa using hR⟩ AC;rintro q _ t ⟨i,u,Lu,rfl,hi,hq,eB,gA,kB,EY,j7,vy,hun,KB,KC,aL⟩ rec aN;have⟨y1,r1,y2,r2,y3,r3,y4,r4,ud,eB⟩:=eB;rw[au,ao];by_cases av:i<x.length
 .obtain⟨i1,o1,rfl⟩:=EY.1.cS (by simp[ints];omega)
  rw[aR];refine Ok.join λaG mU=>?_
  rw[bh,Zc (Zi av),bn,EY.1.dX (ZJ av),bg];have gr:x.drop i=x[i]::x.drop (i+1):=iR av;rw[gr]at aL;generalize x[i]=y at aL;unfold oD at aL;refine Ok.xy (eB.take h (n+1) y hK.m hK.GL hK.len AC) ?_ ?_
  .intro s' hp
   cases j6:dC K y u
   .rw[j6]at hp aL;cases hp;rw[<-aL];exact⟨t,rfl,gA⟩
   .rename_i q;rw[j6]at hp;grind
  intro ds t1 hp;cases j6:dC K y u with
  |none=>rw[j6]at hp;cases hp
  |some q=>
  have⟨b,u1⟩:=q;rw[j6]at hp aL;have⟨d,s2,e2,ml,gu,hb⟩:=hp;cases e2;have⟨k1,k2,k3,k4,k5,k6⟩:=Z4 j6;have⟨k7,k8⟩:=yB j6;have ajV:=VI eB.set.len k7;rw[<-k8]at ajV;have ac9:Fx Lu t t1:=gu.mono λy hy=>by rw[cH.1 hy];exact eB.xU
  have tY:Fx L s t1:=gA.step ac9 kB;rw[DG,ao];cases b with
  |leaf x=>obtain⟨rfl,_⟩:=hb;rw[<-aL];exact .mk ⟨t1,rfl,tY⟩
  |bY x=>obtain⟨rfl,_⟩:=hb;rw[<-aL];exact .mk ⟨t1,rfl,tY⟩
  |dir x=>obtain⟨p,rfl,_⟩:=hb;rw[<-aL];exact .mk ⟨t1,rfl,tY⟩
  |node x=>obtain⟨p,rfl,_⟩:=hb;rw[<-aL];exact .mk ⟨t1,rfl,tY⟩
  |none=>cases hb;rw[<-aL];exact .mk ⟨t1,rfl,tY⟩
  |queue qv=>
  obtain⟨rfl,zw⟩:=hb;simp only at aL;rw[ZxT];have⟨PL,_⟩:=SH (Zmi (Vw j6));have oN:Fz t1 (some (i1,o1)) (ints x):=EY.kp (eB.kp ac9);have EE:(ints qv.cF).length=12:=by simp[ints,zw]
  rw[bN (cs:=ints qv.cF) (n:=12) EE,bN (n:=14) (by simp[EE])];refine Ok.join λaW oe=>?_
  have hA: ∀t2 bb,v8 u1 i qv.name=bb->eL K t2 u1 Lu y1 r1 y2 r2 y3 r3 y4 r4 ud->Fx L s t2->Fz t2 (some (i1,o1)) (ints x)->Ok (tz K s L R []) (aW [.bool bb] t2):=by
   intro t2 bb yZ xF fR K9;rw[oe];simp only[ar,ao];cases bb
   .rw[yZ,af]at aL;rw[qk h n rfl,<-aL];exact .mk ⟨t2,rfl,fR⟩
   .rw[yZ,ae]at aL;rw[uS h n rfl,ao];refine Ok.join λbG CW=>?_
    rw[dG AC];refine Zzj h (n+1) hK qv.name qv.cF zw s L xF fR kB h0 h1 (by rw[k1,j7];exact hs) (by rw[k5];omega) (by rw[k5];omega) hm AC R bG ?_ ?_
    .grind
    intro es w he t3 p z hz pM tZ eD CJ aje ajc hel;rw[he]at aL;simp only at aL;have⟨c1,c2,c3,c4,c5,c6,c7⟩:=IJ xF.set.len he (λ_ h=>by cases h) .nil;rw[CW];simp only[cX,bZ,aZ,ao];have⟨t4,e4,ue,CT⟩:=ZAL n es p t3 eD c2 AC;rw[Zk e4,ao];have Hb: ∀b o,K.a=some (b,o)->b<t2.length:=λb o e=>Sl.lt (e▸xF.img)
    have sP:w.aD=u.aD:=c5.trans k2;have hh2:rX t2 Lu ud w.aD:=by rw[c5];exact xF.aD
    have⟨G9,ade⟩:=pM.P5 hh2 xF.lt Hb tZ CT CJ;have hx5:Fz t4 (some (i1,o1)) (ints x):=K9.kp (xF.kp ade);have adf:Fx L s t4:=fR.step ade kB;rw[Zn G9.cell rfl];show Ok _ (dB 2 (.slice y2 r2 w.aD.length) _ t4);rw[Z5 2 y2 r2 _ G9.e2,<-UW es];have dR:Sl t4 p (bW (kK es)):=by
     rcases ue with⟨rfl,h2⟩|⟨b,rest,rfl,h2⟩
     .exact h2
     .exact⟨false,_,h2,by rw[ba];omega,by rw[dF,DA]⟩
    have PI:mG Lu p:=mG.aM λb hb hm=>by have:=CJ b hb;have:=xF.lt b hm;omega
    have⟨b,t5,t6,L6,q1,q2,q3,q4,q5,q6⟩:=G9.akV (Y:=ah) ⟨qv.name,kK es⟩ (by rw[sP,vy];omega) (z:=4) (.inl rfl) dR PI;refine Eq.mpr (congrArg (Ok _) (q1 _)) ?_;refine Eq.mpr (congrArg (Ok _) (q2 _)) ?_;rw[mU];simp only[ao];have lN:aq ((i:Int)+1)=((i+1:Nat):Int):=Zb;rw[lN];refine aN (x.length-(i+1)) _ _ AC ⟨i+1,_,L6,rfl,AC,aJ _,q3.wk,adf.step q4 kB,kB.trans adf.1 q5,hx5.kp (G9.kp q4),(c4.trans k1).trans j7,?_,?_,?_,?_,aL⟩
    .show(w.aD++[_]).length=i+1
     rw[ba,sP,vy];rfl
    .intro g hg
     have pR:g∈w.aD++[⟨qv.name,kK es⟩]:=hg;rw[sP]at pR;rcases ga.1 pR with pR|pR
     .exact hun g pR
     .rw[cH.1 pR];exact PL
    .show v.nodes<=w.nodes
     rw[k5]at ajc;omega
    .show w.nodes+(room K.m w.W:Nat)<=_
     rw[k5]at aje;omega
  by_cases wB:i=0
  .subst wB
   rw[kT FS];exact hA t1 true rfl ml tY oN
  .have hib:((i:Int)==0)=false:=by rw[dM];omega
   rw[hib,af,Zn ml.cell rfl];show Ok _ (dB 2 (.slice y2 r2 u1.aD.length) _ t1);rw[Z5 2 y2 r2 _ ml.e2];have sB:u1.aD.length=i:=by rw[k2];exact vy
   have ame:ud.length=u1.aD.length*2:=ml.aD.aD.len;obtain⟨b,rfl,y7⟩:=ml.o2.cS AC;have cL:aq ((i:Int)-1)=((i-1:Nat):Int):=by rw[Zb];omega
   have YL:u1.aD[i-1]? =some u1.aD[i-1]:=cc AC;rw[bh,cL,Zc (Zi),bn,IZ ml.o2.sl ml.aD.aD YL];have hgm:u1.aD[i-1].name.length<=24:=hun _ (by rw[<-k2];exact jj _);have⟨gg,vr⟩: ∃gg,u1.aD[i-1]=gg:=⟨_,rfl⟩;rw[vr]at YL hgm⊢;rw[BI];refine Ok.cv (Zph (n+1) gg.name qv.name AC AC AC AC t1) λt2 bd=>?_
   rw[au,ao];refine hA t2 _ ?_ (ml.pre bd) (tY.trans (Fx.pre _ bd)) (oN.kp bd.kp);unfold v8;rw[aU wB,YL]
 .rw[aU]
  simp only[Zd];rw[lx AC]at aL;rw[<-aL];exact .mk ⟨t,Lu,rfl,eB.wk,gA,kB⟩
theorem Fx.aev (h:Fx [] s s'):aB s s':=by
 refine⟨s'.drop s.length,?_⟩;have:s'.take s.length=s:=by
  apply th;intro i;by_cases hi:i<s.length
  .rw[List.getElem?_take_of_lt hi]
   have e:s[i]? =some s[i]:=cc hi;rw[e];exact h.2 i _ (λh=>by cases h) e
  grind
 conv=>lhs;rw[<-mD s.length s',this]
theorem Ok.acx {P:Out ah×St->Prop} {m:M ah} {H:Bool->M Y} (h:Ok P (m s))
  (k1: ∀s',P (.fH,s')->Ok Q (H true s')) (k2: ∀ds s',P (.val ds,s')->Ok Q (H false s')):Ok Q (wg m H s):=by
 have⟨⟨o,s'⟩,e,hp⟩:=h;unfold wg;rw[e];cases o with
 |val ds=>exact k2 ds s' hp
 |fH=>exact k1 s' hp
theorem Zzm {all:ah} {k:IntKind} (h:s[i]? =some (some ⟨f,all⟩)) (hd:all[p]? =some (.int k n)) (K:IntKind->Int->M Y):yL i p K s=K k n s:=by
 unfold yL;rw[Zn h hd]
theorem VH {all:ah} (h:s[i]? =some (some ⟨f,all⟩)) (hd:all[p]? =some (.i n)) (K:M Y):iP i p .i64 n K s=K s:=by
 unfold iP;rw[Zn h hd];simp
def Kept (v v':aI):Prop:=v'.aD=v.aD/\v'.gens=v.gens/\v'.free=v.free/\v'.nodes=v.nodes
theorem Kept.refl (v:aI):Kept v v:=⟨rfl,rfl,rfl,rfl⟩
theorem Kept.trans {a b c:aI} (h:Kept a b) (k:Kept b c):Kept a c:=⟨k.1.trans h.1,k.2.1.trans h.2.1,k.2.2.1.trans h.2.2.1,k.2.2.2.trans h.2.2.2⟩
theorem Uk {b:xa} (h:dC K k v=some (b,v')):Kept v v':=by
 have⟨_,h2,h3,h4,h5,_⟩:=Z4 h;exact⟨h2,h3,h4,h5⟩
theorem Zny {K:bu} : ∀ {x:List aX} {k:Int} {v v':aI},jY K k x v=some v'->Kept v v'
 |[],_,_,_,h=>by cases h;exact .refl _
 |x::r,k,v,v',h=>by
  unfold jY at h;cases h1:mO K k x v
  .rw[h1]at h;cases h
  .rename_i w;rw[h1]at h;refine Kept.trans ?_ (Zny h);unfold mO at h1;cases h2:decide (k>=K.sup.used)
   .rw[h2,af]at h1;cases h3:nk K.sup x
    .rw[h3]at h1;cases h1
    .rw[h3]at h1;cases h1;exact⟨rfl,rfl,rfl,rfl⟩
   .rw[h2,ae]at h1;cases h3:oA x
    .rw[h3]at h1;cases h1
    .rw[h3]at h1;cases h1;exact .refl _
theorem Zwp (h:kG K k slot v=some v'):Kept v v':=by
 unfold kG at h;split at h
 .rename_i x v1 ht
  exact(Uk ht).trans (Zny h)
 .cases h
theorem TU {K:bu} {cnt x5:Int} : ∀ {x:ak} {k:Int} {v v':aI},jl K cnt x5 k x v=some v'->Kept v v'
 |[],_,_,_,h=>by cases h;exact .refl _
 |y::r,k,v,v',h=>by
  unfold jl at h;cases h1:((!(y==0))==decide (x5*16+k<cnt))
  .rw[h1]at h;cases h
  .rw[h1,ae]at h;cases h2:(!(y==0))
   .rw[h2]at h;exact TU h
   .rw[h2,ae]at h;split at h
    .cases h
    .rename_i w hw
     exact(Zwp hw).trans (TU h)
theorem UC {K:bu} {cnt:Int} : ∀ {x:ak} {k:Int} {v v':aI},lC K cnt k x v=some v'->Kept v v'
 |[],_,_,_,h=>by cases h;exact .refl _
 |y::r,k,v,v',h=>by
  unfold lC at h;cases h1:((!(y==0))==decide (k*16<cnt))
  .rw[h1]at h;cases h
  .rw[h1,ae]at h;cases h2:(y==0)
   .rw[h2,af]at h;split at h
    .rename_i x v1 ht
     split at h
     .cases h
     .rename_i w hw
      exact((Uk ht).trans (TU hw)).trans (UC h)
    .cases h
   .rw[h2]at h;exact UC h
theorem Znq (h:lD K v=some v'):Kept v v':=by
 unfold lD at h;cases h1:(K.sup.used==0)
 .rw[h1,af]at h;split at h
  .rename_i x v1 ht
   exact(Uk ht).trans (UC h)
  .cases h
 .rw[h1]at h;cases h;exact .refl _
theorem Znz {K:bu} : ∀ {f:Nat} {fl mh:List Bool} {k:Int} {v v':aI},jZ K f fl k v=some (mh,v')->v'.ay=v.ay/\v'.aD=v.aD/\v'.gens=v.gens/\v'.nodes=v.nodes
 |0,_,_,_,_,_,h=>by cases h
 |f+1,fl,mh,k,v,v',h=>by
  unfold jZ at h;cases h1:(k==0)
  .rw[h1,af]at h;cases h2:decide (k<=K.sup.used)
   .rw[h2]at h;cases h
   .rw[h2,ae]at h;split at h
    .cases h
    .rename_i x hx
     cases h3:(bif (bif !x.live then decide (x.gen<K.sup.g)else false)then !fl.getD (k-1).toNat false else false)
     .rw[h3]at h;cases h
     .rw[h3,ae]at h;exact Znz (v:= { v with free:=v.free++[k-1] }) h
  .rw[h1]at h;grind
theorem ZoI (h:oa K v=some v'):v'.ay=v.ay/\v'.aD=v.aD/\v'.gens=v.gens/\v'.nodes=v.nodes:=by
 unfold oa at h;cases h1:jZ K (K.sup.used.toNat+1) (List.replicate K.sup.used.toNat false) K.sup.free v
 .rw[h1]at h;cases h
 .rename_i q;have⟨fl,w⟩:=q;rw[h1]at h;unfold xm at h;simp only at h;cases h2:nj K fl w.ay
  .rw[h2]at h;cases h
  .rw[h2]at h;cases h;exact Znz h1
theorem ZmH (hl:v.W.length=(K.m+63)/64) (h:nS K v=some v'):v'.ay=v.ay/\v'.gens=v.gens/\v'.free=v.free:=by
 unfold nS at h;cases h1:(K.sup.dir==0)
 .rw[h1,af]at h;split at h
  .rename_i x v1 ht
   have⟨g1,g2,g3,g4,g5,g6⟩:=Z4 ht;have⟨c1,c2,c3,c4⟩:=Wb (by rw[(yB ht).2,np];exact hl) h;grind
  .cases h
 .rw[h1]at h;grind
def na (x:cm) (v:aI):dW:=⟨x.blocks,x.cW,x.g,v.aD,v.gens,v.free⟩
def ux:dW:=⟨0,0,0,[],[],[]⟩
def nb (K:bu):Option (Option aI):=bif ZP K.sup then(bif decide (K.sup.blocks<=((K.img.length/64:Nat):Int))then some (om K)else some none)else none
def ab4 (s:St) (m:Nat) (x:cm) (r:Option (Option aI)) (o:Out ah×St):Prop:=match r with
 |none=>∃s',o=(.val [.agg (fa ux 0 none 0 none 0 none),.ptr none,.i 2],s')/\aB s s'
 |some none=>∃s',o=(.val [.agg (fa ux 0 none 0 none 0 none),.ptr none,.i 31],s')/\aB s s'
 |some (some v)=>∃s' z2 p2 z3 p3 z4 p4 i j,o=(.val [.agg (fa (na x v) z2 p2 z3 p3 z4 p4),.ptr (some (i,0)),.i 0],s')/\aB s s'/\(z2=2\/p2=none)/\(z3=1\/p3=none)/\(z4=1\/p4=none)/\qh s' (na x v) p2 p3 p4/\gP s' false i j m v.W/\s.length<=j/\i≠j
structure qS (s:St) (b:Nat) (A:List DV) (r e:DV):Prop where
 st:s[b+1]? =some (some ⟨false,A⟩)
 re:s[b+2]? =some (some ⟨false,[r]⟩)
 er:s[b+3]? =some (some ⟨false,[e]⟩)
 len:A.length=6
theorem qS.fx {b:Nat} (h:qS s b A r e) (k:Fx T s s') (hT: ∀x∈T,x<b\/b+4<=x):qS s' b A r e:=
 ⟨k.2 _ _ Fd h.st,k.2 _ _ Fd h.re,k.2 _ _ Fd h.er,h.len⟩
theorem qS.abC {b:Nat} (h:qS s b A r e) (A':ah) (r' e':DV) (hl:A'.length=6): ∃s',(∀K:M Y,(dE (b+1) 0 A'<|dE (b+2) 0 [r']<|dE (b+3) 0 [e'] K) s=K s')/\qS s' b A' r' e'/\Fx [b+1,b+2,b+3] s s':=by
 have h1:=(eE.1 h.st).1;have h2:=(eE.1 h.re).1;have h3:=(eE.1 h.er).1;have ja:cG A 0 A'=A':=by
  have:=tC [] A [] A' (by rw[h.len,hl]);simpa using this
 refine⟨((s.set (b+1) (some ⟨false,A'⟩)).set (b+2) (some ⟨false,[r']⟩)).set (b+3) (some ⟨false,[e']⟩),λK=>?_,⟨?_,?_,?_,hl⟩,⟨Do,λi x hi e=>?_⟩⟩
 .rw[NN h.st (by rw[h.len,hl];omega),ja,sa (by rw[ig AC];exact h.re) (by show 0<1;omega),sa (by rw[ig AC,ig AC];exact h.er) (by show 0<1;omega)]
  rfl
 .rw[ig AC,ig AC,ke h1]
 .rw[ig AC,ke (by simpa using h2)]
 .rw[ke (by simpa using h3)]
 grind
theorem qS.zK {b:Nat} (h:qS s b A r e):(bV (b+1) 0 6 λo=>bH (b+2) 0 λo1=>bH (b+3) 0 λo2=>aw [.agg o,o1,o2]) s=some (.val [.agg A,r,e],s):=by
 rw[kq h.st (by rw[h.len];omega),Zn h.re rfl,Zn h.er rfl,dF,dG (by rw[h.len];omega),Zd]
theorem Tj {x:cm} (h:ZP x=true):qA x.blocks x.cW x.g=true/\0<=x.used/\x.used<=x.cW/\0<=x.free/\x.free<=x.used:=by
 grind[ZP]
theorem ZM {b s g:Int} (h:qA b s g=true):16<=b/\b<=3072/\1<=s/\s<=1792/\1<=g/\g<=4294967295:=by
 grind[qA]
theorem qS.bz {b:Nat} (h:qS s b (fa ux 0 none 0 none 0 none) r e) (h':qS s' b A' r' e') (k:Fx [b+1,b+2,b+3] s s') {p:ai} {es:List aP} (hs:Sl s p (bW es)):Sl s' p (bW es):=by
 cases p with
 |none=>exact hs
 |some q=>
  have⟨i,o⟩:=q;by_cases hi:i∈[b+1,b+2,b+3]
  .have Px:es=[]:=by
    cases es with
    |nil=>rfl
    |cons x es=>
     exfalso;have⟨f,all,e1,e2,e3⟩:=hs;have hlen:(bW (x::es)).length=4+(bW es).length:=by
      rw[Zt,Zt,cQ];omega
     simp only[ep,tk,pD]at hi;rcases hi with rfl|rfl|rfl
     .rw[h.st]at e1
      cases e1;have h6:(fa ux 0 none 0 none 0 none).length=6:=rfl;have ho:o=0\/o=1\/o=2:=AC
      have e4:=congrArg (λl=>l[3-o]?) e3;rw[List.getElem?_take_of_lt AC,w4]at e4;rcases ho with rfl|rfl|rfl<;>cases e4
     .rw[h.re]at e1
      grind
     .rw[h.er]at e1
      grind
   subst Px;have⟨f,all,e1,e2,_⟩:=hs;simp only[ep,tk,pD]at hi;rcases hi with rfl|rfl|rfl
   .rw[h.st]at e1
    cases e1;refine⟨false,_,h'.st,?_,rfl⟩;have:=h'.len;have h6:(fa ux 0 none 0 none 0 none).length=6:=rfl;omega
   .rw[h.re]at e1
    cases e1;exact⟨false,_,h'.re,e2,rfl⟩
   .rw[h.er]at e1
    cases e1;exact⟨false,_,h'.er,e2,rfl⟩
  .exact Sl.fx hs k λb' o' e=>by cases e;exact hi
theorem kQ.bz {s s':St} (h: ∀(p:ai) (es:List aP),Sl s p (bW es)->Sl s' p (bW es)): ∀ {ds:ah} {xs:List dw},kQ s ds xs->kQ s' ds xs
 |_,[],h1=>h1
 |_,_::_,⟨z,p,t,hz,h1,h2,h3⟩=>⟨z,p,t,hz,h1,h p _ h2,h3.bz h⟩
def aeU (K:bu) (s:St) (b:Nat) (r:Option aI) (o:Out ah×St):Prop:=match r with
 |none=>∃s',o=(.fH,s')/\Fx [] s s'
 |some v=>∃s' ds z2 p2 z3 p3 z4 p4,o=(.val ds,s')/\Fx [b+1,b+2,b+3] s s'/\qS s' b (fa (na K.sup v) z2 p2 z3 p3 z4 p4) (.ptr (some (K.i,0))) (.i 0)/\(z2=2\/p2=none)/\(z3=1\/p3=none)/\(z4=1\/p4=none)/\qh s' (na K.sup v) p2 p3 p4/\gP s' false K.i K.j K.m v.W
theorem ZtH (n:Nat) (a:ai) (img:aj) (x:cm) (pc:ai) (s:St) (ha:dD s a img) (hc:Sl s pc (ints x.aK)) (hl:img.length<1000000) (cU:x.aK.length<1000) (hn:5000<=n):
  ∃K:bu,K.m=x.blocks.toNat/\K.img=img/\K.sup=x/\Ok (ab4 s x.blocks.toNat x (nb K)) (run Bd n 171 [.slice 1 a img.length,.agg (dI x pc)] s):=by
 obtain⟨n,rfl⟩: ∃k,n=k+3:=⟨n-3,AC⟩;refine⟨⟨s.length+8,s.length+7,s.length+6,x.blocks.toNat,a,img,x,pc⟩,rfl,rfl,rfl,?_⟩;have⟨K,hK⟩: ∃K:bu,(⟨s.length+8,s.length+7,s.length+6,x.blocks.toNat,a,img,x,pc⟩:bu)=K:=⟨_,rfl⟩;rw[hK];have kw:s.length+8=K.w:=by rw[<-hK]
 have ki:s.length+7=K.i:=by rw[<-hK]
 have kj:s.length+6=K.j:=by rw[<-hK]
 have km:K.m=x.blocks.toNat:=by rw[<-hK]
 have ka:a=K.a:=by rw[<-hK]
 have kg:img=K.img:=by rw[<-hK]
 have ks:x=K.sup:=by rw[<-hK]
 have kp:pc=K.pc:=by rw[<-hK]
 clear hK;have⟨R,hR⟩: ∃R,nb K=R:=⟨_,rfl⟩;rw[hR];unfold nb at hR;rw[<-ks,<-kg]at hR;rw[Ze,h.afZ];unfold MS yp ZU bF Zm C_ jO Ei cK qZ Lp Li yr Lb gG
 try dsimp only
 rw[aZ,cX];unfold dI;simp only[au,aZ,ao];have C9:([.i x.seq,.i x.blocks,.i x.cW,.i x.g,.i x.bY,.i x.used,.i x.free,.i x.dir,.slice 1 pc x.aK.length]:ah)=dI x pc:=rfl;rw[C9,ZD,ZD,ZD,ZD];have aka:([.i 0,.i 0,.i 0,.slice 0 none 0,.slice 0 none 0,.slice 0 none 0]:ah)=fa ux 0 none 0 none 0 none:=rfl;rw[aka];have l1: ∀c,(s++[some (c:bQ)]).length=s.length+1:=λc=>by simp
 have l2: ∀c d,((s++[some (c:bQ)])++[some (d:bQ)]).length=s.length+2:=λc d=>by simp
 have l3: ∀c d e,(((s++[some (c:bQ)])++[some (d:bQ)])++[some (e:bQ)]).length=s.length+3:=λc d e=>by simp
 rw[l1,l2,l3];have⟨S1,G6⟩: ∃S1,(((s++[some (⟨false,dI x pc⟩:bQ)])++[some (⟨false,fa ux 0 none 0 none 0 none⟩:bQ)])++[some (⟨false,[.ptr none]⟩:bQ)])++[some (⟨false,[.i 0]⟩:bQ)]=S1:=⟨_,rfl⟩;rw[G6];have aH:aB s S1:=by rw[<-G6];exact((((aB.new _ _).trans (aB.new _ _)).trans (aB.new _ _)).trans (aB.new _ _))
 have Pu:S1.length=s.length+4:=by rw[<-G6];simp
 have h9:S1[s.length]? =some (some ⟨false,dI x pc⟩):=by rw[<-G6];simp
 have OW:qS S1 s.length (fa ux 0 none 0 none 0 none) (.ptr none) (.i 0):=by
  rw[<-G6];exact⟨Do,Do,Do,rfl⟩
 clear G6;rw[kq h9 (by show 0+9<=9;omega)];show Ok _ (aC .i64 (dI x pc) _ S1);unfold dI;simp only[au,aZ,ao];rw[C9];have hsR:=Zkw (n+2) x pc S1 (hc.mono aH) cU AC;rw[Zk hsR,ar,ao];have⟨S2,O4⟩: ∃S2,S1++[some (⟨false,dI x pc⟩:bQ)]=S2:=⟨_,rfl⟩;rw[O4];have bd:aB S1 S2:=by rw[<-O4];exact aB.new _ _
 have Hs:S2.length=s.length+5:=by rw[<-O4];simp[Pu]
 have OU:=bd.get h9;have XX:qS S2 s.length (fa ux 0 none 0 none 0 none) (.ptr none) (.i 0):=⟨bd.get OW.st,bd.get OW.re,bd.get OW.er,rfl⟩;have sI:=aH.trans bd;clear O4 aH bd OW h9 hsR;have CQ: ∀S3,Fx [s.length+1,s.length+2,s.length+3] S2 S3->aB s S3:=λS3 k=>by
  refine Fx.aev ((Fx.pre [] sI).step k λy hy=> .inr ?_);grind
 cases oM:ZP x with
 |false=>
  rw[oM,af]at hR;have⟨S3,e3,JT,Yz⟩:=XX.abC (Y:=ah) (fa ux 0 none 0 none 0 none) (.ptr none) (.i 2) rfl;rw[bD,ae,e3,JT.zK,<-hR];exact .mk ⟨S3,rfl,CQ S3 Yz⟩
 |true=>
 rw[oM,ae]at hR;rw[bI,af];have⟨A0,sO,zB,wz,CP⟩:=Tj oM;have⟨g1,g2,g3,g4,g5,g6⟩:=ZM A0;refine Ok.acx (P:=aeU K S2 s.length (bif decide (x.blocks<=((img.length/64:Nat):Int))then om K else none)) ?_ ?_ ?_
 .have Bi: ∃m:Nat,x.blocks=(m:Int):=Fd
  rw[Zn OU (d:= .i x.blocks) rfl,bg];have hw:aq ((img.length:Int).tdiv 64)=((img.length/64:Nat):Int):=by
   rw[W7 AC,bn];exact Zb
  rw[hw];cases js:decide (x.blocks<=((img.length/64:Nat):Int))with
  |false=>
   rw[qk h (n+1) rfl,af];exact .mk ⟨S2,rfl,.refl _ _⟩
  |true=>
  have aix:=ng js;rw[uS h (n+1) rfl,ae,ao,kq OU (by show 0+9<=9;omega)];show Ok _ (aC .i64 (dI x pc) _ S2);unfold dI;simp only[au,aZ,ao];rw[Zn OU (d:= .i x.blocks) rfl,bg,ZD];have⟨S3,Et⟩: ∃S3,S2++[some (⟨false,[.i 0,.i 1]⟩:bQ)]=S3:=⟨_,rfl⟩;have dh:aB S2 S3:=by rw[<-Et];exact aB.new _ _
  have Pv:S3.length=s.length+6:=by rw[<-Et];simp[Hs]
  have ajY:Sl S3 (some (S2.length,0)) (ints [0,1]):=⟨false,[.i 0,.i 1],by rw[<-Et];simp,aJ _,rfl⟩;rw[Et];have⟨m,hm⟩:=Bi;have⟨S4,e4,hJ,ado,HE⟩:=U7 (n+2) m [0,1] (some (S2.length,0)) S3 AC ajY (by show 2<1000000;omega) Fd;have X1:m=K.m:=by rw[km,hm];rfl
  have e4':run Bd (n+2) 177 [.i x.blocks,.slice 1 (some (S2.length,0)) 2] S3=some (.val [.ptr (some (S3.length+1,0))],S4):=by rw[hm];exact e4
  rw[qY e4' hJ,fw,ao];have h94:=hJ.get (dh.get OU);rw[kq h94 (by show 1+3<=9;omega)];show Ok _ (aC .i64 (.i x.blocks::[.i x.cW,.i x.g]) _ S4);simp only[au,ao];rw[ZD];have hw8:S4.length=K.w:=by rw[ado,Pv];omega
  have ry:S3.length+1=K.i:=by rw[Pv];omega
  rw[hw8,ry];have aj4:gP S4 false K.i K.j K.m (gD K.m [0,1]):=by
   rw[ry]at HE;rw[<-kj,<-Pv,<-X1];exact HE
  have⟨S5,G7⟩: ∃S5,S4++[some (⟨false,tc K (lj K.m) (dT 0 none 0) (dT 0 none 0) (dT 0 none 0) (dT 0 none 0)⟩:bQ)]=S5:=⟨_,rfl⟩;have qC:([.slice 1 a img.length,.i x.seq,.i x.blocks,.i x.cW,.i x.g,.i x.bY,.i x.used,.i x.free,.i x.dir,.slice 1 pc x.aK.length,.ptr (some (K.i,0)),.slice 0 none 0,.i x.blocks,.i x.cW,.i x.g,.slice 0 none 0,.slice 0 none 0,.slice 0 none 0,.i 0]:ah)=tc K (lj K.m) (dT 0 none 0) (dT 0 none 0) (dT 0 none 0) (dT 0 none 0):=by
   unfold tc;rw[<-ka,<-kg,<-ks,<-kp];rfl
  rw[qC,G7];have nC:aB S4 S5:=by rw[<-G7];exact aB.new _ _
  have alY:S5.length=s.length+9:=by rw[<-G7];simp[ado,Pv]
  have ail:S5[K.w]? =some (some ⟨false,tc K (lj K.m) (dT 0 none 0) (dT 0 none 0) (dT 0 none 0) (dT 0 none 0)⟩):=by rw[<-G7,<-hw8];simp
  have PF:aB s S5:=((sI.trans dh).trans hJ).trans nC;have hW:eL K S5 (lj K.m) [K.w,K.i,K.j] 0 none 0 none 0 none 0 none []:=by
   refine⟨ail,.inr rfl,.inr rfl,.inr rfl,.inr rfl,bc.nil ⟨S5,rfl⟩,bc.nil ⟨S5,rfl⟩,bc.nil ⟨S5,rfl⟩,bc.nil ⟨S5,rfl⟩,rfl,aj4.pre nC,?_,?_,rfl,?_⟩
   .rw[<-ka,<-kg];exact ha.mono PF
   .rw[<-ka]
    rintro b o rfl hm;have:=Sl.lt ha;simp only[ep,tk,pD]at hm;omega
   .simp only[qQ,ep,tk,pD,not_or]
    refine⟨⟨AC,AC⟩,AC,not_false,.nil⟩
  have hC5:qS S5 s.length (fa ux 0 none 0 none 0 none) (.ptr none) (.i 0):=XX.fx (Fx.pre [] ((dh.trans hJ).trans nC)) λy hy=>by cases hy
  have aiJ:Fx [] S2 S5:=Fx.pre [] ((dh.trans hJ).trans nC);have acI:DL K:=⟨by rw[<-ks,hm,X1],by rw[<-kg,<-X1];omega,by rw[<-kg];exact hl⟩;have iY: ∀y∈[K.w,K.i,K.j],S2.length<=y:=λy hy=>by
   simp only[ep,tk,pD]at hy;omega
  have wH: ∀t,Fx [K.w,K.i,K.j] S5 t->Fx [] S2 t:=λt k=>aiJ.step k λy hy=> .inr (iY y hy)
  have⟨W1,jo⟩: ∃W1,om K=W1:=⟨_,rfl⟩;rw[jo];unfold om at jo;have X2:0<=K.sup.used:=by rw[<-ks];exact sO
  have X3:K.sup.used<=1792:=by rw[<-ks];omega
  have hKf:0<=K.sup.free:=by rw[<-ks];exact wz
  have aij:K.m<=3072:=AC
  refine Ok.xy (Zy4 (n+2) acI hW.wk (by show 0<1000;omega) AC) ?_ ?_
  .intro t hp
   cases hr:lD K (lj K.m)
   .rw[hr]at hp jo;have⟨_,e,hf⟩:=hp;cases e;rw[<-jo];exact⟨t,rfl,wH t hf⟩
   .rename_i v;rw[hr]at hp;have⟨_,_,e,_⟩:=hp;cases e
  intro ds t1 hp;cases jG:lD K (lj K.m)with
  |none=>rw[jG]at hp;have⟨_,e,_⟩:=hp;cases e
  |some v1=>
  rw[jG]at hp jo;have⟨_,L1,e,ain,ny,aab⟩:=hp;cases e;simp only at jo;rw[ao];have⟨k1,k2,k3,k4⟩:=Znq jG;have⟨fW,ajO⟩:=ZrP X2 X3 rfl jG;refine Ok.xy (Zz2 (n+2) ain X2 X3 hKf fW ajO k1 k3 AC) ?_ ?_
  .intro t hp
   cases hr:oa K v1
   .rw[hr]at hp jo;have⟨_,e,hf⟩:=hp;cases e;rw[<-jo];exact⟨t,rfl,wH t (ny.step hf aab)⟩
   .rename_i v;rw[hr]at hp;have⟨_,_,e,_⟩:=hp;cases e
  intro ds t2 hp;cases iH:oa K v1 with
  |none=>rw[iH]at hp;have⟨_,e,_⟩:=hp;cases e
  |some v2=>
  rw[iH]at hp jo;have⟨_,L2,e,acK,gu,ajf⟩:=hp;cases e;simp only at jo;rw[ao];have⟨q1,q2,q3,q4⟩:=ZoI iH;have YF:Fx [K.w,K.i,K.j] S5 t2:=ny.step gu aab;have aac:Nw [K.w,K.i,K.j] S5 L2:=aab.trans ny.1 ajf;have Ha:v2.W.length=(K.m+63)/64:=by have⟨_,_,_,_,_,_,_,_,_,hw⟩:=acK;exact hw.set.len
  have EI:v2.nodes=0:=by rw[q4,k4];rfl
  have C6:=Zvw K.m v2.W;refine Ok.xy (Zx2 (n+2) acI acK X2 X3 (by rw[q1];exact fW) (by rw[EI];exact Int.le_refl _) (by rw[EI];omega) aij (by rw[q2,k1];rfl) AC) ?_ ?_
  .intro t hp
   cases hr:nS K v2
   .rw[hr]at hp jo;have⟨_,e,hf⟩:=hp;cases e;rw[<-jo];exact⟨t,rfl,wH t (YF.step hf aac)⟩
   .rename_i v;rw[hr]at hp;have⟨_,_,e,_⟩:=hp;cases e
  intro ds t3 hp;cases KS:nS K v2 with
  |none=>rw[KS]at hp;have⟨_,e,_⟩:=hp;cases e
  |some v3=>
  rw[KS]at hp jo;have⟨_,L3,e,aio,fR,ajg⟩:=hp;cases e;simp only at jo;rw[ao];have⟨w1,w2,w3⟩:=ZmH Ha KS;have ada:Fx [K.w,K.i,K.j] S5 t3:=YF.step fR aac;have ady:Nw [K.w,K.i,K.j] S5 L3:=aac.trans YF.1 ajg;have dR:(v3.ay.length:Int)=K.sup.used:=by rw[w1,q1];exact fW
  have kV:v3.gens=[]:=by rw[w2,q3,k2];rfl
  have⟨y1,r1,y2,r2,y3,r3,y4,r4,hd,Ye⟩:=aio;rw[Zzm Ye.cell (k:= .i64) (n:=v3.nodes) rfl,Zn Ye.cell (d:= .i v3.nodes) rfl,bg];refine Ok.call (ZAc (n+2) Ye.wk AC (by rw[kV];show 0<100000;omega) AC) ?_;rintro _ ⟨t4,L4,rfl,aip,tZ,ajh⟩;refine⟨_,t4,rfl,?_⟩;rw[au,ao];have YG:Fx [K.w,K.i,K.j] S5 t4:=ada.step tZ ady;have aji:Nw [K.w,K.i,K.j] S5 L4:=ady.trans ada.1 ajh;have⟨y1,r1,y2,r2,y3,r3,y4,r4,hd,pM⟩:=aip;have CL:(tc K (sR v3) (dT y1 r1 (sR v3).ay.length) (dT y2 r2 (sR v3).aD.length) (dT y3 r3 (sR v3).gens.length) (dT y4 r4 (sR v3).free.length))[18]? =some (.i v3.nodes):=rfl;rw[VH pM.cell CL,VH pM.cell CL];have Yi:(((vB v3:Int))==v3.nodes)=decide ((vB v3:Int)=v3.nodes):=rfl;rw[Yi];cases eQ:decide ((vB v3:Int)=v3.nodes)with
  |false=>
   rw[eQ,af]at jo;rw[qk h (n+1) rfl,<-jo];exact .mk ⟨t4,rfl,wH t4 YG⟩
  |true=>
  rw[eQ,ae]at jo;rw[uS h (n+1) rfl,ao,VH pM.cell CL,kq pM.cell Fd];show Ok _ (aC .i64 (.i K.sup.blocks:: .i K.sup.cW:: .i K.sup.g::dT y2 r2 (sR v3).aD.length::dT y3 r3 (sR v3).gens.length::dT y4 r4 (sR v3).free.length::[]) _ t4);unfold dT;simp only[au,Zh 2 y2 r2 _ pM.e2,Zh 1 y3 r3 _ pM.e3,Zh 1 y4 r4 _ pM.e4,ao];rw[Zn pM.cell (d:= .ptr (some (K.i,0))) rfl,Mo];have yV:apart (some (s.length+1,0)) K.w=true:=by
   show(!Nat.beq K.w (s.length+1))=true;cases hbq:Nat.beq K.w (s.length+1)
   .rfl
   .have:=dQ hbq;omega
  rw[Zc yV];have OX:qS t4 s.length (fa ux 0 none 0 none 0 none) (.ptr none) (.i 0):=hC5.fx YG λy hy=>by
   have:=iY y hy;omega
  have⟨t5,e5,hC6,od⟩:=OX.abC (Y:=ah) (fa (na K.sup (sR v3)) 2 r2 1 r3 1 r4) (.ptr (some (K.i,0))) (.i 0) rfl;refine Eq.mpr (congrArg (Ok _) (e5 (aw []))) ?_;rw[Zd,<-jo];have cC: ∀y∈L4,y∉[s.length+1,s.length+2,s.length+3]:=λy hy hm=>by
   have h1:S2.length<=y:=by
    rcases aji y hy with h2|h2
    .exact iY y h2
    omega
   simp only[ep,tk,pD]at hm;omega
  have KF:=pM.own;refine .mk ⟨t5,[],2,r2,1,r3,1,r4,rfl,((wH t4 YG).mono λy hy=>by cases hy).trans od,hC6,.inl rfl,.inl rfl,.inl rfl,⟨⟨hd,(pM.o2.fx od λy hy=>cC y (by rw[KF];simp[hy])).sl,kQ.bz (λ_ _ k=>OX.bz hC6 od k) pM.aD.aD⟩,(pM.o3.fx od λy hy=>cC y (by rw[KF];simp[hy])).sl,(pM.o4.fx od λy hy=>cC y (by rw[KF];simp[hy])).sl⟩,pM.set.fx od (cC _ (by rw[KF];simp)) (cC _ (by rw[KF];simp))⟩
 .intro S3 hp
  cases hb:(bif decide (x.blocks<=((img.length/64:Nat):Int))then om K else none)
  .rw[hb]at hp;have⟨_,e,hf⟩:=hp;cases e;rw[ae];have JT:=XX.fx hf λy hy=>by cases hy
   have⟨S4,e4,OX,Ka⟩:=JT.abC (Y:=ah) (fa ux 0 none 0 none 0 none) (.ptr none) (.i 31) rfl;have X9:R=some none:=by
    rw[<-hR];grind
   rw[X9];refine Ok.acx (P:=λo=>o=(.val [],S4)) (by rw[e4];exact .mk rfl) ?_ ?_
   .intro S5 e;cases e
   .intro ds S5 e
    cases e;rw[af,OX.zK];exact .mk ⟨S4,rfl,CQ S4 ((hf.mono λy hy=>by cases hy).trans Ka)⟩
  .rename_i v;rw[hb]at hp;have⟨_,_,_,_,_,_,_,_,e,_⟩:=hp;cases e
 .intro ds S3 hp
  cases hb:(bif decide (x.blocks<=((img.length/64:Nat):Int))then om K else none)
  .rw[hb]at hp;have⟨_,e,_⟩:=hp;cases e
  .rename_i v;rw[hb]at hp;have⟨_,_,z2,p2,z3,p3,z4,p4,e,hf,JT,iN,nF,E9,cq,dy⟩:=hp;cases e;rw[af,JT.zK];have X9:R=some (some v):=by
    rw[<-hR];grind
   rw[X9,<-km,ks];exact .mk ⟨S3,z2,p2,z3,p3,z4,p4,K.i,K.j,rfl,CQ S3 hf,iN,nF,E9,cq,dy,AC,AC⟩
def jJ (img:aj) (x:cm):bu:=⟨0,0,0,x.blocks.toNat,none,img,x,none⟩
section
variable (w i j m:Nat) (a:ai) (img:aj) (x:cm) (pc:ai)
theorem ZsN: ∀(l:List aX) (k:Int) (v:aI),jY ⟨w,i,j,m,a,img,x,pc⟩ k l v=jY ⟨0,0,0,m,none,img,x,none⟩ k l v
 |[],_,_=>rfl
 |y::r,k,v=>by
  unfold jY;rw[show mO ⟨w,i,j,m,a,img,x,pc⟩ k y v=mO ⟨0,0,0,m,none,img,x,none⟩ k y v from rfl];cases mO ⟨0,0,0,m,none,img,x,none⟩ k y v with
  |none=>rfl
  |some v'=>exact ZsN r (k+1) v'
theorem ZAP (k slot:Int) (v:aI):kG ⟨w,i,j,m,a,img,x,pc⟩ k slot v=kG ⟨0,0,0,m,none,img,x,none⟩ k slot v:=by
 unfold kG;rw[show dC ⟨w,i,j,m,a,img,x,pc⟩ k v=dC ⟨0,0,0,m,none,img,x,none⟩ k v from rfl];cases dC ⟨0,0,0,m,none,img,x,none⟩ k v with
 |none=>rfl
 |some q=>
  have⟨b,v1⟩:=q;cases b<;>first|rfl|exact ZsN w i j m a img x pc _ _ _
theorem VQ (cnt x5:Int): ∀(l:ak) (k:Int) (v:aI),jl ⟨w,i,j,m,a,img,x,pc⟩ cnt x5 k l v=jl ⟨0,0,0,m,none,img,x,none⟩ cnt x5 k l v
 |[],_,_=>rfl
 |y::r,k,v=>by
  unfold jl;rw[ZAP,VQ cnt x5 r (k+1) v];cases kG ⟨0,0,0,m,none,img,x,none⟩ y ((x5*16+k)*7) v with
  |none=>rfl
  |some v'=>simp only[VQ cnt x5 r (k+1) v']
theorem Wd (cnt:Int): ∀(l:ak) (k:Int) (v:aI),lC ⟨w,i,j,m,a,img,x,pc⟩ cnt k l v=lC ⟨0,0,0,m,none,img,x,none⟩ cnt k l v
 |[],_,_=>rfl
 |y::r,k,v=>by
  unfold lC;rw[show dC ⟨w,i,j,m,a,img,x,pc⟩ y v=dC ⟨0,0,0,m,none,img,x,none⟩ y v from rfl,Wd cnt r (k+1) v];cases dC ⟨0,0,0,m,none,img,x,none⟩ y v with
  |none=>rfl
  |some q=>
   have⟨b,v1⟩:=q;cases b<;>try rfl
   rename_i z;simp only[VQ];cases jl ⟨0,0,0,m,none,img,x,none⟩ cnt k 0 z v1 with
   |none=>rfl
   |some v2=>simp only[Wd cnt r (k+1) v2]
theorem ZyP (v:aI):lD ⟨w,i,j,m,a,img,x,pc⟩ v=lD ⟨0,0,0,m,none,img,x,none⟩ v:=by
 unfold lD;rw[show dC ⟨w,i,j,m,a,img,x,pc⟩ x.bY v=dC ⟨0,0,0,m,none,img,x,none⟩ x.bY v from rfl];simp[Wd]
theorem Zsq: ∀(f:Nat) (fl:List Bool) (k:Int) (v:aI),jZ ⟨w,i,j,m,a,img,x,pc⟩ f fl k v=jZ ⟨0,0,0,m,none,img,x,none⟩ f fl k v
 |0,_,_,_=>rfl
 |f+1,fl,k,v=>by
  unfold jZ;cases v.ay[(k-1).toNat]? with
  |none=>rfl
  |some y=>simp only[Zsq f]
theorem Ztm: ∀(l:List aX) (fl:List Bool),nj ⟨w,i,j,m,a,img,x,pc⟩ fl l=nj ⟨0,0,0,m,none,img,x,none⟩ fl l
 |[],_=>by unfold nj;rfl
 |y::r,fl=>by
  unfold nj;rw[Ztm r];rfl
theorem ZAs (v:aI):oa ⟨w,i,j,m,a,img,x,pc⟩ v=oa ⟨0,0,0,m,none,img,x,none⟩ v:=by
 simp[oa,Zsq,xm,Ztm]
theorem Zt8: ∀(f:Nat) (out:List aP) (todo:List l8) (v:aI),ZT ⟨w,i,j,m,a,img,x,pc⟩ f out todo v=ZT ⟨0,0,0,m,none,img,x,none⟩ f out todo v
 |0,_,_,_=>rfl
 |f+1,out,[],v=>rfl
 |f+1,out,t::r,v=>by
  unfold ZT;rw[show dC ⟨w,i,j,m,a,img,x,pc⟩ t.block v=dC ⟨0,0,0,m,none,img,x,none⟩ t.block v from rfl];cases dC ⟨0,0,0,m,none,img,x,none⟩ t.block v with
  |none=>rfl
  |some q=>
   have⟨b,v1⟩:=q;cases b<;>try rfl
   rename_i z;simp only[Zt8 f];rfl
theorem UJ: ∀(l:ak) (k:Int) (acc:List aP) (v:aI),Z2 ⟨w,i,j,m,a,img,x,pc⟩ k l acc v=Z2 ⟨0,0,0,m,none,img,x,none⟩ k l acc v
 |[],_,_,_=>rfl
 |y::r,k,acc,v=>by
  unfold Z2;rw[show oY ⟨w,i,j,m,a,img,x,pc⟩ y k v=oY ⟨0,0,0,m,none,img,x,none⟩ y k v from Zt8 w i j m a img x pc _ _ _ _,UJ r (k+1) acc v];cases oY ⟨0,0,0,m,none,img,x,none⟩ y k v with
  |none=>rfl
  |some q=>
   have⟨es,v1⟩:=q;simp only[UJ r (k+1)]
theorem Zvy: ∀(l:ak) (k:Nat) (v:aI),oD ⟨w,i,j,m,a,img,x,pc⟩ k l v=oD ⟨0,0,0,m,none,img,x,none⟩ k l v
 |[],_,_=>rfl
 |y::r,k,v=>by
  unfold oD;rw[show dC ⟨w,i,j,m,a,img,x,pc⟩ y v=dC ⟨0,0,0,m,none,img,x,none⟩ y v from rfl];cases dC ⟨0,0,0,m,none,img,x,none⟩ y v with
  |none=>rfl
  |some q=>
   have⟨b,v1⟩:=q;cases b<;>try rfl
   rename_i z;simp only[UJ];cases Z2 ⟨0,0,0,m,none,img,x,none⟩ 0 z.cF [] v1 with
   |none=>rfl
   |some q=>
    have⟨es,v2⟩:=q;simp only[Zvy r (k+1)]
theorem Zxm (v:aI):nS ⟨w,i,j,m,a,img,x,pc⟩ v=nS ⟨0,0,0,m,none,img,x,none⟩ v:=by
 unfold nS;rw[show dC ⟨w,i,j,m,a,img,x,pc⟩ x.dir v=dC ⟨0,0,0,m,none,img,x,none⟩ x.dir v from rfl];simp[Zvy]
theorem ZAV:om ⟨w,i,j,m,a,img,x,pc⟩=om ⟨0,0,0,m,none,img,x,none⟩:=by
 unfold om;simp only[ZyP w i j m a img x pc,ZAs w i j m a img x pc,Zxm w i j m a img x pc]
end
theorem Zwo (K:bu) (h:K.m=K.sup.blocks.toNat):nb K=nb (jJ K.img K.sup):=by
 have⟨w,i,j,m,a,img,sup,pc⟩:=K;simp only at h;subst h;unfold nb;rw[ZAV];rfl
theorem ZlF (n:Nat) (a:ai) (img:aj) (x:cm) (pc:ai) (s:St) (ha:dD s a img) (hc:Sl s pc (ints x.aK)) (hl:img.length<1000000) (cU:x.aK.length<1000) (hn:5000<=n:=by omega):
  Ok (ab4 s x.blocks.toNat x (nb (jJ img x))) (run Bd n 171 [.slice 1 a img.length,.agg (dI x pc)] s):=by
 have⟨K,h1,h2,h3,h4⟩:=ZtH n a img x pc s ha hc hl cU hn;rw[Zwo K (by rw[h1,h3]),h2,h3]at h4;exact h4
