/- The walker's trees: what they are, no program in sight. -/
import Derived.Test.YtegglibipjjblaaGreatDoorGvZMb
set_option linter.all false
namespace Go.Gv.F
open Go.Gv
structure ni where
 block:Int
 qU:Int
 par:bh
 top:Bool
def sS (x:jL) (n:Nat):List ni:=((List.range n).map λi=>(⟨x.kids.getD i 0,i,x.bJ,false⟩:ni)).reverse
theorem Zpi (x:jL) (n:Nat):sS x (n+1)=⟨x.kids.getD n 0,n,x.bJ,false⟩::sS x n:=by
 simp[sS,qy,fq,List.reverse_append]
def DR (v:aS) (e:bh) (k:Int):Bool:=match v.aG[e.slot.toNat]? with
 |none=>false
 |some x=>(x.live==true)&&((x.gen==e.gen)&&((x.block==k)&&true))
def uN (K:bL) (v:aS) (t:ni) (x:jL):Bool:=
 (bif (x.kids.length:Int)==t.qU then(bif t.top then true else fu t.par x.bJ)else false)&&
 (bif decide (x.bJ.slot<K.sup.used)then DR v x.bJ t.block else false)
def jP (K:bL):Nat->List bh->List ni->aS->Option (List bh×aS)
 |0,_,_,_=>none
 |_+1,out,[],v=>some (out,v)
 |f+1,out,t::r,v=>match dO K t.block v with
  |some (.node x,v')=>bif uN K v' t x then jP K f (out++[x.bJ]) (sS x x.kids.length++r) { v' with nodes:=v'.nodes+1 } else none
  |_=>none
def yd:bh:=⟨0,0,0,0⟩
def rH (K:bL) (k qU:Int) (v:aS):Option (List bh×aS):=jP K (K.m+1) [] [⟨k,qU,yd,true⟩] v
def room (m:Nat) (W:al):Nat:=(List.range m).countP λb=> !di W b
theorem ZqM {P Q:Nat->Bool} : ∀ {l:al} {k:Nat},(∀b,Q b=true->P b=true)->k∈l->P k=true->Q k=false->l.countP Q+1<=l.countP P
 |[],_,_,h,_,_=>by cases h
 |a::l,k,hm,h,hp,hq=>by
  rw[List.countP_cons,List.countP_cons];rcases eF.1 h with rfl|h
  .rw[hp,hq]
   have:=List.countP_mono_left (l:=l) (p:=Q) (q:=P) λb _ hb=>hm b hb
   simp;omega
  .have:=ZqM hm h hp hq
   grind
theorem Zu2 (m:Nat) (W:al):room m W<=m:=by
 unfold room;exact gY (List.countP_le_length) (by simp)
variable {f:Bool} {e e' r r':DV} {k n slot:Int} {i lim m p sz:Nat} {s s' s0:St} {v v':aS} {A A' all cs:ah} {l:aj} {T W:al} {K:bL}
theorem UZ (hl:W.length=(m+63)/64) (h:fO m W k=true):room m (bK m W k)+1<=room m W:=by
 unfold fO at h;rw[aY,aY]at h;have⟨_,hm,hi⟩:=h;have qb:=hm;unfold fE at qb;rw[aY,br,br]at qb;refine ZqM (k:=k.toNat) (λb hb=>?_) (ux.2 (by omega)) hi ?_
 .rw[qP hl]at hb
  rw[lF]at hb⊢;rw[C6]at hb;exact hb.1
 .rw[qP hl,hm]
  simp
theorem xK {b:xr} (h:dO K k v=some (b,v')):fO K.m v.W k=true/\v'.W=bK K.m v.W k:=by
 grind[dO]
def uE (v:aS) (e:bh):Prop:=0<=e.slot/\∃(x:bw) (k:Nat),v.aG[e.slot.toNat]? =some x/\x.block=(k:Int)/\di v.W k=true
def Diff (l:List bh):Prop:=l.Pairwise λa b=>a.slot≠b.slot
theorem Zno {x:jL} (h:ZV l= .node x):oS x=true/\x.kids.length<=12:=by
 unfold ZV at h;split at h
 .rename_i e;cases h;exact MR e
 grind
theorem Ij {x:jL} (h:oS x=true):0<=x.bJ.slot/\x.bJ.slot<1792:=by
 grind[oS]
theorem Iz {K:bL} : ∀ {f:Nat} {acc out xc:List bh} {todo:List ni} {v v':aS},v.W.length=(K.m+63)/64->jP K f out todo v=some (xc,v')->(∀e∈acc++out,uE v e)->Diff (acc++out)->(∀e∈acc++xc,uE v' e)/\Diff (acc++xc)/\v'.W.length=(K.m+63)/64/\(∀k,di v.W k=true->di v'.W k=true)/\v'.aG=v.aG/\v'.aM=v.aM/\v'.aK=v.aK/\v'.free=v.free
 |0,_,_,_,_,_,_,_,h,_,_=>by cases h
 |f+1,acc,out,xc,[],v,v',hl,h,h1,h2=>by cases h;grind
 |f+1,acc,out,xc,t::r,v,v',hl,h,h1,h2=>by
  unfold jP at h;cases ht:dO K t.block v with
  |none=>rw[ht]at h;cases h
  |some q=>
   have⟨b,v1⟩:=q;rw[ht]at h;have⟨g1,g2,g3,g4,g5,g6⟩:=Z2 ht;have⟨g7,g8⟩:=xK ht;cases b with
   |leaf x=>cases h
   |cc x=>cases h
   |queue x=>cases h
   |dir x=>cases h
   |none=>cases h
   |node x=>
    simp only at h;cases hf:uN K v1 t x with
    |false=>rw[hf]at h;cases h
    |true=>
     rw[hf,ae]at h;have gM: ∀k,di v.W k=true->di v1.W k=true:=λk hk=>by rw[g8,qP hl,hk];rfl
     have pw:v1.W.length=(K.m+63)/64:=by rw[g8,oM];exact hl
     have dS:=g7;unfold fO at dS;rw[aY,aY,br]at dS;have⟨jn,vv,hki⟩:=dS;have O2:=(Ij (Zno g6.symm).1).1;unfold uN at hf;rw[aY]at hf;have Ha:DR v1 x.bJ t.block=true:=by
      grind
     unfold DR at Ha;cases pA:v1.aG[x.bJ.slot.toNat]? with
     |none=>rw[pA]at Ha;cases Ha
     |some y=>
      rw[pA]at Ha;simp only[aY,and_true]at Ha;have⟨EG,KC,Hg⟩:=Ha;have hyb:y.block=(t.block.toNat:Int):=by rw[eq_of_beq Hg];omega
      have hold: ∀e∈acc++out,uE v1 e:=λe he=>by
       have⟨a1,z,k,a2,a3,a4⟩:=h1 e he;exact⟨a1,z,k,by rw[g1];exact a2,a3,gM k a4⟩
      have iA:uE v1 x.bJ:=⟨O2,y,t.block.toNat,pA,hyb,by
       rw[g8,qP hl,vv];simp⟩
      have ahc: ∀e∈acc++out,e.slot≠x.bJ.slot:=λe he heq=>by
       have⟨a1,z,k,a2,a3,a4⟩:=h1 e he;rw[heq,<-g1,pA]at a2;grind
      have key:=Iz (acc:=acc) (v:= { v1 with nodes:=v1.nodes+1 }) pw h (λe he=>by
       rw[<-fI]at he;rcases gx.1 he with he|he
       .exact hold e he
       .rw[cB.1 he];exact iA) (by
       unfold Diff;rw[<-fI,Lr];refine⟨h2,List.pairwise_singleton _ _,λa ha b hb=>?_⟩;rw[cB.1 hb];exact ahc a ha)
      grind
variable {β:Type}
variable {K:bL} {s:St} {v:aS} {L:al} {z1 z2 z3 z4:Nat} {p1 p2 p3 p4:ai} {hd:ah}
def lJ (s:St) (a:ai) (cs:ah):Prop:=(a=none/\cs=[])\/∃b rest,a=some (b,0)/\s[b]? =some (some ⟨false,cs++rest⟩)
theorem lJ.fx {a:ai} (h:lJ s a cs) (k:Fx T s s') (n: ∀b∈aP a,b∉T):lJ s' a cs:=by
 rcases h with h1|⟨i,r,rfl,h3⟩
 .exact .inl h1
 .exact .inr ⟨i,r,rfl,k.2 i _ (n i (by simp[aP])) h3⟩
theorem lJ.lt {a:ai} (h:lJ s a cs): ∀b∈aP a,b<s.length:=by
 rcases h with⟨rfl,_⟩|⟨i,r,rfl,h3⟩
 .intro b hb;cases hb
 .intro b hb;rw[cB.1 hb];grind
theorem ZxA {a:ai} (h:lJ s a cs) {n:Nat} (ds:ah) (hz:0<sz) (hn:cs.length=n*sz) (hd:ds.length=sz) (hl:n+1<=lim:=by omega):
  ∃b s',s.length<=b/\s'[b]? =some (some ⟨false,cs++ds⟩)/\Fx (aP a) s s'/\Kp s s'/\∀K:ai->M β,(cd ds λi=>bS i 0 sz λcs'=>cm sz a n cs' 1 lim K) s=K (some (b,0)) s':=by
 rcases h with⟨rfl,rfl⟩|⟨i,rest,rfl,hs⟩
 .have⟨b,s',h1,h2,h3,h4,h5⟩:=bm.Pz (β:=β) (s0:=[]) (s:=s) (a:=none) (cs:=[]) (bm.nil ⟨s,rfl⟩) ds hz hn hd hl
  rcases h2.2 with⟨e,_⟩|⟨i,e,_,h6⟩
  .cases e
  .cases e
   exact⟨b,s',h1,h6,⟨by have:=(ef.1 h6).1;omega,λi x _ e=>h4 i x e (λo e=>by cases e)⟩,h3,h5⟩
 .have jU:i<s.length:=by grind
  have mw:(s++[some (⟨false,ds⟩:bO)])[i]? =some (some (⟨false,cs++rest⟩:bO)):=by rw[mH jU];exact hs
  have eC:(s++[some (⟨false,ds⟩:bO)]).ik i=some (cs++rest):=by grind[St.ik]
  have hb:Nat.beq 1 0=false:=rfl;refine⟨s.length+1,(s++[some (⟨false,ds⟩:bO)]).set i none++[some (⟨false,cs++ds⟩:bO)],by omega,?_,⟨by simp;omega,λy x hy e=>?_⟩,(aB.new _ _).kp.trans ((Kp.set mw none).trans (aB.new _ _).kp),λK=>?_⟩
  .rw[kX (by simp)];simp
  .have hyl:=(ef.1 e).1
   have dM:i≠y:=λe=>hy (by simp[aP,e])
   rw[mH (by simp;omega),jv dM,mH hyl];exact e
  .rw[Zz,Z8 (f:=false) (all:=ds) (by simp) (by omega),dK,dG (by omega)]
   unfold cm;simp only[hb,gA hl,ae,af,eC];rw[eO,gA (by rw[bB];omega),ae,dK,<-hn,Fc];simp
theorem eD.ajz (h:eD K s v L z1 p1 z2 p2 z3 p3 z4 p4 hd) (x:Int):
  ∃s',(∀Kc:M β,dI K.w 18 [.i x] Kc s=Kc s')/\eD K s' { v with nodes:=x } L z1 p1 z2 p2 z3 p3 z4 p4 hd/\Fx [K.w] s s'/\Kp s s':=by
 have dM:=h.ne;have cM:=Fx.set s K.w (some (⟨false,rM K { v with nodes:=x } (dN z1 p1 v.aG.length) (dN z2 p2 v.aM.length) (dN z3 p3 v.aK.length) (dN z4 p4 v.free.length)⟩:bO));have p7:=cM.mono (T':=L) λy hy=>by rw[cB.1 hy];exact h.EM
 refine⟨_,λKc=>?_,⟨?_,h.e1,h.e2,h.e3,h.e4,h.o1.fx cM λb hb=>?_,h.o2.fx cM λb hb=>?_,h.o3.fx cM λb hb=>?_,h.o4.fx cM λb hb=>?_,h.aM.fx p7 (Nw.refl L s),h.set.fx cM (by simpa using dM.1.symm) (by grind),Sl.fx h.img p7 h.off,h.off,h.own,h.nodup⟩,cM,Kp.set h.cell _⟩
 .rw[qE h.cell (by show 18<19;omega)]
  rfl
 .exact kZ (ef.1 h.cell).1
 all_goals simpa using (by grind)
def Gb (t:ni):ah:=[.i t.block,.i t.qU,.i t.par.slot,.i t.par.gen,.i t.par.key,.i t.par.value,.b t.top]
def nM (l:List ni):ah:=(l.map Gb).flatten
theorem Mz (l:List ni):(nM l).length=l.length*7:=by
 unfold nM;induction l with
 |nil=>rfl
 |cons e l ih=>rw[oG,Da,bB,ih,cO];show 7+_=_;omega
theorem Zro (l m:List ni):nM (l++m)=nM l++nM m:=by simp[nM]
theorem T4 (x:jL) (n:Nat):(sS x n).length=n:=by unfold sS;simp
theorem Zzu {Kn:ah->M ah} {Q:Out ah×St->Prop} (n:Nat) (aj4:s.length=s.length) (x:jL) (px:ai) (r:List ni) (t0:St) (AU:ai) (hx:Fz t0 px (ints x.kids)) (acm:x.kids.length<=12) (ho:lJ t0 AU (nM r.reverse)) (hr:r.length<100000) (gX: ∀b∈aP AU,s.length<=b) (dA:s.length<=t0.length) (hn:20<=n)
  (hK: ∀t pT z,(z=7\/pT=none)->lJ t pT (nM (sS x x.kids.length++r).reverse)->(∀b∈aP pT,s.length<=b/\(b∈aP AU\/t0.length<=b))->Fx (aP AU) t0 t->Ok Q (Kn [.s z pT (r.length+x.kids.length)] t)) (z0:Nat) (wW:z0=7\/AU=none):
  Ok Q (cS (λdw st=>
      bW 7 st λLd EX st=>
      aD .i64 st λfS st=>
      aL st<|
      bif decide (fS<(x.kids.length:Int))then
       bH px λi6 o4=>
      aC (aR fS x.kids.length)<|
      bD i6 (fS.toNat*1+o4) λd3=>
      cY .i64 d3 λfN=>
      cd [.i fN,.i fS,.i x.bJ.slot,.i x.bJ.gen,.i x.bJ.key,.i x.bJ.value,.b false] λi7=>
      bS i7 0 7 λfC=>
      cm 7 Ld EX fC 1 1256584717458 λp1=>
      dw [.s 7 p1 (EX+1),.i (ar (fS+1))]
      else
       Kn [.s 7 Ld EX]) n [.s z0 AU r.length,.i 0] t0):=by
 refine Zi _ (λq y t=>∃(i z:Nat) (pT:ai),y=[.s z pT (r.length+i),.i i]/\(z=7\/pT=none)/\i<=x.kids.length/\x.kids.length-i<=q/\lJ t pT (nM (sS x i++r).reverse)/\(∀b∈aP pT,s.length<=b/\(b∈aP AU\/t0.length<=b))/\Fx (aP AU) t0 t/\Fz t px (ints x.kids)) ?_ x.kids.length n _ _ ⟨0,z0,AU,rfl,wW,cz _,by omega,ho,by grind,.refl _ _,hx⟩ (by omega);rintro q _ t ⟨i,z,pT,rfl,hz,hi,hq,hoT,Od,cM,EE⟩ rec aN;simp only[av,Zg 7 z pT _ hz,aq];by_cases aw:i<x.kids.length
 .obtain⟨i1,o1,rfl⟩:=EE.1.cH (by simp[ints];omega)
  rw[ax (show(i:Int)<(x.kids.length:Int) by omega),ae,bd,Zb (Zj aw),bp,EE.1.dJ (ZD aw)];rw[bg];have XM:(nM (sS x i++r).reverse).length=(r.length+i)*7:=by rw[Mz,List.length_reverse,bB,T4];omega
  have⟨b,t1,g1,g2,g3,g4,g5⟩:=ZxA (β:=ah) hoT (sz:=7) (n:=r.length+i) (lim:=1256584717458) (Gb ⟨x.kids[i],i,x.bJ,false⟩) (by omega) XM rfl;refine Eq.mpr (congrArg (Ok _) (g5 _)) ?_;have j5:ar ((i:Int)+1)=((i+1:Nat):Int):=Zc;rw[j5];refine aN (x.kids.length-(i+1)) _ _ (by omega) ⟨i+1,7,some (b,0),rfl,.inl rfl,by omega,aO _,.inr ⟨b,[],rfl,?_⟩,?_,?_,EE.kp g4⟩
  .rw[g2,gz,Zpi,nQ,List.reverse_cons,Zro]
   have:x.kids.getD i 0=x.kids[i]:=by rw[dW,cq aw];rfl
   rw[this];simp[nM]
  .intro y hy
   rw[cB.1 hy];have:=cM.1;omega
  .exact cM.step g3 λy hy=>(Od y hy).2
 .rw[aF (show ¬(i:Int)<(x.kids.length:Int) by omega),af]
  have:i=x.kids.length:=by omega
  subst this;grind
theorem Zwy {Bd:Zh} (h:Fs Bd) (n:Nat) (hn:8<=n) (a b:bh) (st:St):
  Ok (λo=>∃z s',o=(.val [.i z],s')/\aB st s'/\decide (z<0)=fu a b) (run Bd n 159 [.a (fk a),.a (fk b)] st):=by
 refine(abd h n hn a b st).mono ?_;rintro _ ⟨z,s',rfl,hp,e⟩;grind
variable {Q:Out β×St->Prop}
theorem Ok.join {f:ah->M β} {g:(ah->M β)->M β} (h: ∀jk,jk=f->Ok Q (g jk s)):Ok Q (cK f g s):=by rw[Za];exact h f rfl
theorem Zyf (pn:M β) (x:jL) (px:ai) (Kc:Int->Int->Int->Int->ai->Nat->M β):uY pn (.iface 6 (.a (oA x 1 px))) 6 (λd=>tL d λbM=>aD .i64 bM λx8 r=>aD .i64 r λx9 r=>aD .i64 r λcV r=>aD .i64 r λeB r=>bW 1 r λfj pI r=>aL r<|Kc x8 x9 cV eB fj pI)=Kc x.bJ.slot x.bJ.gen x.bJ.key x.bJ.value px x.kids.length:=rfl
def LN (K:bL) (s:St) (v:aS) (L:al) (z1:Nat) (p1:ai) (z2:Nat) (p2:ai) (z3:Nat) (p3:ai) (z4:Nat) (p4:ai) (hd:ah) (R:Option (List bh×aS)) (o:Out ah×St):Prop:=match R with
 |none=>∃s',o=(.fp,s')/\Fx L s s'
 |some (out,v')=>∃p z s',o=(.val [.s z p out.length],s')/\(z=4\/p=none)/\eD K s' v' L z1 p1 z2 p2 z3 p3 z4 p4 hd/\Fx L s s'/\lJ s' p (bY out)/\(∀b∈aP p,s.length<=b)/\v'.nodes+(room K.m v'.W:Nat)<=v.nodes+(room K.m v.W:Nat)/\v.nodes<=v'.nodes/\out.length<=4000
theorem eD.Pf (h:eD K s v L z1 p1 z2 p2 z3 p3 z4 p4 hd) (h0:qC s0 L hd v.aM) (hl: ∀x∈L,x<s0.length) (ha: ∀b o,K.a=some (b,o)->b<s0.length) (k0:Fx L s0 s) (k:Fx T s s') (hT: ∀x∈T,s0.length<=x):eD K s' v L z1 p1 z2 p2 z3 p3 z4 p4 hd/\Fx L s0 s':=by
 have hf:Fx L s0 s':=k0.step k λx hx=> .inr (hT x hx)
 exact⟨h.j6 k (by grind) (λb o e hm=>by have:=ha b o e;have:=hT b hm;omega) (h0.fx hf (Nw.refl L s0)),hf⟩
theorem ZzD {Bd:Zh} (h:HA Bd) (n:Nat) (hK:Dq K) (k qU:Int) (hW:eD K s v L z1 p1 z2 p2 z3 p3 z4 p4 hd) (h0:0<=K.sup.used) (h1:K.sup.used<=1792) (hs:(v.aG.length:Int)=K.sup.used) (jo:0<=v.nodes) (hnr:v.nodes+(room K.m v.W:Nat)<=5000) (hm:K.m<=3072) (hn:4010<=n):
  Ok (LN K s v L z1 p1 z2 p2 z3 p3 z4 p4 hd (rH K k qU v)) (run Bd n 233 [.p (some (K.w,0)),.i k,.i qU] s):=by
 obtain⟨n,rfl⟩: ∃k,n=k+2:=⟨n-2,by omega⟩;rw[Ze,h.afe];unfold QG F5 Dl Zs3 uC ZuY aA C_ Zm cP Zn N_ qJ cw rY ix Lb Li Bx rH;simp only[eH,av,aq];rw[Zz];have Ej:=hW.lt;have GD: ∀b o,K.a=some (b,o)->b<s.length:=λb o e=>Sl.lt (e▸hW.img)
 have ou:=aB.new s (some (⟨false,[DV.i k,.i qU,.i 0,.i 0,.i 0,.i 0,.b true]⟩:bO));have yo:(s++[some (⟨false,[DV.i k,.i qU,.i 0,.i 0,.i 0,.i 0,.b true]⟩:bO)])[s.length]? =some (some ⟨false,nM [⟨k,qU,yd,true⟩]⟩):=by simp;rfl
 have sI:=hW.pre ou;generalize s++[some (⟨false,[DV.i k,.i qU,.i 0,.i 0,.i 0,.i 0,.b true]⟩:bO)]=s0 at ou yo sI;have⟨R,hR⟩: ∃R,jP K (K.m+1) [] [⟨k,qU,yd,true⟩] v=R:=⟨_,rfl⟩;rw[hR,Za];have hrm:=Zu2 K.m v.W;refine Zi _ (λq y t=>∃(f:Nat) (out:List bh) (todo:List ni) (u:aS) (zo:Nat) (po:ai) (zt:Nat) (pt:ai),y=[.s zo po out.length,.s zt pt todo.length]/\(zo=4\/po=none)/\(zt=7\/pt=none)/\room K.m u.W<=q/\room K.m u.W<f/\eD K t u L z1 p1 z2 p2 z3 p3 z4 p4 hd/\u.aG=v.aG/\u.aM=v.aM/\Fx L s t/\lJ t po (bY out)/\lJ t pt (nM todo.reverse)/\(∀b∈aP po,s.length<=b)/\(∀b∈aP pt,s.length<=b)/\(∀b∈aP po,b∉aP pt)/\v.nodes<=u.nodes/\u.nodes+(room K.m u.W:Nat)<=v.nodes+(room K.m v.W:Nat)/\out.length+room K.m u.W<=3072/\todo.length+12*room K.m u.W<=40000/\jP K f out todo u=R) ?_ (room K.m v.W) (n+1) _ _ ⟨K.m+1,[],[⟨k,qU,yd,true⟩],v,0,none,7,some (s.length,0),rfl,.inr rfl,.inl rfl,aO _,by omega,sI,rfl,rfl,Fx.pre L ou,.inl ⟨rfl,rfl⟩,.inr ⟨s.length,[],rfl,by rw[gz];exact yo⟩,λ_ h=>(by cases h),λb hb=>by rw[cB.1 hb];exact aO _,λ_ h=>(by cases h),Int.le_refl _,Int.le_refl _,by simp;omega,by simp;omega,hR⟩ (by omega);rintro q _ t ⟨f,out,todo,u,zo,po,zt,pt,rfl,Yz,hzt,hrq,hrf,dZ,jc,uk,cM,ON,hot,JC,yq,Xb,J5,J6,hZ,ui,aQ⟩ rec aN;rw[Zg 4 zo po _ Yz,Zg 7 zt pt _ hzt,aq];obtain⟨f,rfl⟩: ∃k,f=k+1:=⟨f-1,by omega⟩;cases todo with
 |nil=>
  rw[show decide ((([]:List ni).length:Int)>0)=false from rfl,af];simp only[aX,aq];unfold jP at aQ;rw[Zd,<-aQ];exact .mk ⟨po,4,t,rfl,.inl rfl,dZ,cM,ON,JC,J6,J5,by omega⟩
 |cons e r=>
  unfold jP at aQ;rw[ax (show(((e::r).length:Nat):Int)>0 by grind),ae];rw[Za];rcases hot with⟨_,hx⟩|⟨bt,rest,rfl,abq⟩
  .exfalso
   have:=congrArg List.length hx;rw[Mz]at this;simp at this
  have cG:ar ((((e::r).length:Nat):Int)-1)=(r.length:Int):=by
   have e3:((((e::r).length:Nat):Int)-1)=(r.length:Int):=by simp
   have h9:r.length<100000:=by omega
   rw[e3];exact Zc
  rw[cG,bp];rw[bd,Zb (Zj (by simp))];have Cj:nM (e::r).reverse=nM r.reverse++Gb e:=by
   rw[List.reverse_cons,Zro];simp[nM]
  have XP: ∀Kc:ah->M ah,bS bt (r.length*7+0) 7 Kc t=Kc (Gb e) t:=λKc=>by
   rw[gV,Z8 abq (by rw[bB,Mz,List.length_reverse,cO];omega)];rw[Cj,show r.length*7=(nM r.reverse).length by rw[Mz,List.length_reverse],fI,C8];rfl
  rw[XP];unfold Gb;simp only[av,au,aq];rw[Zb (by rw[aY,br,br];simp;omega)];refine Ok.wv (dZ.take h (n+1) e.block hK.m hK.Ge hK.len (by omega)) ?_ ?_
  .intro s' hp
   cases ht:dO K e.block u with
   |none=>rw[ht]at hp aQ;cases hp;rw[<-aQ];exact⟨t,rfl,cM⟩
   |some q=>rw[ht]at hp;have⟨d,s2,e,_⟩:=hp;cases e
  intro ds t1 hp;cases ht:dO K e.block u with
  |none=>rw[ht]at hp;cases hp
  |some q=>
   have⟨b,u1⟩:=q;rw[ht]at hp aQ;have⟨d,s2,e2,iN,mm,hb⟩:=hp;cases e2;have⟨g1,g2,g3,g4,g5,g6⟩:=Z2 ht;have⟨g7,g8⟩:=xK ht;have OY:=UZ dZ.set.len g7;rw[<-g8]at OY;have om:Fx L s t1:=cM.trans (mm.mono λy hy=>by rw[cB.1 hy];exact dZ.w5);rw[Dh,aq];cases b with
   |leaf x=>obtain⟨rfl,_⟩:=hb;rw[<-aQ];exact .mk ⟨t1,rfl,om⟩
   |cc x=>obtain⟨rfl,_⟩:=hb;rw[<-aQ];exact .mk ⟨t1,rfl,om⟩
   |queue x=>obtain⟨rfl,_⟩:=hb;rw[<-aQ];exact .mk ⟨t1,rfl,om⟩
   |dir x=>obtain⟨p,rfl,_⟩:=hb;rw[<-aQ];exact .mk ⟨t1,rfl,om⟩
   |none=>cases hb;rw[<-aQ];exact .mk ⟨t1,rfl,om⟩
   |node x=>
    obtain⟨px,rfl,KB,hxr,acm⟩:=hb;simp only at aQ;rw[Zyf];have O2:=Ij hxr;have vy: ∀t',Fx L s t'->uN K u1 e x=false->Ok (LN K s v L z1 p1 z2 p2 z3 p3 z4 p4 hd R) (some (.fp,t')):=λt' wL hf=>by
     rw[hf,af]at aQ;rw[<-aQ];exact .mk ⟨t',rfl,wL⟩
    have⟨c1,iZ⟩: ∃c1,(bif (x.kids.length:Int)==e.qU then(bif e.top then true else fu e.par x.bJ)else false)=c1:=⟨_,rfl⟩;have⟨c2,kJ⟩: ∃c2,(bif decide (x.bJ.slot<K.sup.used)then DR u1 x.bJ e.block else false)=c2:=⟨_,rfl⟩;have Xq:uN K u1 e x=(c1&&c2):=by unfold uN;rw[iZ,kJ]
    refine Ok.join λaW kL=>?_
    have hA: ∀t2,eD K t2 u1 L z1 p1 z2 p2 z3 p3 z4 p4 hd->Fx L s t2->lJ t2 po (bY out)->lJ t2 (some (bt,0)) (nM r.reverse)->Fz t2 px (ints x.kids)->Ok (LN K s v L z1 p1 z2 p2 z3 p3 z4 p4 hd R) (aW [.b c1] t2):=by
     intro t2 mj fX ah1 ah5 aiY;rw[kL];simp only[au,aq];cases c1 with
     |false=>
      rw[oN h n rfl];exact vy t2 fX (by rw[Xq];rfl)
     |true=>
     rw[tx h n rfl];rw[aq];rw[bd,Zo mj.cell rfl];rw[bg];refine Ok.join λbz Cw=>?_
     have hB:Ok (LN K s v L z1 p1 z2 p2 z3 p3 z4 p4 hd R) (bz [.b c2] t2):=by
      rw[Cw];simp only[au,aq];cases c2 with
      |false=>
       rw[oN h n rfl];exact vy t2 fX (by rw[Xq];rfl)
      |true=>
      rw[tx h n rfl];rw[Xq,vQ,ae]at aQ;simp only[aq,bd];rw[Zo mj.cell rfl];rw[bg];have pC:ar (u1.nodes+1)=u1.nodes+1:=Zc (by rw[g5];omega) (by rw[g5];omega);rw[pC,eO];have⟨t3,e3,wI,fD,ahE⟩:=mj.ajz (β:=ah) (u1.nodes+1);rw[e3];have ox:K.w∈L:=dZ.EM;have abG:Fx L s t3:=fX.trans (fD.mono λy hy=>by rw[cB.1 hy];exact ox);have gX: ∀b,s.length<=b->b∉[K.w]:=λb hb hm=>by rw[cB.1 hm]at hb;have:=Ej _ ox;omega
      have ah2:=ah1.fx fD λb hb=>gX b (JC b hb)
      have ab3:=ah5.fx fD λb hb=>gX b (yq b hb)
      have aiZ:=aiY.kp ahE;have⟨bo,t4,q1,q2,q3,q4,q5⟩:=ZxA (β:=ah) ah2 (sz:=4) (n:=out.length) (lim:=2199023255552) (fk x.bJ) (by omega) (Zt _) rfl;refine Eq.mpr (congrArg (Ok _) (q5 _)) ?_;have XB:qC s L hd u1.aM:=by rw[g2,uk];exact hW.aM
      have⟨oi,sK⟩:=wI.Pf XB Ej GD abG q3 JC;have ah6:=ab3.fx q3 λb hb hm=>Xb b hm hb
      have ai0:=aiZ.kp q4;have hs4:s.length<=t4.length:=sK.1;rw[Za];refine Zzu (s:=s) (n+1) rfl x px r t4 (some (bt,0)) ai0 acm ah6 (by simp at ui;omega) yq hs4 (by omega) (Kn:=λds=>bW 7 ds λaak aal st=>aL st<|bW 4 [.s 4 (some (bo,0)) (out.length+1),.s 7 aak aal] λuq sV st=>bW 7 st λaai aaj st=>aL st<|rec [.s 4 uq sV,.s 7 aai aaj]) ?_ 7 (.inl rfl);intro t5 pT z hz hT Od Cr;rw[Zg 7 z pT _ hz,aX,aq];have abo:bo∉aP (some (bt,0)):=λhm=>by
       have:=lJ.lt ab3 bo hm;omega
      have wT:=abG.1;have⟨GB,aho⟩:=oi.Pf XB Ej GD sK Cr yq;have ake:bo<t4.length:=(ef.1 q2).1;refine aN (room K.m u1.W) _ _ (by omega) ⟨f,out++[x.bJ],sS x x.kids.length++r, { u1 with nodes:=u1.nodes+1 },4,some (bo,0),7,pT,?_,.inl rfl,.inl rfl,aO _,(show room K.m u1.W<f by omega),GB,by show u1.aG=_;rw[g1,jc],by show u1.aM=_;rw[g2,uk],aho,.inr ⟨bo,[],rfl,?_⟩,hT,λb hb=>?_,λb hb=>(Od b hb).1,λb hb hm=>?_,?_,?_,?_,?_,aQ⟩
      .simp[T4,tm]
      .rw[gz,zP]
       have:=Cr.2 bo _ abo q2;simpa [bY]using this
      .rw[cB.1 hb];omega
      .rw[cB.1 hb]at hm
       rcases(Od bo hm).2 with h5|h5
       .exact abo h5
       .omega
      .show v.nodes<=u1.nodes+1
       rw[g5];omega
      .show u1.nodes+1+_<=_
       rw[g5];show u.nodes+1+(room K.m u1.W:Nat)<=_;omega
      .show(out++[x.bJ]).length+room K.m u1.W<=_
       simp;omega
      .show(sS x x.kids.length++r).length+12*room K.m u1.W<=_
       rw[bB,T4];simp at ui;omega
     cases aw:decide (x.bJ.slot<K.sup.used)with
     |false=>
      rw[aw,af]at kJ;rw[af,kJ];exact hB
     |true=>
      rw[aw,ae]at kJ;have ue:=mK aw;rw[ae,bd,Zo mj.cell rfl];show Ok _ (dr 3 (.s z1 p1 u1.aG.length) _ t2);rw[Z3 3 z1 p1 _ mj.e1];have AM:u1.aG.length=v.aG.length:=by rw[g1,jc]
      have⟨ks,yz⟩: ∃ks:Nat,x.bJ.slot=ks:=⟨x.bJ.slot.toNat,by omega⟩;have fY:ks<u1.aG.length:=by rw[AM];omega
      obtain⟨bs,rfl,vj⟩:=mj.o1.cH (by rw[ZB];omega);have mZ:u1.aG[ks]? =some u1.aG[ks]:=cq fY;unfold DR at kJ;rw[yz,bp,mZ]at kJ;rw[bd,yz,Zb (Zj fY),bp,Ml vj mZ];unfold eL;simp only[au,av,aq];simp only at kJ;rw[kJ];exact hB
    have hjL:K.j∈L:=dZ.w5;have hnj: ∀b,s.length<=b->b∉[K.j]:=λb hb hm=>by rw[cB.1 hm]at hb;have:=Ej _ hjL;omega
    have XZ:=ON.fx mm λb hb=>hnj b (JC b hb)
    have X0:lJ t1 (some (bt,0)) (nM r.reverse):= .inr ⟨bt,Gb e++rest,rfl,by
     rw[<-fI,<-Cj];exact mm.2 bt _ (hnj bt (yq bt (by simp[aP]))) abq⟩
    cases Ed:((x.kids.length:Int)==e.qU)with
    |false=>
     rw[Ed,af]at iZ;rw[af,iZ];exact hA t1 iN om XZ X0 KB
    |true=>
     rw[Ed,ae]at iZ;rw[ae];refine Ok.join λdp Ov=>?_
     cases htp:e.top with
     |true=>
      rw[htp,ae]at iZ;rw[ae,Ov];simp only[au,aq];rw[iZ];exact hA t1 iN om XZ X0 KB
     |false=>
      rw[htp,af]at iZ;rw[af];refine Ok.call (Zwy h.ai7 (n+1) (by omega) e.par x.bJ t1) ?_;rintro _ ⟨z,t2,rfl,aU,e2⟩;refine⟨_,t2,rfl,?_⟩;rw[Ov];simp only[av,au,aq];rw[e2,iZ];exact hA t2 (iN.pre aU) (om.trans (Fx.pre L aU)) (XZ.fx (Fx.pre [] aU) λ_ _ h=>by cases h) (X0.fx (Fx.pre [] aU) λ_ _ h=>by cases h) (KB.pre aU)
def e4 (e:bh):E4:=(e.slot,e.gen,e.key,e.value)
def C0 (x:E4):bh:=⟨x.1,x.2.1,x.2.2.1,x.2.2.2⟩
theorem Go.Gv.aa7: ∀(l:List bh),Go.Gv.Aj (bY l)=some (l.map e4)
 |[]=>rfl
 |e::l=>by
  show(match Go.Gv.Aj (bY l)with|some l=>some ((e.slot,e.gen,e.key,e.value)::l)|none=>none)=_;rw[Go.Gv.aa7 l];rfl
theorem Znm: ∀(l:List E4),mO l=bY (l.map C0)
 |[]=>rfl
 |x::l=>by
  show sy x++mO l=_;rw[Znm l];rfl
def lB (l:List bh):List bh:=(jC (l.map e4)).map C0
theorem UC (l:List bh):(lB l).length=l.length:=by simp[lB,lG,Uc]
theorem ZoR (l:List bh):(lB l).Perm l:=by
 unfold lB;have:=(Ig (l.map e4)).map C0;rwa [zw,show C0∘e4=id from rfl,List.map_id]at this
theorem Vl {x y:E4} (h:x.1≠y.1):(fL x y||fL y x)=true:=by
 rw[lV,DN,DN];omega
theorem Sp: ∀ {l:List bh},Diff l->DP (l.map e4)=true
 |[],_=>rfl
 |e::l,.cons h1 h2=>by
  show((l.map e4).all (λy=>fL (e4 e) y||fL y (e4 e))&&DP (l.map e4))=true;rw[Sp h2,vQ,vT];intro y hy;obtain⟨z,hz,rfl⟩:=pK.1 hy;exact Vl (h1 z hz)
variable {Bd:Zh} [h:HA Bd]
theorem Zzd (n:Nat) (l:List bh) (p:ai) (st:St) (hs:lJ st p (bY l)) (hd:Diff l) (hl:l.length<=1000000):
  ∃s',run Bd (n+1) 232 [.s 4 p l.length,.func 159 [] []] st=some (.val [],s')/\lJ s' p (bY (lB l))/\Fx (aP p) st s':=by
 rw[Ze,h.afd];unfold IC;rcases hs with⟨rfl,hx⟩|⟨b,rest,rfl,hb⟩
 .have h0:l.length=0:=by
   have:=congrArg List.length hx;rw[Zt]at this;rw[Bh]at this;omega
  have h1:l=[]:=zu.1 h0;subst h1;exact⟨st,rfl,.inl ⟨rfl,rfl⟩,.refl _ _⟩
 .have eC:st.ik b=some (bY l++rest):=by grind[St.ik]
  simp only[eC];rw[gA (by rw[bB,Zt];omega),ae,dK,<-Zt,Fc,Go.Gv.aa7];simp only[Sp hd,gA hl,Bool.and_self,ae];have pA:mO (jC (l.map e4))=bY (lB l):=Znm _;rw[pA];have lR:=tF [] (bY l) rest (bY (lB l)) (by rw[Zt,Zt,UC]);rw[jH,jH]at lR;refine⟨_,rfl,.inr ⟨b,rest,rfl,?_⟩,Fx.set st b _⟩;rw[kZ (ef.1 hb).1];grind
def dj (x:cy) (p:ai):ah:=[.i x.seq,.i x.blocks,.i x.de,.i x.g,.i x.cc,.i x.used,.i x.free,.i x.dir,.s 1 p x.aJ.length]
def nK (x:cy) (k:Int):Bool:=bif decide (k>=2)then decide (k<x.blocks)else false
def qD (x:cy):Bool:=(List.range x.aJ.length).all λi=>nK x (x.aJ.getD i 0)&& !decide (x.aJ.getD i 0∈x.aJ.take i)
def ZU (x:cy):Bool:=
 !(decide (x.seq<1)||(decide (x.seq>4611686018427387904)||(!oY x.blocks x.de x.g||(decide (x.used<0)||(decide (x.used>x.de)||(decide (x.free<0)||decide (x.free>x.used)))))))&&
 (!((bif x.used==0 then !(x.cc==0)else false)||((bif decide (x.used>0)then !nK x x.cc else false)||((bif !(x.dir==0)then !nK x x.dir else false)|| !((x.aJ.length:Int)==BK x.blocks x.de x.g))))&&qD x)
theorem ZnW (n:Nat) (x:cy) (p:ai) (b:Nat) (k:Int) (st:St) (hb:st[b]? =some (some ⟨false,dj x p⟩)):
  run Bd (n+1) 221 [.i k,.p (some (b,0))] st=some (.val [.b (nK x k)],st):=by
 rw[Ze,h.ae3];unfold Rt jh aA Zm Lb nK
 try dsimp only
 rw[av,eH,aq,Za,bd];cases decide (k>=2)with
 |false=>rfl
 |true=>
  rw[ae,ae,Zo hb (d:= .i x.blocks) rfl];rfl
theorem ZkD (n:Nat) (x:cy) (p:ai) (st:St) (hs:Sl st p (ints x.aJ)) (hl:x.aJ.length<1000) (hn:x.aJ.length+10<=n):
  run Bd n 197 [.a (dj x p)] st=some (.val [.b (ZU x)],st++[some ⟨false,dj x p⟩]):=by
 obtain⟨n,rfl⟩: ∃k,n=k+3:=⟨n-3,by omega⟩;rw[Ze,h.aeJ];unfold RQ xD Zm aA Q_ cN Zn bq Zip tp Lb Li dY uR ZU
 try dsimp only
 have hb:(st++[some (⟨false,dj x p⟩:bO)])[st.length]? =some (some ⟨false,dj x p⟩):=by simp
 have eX:=hs.mono (aB.new st (some (⟨false,dj x p⟩:bO)));have Au:=λk=>ZnW (n+1) x p st.length k _ hb
 have ld: ∀(k:Nat) (d:DV),(dj x p)[k]? =some d->∀Kc:DV->M ah,bD st.length k Kc (st++[some (⟨false,dj x p⟩:bO)])=Kc d (st++[some (⟨false,dj x p⟩:bO)]):=λk d e Kc=>Zo hb e Kc
 have YH: ∀Kc:ah->M ah,bS st.length 1 3 Kc (st++[some (⟨false,dj x p⟩:bO)])=Kc [.i x.blocks,.i x.de,.i x.g] (st++[some (⟨false,dj x p⟩:bO)]):=λKc=>by
  rw[Z8 hb (by show 1+3<=9;omega)];rfl
 show ba [.a (dj x p)] _ st=_;rw[cT];unfold dj;simp only[av,aX,aq];rw[Zz];change _=some (Out.val _,st++[some (⟨false,dj x p⟩:bO)]);have ny:([.i x.seq,.i x.blocks,.i x.de,.i x.g,.i x.cc,.i x.used,.i x.free,.i x.dir,.s 1 p x.aJ.length]:ah)=dj x p:=rfl;rw[ny];generalize (st++[some (⟨false,dj x p⟩:bO)])=s1 at hb eX Au ld YH⊢;rw[ld 0 (.i x.seq) rfl];rw[bg];refine ok_eq ?_;have⟨F1,hF1⟩: ∃F1,(decide (x.seq<1)||(decide (x.seq>4611686018427387904)||(!oY x.blocks x.de x.g||(decide (x.used<0)||(decide (x.used>x.de)||(decide (x.free<0)||decide (x.free>x.used)))))))=F1:=⟨_,rfl⟩;have⟨F2,hF2⟩: ∃F2,((bif x.used==0 then !(x.cc==0)else false)||((bif decide (x.used>0)then !nK x x.cc else false)||((bif !(x.dir==0)then !nK x x.dir else false)|| !((x.aJ.length:Int)==BK x.blocks x.de x.g))))=F2:=⟨_,rfl⟩;rw[hF1,hF2];refine Ok.join λaz h1=>?_
 have A1: ∀b,(decide (x.seq<1)||decide (x.seq>4611686018427387904))=b->Ok (λp=>p=(Out.val [DV.b (!F1&&(!F2&&qD x))],s1)) (az [.b b] s1):=by
  intro b1 e1;rw[h1];simp only[au,aq];refine Ok.join λaI h2=>?_
  have A2: ∀b,(b1|| !oY x.blocks x.de x.g)=b->Ok (λp=>p=(Out.val [DV.b (!F1&&(!F2&&qD x))],s1)) (aI [.b b] s1):=by
   intro b2 e2;rw[h2];simp only[au,aq];refine Ok.join λaW h3=>?_
   have A3: ∀b,(b2||decide (x.used<0))=b->Ok (λp=>p=(Out.val [DV.b (!F1&&(!F2&&qD x))],s1)) (aW [.b b] s1):=by
    intro b3 e3;rw[h3];simp only[au,aq];refine Ok.join λbz h4=>?_
    have A4: ∀b,(b3||decide (x.used>x.de))=b->Ok (λp=>p=(Out.val [DV.b (!F1&&(!F2&&qD x))],s1)) (bz [.b b] s1):=by
     intro b4 e4;rw[h4];simp only[au,aq];refine Ok.join λck h5=>?_
     have A5: ∀b,(b4||decide (x.free<0))=b->Ok (λp=>p=(Out.val [DV.b (!F1&&(!F2&&qD x))],s1)) (ck [.b b] s1):=by
      intro b5 e5;rw[h5];simp only[au,aq];refine Ok.join λdp h6=>?_
      have A6: ∀b,(b5||decide (x.free>x.used))=b->Ok (λp=>p=(Out.val [DV.b (!F1&&(!F2&&qD x))],s1)) (dp [.b b] s1):=by
       intro b6 e6;rw[h6];simp only[au,aq];have yp:F1=b6:=by rw[<-hF1,<-e6,<-e5,<-e4,<-e3,<-e2,<-e1];grind
       cases b6 with
       |true=>rw[ae,Zd,yp];exact .mk rfl
       |false=>
        rw[af,yp,bn,dF,ld 5 (.i x.used) rfl];rw[bg];refine Ok.join λgN h7=>?_
        have B7: ∀b,(bif x.used==0 then !(x.cc==0)else false)=b->Ok (λp=>p=(Out.val [DV.b (!F2&&qD x)],s1)) (gN [.b b] s1):=by
         intro b7 e7;rw[h7];simp only[au,aq];refine Ok.join λiC h8=>?_
         have B8: ∀b,(b7||(bif decide (x.used>0)then !nK x x.cc else false))=b->Ok (λp=>p=(Out.val [DV.b (!F2&&qD x)],s1)) (iC [.b b] s1):=by
          intro b8 e8;rw[h8];simp only[au,aq];refine Ok.join λiD h9=>?_
          have B9: ∀b,(b8||(bif !(x.dir==0)then !nK x x.dir else false))=b->Ok (λp=>p=(Out.val [DV.b (!F2&&qD x)],s1)) (iD [.b b] s1):=by
           intro b9 e9;rw[h9];simp only[au,aq];refine Ok.join λko N3=>?_
           have B10: ∀b,(b9|| !((x.aJ.length:Int)==BK x.blocks x.de x.g))=b->Ok (λp=>p=(Out.val [DV.b (!F2&&qD x)],s1)) (ko [.b b] s1):=by
            intro BY Jq;rw[N3];simp only[au,aq];have abm:F2=BY:=by rw[<-hF2,<-Jq,<-e9,<-e8,<-e7];simp only[Bool.or_assoc]
            cases BY with
            |true=>rw[ae,Zd,abm];exact .mk rfl
            |false=>
             rw[af,abm,bn,dF,ld 8 (.s 1 p x.aJ.length) rfl];rw[kb];rw[Za];refine Zi _ (λq y s=>∃i:Nat,y=[.i i]/\i<=x.aJ.length/\x.aJ.length-i<=q/\s=s1/\((List.range i).all λi=>nK x (x.aJ.getD i 0)&& !decide (x.aJ.getD i 0∈x.aJ.take i))=true) ?_ x.aJ.length (n+2) _ _ ⟨0,rfl,by omega,by omega,rfl,rfl⟩ (by omega);rintro q _ s ⟨i,rfl,hi,hq,rfl,dt⟩ rec aN;simp only[av,aq];by_cases aw:i<x.aJ.length
             .obtain⟨i1,o1,rfl⟩:=eX.cH (by simp[ints];omega)
              rw[ax (by omega),ae,bd,Zb (Zj aw),bp,eX.dJ (ZD aw)];rw[bg];have hw:ar ((i:Int)+1)=((i+1:Nat):Int):=Zc;have yw:x.aJ.getD i 0=x.aJ[i]:=by rw[dW,cq aw];rfl
              have cA:(nK x x.aJ[i]&& !decide (x.aJ[i]∈x.aJ.take i))=false->qD x=false:=λe=>List.all_eq_false.2 ⟨i,ux.2 aw,by rw[yw,e];decide⟩
              rw[Zk (Au x.aJ[i])];simp only[au,aq,Za];cases hb:nK x x.aJ[i]with
              |false=>
               rw[bn,ae];rw[ae,Zd,cA (by rw[hb];rfl)];exact .mk rfl
              |true=>
               rw[bu,af,ld 8 (.s 1 (some (i1,o1)) x.aJ.length) rfl];rw[kb];rw[Zb (by rw[aY,br,br];omega)];have Ym:(x.aJ.take i).length=i:=by rw[cX];omega
               have cg:Sl s (some (i1,o1)) (ints (x.aJ.take i)):=by
                have:=Sl.lC eX i;rwa [show(ints x.aJ).take i=ints (x.aJ.take i) by unfold ints;rw[List.map_take]]at this
               have hc:=Zju (n+2) (x.aJ.take i) x.aJ[i] _ s cg (by omega) (by omega);rw[Ym]at hc;rw[Zk hc];rw[au,aq];cases hm:decide (x.aJ[i]∈x.aJ.take i)with
               |true=>
                rw[ae,Zd,cA (by rw[hb,hm];rfl)];exact .mk rfl
               |false=>
                rw[af,hw];refine aN (x.aJ.length-(i+1)) _ _ (by omega) ⟨i+1,rfl,by omega,aO _,rfl,?_⟩;rw[qy,tj,dt,vS,List.all_nil,yw,hb,hm];rfl
             .rw[aF (by omega),af,Zd]
              rw[show i=x.aJ.length by omega]at dt;unfold qD;rw[dt];exact .mk rfl
           cases b9 with
           |true=>rw[ae];exact B10 true rfl
           |false=>
            rw[af,ld 8 (.s 1 p x.aJ.length) rfl];rw[kb];rw[YH];simp only[av,aq];rw[qG (ZpU n x.blocks x.de x.g s1) (.refl s1)];rw[av,aq];exact B10 _ rfl
          cases b8 with
          |true=>rw[ae];exact B9 true rfl
          |false=>
           rw[af,ld 7 (.i x.dir) rfl];rw[bg];rw[Za];cases hd:(!(x.dir==0))with
           |false=>rw[af];simp only[au,aq];exact B9 _ (by rw[hd];rfl)
           |true=>
            rw[ae,ld 7 (.i x.dir) rfl];rw[bg];rw[Zk (Au x.dir)];rw[au,aq];exact B9 _ (by rw[hd];rfl)
         cases b7 with
         |true=>rw[ae];exact B8 true rfl
         |false=>
          rw[af,ld 5 (.i x.used) rfl];rw[bg];rw[Za];cases hd:decide (x.used>0)with
          |false=>rw[af];simp only[au,aq];exact B8 _ (by rw[hd];rfl)
          |true=>
           rw[ae,ld 4 (.i x.cc) rfl];rw[bg];rw[Zk (Au x.cc)];rw[au,aq];exact B8 _ (by rw[hd];rfl)
        cases hu:(x.used==0)with
        |true=>rw[ae,ld 4 (.i x.cc) rfl];rw[bg];exact B7 _ (by rw[hu];rfl)
        |false=>rw[af];exact B7 _ (by rw[hu];rfl)
      cases b5 with
      |true=>rw[ae];exact A6 true rfl
      |false=>rw[af,ld 6 (.i x.free) rfl];rw[bg];rw[ld 5 (.i x.used) rfl];rw[bg];exact A6 _ rfl
     cases b4 with
     |true=>rw[ae];exact A5 true rfl
     |false=>rw[af,ld 6 (.i x.free) rfl];rw[bg];exact A5 _ rfl
    cases b3 with
    |true=>rw[ae];exact A4 true rfl
    |false=>rw[af,ld 5 (.i x.used) rfl];rw[bg];rw[ld 2 (.i x.de) rfl];rw[bg];exact A4 _ rfl
   cases b2 with
   |true=>rw[ae];exact A3 true rfl
   |false=>rw[af,ld 5 (.i x.used) rfl];rw[bg];exact A3 _ rfl
  cases b1 with
  |true=>rw[ae];exact A2 true rfl
  |false=>
   rw[af,YH];simp only[av,aq];rw[Zk (ZlG (n+1) x.blocks x.de x.g s1)];rw[au,aq];exact A2 _ rfl
 cases hc:decide (x.seq<1)with
 |true=>rw[ae];grind
 |false=>rw[af,ld 0 (.i x.seq) rfl];rw[bg];grind
def l8 (K:bL):Int->ak->List bh->aS->Option (List bh×aS)
 |_,[],acc,v=>some (acc,v)
 |k,y::r,acc,v=>bif !(y==0)then(match rH K y k v with
   |none=>none
   |some (out,v')=>l8 K (k+1) r (acc++out) v')else l8 K (k+1) r acc v
def Ad (v:aS) (k:Nat) (nm:aj):Bool:=bif decide (k=0)then true else(match v.aM[k-1]? with
 |none=>false
 |some x=>decide (cmpL (dB x.name) (dB nm)<0))
def tP (K:bL):Nat->ak->aS->Option aS
 |_,[],v=>some v
 |k,y::r,v=>match dO K y v with
  |some (.queue q,v1)=>bif Ad v1 k q.name then(match l8 K 0 q.dz [] v1 with
   |none=>none
   |some (es,v2)=>tP K (k+1) r { v2 with aM:=v2.aM++[⟨q.name,lB es⟩] })else none
  |_=>none
def qM (K:bL) (v:aS):Option aS:=bif K.sup.dir==0 then some v else(match dO K K.sup.dir v with
 |some (.dir x,v')=>tP K 0 x v'
 |_=>none)
def qo (m:Nat):aS:=⟨jd m [0,1],[],[],[],[],0⟩
def tf (K:bL):Option aS:=match oa K (qo K.m)with
 |none=>none
 |some v1=>match sE K v1 with
  |none=>none
  |some v2=>match qM K v2 with
   |none=>none
   |some v3=>bif decide ((yN v3:Int)=v3.nodes)then some (um v3)else none
theorem It {K:bL} : ∀ {l:ak} {k:Int} {acc es:List bh} {v v':aS},v.W.length=(K.m+63)/64->l8 K k l acc v=some (es,v')->(∀e∈acc,uE v e)->Diff acc->(∀e∈es,uE v' e)/\Diff es/\v'.W.length=(K.m+63)/64/\v'.aG=v.aG/\v'.aM=v.aM/\v'.aK=v.aK/\v'.free=v.free
 |[],_,_,_,_,_,hl,h,h1,h2=>by cases h;grind
 |y::r,k,acc,es,v,v',hl,h,h1,h2=>by
  unfold l8 at h;cases hy:(!(y==0))with
  |false=>rw[hy,af]at h;exact It hl h h1 h2
  |true=>
   rw[hy,ae]at h;cases ht:rH K y k v with
   |none=>rw[ht]at h;cases h
   |some q=>
    have⟨out,v1⟩:=q;rw[ht]at h;have⟨a1,a2,a3,_,a5,a6,a7,a8⟩:=Iz (acc:=acc) hl ht (by simpa using h1) (by simpa using h2);have⟨b1,b2,b3,b4,b5,b6,b7⟩:=It a3 h a1 a2;grind
theorem adB {a:ai} (h:lJ s a cs) {n:Nat} (ds:ah) (hz:0<sz) (hn:cs.length=n*sz) (hd:ds.length=m*sz) (hl:n+m<=lim):
  ∃a' s',lJ s' a' (cs++ds)/\Fx (aP a) s s'/\Kp s s'/\(∀b∈aP a',b∈aP a\/s.length<=b)/\∀K:ai->M β,cm sz a n ds m lim K s=K a' s':=by
 by_cases hm:m=0
 .subst hm
  have:ds=[]:=by grind
  subst this;exact⟨a,s,by rwa [gz],.refl _ _,.refl _,λ_ h=> .inl h,λK=>rfl⟩
 .have hb:Nat.beq m 0=false:=by cases m with|zero=>exact absurd rfl hm|succ m=>rfl
  rcases h with⟨rfl,rfl⟩|⟨i,rest,rfl,hs⟩
  .have h0:n=0:=by
    rcases HF.1 (show n*sz=0 by simpa using hn.symm)with h|h
    .exact h
    .omega
   subst h0;refine⟨some (s.length,0),s++[some (⟨false,ds⟩:bO)],.inr (by simp),Fx.pre _ (aB.new _ _),(aB.new _ _).kp,λb hb=> .inr (by rw[cB.1 hb];exact aO _),λK=>?_⟩;unfold cm;rw[hb,gA hl,ae,af];rfl
  .have eC:s.ik i=some (cs++rest):=by grind[St.ik]
   refine⟨some (s.length,0),s.set i none++[some (⟨false,cs++ds⟩:bO)],.inr (by simp),⟨by simp,λy x hy e=>?_⟩,(Kp.set hs none).trans (aB.new _ _).kp,λb hb=> .inr (by rw[cB.1 hb];exact aO _),λK=>?_⟩
   .have hyl:=(ef.1 e).1
    have dM:i≠y:=λe=>hy (by simp[aP,e])
    rw[mH (by simp;omega),jv dM];exact e
   .unfold cm
    simp only[hb,gA hl,ae,af,eC];rw[eO,gA (by rw[bB];omega),ae,dK,<-hn,Fc]
theorem ZxS {Bd:Zh} (hT:HA Bd) (n:Nat) (hK:Dq K) (nm:aj) (x:ak) (hx:x.length=12) (s0:St) (L0:al) (hW:eD K s v L z1 p1 z2 p2 z3 p3 z4 p4 hd) (vo:Fx L0 s0 s) (Em:Nw L0 s0 L) (h0:0<=K.sup.used) (h1:K.sup.used<=1792) (hs:(v.aG.length:Int)=K.sup.used) (jo:0<=v.nodes) (hnr:v.nodes+(room K.m v.W:Nat)<=5000) (hm:K.m<=3072) (hn:4020<=n)
  (R:Option aS) (Kn:ah->M ah)
  (cA:l8 K 0 x [] v=none->R=none)
  (aQ: ∀es w,l8 K 0 x [] v=some (es,w)->∀t p z,(z=4\/p=none)->eD K t w L z1 p1 z2 p2 z3 p3 z4 p4 hd->Fx L s t->lJ t p (bY es)->(∀b∈aP p,s.length<=b)->w.nodes+(room K.m w.W:Nat)<=v.nodes+(room K.m v.W:Nat)->v.nodes<=w.nodes->es.length<=50000->Ok (rZ K s0 L0 R []) (Kn [.a [.t nm,.s 4 p es.length]] t)):
  Ok (rZ K s0 L0 R []) (cS (λdw st=>
      ba st λkF st=>
      eR kF λh2 r=>
      bW 4 r λh3 As r=>
      aL r<|
      aD .i64 st λcV st=>
      aL st<|
      bif decide (cV<12)then
       aC (aR cV 12)<|
      eJ (ints x) (cV.toNat*1) λd6=>
      cY .i64 d6 λeB=>
      cK (λst=>
       ba st λnr st=>
      eR nr λh4 r=>
      bW 4 r λh5 WM r=>
      aL r<|
      aL st<|
      dw [.a [.t h4,.s 4 h5 WM],.i (ar (cV+1))]) λck=>
      bif !(eB==0)then
       cQ (run Bd n 233 [.p (some (K.w,0)),.i eB,.i cV]) λds=>
      bW 4 ds λfj pI ds=>
      aL ds<|
      dy fj (pI*4) λxZ=>
      cm 4 h3 As xZ pI 2199023255552 λp1=>
      ck [.a [.t h2,.s 4 p1 (As+pI)]]
      else
       ck [.a [.t h2,.s 4 h3 As]]
      else
       Kn [.a [.t h2,.s 4 h3 As]]) n [.a [.t nm,.s 0 none 0],.i 0] s):=by
 have Ej:=hW.lt;have GD: ∀b o,K.a=some (b,o)->b<s.length:=λb o e=>Sl.lt (e▸hW.img)
 have⟨G,hG⟩: ∃G,l8 K 0 x [] v=G:=⟨_,rfl⟩;rw[hG]at aQ cA;refine Zi _ (λq y t=>∃(i:Nat) (acc:List bh) (u:aS) (z:Nat) (p:ai),y=[.a [.t nm,.s z p acc.length],.i i]/\(z=4\/p=none)/\i<=12/\12-i<=q/\eD K t u L z1 p1 z2 p2 z3 p3 z4 p4 hd/\u.aG=v.aG/\u.aM=v.aM/\Fx L s t/\lJ t p (bY acc)/\(∀b∈aP p,s.length<=b)/\v.nodes<=u.nodes/\u.nodes+(room K.m u.W:Nat)<=v.nodes+(room K.m v.W:Nat)/\acc.length<=4000*i/\l8 K i (x.drop i) acc u=G) ?_ 12 n _ _ ⟨0,[],v,0,none,rfl,.inr rfl,by omega,by omega,hW,rfl,rfl,.refl L s,.inl ⟨rfl,rfl⟩,λ_ h=>(by cases h),Int.le_refl _,Int.le_refl _,by simp,by simpa using hG⟩ (by omega);rintro q _ t ⟨i,acc,u,z,p,rfl,hz,hi,hq,dZ,jc,uk,cM,eC,Ci,J5,J6,Aw,ec⟩ rec aN;simp only[cT,bR,av,Zg 4 z p _ hz,aq,Za];by_cases aw:i<12
 .have fW:x.drop i=(x[i]'(by omega))::x.drop (i+1):=iV (by omega)
  rw[fW]at ec;rw[ax (show(i:Int)<12 by omega),ae,Zb (show aR (i:Int) 12=true from Zj aw),bp,cR,gZ (ZD)];rw[bg];generalize x[i]'(by omega)=y at ec;have hw:ar ((i:Int)+1)=((i+1:Nat):Int):=Zc;have tW:((i+1:Nat):Int)=(i:Int)+1:=by omega
  rw[hw];unfold l8 at ec;cases hy:(!(y==0))with
  |false=>
   rw[hy,af]at ec;rw[af];exact aN (12-(i+1)) _ _ (by omega) ⟨i+1,acc,u,4,p,rfl,.inl rfl,by omega,aO _,dZ,jc,uk,cM,eC,Ci,J5,J6,by omega,by rw[tW];exact ec⟩
  |true=>
   rw[hy,ae]at ec;rw[ae];have mY:Fx L0 s0 t:=vo.step cM Em;refine Ok.wv (ZzD hT n hK y i dZ h0 h1 (by rw[jc];exact hs) (by omega) (by omega) hm (by omega)) ?_ ?_
   .intro t' hp
    cases ht:rH K y i u with
    |some q=>rw[ht]at hp;have⟨_,_,_,e,_⟩:=hp;cases e
    |none=>
     rw[ht]at hp ec;have⟨t2,e,mW⟩:=hp;cases e;rw[cA ec.symm];exact⟨t',rfl,mY.step mW Em⟩
   .intro ds t' hp
    cases ht:rH K y i u with
    |none=>rw[ht]at hp;have⟨_,e,_⟩:=hp;cases e
    |some q=>
     have⟨out,u1⟩:=q;rw[ht]at hp ec;have⟨po,zo,t2,e,Yz,iN,mm,ON,JC,akx,akw,hZ⟩:=hp;cases e;simp only at ec;have⟨_,_,_,_,a5,a6,_,_⟩:=Iz (acc:=[]) dZ.set.len ht (λ_ h=>by cases h) .nil;rw[Zg 4 zo po _ Yz,aq];have dA:Sl t' po (bY out):=by
      rcases ON with⟨rfl,h2⟩|⟨b,rest,rfl,h2⟩
      .exact h2
      .exact⟨false,_,h2,by rw[bB];omega,by rw[dK,Fc]⟩
     have lQ:=iR (β:=ah) dA;rw[Zt]at lQ;rw[lQ];have ah4:=eC.fx mm λb hb lz=>by have:=Ej b lz;have:=Ci b hb;omega
     have⟨pa,t3,b1,b2,b3,b4,b5⟩:=adB (β:=ah) ah4 (sz:=4) (n:=acc.length) (m:=out.length) (lim:=2199023255552) (bY out) (by omega) (Zt _) (Zt _) (by omega);rw[b5];have om:Fx L s t':=cM.trans mm;have⟨wI,fD⟩:=iN.Pf (by rw[a6,uk];exact hW.aM) Ej GD om b2 Ci;refine aN (12-(i+1)) _ _ (by omega) ⟨i+1,acc++out,u1,4,pa,by rw[bB],.inl rfl,by omega,aO _,wI,a5.trans jc,a6.trans uk,fD,by rw[zP];exact b1,λb hb=>?_,by omega,by omega,by rw[bB];omega,by rw[tW];exact ec⟩;rcases b4 b hb with h5|h5
     .exact Ci b h5
     .have:=om.1;omega
 .rw[aF (show ¬(i:Int)<12 by omega),af]
  rw[lW (by omega)]at ec;exact aQ acc u ec.symm t p 4 (.inl rfl) dZ cM eC Ci J6 J5 (by omega)
theorem RO {x:ZH} (h:ZJ l=some x):x.name.length<=24/\mQ x=true:=by
 unfold ZJ at h;split at h
 .cases h
 .rename_i k t b _
  cases e:(decide (k=5)&&(decide (t<=24)&&ZE (b.drop (28+t))))with
  |false=>rw[e]at h;cases h
  |true=>
   rw[e]at h;cases e2:mQ (Z9 b t)with
   |false=>rw[e2]at h;cases h
   |true=>
    rw[e2]at h;cases h;rw[aY,aY,br]at e;refine⟨?_,e2⟩;have:=mK e.2.1;show((b.drop 28).take t).length<=24;rw[cX];omega
theorem Zmb {x:ZH} (h:ZV l= .queue x):ZJ l=some x:=by
 grind[ZV]
theorem UG {b:xr} (h:dO K k v=some (b,v')):ZV (ZG K.img k.toNat)=b:=by
 grind[dO]
theorem Zy0 (pn:M β) (p:ai) (m:Nat) (Kc:ai->Nat->M β):uY pn (.iface 3 (.a [.s 1 p m])) 3 (λd=>tL d λcs=>bW 1 cs λx xn r=>aL r<|Kc x xn)=Kc p m:=rfl
theorem Zxr (pn:M β) (q:ZH) (Kc:aj->Int->ah->M β):uY pn (.iface 4 (.a (Z0 q))) 4 (λd=>tL d λcs=>eR cs λx7 r1=>aD .i64 r1 λx8 r2=>Kc x7 x8 r2)=Kc q.name q.mask (ints q.dz):=rfl
theorem U1 {K:bL} : ∀ {l:ak} {k:Nat} {v v':aS},v.W.length=(K.m+63)/64->tP K k l v=some v'->v'.aG=v.aG/\v'.aK=v.aK/\v'.free=v.free/\v'.aM.length=v.aM.length+l.length
 |[],_,_,_,_,h=>by cases h;simp
 |y::r,k,v,v',hl,h=>by
  unfold tP at h;split at h
  .rename_i q v1 ht
   cases hn:Ad v1 k q.name with
   |false=>rw[hn]at h;cases h
   |true=>
    rw[hn,ae]at h;have⟨g1,g2,g3,g4,g5,g6⟩:=Z2 ht;split at h
    .cases h
    .rename_i es v2 hh
     have⟨_,_,b3,b4,b5,b6,b7⟩:=It (by rw[(xK ht).2,oM];exact hl) hh (λ_ h=>by cases h) .nil;have⟨c1,c2,c3,c4⟩:=U1 (by exact b3) h;grind
  .cases h
theorem bm.Pr {a:ai} (h:bm [] s a cs): ∀b∈aP a,∃c,s[b]? =some (some ⟨false,c⟩):=by
 rcases h.2 with⟨rfl,_⟩|⟨i,rfl,_,h3⟩
 .intro b hb;cases hb
 .intro b hb;rw[cB.1 hb];exact⟨_,h3⟩
theorem eD.kp (h:eD K s v L z1 p1 z2 p2 z3 p3 z4 p4 hd) (k:Fx L s s'):Kp s s':=by
 intro i all e;refine k.2 i _ (λhm=>?_) e;have ho: ∃c,s[i]? =some (some ⟨false,c⟩):=by
  rw[h.own]at hm;simp only[eF,gx]at hm;rcases hm with rfl|rfl|rfl|hm|hm|hm|hm
  .exact⟨_,h.cell⟩
  .exact⟨_,h.set.hd⟩
  .exact⟨_,h.set.wd⟩
  .exact h.o1.Pr i hm
  .exact h.o2.Pr i hm
  .exact h.o3.Pr i hm
  .exact h.o4.Pr i hm
 grind
theorem ZwN (n:Nat) (hK:Dq K) (hW:Wk K s v L) (h0:0<=K.sup.used) (h1:K.sup.used<=1792) (hs:(v.aG.length:Int)=K.sup.used) (jo:0<=v.nodes) (hnr:v.nodes+(room K.m v.W:Nat)<=5000) (hm:K.m<=3072) (hh:v.aM=[]) (hn:4030<=n):
  Ok (rZ K s L (qM K v) []) (run Bd n 231 [.p (some (K.w,0))] s):=by
 obtain⟨n,rfl⟩: ∃k,n=k+2:=⟨n-2,by omega⟩;rw[Ze,h.afc];unfold Qo jh Zm uC bV Q_ cN Zn aA C_ cP cw ix Li Lb
 try dsimp only
 have⟨R,hR⟩: ∃R,qM K v=R:=⟨_,rfl⟩;rw[hR];unfold qM at hR;simp only[eH,aq,bd];have⟨z1,p1,z2,p2,z3,p3,z4,p4,hd,hW⟩:=hW;rw[Zo hW.cell rfl];show Ok _ (cY .i64 (.i K.sup.dir) _ s);rw[bg];cases yu:(K.sup.dir==0)with
 |true=>
  rw[yu,ae]at hR;rw[ae,<-hR,Zd];exact .mk ⟨s,L,rfl,hW.wk,.refl L s,.refl L s⟩
 |false=>
 rw[yu,af]at hR;rw[af,Zo hW.cell rfl];show Ok _ (cY .i64 (.i K.sup.dir) _ s);rw[bg];refine Ok.wv (hW.take h (n+1) K.sup.dir hK.m hK.Ge hK.len (by omega)) ?_ ?_
 .intro s' hp
  cases ht:dO K K.sup.dir v with
  |none=>rw[ht]at hp hR;cases hp;rw[<-hR];exact⟨s,rfl,.refl L s⟩
  |some q=>rw[ht]at hp;grind
 intro ds s1 hp;cases ht:dO K K.sup.dir v with
 |none=>rw[ht]at hp;cases hp
 |some q=>
 have⟨b,v1⟩:=q;rw[ht]at hp hR;have⟨d,s2,e2,iN,mm,hb⟩:=hp;cases e2;have⟨g1,g2,g3,g4,g5,g6⟩:=Z2 ht;have⟨g7,g8⟩:=xK ht;have OY:=UZ hW.set.len g7;rw[<-g8]at OY;have om:Fx L s s1:=mm.mono λy hy=>by rw[cB.1 hy];exact hW.w5
 rw[Dh,aq];cases b with
 |leaf x=>obtain⟨rfl,_⟩:=hb;rw[<-hR];exact .mk ⟨s1,rfl,om⟩
 |cc x=>obtain⟨rfl,_⟩:=hb;rw[<-hR];exact .mk ⟨s1,rfl,om⟩
 |queue x=>obtain⟨rfl,_⟩:=hb;rw[<-hR];exact .mk ⟨s1,rfl,om⟩
 |node x=>obtain⟨p,rfl,_⟩:=hb;rw[<-hR];exact .mk ⟨s1,rfl,om⟩
 |none=>cases hb;rw[<-hR];exact .mk ⟨s1,rfl,om⟩
 |dir x=>
 obtain⟨px,rfl,KB,akL⟩:=hb;simp only at hR;rw[Zy0];rw[Za];refine Zi _ (λq y t=>∃(i:Nat) (u:aS) (Lu:al),y=[.i i]/\i<=x.length/\x.length-i<=q/\Wk K t u Lu/\Fx L s t/\Nw L s Lu/\Fz t px (ints x)/\u.aG=v.aG/\u.aM.length=i/\(∀g∈u.aM,g.name.length<=24)/\v.nodes<=u.nodes/\u.nodes+(room K.m u.W:Nat)<=v.nodes+(room K.m v.W:Nat)/\tP K i (x.drop i) u=R) ?_ x.length (n+1) _ _ ⟨0,v1,L,rfl,cz _,by omega,iN.wk,om,.refl L s,KB,g1,by rw[g2,hh];rfl,(by rw[g2,hh];intro _ h;cases h),by rw[g5];omega,by rw[g5];omega,by simpa using hR⟩ (by omega);rintro q _ t ⟨i,u,Lu,rfl,hi,hq,dZ,fK,jY,EE,jc,uk,hun,J5,J6,aQ⟩ rec aN;have⟨y1,r1,y2,r2,y3,r3,y4,r4,ud,dZ⟩:=dZ;rw[av,aq];by_cases aw:i<x.length
 .obtain⟨i1,o1,rfl⟩:=EE.1.cH (by simp[ints];omega)
  rw[ax (show(i:Int)<(x.length:Int) by omega),ae];refine Ok.join λaI jV=>?_
  rw[bd,Zb (Zj aw),bp,EE.1.dJ (ZD aw)];rw[bg];have fW:x.drop i=x[i]::x.drop (i+1):=iV aw;rw[fW]at aQ;generalize x[i]=y at aQ;unfold tP at aQ;refine Ok.wv (dZ.take h (n+1) y hK.m hK.Ge hK.len (by omega)) ?_ ?_
  .intro s' hp
   cases kP:dO K y u with
   |none=>rw[kP]at hp aQ;cases hp;rw[<-aQ];exact⟨t,rfl,fK⟩
   |some q=>rw[kP]at hp;grind
  intro ds t1 hp;cases kP:dO K y u with
  |none=>rw[kP]at hp;cases hp
  |some q=>
  have⟨b,u1⟩:=q;rw[kP]at hp aQ;have⟨d,s2,e2,mj,fX,hb⟩:=hp;cases e2;have⟨k1,k2,k3,k4,k5,k6⟩:=Z2 kP;have⟨k7,k8⟩:=xK kP;have aix:=UZ dZ.set.len k7;rw[<-k8]at aix;have abE:Fx Lu t t1:=fX.mono λy hy=>by rw[cB.1 hy];exact dZ.w5
  have sJ:Fx L s t1:=fK.step abE jY;rw[Dh,aq];cases b with
  |leaf x=>obtain⟨rfl,_⟩:=hb;rw[<-aQ];exact .mk ⟨t1,rfl,sJ⟩
  |cc x=>obtain⟨rfl,_⟩:=hb;rw[<-aQ];exact .mk ⟨t1,rfl,sJ⟩
  |dir x=>obtain⟨p,rfl,_⟩:=hb;rw[<-aQ];exact .mk ⟨t1,rfl,sJ⟩
  |node x=>obtain⟨p,rfl,_⟩:=hb;rw[<-aQ];exact .mk ⟨t1,rfl,sJ⟩
  |none=>cases hb;rw[<-aQ];exact .mk ⟨t1,rfl,sJ⟩
  |queue qv=>
  obtain⟨rfl,yD⟩:=hb;simp only at aQ;rw[Zxr];have⟨OV,_⟩:=RO (Zmb (UG kP));have AO:Fz t1 (some (i1,o1)) (ints x):=EE.kp (dZ.kp abE);have Ei:(ints qv.dz).length=12:=by simp[ints,yD]
  rw[bI (cs:=ints qv.dz) (n:=12) Ei,bI (n:=14) (by simp[Ei])];refine Ok.join λaW kL=>?_
  have hA: ∀t2 bb,Ad u1 i qv.name=bb->eD K t2 u1 Lu y1 r1 y2 r2 y3 r3 y4 r4 ud->Fx L s t2->Fz t2 (some (i1,o1)) (ints x)->Ok (rZ K s L R []) (aW [.b bb] t2):=by
   intro t2 bb Ea wI fD Ys;rw[kL];simp only[au,aq];cases bb with
   |false=>
    rw[Ea,af]at aQ;rw[oN h n rfl,<-aQ];exact .mk ⟨t2,rfl,fD⟩
   |true=>
    rw[Ea,ae]at aQ;rw[tx h n rfl];rw[aq];refine Ok.join λbz Cw=>?_
    rw[dG (by omega)];refine ZxS h (n+1) hK qv.name qv.dz yD s L wI fD jY h0 h1 (by rw[k1,jc];exact hs) (by rw[k5];omega) (by rw[k5];omega) hm (by omega) R bz ?_ ?_
    .grind
    intro es w he t3 p z hz oi sK eC Ci ahP ahN hel;rw[he]at aQ;simp only at aQ;have⟨c1,c2,c3,c4,c5,c6,c7⟩:=It wI.set.len he (λ_ h=>by cases h) .nil;rw[Cw];simp only[cT,bR,aX,aq];have⟨t4,e4,sM,Cr⟩:=Zzd n es p t3 eC c2 (by omega);rw[Zk e4];rw[aq];have GD: ∀b o,K.a=some (b,o)->b<t2.length:=λb o e=>Sl.lt (e▸wI.img)
    have pC:w.aM=u.aM:=c5.trans k2;have hh2:qC t2 Lu ud w.aM:=by rw[c5];exact wI.aM
    have⟨GB,abH⟩:=oi.Pf hh2 wI.lt GD sK Cr Ci;have Yt:Fz t4 (some (i1,o1)) (ints x):=Ys.kp (wI.kp abH);have abI:Fx L s t4:=fD.step abH jY;rw[Zo GB.cell rfl];show Ok _ (dr 2 (.s y2 r2 w.aM.length) _ t4);rw[Z3 2 y2 r2 _ GB.e2,<-UC es];have dA:Sl t4 p (bY (lB es)):=by
     rcases sM with⟨rfl,h2⟩|⟨b,rest,rfl,h2⟩
     .exact h2
     .exact⟨false,_,h2,by rw[bB];omega,by rw[dK,Fc]⟩
    have OS:lI Lu p:=lI.aP λb hb hm=>by have:=Ci b hb;have:=wI.lt b hm;omega
    have⟨b,t5,t6,L6,q1,q2,q3,q4,q5,q6⟩:=GB.ajx (β:=ah) ⟨qv.name,lB es⟩ (by rw[pC,uk];omega) (z:=4) (.inl rfl) dA OS;refine Eq.mpr (congrArg (Ok _) (q1 _)) ?_;refine Eq.mpr (congrArg (Ok _) (q2 _)) ?_;rw[jV];simp only[aq];have j5:ar ((i:Int)+1)=((i+1:Nat):Int):=Zc;rw[j5];refine aN (x.length-(i+1)) _ _ (by omega) ⟨i+1,_,L6,rfl,by omega,aO _,q3.wk,abI.step q4 jY,jY.trans abI.1 q5,Yt.kp (GB.kp q4),(c4.trans k1).trans jc,?_,?_,?_,?_,aQ⟩
    .show(w.aM++[_]).length=i+1
     rw[bB,pC,uk];rfl
    .intro g hg
     have oo:g∈w.aM++[⟨qv.name,lB es⟩]:=hg;rw[pC]at oo;rcases gx.1 oo with oo|oo
     .exact hun g oo
     .rw[cB.1 oo];exact OV
    .show v.nodes<=w.nodes
     rw[k5]at ahN;omega
    .show w.nodes+(room K.m w.W:Nat)<=_
     rw[k5]at ahP;omega
  by_cases vr:i=0
  .subst vr
   rw[show(((0:Nat):Int)==0)=true from rfl,ae];exact hA t1 true rfl mj sJ AO
  .have hib:((i:Int)==0)=false:=by rw[eG];omega
   rw[hib,af,Zo mj.cell rfl];show Ok _ (dr 2 (.s y2 r2 u1.aM.length) _ t1);rw[Z3 2 y2 r2 _ mj.e2];have ub:u1.aM.length=i:=by rw[k2];exact uk
   have akJ:ud.length=u1.aM.length*2:=mj.aM.aM.len;obtain⟨b,rfl,vj⟩:=mj.o2.cH (by omega);have cG:ar ((i:Int)-1)=((i-1:Nat):Int):=by rw[Zc];omega
   have Xz:u1.aM[i-1]? =some u1.aM[i-1]:=cq (by omega);rw[bd,cG,Zb (Zj),bp,FM mj.o2.sl mj.aM.aM Xz];have hgm:u1.aM[i-1].name.length<=24:=hun _ (by rw[<-k2];exact kA _);have⟨gg,wN⟩: ∃gg,u1.aM[i-1]=gg:=⟨_,rfl⟩;rw[wN]at Xz hgm⊢;rw[zF];refine Ok.cv (Zpo (n+1) gg.name qv.name (by omega) (by omega) (by omega) (by omega) t1) λt2 aU=>?_
   rw[av,aq];refine hA t2 _ ?_ (mj.pre aU) (sJ.trans (Fx.pre _ aU)) (AO.kp aU.kp);unfold Ad;rw[aF vr,af,Xz]
 .rw[aF (show ¬(i:Int)<(x.length:Int) by omega),af]
  simp only[Zd];rw[lW (by omega)]at aQ;rw[<-aQ];exact .mk ⟨t,Lu,rfl,dZ.wk,fK,jY⟩
theorem Fx.acT (h:Fx [] s s'):aB s s':=by
 refine⟨s'.drop s.length,?_⟩;have:s'.take s.length=s:=by
  apply tk;intro i;by_cases hi:i<s.length
  .rw[List.getElem?_take_of_lt hi]
   have e:s[i]? =some s[i]:=cq hi;rw[e];exact h.2 i _ (λh=>by cases h) e
  grind
 conv=>lhs;rw[<-rS s.length s',this]
theorem Ok.aa4 {P:Out ah×St->Prop} {m:M ah} {H:Bool->M β} (h:Ok P (m s))
  (k1: ∀s',P (.fp,s')->Ok Q (H true s')) (k2: ∀ds s',P (.val ds,s')->Ok Q (H false s')):Ok Q (u7 m H s):=by
 have⟨⟨o,s'⟩,e,hp⟩:=h;unfold u7;rw[e];cases o with
 |val ds=>exact k2 ds s' hp
 |fp=>exact k1 s' hp
theorem ZyB {k:IntKind} (h:s[i]? =some (some ⟨f,all⟩)) (hd:all[p]? =some (.int k n)) (K:IntKind->Int->M β):xX i p K s=K k n s:=by
 unfold xX;rw[Zo h hd]
theorem U3 (h:s[i]? =some (some ⟨f,all⟩)) (hd:all[p]? =some (.i n)) (K:M β):iu i p .i64 n K s=K s:=by
 unfold iu;rw[Zo h hd];simp
def Kept (v v':aS):Prop:=v'.aM=v.aM/\v'.aK=v.aK/\v'.free=v.free/\v'.nodes=v.nodes
theorem Kept.refl (v:aS):Kept v v:=⟨rfl,rfl,rfl,rfl⟩
theorem Kept.trans {a b c:aS} (h:Kept a b) (k:Kept b c):Kept a c:=⟨k.1.trans h.1,k.2.1.trans h.2.1,k.2.2.1.trans h.2.2.1,k.2.2.2.trans h.2.2.2⟩
theorem Ue {b:xr} (h:dO K k v=some (b,v')):Kept v v':=by
 have⟨_,h2,h3,h4,h5,_⟩:=Z2 h;exact⟨h2,h3,h4,h5⟩
theorem Znw {K:bL} : ∀ {x:List bw} {k:Int} {v v':aS},nn K k x v=some v'->Kept v v'
 |[],_,_,_,h=>by cases h;exact .refl _
 |x::r,k,v,v',h=>by
  unfold nn at h;cases h1:pS K k x v with
  |none=>rw[h1]at h;cases h
  |some w=>
   rw[h1]at h;refine Kept.trans ?_ (Znw h);unfold pS at h1;cases h2:decide (k>=K.sup.used)with
   |true=>
    rw[h2,ae]at h1;cases h3:og x with
    |true=>rw[h3]at h1;cases h1;exact .refl _
    |false=>rw[h3]at h1;cases h1
   |false=>
    rw[h2,af]at h1;cases h3:oR K.sup x with
    |true=>rw[h3]at h1;cases h1;exact⟨rfl,rfl,rfl,rfl⟩
    |false=>rw[h3]at h1;cases h1
theorem Zu5 (h:na K k slot v=some v'):Kept v v':=by
 unfold na at h;split at h
 .rename_i x v1 ht
  exact(Ue ht).trans (Znw h)
 .cases h
theorem TL {K:bL} {cJ x5:Int} : ∀ {x:ak} {k:Int} {v v':aS},kD K cJ x5 k x v=some v'->Kept v v'
 |[],_,_,_,h=>by cases h;exact .refl _
 |y::r,k,v,v',h=>by
  unfold kD at h;cases h1:((!(y==0))==decide (x5*16+k<cJ))with
  |false=>rw[h1]at h;cases h
  |true=>
   rw[h1,ae]at h;cases h2:(!(y==0))with
   |false=>rw[h2]at h;exact TL h
   |true=>
    rw[h2,ae]at h;split at h
    .cases h
    .rename_i w hw
     exact(Zu5 hw).trans (TL h)
theorem To {K:bL} {cJ:Int} : ∀ {x:ak} {k:Int} {v v':aS},nX K cJ k x v=some v'->Kept v v'
 |[],_,_,_,h=>by cases h;exact .refl _
 |y::r,k,v,v',h=>by
  unfold nX at h;cases h1:((!(y==0))==decide (k*16<cJ))with
  |false=>rw[h1]at h;cases h
  |true=>
   rw[h1,ae]at h;cases h2:(y==0)with
   |true=>rw[h2]at h;exact To h
   |false=>
    rw[h2,af]at h;split at h
    .rename_i x v1 ht
     split at h
     .cases h
     .rename_i w hw
      exact((Ue ht).trans (TL hw)).trans (To h)
    .cases h
theorem ZnE (h:oa K v=some v'):Kept v v':=by
 unfold oa at h;cases h1:(K.sup.used==0)with
 |true=>rw[h1]at h;cases h;exact .refl _
 |false=>
  rw[h1,af]at h;split at h
  .rename_i x v1 ht
   exact(Ue ht).trans (To h)
  .cases h
theorem Zns {K:bL} : ∀ {f:Nat} {fl qX:List Bool} {k:Int} {v v':aS},nk K f fl k v=some (qX,v')->v'.aG=v.aG/\v'.aM=v.aM/\v'.aK=v.aK/\v'.nodes=v.nodes
 |0,_,_,_,_,_,h=>by cases h
 |f+1,fl,qX,k,v,v',h=>by
  unfold nk at h;cases h1:(k==0)with
  |true=>rw[h1]at h;grind
  |false=>
   rw[h1,af]at h;cases h2:decide (k<=K.sup.used)with
   |false=>rw[h2]at h;cases h
   |true=>
    rw[h2,ae]at h;split at h
    .cases h
    .rename_i x hx
     cases h3:(bif (bif !x.live then decide (x.gen<K.sup.g)else false)then !fl.getD (k-1).toNat false else false)with
     |false=>rw[h3]at h;cases h
     |true=>
      rw[h3,ae]at h;exact Zns (v:= { v with free:=v.free++[k-1] }) h
theorem ZoU (h:sE K v=some v'):v'.aG=v.aG/\v'.aM=v.aM/\v'.aK=v.aK/\v'.nodes=v.nodes:=by
 unfold sE at h;cases h1:nk K (K.sup.used.toNat+1) (List.replicate K.sup.used.toNat false) K.sup.free v with
 |none=>rw[h1]at h;cases h
 |some q=>
  have⟨fl,w⟩:=q;rw[h1]at h;unfold BO at h;simp only at h;cases h2:qR K fl w.aG with
  |false=>rw[h2]at h;cases h
  |true=>rw[h2]at h;cases h;exact Zns h1
theorem Zmp (hl:v.W.length=(K.m+63)/64) (h:qM K v=some v'):v'.aG=v.aG/\v'.aK=v.aK/\v'.free=v.free:=by
 unfold qM at h;cases h1:(K.sup.dir==0)with
 |true=>rw[h1]at h;grind
 |false=>
  rw[h1,af]at h;split at h
  .rename_i x v1 ht
   have⟨g1,g2,g3,g4,g5,g6⟩:=Z2 ht;have⟨c1,c2,c3,c4⟩:=U1 (by rw[(xK ht).2,oM];exact hl) h;grind
  .cases h
def fh (x:cy) (v:aS):fJ:=⟨x.blocks,x.de,x.g,v.aM,v.aK,v.free⟩
def nL:fJ:=⟨0,0,0,[],[],[]⟩
def rL (K:bL):Option (Option aS):=bif ZU K.sup then(bif decide (K.sup.blocks<=((K.img.length/64:Nat):Int))then some (tf K)else some none)else none
def aaG (s:St) (m:Nat) (x:cy) (r:Option (Option aS)) (o:Out ah×St):Prop:=match r with
 |none=>∃s',o=(.val [.a (dE nL 0 none 0 none 0 none),.p none,.i 2],s')/\aB s s'
 |some none=>∃s',o=(.val [.a (dE nL 0 none 0 none 0 none),.p none,.i 31],s')/\aB s s'
 |some (some v)=>∃s' z2 p2 z3 p3 z4 p4 i j,o=(.val [.a (dE (fh x v) z2 p2 z3 p3 z4 p4),.p (some (i,0)),.i 0],s')/\aB s s'/\(z2=2\/p2=none)/\(z3=1\/p3=none)/\(z4=1\/p4=none)/\lh s' (fh x v) p2 p3 p4/\gy s' false i j m v.W/\s.length<=j/\i≠j
structure pN (s:St) (b:Nat) (A:List DV) (r e:DV):Prop where
 st:s[b+1]? =some (some ⟨false,A⟩)
 re:s[b+2]? =some (some ⟨false,[r]⟩)
 er:s[b+3]? =some (some ⟨false,[e]⟩)
 len:A.length=6
theorem pN.fx {b:Nat} (h:pN s b A r e) (k:Fx T s s') (hT: ∀x∈T,x<b\/b+4<=x):pN s' b A r e:=
 ⟨k.2 _ _ (by grind) h.st,k.2 _ _ (by grind) h.re,k.2 _ _ (by grind) h.er,h.len⟩
theorem pN.aae {b:Nat} (h:pN s b A r e) (A':ah) (r' e':DV) (hl:A'.length=6): ∃s',(∀K:M β,(dI (b+1) 0 A'<|dI (b+2) 0 [r']<|dI (b+3) 0 [e'] K) s=K s')/\pN s' b A' r' e'/\Fx [b+1,b+2,b+3] s s':=by
 have h1:=(ef.1 h.st).1;have h2:=(ef.1 h.re).1;have h3:=(ef.1 h.er).1;have lR:cE A 0 A'=A':=by
  have:=tF [] A [] A' (by rw[h.len,hl]);simpa using this
 refine⟨((s.set (b+1) (some ⟨false,A'⟩)).set (b+2) (some ⟨false,[r']⟩)).set (b+3) (some ⟨false,[e']⟩),λK=>?_,⟨?_,?_,?_,hl⟩,⟨by simp,λi x hi e=>?_⟩⟩
 .rw[M6 h.st (by rw[h.len,hl];omega),lR,qE (by rw[jv (by omega)];exact h.re) (by show 0<1;omega),qE (by rw[jv (by omega),jv (by omega)];exact h.er) (by show 0<1;omega)]
  rfl
 .rw[jv (by omega),jv (by omega),kZ h1]
 .rw[jv (by omega),kZ (by simpa using h2)]
 .rw[kZ (by simpa using h3)]
 grind
theorem pN.yO {b:Nat} (h:pN s b A r e):(bS (b+1) 0 6 λo=>bD (b+2) 0 λo1=>bD (b+3) 0 λo2=>ay [.a o,o1,o2]) s=some (.val [.a A,r,e],s):=by
 rw[Z8 h.st (by rw[h.len];omega),Zo h.re rfl,Zo h.er rfl,dK,dG (by rw[h.len];omega),Zd]
theorem SE {x:cy} (h:ZU x=true):oY x.blocks x.de x.g=true/\0<=x.used/\x.used<=x.de/\0<=x.free/\x.free<=x.used:=by
 grind[ZU]
theorem Z4 {b s g:Int} (h:oY b s g=true):16<=b/\b<=3072/\1<=s/\s<=1792/\1<=g/\g<=4294967295:=by
 grind[oY]
theorem pN.cj {b:Nat} (h:pN s b (dE nL 0 none 0 none 0 none) r e) (h':pN s' b A' r' e') (k:Fx [b+1,b+2,b+3] s s') {p:ai} {es:List bh} (hs:Sl s p (bY es)):Sl s' p (bY es):=by
 cases p with
 |none=>exact hs
 |some q=>
  have⟨i,o⟩:=q;by_cases hi:i∈[b+1,b+2,b+3]
  .have OD:es=[]:=by
    cases es with
    |nil=>rfl
    |cons x es=>
     exfalso;have⟨f,all,e1,e2,e3⟩:=hs;have hlen:(bY (x::es)).length=4+(bY es).length:=by
      rw[Zt,Zt,cO];omega
     simp only[eF,tl,oH]at hi;rcases hi with rfl|rfl|rfl
     .rw[h.st]at e1
      cases e1;have h6:(dE nL 0 none 0 none 0 none).length=6:=rfl;have ho:o=0\/o=1\/o=2:=by omega
      have e4:=congrArg (λl=>l[3-o]?) e3;rw[List.getElem?_take_of_lt (by omega),Bg]at e4;rcases ho with rfl|rfl|rfl<;>cases e4
     .rw[h.re]at e1
      grind
     .rw[h.er]at e1
      grind
   subst OD;have⟨f,all,e1,e2,_⟩:=hs;simp only[eF,tl,oH]at hi;rcases hi with rfl|rfl|rfl
   .rw[h.st]at e1
    cases e1;refine⟨false,_,h'.st,?_,rfl⟩;have:=h'.len;have h6:(dE nL 0 none 0 none 0 none).length=6:=rfl;omega
   .rw[h.re]at e1
    cases e1;exact⟨false,_,h'.re,e2,rfl⟩
   .rw[h.er]at e1
    cases e1;exact⟨false,_,h'.er,e2,rfl⟩
  .exact Sl.fx hs k λb' o' e=>by cases e;exact hi
theorem kB.cj {s s':St} (h: ∀(p:ai) (es:List bh),Sl s p (bY es)->Sl s' p (bY es)): ∀ {ds:ah} {xs:List dP},kB s ds xs->kB s' ds xs
 |_,[],h1=>h1
 |_,_::_,⟨z,p,t,hz,h1,h2,h3⟩=>⟨z,p,t,hz,h1,h p _ h2,h3.cj h⟩
def adl (K:bL) (s:St) (b:Nat) (r:Option aS) (o:Out ah×St):Prop:=match r with
 |none=>∃s',o=(.fp,s')/\Fx [] s s'
 |some v=>∃s' ds z2 p2 z3 p3 z4 p4,o=(.val ds,s')/\Fx [b+1,b+2,b+3] s s'/\pN s' b (dE (fh K.sup v) z2 p2 z3 p3 z4 p4) (.p (some (K.i,0))) (.i 0)/\(z2=2\/p2=none)/\(z3=1\/p3=none)/\(z4=1\/p4=none)/\lh s' (fh K.sup v) p2 p3 p4/\gy s' false K.i K.j K.m v.W
theorem Zsi (n:Nat) (a:ai) (img:aj) (x:cy) (pc:ai) (s:St) (ha:dc s a img) (hc:Sl s pc (ints x.aJ)) (hl:img.length<1000000) (cL:x.aJ.length<1000) (hn:5000<=n):
  ∃K:bL,K.m=x.blocks.toNat/\K.img=img/\K.sup=x/\Ok (aaG s x.blocks.toNat x (rL K)) (run Bd n 171 [.s 1 a img.length,.a (dj x pc)] s):=by
 obtain⟨n,rfl⟩: ∃k,n=k+3:=⟨n-3,by omega⟩;refine⟨⟨s.length+8,s.length+7,s.length+6,x.blocks.toNat,a,img,x,pc⟩,rfl,rfl,rfl,?_⟩;have⟨K,hK⟩: ∃K:bL,(⟨s.length+8,s.length+7,s.length+6,x.blocks.toNat,a,img,x,pc⟩:bL)=K:=⟨_,rfl⟩;rw[hK];have kw:s.length+8=K.w:=by rw[<-hK]
 have ki:s.length+7=K.i:=by rw[<-hK]
 have kj:s.length+6=K.j:=by rw[<-hK]
 have km:K.m=x.blocks.toNat:=by rw[<-hK]
 have ka:a=K.a:=by rw[<-hK]
 have kg:img=K.img:=by rw[<-hK]
 have ks:x=K.sup:=by rw[<-hK]
 have kp:pc=K.pc:=by rw[<-hK]
 clear hK;have⟨R,hR⟩: ∃R,rL K=R:=⟨_,rfl⟩;rw[hR];unfold rL at hR;rw[<-ks,<-kg]at hR;rw[Ze,h.aeu];unfold Me xD Z6 bq Zm C_ jh Zip cw Zx Lp Li ZX Lb gJ uF
 try dsimp only
 rw[aX];rw[cT];unfold dj;simp only[av,aX,aq];have CD:([.i x.seq,.i x.blocks,.i x.de,.i x.g,.i x.cc,.i x.used,.i x.free,.i x.dir,.s 1 pc x.aJ.length]:ah)=dj x pc:=rfl;rw[CD,Zz,Zz,Zz,Zz];have aiM:([.i 0,.i 0,.i 0,.s 0 none 0,.s 0 none 0,.s 0 none 0]:ah)=dE nL 0 none 0 none 0 none:=rfl;rw[aiM];have l1: ∀c,(s++[some (c:bO)]).length=s.length+1:=λc=>by simp
 have l2: ∀c d,((s++[some (c:bO)])++[some (d:bO)]).length=s.length+2:=λc d=>by simp
 have l3: ∀c d e,(((s++[some (c:bO)])++[some (d:bO)])++[some (e:bO)]).length=s.length+3:=λc d e=>by simp
 rw[l1,l2,l3];have⟨S1,Gy⟩: ∃S1,(((s++[some (⟨false,dj x pc⟩:bO)])++[some (⟨false,dE nL 0 none 0 none 0 none⟩:bO)])++[some (⟨false,[.p none]⟩:bO)])++[some (⟨false,[.i 0]⟩:bO)]=S1:=⟨_,rfl⟩;rw[Gy];have aH:aB s S1:=by rw[<-Gy];exact((((aB.new _ _).trans (aB.new _ _)).trans (aB.new _ _)).trans (aB.new _ _))
 have OA:S1.length=s.length+4:=by rw[<-Gy];simp
 have h9:S1[s.length]? =some (some ⟨false,dj x pc⟩):=by rw[<-Gy];simp
 have N6:pN S1 s.length (dE nL 0 none 0 none 0 none) (.p none) (.i 0):=by
  rw[<-Gy];exact⟨by simp,by simp,by simp,rfl⟩
 clear Gy;rw[Z8 h9 (by show 0+9<=9;omega)];show Ok _ (aD .i64 (dj x pc) _ S1);unfold dj;simp only[av,aX,aq];rw[CD];have hsR:=ZkD (n+2) x pc S1 (hc.mono aH) cL (by omega);rw[Zk hsR];rw[au,aq];have⟨S2,Oa⟩: ∃S2,S1++[some (⟨false,dj x pc⟩:bO)]=S2:=⟨_,rfl⟩;rw[Oa];have aU:aB S1 S2:=by rw[<-Oa];exact aB.new _ _
 have GV:S2.length=s.length+5:=by rw[<-Oa];simp[OA]
 have N5:=aU.get h9;have WO:pN S2 s.length (dE nL 0 none 0 none 0 none) (.p none) (.i 0):=⟨aU.get N6.st,aU.get N6.re,aU.get N6.er,rfl⟩;have iP:=aH.trans aU;clear Oa aH aU N6 h9 hsR;have Cp: ∀S3,Fx [s.length+1,s.length+2,s.length+3] S2 S3->aB s S3:=λS3 k=>by
  refine Fx.acT ((Fx.pre [] iP).step k λy hy=> .inr ?_);grind
 cases pB:ZU x with
 |false=>
  rw[pB,af]at hR;have⟨S3,e3,Jw,Xn⟩:=WO.aae (β:=ah) (dE nL 0 none 0 none 0 none) (.p none) (.i 2) rfl;rw[bn,ae,e3,Jw.yO,<-hR];exact .mk ⟨S3,rfl,Cp S3 Xn⟩
 |true=>
 rw[pB,ae]at hR;rw[bu,af];have⟨AA,uj,vD,vo,Co⟩:=SE pB;have⟨g1,g2,g3,g4,g5,g6⟩:=Z4 AA;refine Ok.aa4 (P:=adl K S2 s.length (bif decide (x.blocks<=((img.length/64:Nat):Int))then tf K else none)) ?_ ?_ ?_
 .have O9: ∃m:Nat,x.blocks=(m:Int):=by grind
  rw[Zo N5 (d:= .i x.blocks) rfl];rw[bg];have hw:ar ((img.length:Int).tdiv 64)=((img.length/64:Nat):Int):=by
   rw[V5 (by omega),bp];exact Zc
  rw[hw];cases jl:decide (x.blocks<=((img.length/64:Nat):Int))with
  |false=>
   rw[oN h (n+1) rfl,af];exact .mk ⟨S2,rfl,.refl _ _⟩
  |true=>
  have ag6:=mK jl;rw[tx h (n+1) rfl,ae];rw[aq];rw[Z8 N5 (by show 0+9<=9;omega)];show Ok _ (aD .i64 (dj x pc) _ S2);unfold dj;simp only[av,aX,aq];rw[Zo N5 (d:= .i x.blocks) rfl];rw[bg];rw[Zz];have⟨S3,D8⟩: ∃S3,S2++[some (⟨false,[.i 0,.i 1]⟩:bO)]=S3:=⟨_,rfl⟩;have cu:aB S2 S3:=by rw[<-D8];exact aB.new _ _
  have OB:S3.length=s.length+6:=by rw[<-D8];simp[GV]
  have aiA:Sl S3 (some (S2.length,0)) (ints [0,1]):=⟨false,[.i 0,.i 1],by rw[<-D8];simp,aO _,rfl⟩;rw[D8];have⟨m,hm⟩:=O9;have⟨S4,e4,fy,abP,Hb⟩:=T7 (n+2) m [0,1] (some (S2.length,0)) S3 (by omega) aiA (by show 2<1000000;omega) (by grind);have WU:m=K.m:=by rw[km,hm];rfl
  have e4':run Bd (n+2) 177 [.i x.blocks,.s 1 (some (S2.length,0)) 2] S3=some (.val [.p (some (S3.length+1,0))],S4):=by rw[hm];exact e4
  rw[qG e4' fy];rw[eH,aq];have h94:=fy.get (cu.get N5);rw[Z8 h94 (by show 1+3<=9;omega)];show Ok _ (aD .i64 (.i x.blocks::[.i x.de,.i x.g]) _ S4);simp only[av,aq];rw[Zz];have Yp:S4.length=K.w:=by rw[abP,OB];omega
  have p9:S3.length+1=K.i:=by rw[OB];omega
  rw[Yp,p9];have aiF:gy S4 false K.i K.j K.m (jd K.m [0,1]):=by
   rw[p9]at Hb;rw[<-kj,<-OB,<-WU];exact Hb
  have⟨S5,Gz⟩: ∃S5,S4++[some (⟨false,rM K (qo K.m) (dN 0 none 0) (dN 0 none 0) (dN 0 none 0) (dN 0 none 0)⟩:bO)]=S5:=⟨_,rfl⟩;have ny:([.s 1 a img.length,.i x.seq,.i x.blocks,.i x.de,.i x.g,.i x.cc,.i x.used,.i x.free,.i x.dir,.s 1 pc x.aJ.length,.p (some (K.i,0)),.s 0 none 0,.i x.blocks,.i x.de,.i x.g,.s 0 none 0,.s 0 none 0,.s 0 none 0,.i 0]:ah)=rM K (qo K.m) (dN 0 none 0) (dN 0 none 0) (dN 0 none 0) (dN 0 none 0):=by
   unfold rM;rw[<-ka,<-kg,<-ks,<-kp];rfl
  rw[ny,Gz];have jZ:aB S4 S5:=by rw[<-Gz];exact aB.new _ _
  have akr:S5.length=s.length+9:=by rw[<-Gz];simp[abP,OB]
  have agW:S5[K.w]? =some (some ⟨false,rM K (qo K.m) (dN 0 none 0) (dN 0 none 0) (dN 0 none 0) (dN 0 none 0)⟩):=by rw[<-Gz,<-Yp];simp
  have OO:aB s S5:=((iP.trans cu).trans fy).trans jZ;have hW:eD K S5 (qo K.m) [K.w,K.i,K.j] 0 none 0 none 0 none 0 none []:=by
   refine⟨agW,.inr rfl,.inr rfl,.inr rfl,.inr rfl,bm.nil ⟨S5,rfl⟩,bm.nil ⟨S5,rfl⟩,bm.nil ⟨S5,rfl⟩,bm.nil ⟨S5,rfl⟩,rfl,aiF.pre jZ,?_,?_,rfl,?_⟩
   .rw[<-ka,<-kg];exact ha.mono OO
   .rw[<-ka]
    rintro b o rfl hm;have:=Sl.lt ha;simp only[eF,tl,oH]at hm;omega
   .simp only[zA,eF,tl,oH,not_or]
    refine⟨⟨by omega,by omega⟩,by omega,not_false,.nil⟩
  have hC5:pN S5 s.length (dE nL 0 none 0 none 0 none) (.p none) (.i 0):=WO.fx (Fx.pre [] ((cu.trans fy).trans jZ)) λy hy=>by cases hy
  have ahi:Fx [] S2 S5:=Fx.pre [] ((cu.trans fy).trans jZ);have abf:Dq K:=⟨by rw[<-ks,hm,WU],by rw[<-kg,<-WU];omega,by rw[<-kg];exact hl⟩;have iA: ∀y∈[K.w,K.i,K.j],S2.length<=y:=λy hy=>by
   simp only[eF,tl,oH]at hy;omega
  have vy: ∀t,Fx [K.w,K.i,K.j] S5 t->Fx [] S2 t:=λt k=>ahi.step k λy hy=> .inr (iA y hy)
  have⟨W1,iN⟩: ∃W1,tf K=W1:=⟨_,rfl⟩;rw[iN];unfold tf at iN;have WV:0<=K.sup.used:=by rw[<-ks];exact uj
  have WW:K.sup.used<=1792:=by rw[<-ks];omega
  have hKf:0<=K.sup.free:=by rw[<-ks];exact vo
  have agU:K.m<=3072:=by omega
  refine Ok.wv (ZxY (n+2) abf hW.wk (by show 0<1000;omega) (by omega)) ?_ ?_
  .intro t hp
   cases hr:oa K (qo K.m)with
   |none=>rw[hr]at hp iN;have⟨_,e,hf⟩:=hp;cases e;rw[<-iN];exact⟨t,rfl,vy t hf⟩
   |some v=>rw[hr]at hp;have⟨_,_,e,_⟩:=hp;cases e
  intro ds t1 hp;cases j3:oa K (qo K.m)with
  |none=>rw[j3]at hp;have⟨_,e,_⟩:=hp;cases e
  |some v1=>
  rw[j3]at hp iN;have⟨_,L1,e,agX,mm,XT⟩:=hp;cases e;simp only at iN;rw[aq];have⟨k1,k2,k3,k4⟩:=ZnE j3;have⟨eX,aiq⟩:=ZqR WV WW rfl j3;refine Ok.wv (ZzU (n+2) agX WV WW hKf eX aiq k1 k3 (by omega)) ?_ ?_
  .intro t hp
   cases hr:sE K v1 with
   |none=>rw[hr]at hp iN;have⟨_,e,hf⟩:=hp;cases e;rw[<-iN];exact⟨t,rfl,vy t (mm.step hf XT)⟩
   |some v=>rw[hr]at hp;have⟨_,_,e,_⟩:=hp;cases e
  intro ds t2 hp;cases ij:sE K v1 with
  |none=>rw[ij]at hp;have⟨_,e,_⟩:=hp;cases e
  |some v2=>
  rw[ij]at hp iN;have⟨_,L2,e,abh,fX,ahQ⟩:=hp;cases e;simp only at iN;rw[aq];have⟨q1,q2,q3,q4⟩:=ZoU ij;have Xt:Fx [K.w,K.i,K.j] S5 t2:=mm.step fX XT;have XU:Nw [K.w,K.i,K.j] S5 L2:=XT.trans mm.1 ahQ;have GC:v2.W.length=(K.m+63)/64:=by have⟨_,_,_,_,_,_,_,_,_,hw⟩:=abh;exact hw.set.len
  have Em:v2.nodes=0:=by rw[q4,k4];rfl
  have OY:=Zu2 K.m v2.W;refine Ok.wv (ZwN (n+2) abf abh WV WW (by rw[q1];exact eX) (by rw[Em];exact Int.le_refl _) (by rw[Em];omega) agU (by rw[q2,k1];rfl) (by omega)) ?_ ?_
  .intro t hp
   cases hr:qM K v2 with
   |none=>rw[hr]at hp iN;have⟨_,e,hf⟩:=hp;cases e;rw[<-iN];exact⟨t,rfl,vy t (Xt.step hf XU)⟩
   |some v=>rw[hr]at hp;have⟨_,_,e,_⟩:=hp;cases e
  intro ds t3 hp;cases Ye:qM K v2 with
  |none=>rw[Ye]at hp;have⟨_,e,_⟩:=hp;cases e
  |some v3=>
  rw[Ye]at hp iN;have⟨_,L3,e,agY,fD,ahR⟩:=hp;cases e;simp only at iN;rw[aq];have⟨w1,w2,w3⟩:=Zmp GC Ye;have abF:Fx [K.w,K.i,K.j] S5 t3:=Xt.step fD XU;have abW:Nw [K.w,K.i,K.j] S5 L3:=XU.trans Xt.1 ahR;have dA:(v3.aG.length:Int)=K.sup.used:=by rw[w1,q1];exact eX
  have jm:v3.aK=[]:=by rw[w2,q3,k2];rfl
  have⟨y1,r1,y2,r2,y3,r3,y4,r4,hd,W7⟩:=agY;rw[ZyB W7.cell (k:= .i64) (n:=v3.nodes) rfl,Zo W7.cell (d:= .i v3.nodes) rfl];rw[bg];refine Ok.call (Zy9 (n+2) W7.wk (by omega) (by rw[jm];show 0<100000;omega) (by omega)) ?_;rintro _ ⟨t4,L4,rfl,agZ,sK,ahS⟩;refine⟨_,t4,rfl,?_⟩;rw[av,aq];have Xu:Fx [K.w,K.i,K.j] S5 t4:=abF.step sK abW;have ahT:Nw [K.w,K.i,K.j] S5 L4:=abW.trans abF.1 ahS;have⟨y1,r1,y2,r2,y3,r3,y4,r4,hd,oi⟩:=agZ;have Cl:(rM K (um v3) (dN y1 r1 (um v3).aG.length) (dN y2 r2 (um v3).aM.length) (dN y3 r3 (um v3).aK.length) (dN y4 r4 (um v3).free.length))[18]? =some (.i v3.nodes):=rfl;rw[U3 oi.cell Cl,U3 oi.cell Cl];have Xb:(((yN v3:Int))==v3.nodes)=decide ((yN v3:Int)=v3.nodes):=rfl;rw[Xb];cases eN:decide ((yN v3:Int)=v3.nodes)with
  |false=>
   rw[eN,af]at iN;rw[oN h (n+1) rfl,<-iN];exact .mk ⟨t4,rfl,vy t4 Xu⟩
  |true=>
  rw[eN,ae]at iN;rw[tx h (n+1) rfl];rw[aq];rw[U3 oi.cell Cl,Z8 oi.cell (by grind)];show Ok _ (aD .i64 (.i K.sup.blocks:: .i K.sup.de:: .i K.sup.g::dN y2 r2 (um v3).aM.length::dN y3 r3 (um v3).aK.length::dN y4 r4 (um v3).free.length::[]) _ t4);unfold dN;simp only[av,Zg 2 y2 r2 _ oi.e2,Zg 1 y3 r3 _ oi.e3,Zg 1 y4 r4 _ oi.e4,aq];rw[Zo oi.cell (d:= .p (some (K.i,0))) rfl];rw[LC];have yl:apart (some (s.length+1,0)) K.w=true:=by
   show(!Nat.beq K.w (s.length+1))=true;cases hbq:Nat.beq K.w (s.length+1)with
   |false=>rfl
   |true=>have:=dL hbq;omega
  rw[Zb yl];have N7:pN t4 s.length (dE nL 0 none 0 none 0 none) (.p none) (.i 0):=hC5.fx Xu λy hy=>by
   have:=iA y hy;omega
  have⟨t5,e5,hC6,mX⟩:=N7.aae (β:=ah) (dE (fh K.sup (um v3)) 2 r2 1 r3 1 r4) (.p (some (K.i,0))) (.i 0) rfl;refine Eq.mpr (congrArg (Ok _) (e5 (ay []))) ?_;rw[Zd,<-iN];have cA: ∀y∈L4,y∉[s.length+1,s.length+2,s.length+3]:=λy hy hm=>by
   have h1:S2.length<=y:=by
    rcases ahT y hy with h2|h2
    .exact iA y h2
    omega
   simp only[eF,tl,oH]at hm;omega
  have Ka:=oi.own;refine .mk ⟨t5,[],2,r2,1,r3,1,r4,rfl,((vy t4 Xu).mono λy hy=>by cases hy).trans mX,hC6,.inl rfl,.inl rfl,.inl rfl,⟨⟨hd,(oi.o2.fx mX λy hy=>cA y (by rw[Ka];simp[hy])).sl,kB.cj (λ_ _ k=>N7.cj hC6 mX k) oi.aM.aM⟩,(oi.o3.fx mX λy hy=>cA y (by rw[Ka];simp[hy])).sl,(oi.o4.fx mX λy hy=>cA y (by rw[Ka];simp[hy])).sl⟩,oi.set.fx mX (cA _ (by rw[Ka];simp)) (cA _ (by rw[Ka];simp))⟩
 .intro S3 hp
  cases hb:(bif decide (x.blocks<=((img.length/64:Nat):Int))then tf K else none)with
  |some v=>rw[hb]at hp;have⟨_,_,_,_,_,_,_,_,e,_⟩:=hp;cases e
  |none=>
   rw[hb]at hp;have⟨_,e,hf⟩:=hp;cases e;rw[ae];have Jw:=WO.fx hf λy hy=>by cases hy
   have⟨S4,e4,N7,JK⟩:=Jw.aae (β:=ah) (dE nL 0 none 0 none 0 none) (.p none) (.i 31) rfl;have W4:R=some none:=by
    rw[<-hR];grind
   rw[W4];refine Ok.aa4 (P:=λo=>o=(.val [],S4)) (by rw[e4];exact .mk rfl) ?_ ?_
   .intro S5 e;cases e
   .intro ds S5 e
    cases e;rw[af,N7.yO];exact .mk ⟨S4,rfl,Cp S4 ((hf.mono λy hy=>by cases hy).trans JK)⟩
 .intro ds S3 hp
  cases hb:(bif decide (x.blocks<=((img.length/64:Nat):Int))then tf K else none)with
  |none=>rw[hb]at hp;have⟨_,e,_⟩:=hp;cases e
  |some v=>
   rw[hb]at hp;have⟨_,_,z2,p2,z3,p3,z4,p4,e,hf,Jw,gS,mB,wX,cg,dh⟩:=hp;cases e;rw[af,Jw.yO];have W4:R=some (some v):=by
    rw[<-hR];grind
   rw[W4,<-km,ks];exact .mk ⟨S3,z2,p2,z3,p3,z4,p4,K.i,K.j,rfl,Cp S3 hf,gS,mB,wX,cg,dh,by omega,by omega⟩
def qu (img:aj) (x:cy):bL:=⟨0,0,0,x.blocks.toNat,none,img,x,none⟩
section
variable (w i j m:Nat) (a:ai) (img:aj) (x:cy) (pc:ai)
theorem ZtG: ∀(l:List bw) (k:Int) (v:aS),nn ⟨w,i,j,m,a,img,x,pc⟩ k l v=nn ⟨0,0,0,m,none,img,x,none⟩ k l v
 |[],_,_=>rfl
 |y::r,k,v=>by
  unfold nn;rw[show pS ⟨w,i,j,m,a,img,x,pc⟩ k y v=pS ⟨0,0,0,m,none,img,x,none⟩ k y v from rfl];cases pS ⟨0,0,0,m,none,img,x,none⟩ k y v with
  |none=>rfl
  |some v'=>exact ZtG r (k+1) v'
theorem Zzp (k slot:Int) (v:aS):na ⟨w,i,j,m,a,img,x,pc⟩ k slot v=na ⟨0,0,0,m,none,img,x,none⟩ k slot v:=by
 unfold na;rw[show dO ⟨w,i,j,m,a,img,x,pc⟩ k v=dO ⟨0,0,0,m,none,img,x,none⟩ k v from rfl];cases dO ⟨0,0,0,m,none,img,x,none⟩ k v with
 |none=>rfl
 |some q=>
  have⟨b,v1⟩:=q;cases b<;>first|rfl|exact ZtG w i j m a img x pc _ _ _
theorem U4 (cJ x5:Int): ∀(l:ak) (k:Int) (v:aS),kD ⟨w,i,j,m,a,img,x,pc⟩ cJ x5 k l v=kD ⟨0,0,0,m,none,img,x,none⟩ cJ x5 k l v
 |[],_,_=>rfl
 |y::r,k,v=>by
  unfold kD;rw[Zzp,U4 cJ x5 r (k+1) v];cases na ⟨0,0,0,m,none,img,x,none⟩ y ((x5*16+k)*7) v with
  |none=>rfl
  |some v'=>simp only[U4 cJ x5 r (k+1) v']
theorem U8 (cJ:Int): ∀(l:ak) (k:Int) (v:aS),nX ⟨w,i,j,m,a,img,x,pc⟩ cJ k l v=nX ⟨0,0,0,m,none,img,x,none⟩ cJ k l v
 |[],_,_=>rfl
 |y::r,k,v=>by
  unfold nX;rw[show dO ⟨w,i,j,m,a,img,x,pc⟩ y v=dO ⟨0,0,0,m,none,img,x,none⟩ y v from rfl,U8 cJ r (k+1) v];cases dO ⟨0,0,0,m,none,img,x,none⟩ y v with
  |none=>rfl
  |some q=>
   have⟨b,v1⟩:=q;cases b<;>try rfl
   rename_i z;simp only[U4];cases kD ⟨0,0,0,m,none,img,x,none⟩ cJ k 0 z v1 with
   |none=>rfl
   |some v2=>simp only[U8 cJ r (k+1) v2]
theorem Zx2 (v:aS):oa ⟨w,i,j,m,a,img,x,pc⟩ v=oa ⟨0,0,0,m,none,img,x,none⟩ v:=by
 unfold oa;rw[show dO ⟨w,i,j,m,a,img,x,pc⟩ x.cc v=dO ⟨0,0,0,m,none,img,x,none⟩ x.cc v from rfl];simp[U8]
theorem Zr8: ∀(f:Nat) (fl:List Bool) (k:Int) (v:aS),nk ⟨w,i,j,m,a,img,x,pc⟩ f fl k v=nk ⟨0,0,0,m,none,img,x,none⟩ f fl k v
 |0,_,_,_=>rfl
 |f+1,fl,k,v=>by
  unfold nk;cases v.aG[(k-1).toNat]? with
  |none=>rfl
  |some y=>simp only[Zr8 f]
theorem Zsg: ∀(l:List bw) (fl:List Bool),qR ⟨w,i,j,m,a,img,x,pc⟩ fl l=qR ⟨0,0,0,m,none,img,x,none⟩ fl l
 |[],_=>by unfold qR;rfl
 |y::r,fl=>by
  unfold qR;rw[Zsg r];rfl
theorem Zzn (v:aS):sE ⟨w,i,j,m,a,img,x,pc⟩ v=sE ⟨0,0,0,m,none,img,x,none⟩ v:=by
 simp[sE,Zr8,BO,Zsg]
theorem Zst: ∀(f:Nat) (out:List bh) (todo:List ni) (v:aS),jP ⟨w,i,j,m,a,img,x,pc⟩ f out todo v=jP ⟨0,0,0,m,none,img,x,none⟩ f out todo v
 |0,_,_,_=>rfl
 |f+1,out,[],v=>rfl
 |f+1,out,t::r,v=>by
  unfold jP;rw[show dO ⟨w,i,j,m,a,img,x,pc⟩ t.block v=dO ⟨0,0,0,m,none,img,x,none⟩ t.block v from rfl];cases dO ⟨0,0,0,m,none,img,x,none⟩ t.block v with
  |none=>rfl
  |some q=>
   have⟨b,v1⟩:=q;cases b<;>try rfl
   rename_i z;simp only[Zst f];rfl
theorem UW: ∀(l:ak) (k:Int) (acc:List bh) (v:aS),l8 ⟨w,i,j,m,a,img,x,pc⟩ k l acc v=l8 ⟨0,0,0,m,none,img,x,none⟩ k l acc v
 |[],_,_,_=>rfl
 |y::r,k,acc,v=>by
  unfold l8;rw[show rH ⟨w,i,j,m,a,img,x,pc⟩ y k v=rH ⟨0,0,0,m,none,img,x,none⟩ y k v from Zst w i j m a img x pc _ _ _ _,UW r (k+1) acc v];cases rH ⟨0,0,0,m,none,img,x,none⟩ y k v with
  |none=>rfl
  |some q=>
   have⟨es,v1⟩:=q;simp only[UW r (k+1)]
theorem ZuC: ∀(l:ak) (k:Nat) (v:aS),tP ⟨w,i,j,m,a,img,x,pc⟩ k l v=tP ⟨0,0,0,m,none,img,x,none⟩ k l v
 |[],_,_=>rfl
 |y::r,k,v=>by
  unfold tP;rw[show dO ⟨w,i,j,m,a,img,x,pc⟩ y v=dO ⟨0,0,0,m,none,img,x,none⟩ y v from rfl];cases dO ⟨0,0,0,m,none,img,x,none⟩ y v with
  |none=>rfl
  |some q=>
   have⟨b,v1⟩:=q;cases b<;>try rfl
   rename_i z;simp only[UW];cases l8 ⟨0,0,0,m,none,img,x,none⟩ 0 z.dz [] v1 with
   |none=>rfl
   |some q=>
    have⟨es,v2⟩:=q;simp only[ZuC r (k+1)]
theorem Zw2 (v:aS):qM ⟨w,i,j,m,a,img,x,pc⟩ v=qM ⟨0,0,0,m,none,img,x,none⟩ v:=by
 unfold qM;rw[show dO ⟨w,i,j,m,a,img,x,pc⟩ x.dir v=dO ⟨0,0,0,m,none,img,x,none⟩ x.dir v from rfl];simp[ZuC]
theorem Zzm:tf ⟨w,i,j,m,a,img,x,pc⟩=tf ⟨0,0,0,m,none,img,x,none⟩:=by
 unfold tf;simp only[Zx2 w i j m a img x pc,Zzn w i j m a img x pc,Zw2 w i j m a img x pc]
end
theorem Zvo (K:bL) (h:K.m=K.sup.blocks.toNat):rL K=rL (qu K.img K.sup):=by
 have⟨w,i,j,m,a,img,sup,pc⟩:=K;simp only at h;subst h;unfold rL;rw[Zzm];rfl
theorem ZlN (n:Nat) (a:ai) (img:aj) (x:cy) (pc:ai) (s:St) (ha:dc s a img) (hc:Sl s pc (ints x.aJ)) (hl:img.length<1000000) (cL:x.aJ.length<1000) (hn:5000<=n:=by omega):
  Ok (aaG s x.blocks.toNat x (rL (qu img x))) (run Bd n 171 [.s 1 a img.length,.a (dj x pc)] s):=by
 have⟨K,h1,h2,h3,h4⟩:=Zsi n a img x pc s ha hc hl cL hn;rw[Zvo K (by rw[h1,h3]),h2,h3]at h4;exact h4
end Go.Gv.F
