/- The walker's trees: what they are, no program in sight. -/
import Derived.Test.YtegglibipjjblaaGreatDoorGvZMb
set_option linter.all false
namespace Go.Gv.F
open Go.Gv
structure nh where
 block:Int
 qT:Int
 par:bh
 top:Bool
def sP (x:jK) (n:Nat):List nh:=((List.range n).map λi=>(⟨x.kids.getD i 0,i,x.bJ,false⟩:nh)).reverse
def Zpg (x:jK) (n:Nat):sP x (n+1)=⟨x.kids.getD n 0,n,x.bJ,false⟩::sP x n:=by
 simp[sP,qw,fA,List.reverse_append]
def DQ (v:aS) (e:bh) (k:Int):Bool:=match v.aG[e.slot.toNat]? with
 |none=>false
 |some x=>(x.live==true)&&((x.gen==e.gen)&&((x.block==k)&&true))
def uK (K:bL) (v:aS) (t:nh) (x:jK):Bool:=
 (bif ((x.kids.length:Nat):Int)==t.qT then(bif t.top then true else ft t.par x.bJ)else false)&&
 (bif decide (x.bJ.slot<K.sup.used)then DQ v x.bJ t.block else false)
def jM (K:bL):Nat->List bh->List nh->aS->Option (List bh×aS)
 |0,_,_,_=>none
 |_+1,out,[],v=>some (out,v)
 |f+1,out,t::r,v=>match dN K t.block v with
  |some (.node x,v')=>bif uK K v' t x then jM K f (out++[x.bJ]) (sP x x.kids.length++r) { v' with nodes:=v'.nodes+1 } else none
  |_=>none
def yc:bh:=⟨0,0,0,0⟩
def rG (K:bL) (k qT:Int) (v:aS):Option (List bh×aS):=jM K (K.m+1) [] [⟨k,qT,yc,true⟩] v
def room (m:Nat) (W:al):Nat:=(List.range m).countP λb=> !di W b
def Zro {P Q:Nat->Bool} : ∀ {l:al} {k:Nat},(∀b,Q b=true->P b=true)->k∈l->P k=true->Q k=false->l.countP Q+1<=l.countP P
 |[],_,_,h,_,_=>by cases h
 |a::l,k,hm,h,hp,hq=>by
  rw[List.countP_cons,List.countP_cons];rcases eF.1 h with rfl|h
  .rw[hp,hq]
   have:=List.countP_mono_left (l:=l) (p:=Q) (q:=P) λb _ hb=>hm b hb
   simp;omega
  .have:=Zro hm h hp hq
   grind
def Zuy (m:Nat) (W:al):room m W<=m:=by
 unfold room;exact gZ (List.countP_le_length) (by simp)
variable {f:Bool} {e e' r r':DV} {k n slot:Int} {i lim m p sz:Nat} {s s' s0:St} {v v':aS} {A A' all cs:ah} {l:aj} {T W:al} {K:bL}
def UP (hl:W.length=(m+63)/64) (h:fO m W k=true):room m (bK m W k)+1<=room m W:=by
 unfold fO at h;rw[aY,aY]at h;obtain⟨_,hm,hi⟩:=h;have qa:=hm;unfold fE at qa;rw[aY,bu,bu]at qa;refine Zro (k:=k.toNat) (λb hb=>?_) (uu.2 (by omega)) hi ?_
 .rw[qM hl]at hb
  rw[lD]at hb⊢;rw[C2]at hb;exact hb.1
 .rw[qM hl,hm]
  simp
def xM {b:xr} (h:dN K k v=some (b,v')):fO K.m v.W k=true/\v'.W=bK K.m v.W k:=by
 grind[dN]
def uC (v:aS) (e:bh):Prop:=0<=e.slot/\∃(x:bw) (k:Nat),v.aG[e.slot.toNat]? =some x/\x.block=(k:Int)/\di v.W k=true
def Diff (l:List bh):Prop:=l.Pairwise λa b=>a.slot≠b.slot
def Zns {x:jK} (h:ZY l= .node x):oR x=true/\x.kids.length<=12:=by
 unfold ZY at h;split at h
 .rename_i e;cases h;exact Mx e
 grind
def Ie {x:jK} (h:oR x=true):0<=x.bJ.slot/\x.bJ.slot<1792:=by
 grind[oR]
def Iu {K:bL} : ∀ {f:Nat} {acc out xc:List bh} {todo:List nh} {v v':aS},v.W.length=(K.m+63)/64->jM K f out todo v=some (xc,v')->(∀e∈acc++out,uC v e)->Diff (acc++out)->(∀e∈acc++xc,uC v' e)/\Diff (acc++xc)/\v'.W.length=(K.m+63)/64/\(∀k,di v.W k=true->di v'.W k=true)/\v'.aG=v.aG/\v'.aM=v.aM/\v'.aK=v.aK/\v'.free=v.free
 |0,_,_,_,_,_,_,_,h,_,_=>by cases h
 |f+1,acc,out,xc,[],v,v',hl,h,h1,h2=>by cases h;grind
 |f+1,acc,out,xc,t::r,v,v',hl,h,h1,h2=>by
  unfold jM at h;cases ht:dN K t.block v with
  |none=>rw[ht]at h;cases h
  |some q=>
   obtain⟨b,v1⟩:=q;rw[ht]at h;obtain⟨g1,g2,g3,g4,g5,g6⟩:=Z3 ht;obtain⟨g7,g8⟩:=xM ht;cases b with
   |leaf x=>cases h
   |cc x=>cases h
   |queue x=>cases h
   |dir x=>cases h
   |none=>cases h
   |node x=>
    simp only at h;cases hf:uK K v1 t x with
    |false=>rw[hf]at h;cases h
    |true=>
     rw[hf,ae]at h;have gM: ∀k,di v.W k=true->di v1.W k=true:=λk hk=>by rw[g8,qM hl,hk];rfl
     have pw:v1.W.length=(K.m+63)/64:=by rw[g8,oM];exact hl
     have dS:=g7;unfold fO at dS;rw[aY,aY,bu]at dS;obtain⟨jn,vt,hki⟩:=dS;have OS:=(Ie (Zns g6.symm).1).1;unfold uK at hf;rw[aY]at hf;have G4:DQ v1 x.bJ t.block=true:=by
      grind
     unfold DQ at G4;cases pA:v1.aG[x.bJ.slot.toNat]? with
     |none=>rw[pA]at G4;cases G4
     |some y=>
      rw[pA]at G4;simp only[aY,and_true]at G4;obtain⟨EB,Kw,Ha⟩:=G4;have hyb:y.block=(t.block.toNat:Int):=by rw[eq_of_beq Ha];omega
      have hold: ∀e∈acc++out,uC v1 e:=λe he=>by
       obtain⟨a1,z,k,a2,a3,a4⟩:=h1 e he;exact⟨a1,z,k,by rw[g1];exact a2,a3,gM k a4⟩
      have iA:uC v1 x.bJ:=⟨OS,y,t.block.toNat,pA,hyb,by
       rw[g8,qM hl,vt];simp⟩
      have agZ: ∀e∈acc++out,e.slot≠x.bJ.slot:=λe he heq=>by
       obtain⟨a1,z,k,a2,a3,a4⟩:=h1 e he;rw[heq,<-g1,pA]at a2;grind
      have key:=Iu (acc:=acc) (v:= { v1 with nodes:=v1.nodes+1 }) pw h (λe he=>by
       rw[<-fI]at he;rcases gx.1 he with he|he
       .exact hold e he
       .rw[cB.1 he];exact iA) (by
       unfold Diff;rw[<-fI,Lj];refine⟨h2,List.pairwise_singleton _ _,λa ha b hb=>?_⟩;rw[cB.1 hb];exact agZ a ha)
      grind
variable {β:Type}
variable {K:bL} {s:St} {v:aS} {L:al} {z1 z2 z3 z4:Nat} {p1 p2 p3 p4:ai} {hd:ah}
def lH (s:St) (a:ai) (cs:ah):Prop:=(a=none/\cs=[])\/∃b rest,a=some (b,0)/\s[b]? =some (some ⟨false,cs++rest⟩)
def lH.fx {a:ai} (h:lH s a cs) (k:Fx T s s') (n: ∀b∈aO a,b∉T):lH s' a cs:=by
 rcases h with h1|⟨i,r,rfl,h3⟩
 .exact .inl h1
 .exact .inr ⟨i,r,rfl,k.2 i _ (n i (by simp[aO])) h3⟩
def lH.lt {a:ai} (h:lH s a cs): ∀b∈aO a,b<s.length:=by
 rcases h with⟨rfl,_⟩|⟨i,r,rfl,h3⟩
 .intro b hb;cases hb
 .intro b hb;rw[cB.1 hb];grind
def ZwU {a:ai} (h:lH s a cs) {n:Nat} (ds:ah) (hz:0<sz) (hn:cs.length=n*sz) (hd:ds.length=sz) (hl:n+1<=lim:=by omega):
  ∃b s',s.length<=b/\s'[b]? =some (some ⟨false,cs++ds⟩)/\Fx (aO a) s s'/\Kp s s'/\∀K:ai->M β,(cd ds λi=>bS i 0 sz λcs'=>cm sz a n cs' 1 lim K) s=K (some (b,0)) s':=by
 rcases h with⟨rfl,rfl⟩|⟨i,rest,rfl,hs⟩
 .obtain⟨b,s',h1,h2,h3,h4,h5⟩:=bm.Po (β:=β) (s0:=[]) (s:=s) (a:=none) (cs:=[]) (bm.nil ⟨s,rfl⟩) ds hz hn hd hl
  rcases h2.2 with⟨e,_⟩|⟨i,e,_,h6⟩
  .cases e
  .cases e
   exact⟨b,s',h1,h6,⟨by have:=(ef.1 h6).1;omega,λi x _ e=>h4 i x e (λo e=>by cases e)⟩,h3,h5⟩
 .have jT:i<s.length:=by grind
  have mu:(s++[some (⟨false,ds⟩:bO)])[i]? =some (some (⟨false,cs++rest⟩:bO)):=by rw[na jT];exact hs
  have eC:(s++[some (⟨false,ds⟩:bO)]).il i=some (cs++rest):=by grind[St.il]
  have hb:Nat.beq 1 0=false:=rfl;refine⟨s.length+1,(s++[some (⟨false,ds⟩:bO)]).set i none++[some (⟨false,cs++ds⟩:bO)],by omega,?_,⟨by simp;omega,λy x hy e=>?_⟩,(aB.new _ _).kp.trans ((Kp.set mu none).trans (aB.new _ _).kp),λK=>?_⟩
  .rw[lE (by simp)];simp
  .have hyl:=(ef.1 e).1
   have dP:i≠y:=λe=>hy (by simp[aO,e])
   rw[na (by simp;omega),jv dP,na hyl];exact e
  .rw[Zz,jL (f:=false) (all:=ds) (by simp) (by omega),dK,dG (by omega)]
   unfold cm;simp only[hb,gA hl,ae,af,eC];rw[eW,gA (by rw[bB];omega),ae,dK,<-hn,EY];simp
def eD.ajm (h:eD K s v L z1 p1 z2 p2 z3 p3 z4 p4 hd) (x:Int):
  ∃s',(∀Kc:M β,dI K.w 18 [.int .i64 x] Kc s=Kc s')/\eD K s' { v with nodes:=x } L z1 p1 z2 p2 z3 p3 z4 p4 hd/\Fx [K.w] s s'/\Kp s s':=by
 have dP:=h.ne;have cL:=Fx.set s K.w (some (⟨false,rL K { v with nodes:=x } (dM z1 p1 v.aG.length) (dM z2 p2 v.aM.length) (dM z3 p3 v.aK.length) (dM z4 p4 v.free.length)⟩:bO));have pZ:=cL.mono (T':=L) λy hy=>by rw[cB.1 hy];exact h.EH
 refine⟨_,λKc=>?_,⟨?_,h.e1,h.e2,h.e3,h.e4,h.o1.fx cL λb hb=>?_,h.o2.fx cL λb hb=>?_,h.o3.fx cL λb hb=>?_,h.o4.fx cL λb hb=>?_,h.aM.fx pZ (Nw.refl L s),h.set.fx cL (by simpa using dP.1.symm) (by grind),Sl.fx h.img pZ h.off,h.off,h.own,h.nodup⟩,cL,Kp.set h.cell _⟩
 .rw[qD h.cell (by show 18<19;omega)]
  rfl
 .exact kX (ef.1 h.cell).1
 all_goals simpa using (by grind)
def F3 (t:nh):ah:=[.int .i64 t.block,.int .i64 t.qT,.int .i64 t.par.slot,.int .i64 t.par.gen,.int .i64 t.par.key,.int .i64 t.par.value,.bool t.top]
def nL (l:List nh):ah:=(l.map F3).flatten
def MA (l:List nh):(nL l).length=l.length*7:=by
 unfold nL;induction l with
 |nil=>rfl
 |cons e l ih=>rw[oG,C6,bB,ih,cO];show 7+_=_;omega
def Zrf (l m:List nh):nL (l++m)=nL l++nL m:=by simp[nL]
def UG (x:jK) (n:Nat):(sP x n).length=n:=by unfold sP;simp
def ZzT {Kn:ah->M ah} {Q:Out ah×St->Prop} (n:Nat) (ajR:s.length=s.length) (x:jK) (px:ai) (r:List nh) (t0:St) (AR:ai) (hx:Fz t0 px (ints x.kids)) (ab8:x.kids.length<=12) (ho:lH t0 AR (nL r.reverse)) (hr:r.length<100000) (gX: ∀b∈aO AR,s.length<=b) (dA:s.length<=t0.length) (hn:20<=n)
  (hK: ∀t pT z,(z=7\/pT=none)->lH t pT (nL (sP x x.kids.length++r).reverse)->(∀b∈aO pT,s.length<=b/\(b∈aO AR\/t0.length<=b))->Fx (aO AR) t0 t->Ok Q (Kn [.slice z pT (r.length+x.kids.length)] t)) (z0:Nat) (wW:z0=7\/AR=none):
  Ok Q (cS (λdw st=>
      bW 7 st λK6 ES st=>
      aD .i64 st λfS st=>
      aL st<|
      bif decide (fS<(x.kids.length:Int))then
       bH px λi6 o4=>
      aC (aR fS x.kids.length)<|
      bD i6 (fS.toNat*1+o4) λd3=>
      cY .i64 d3 λfN=>
      cd [.int .i64 fN,.int .i64 fS,.int .i64 x.bJ.slot,.int .i64 x.bJ.gen,.int .i64 x.bJ.key,.int .i64 x.bJ.value,.bool false] λi7=>
      bS i7 0 7 λfC=>
      cm 7 K6 ES fC 1 1256584717458 λp1=>
      dw [.slice 7 p1 (ES+1),.int .i64 (ar (fS+1))]
      else
       Kn [.slice 7 K6 ES]) n [.slice z0 AR r.length,.int .i64 0] t0):=by
 refine Zi _ (λq y t=>∃(i z:Nat) (pT:ai),y=[.slice z pT (r.length+i),.int .i64 i]/\(z=7\/pT=none)/\i<=x.kids.length/\x.kids.length-i<=q/\lH t pT (nL (sP x i++r).reverse)/\(∀b∈aO pT,s.length<=b/\(b∈aO AR\/t0.length<=b))/\Fx (aO AR) t0 t/\Fz t px (ints x.kids)) ?_ x.kids.length n _ _ ⟨0,z0,AR,rfl,wW,cz _,by omega,ho,by grind,.refl _ _,hx⟩ (by omega);rintro q _ t ⟨i,z,pT,rfl,hz,hi,hq,hoT,N3,cL,Ez⟩ rec aN;simp only[av,Zg 7 z pT _ hz,aq];by_cases aw:i<x.kids.length
 .obtain⟨i1,o1,rfl⟩:=Ez.1.cH (by simp[ints];omega)
  rw[ax (show(i:Int)<(x.kids.length:Int) by omega),ae,bd,Zb (Zj aw),bp,Ez.1.dJ (ZD aw)];simp only[bg];have XC:(nL (sP x i++r).reverse).length=(r.length+i)*7:=by rw[MA,List.length_reverse,bB,UG];omega
  obtain⟨b,t1,g1,g2,g3,g4,g5⟩:=ZwU (β:=ah) hoT (sz:=7) (n:=r.length+i) (lim:=1256584717458) (F3 ⟨x.kids[i],i,x.bJ,false⟩) (by omega) XC rfl;refine Eq.mpr (congrArg (Ok _) (g5 _)) ?_;have j4:ar ((i:Int)+1)=((i+1:Nat):Int):=Zc;rw[j4];refine aN (x.kids.length-(i+1)) _ _ (by omega) ⟨i+1,7,some (b,0),rfl,.inl rfl,by omega,aQ _,.inr ⟨b,[],rfl,?_⟩,?_,?_,Ez.kp g4⟩
  .rw[g2,gz,Zpg,nP,List.reverse_cons,Zrf]
   have:x.kids.getD i 0=x.kids[i]:=by rw[dW,cq aw];rfl
   rw[this];simp[nL]
  .intro y hy
   rw[cB.1 hy];have:=cL.1;omega
  .exact cL.step g3 λy hy=>(N3 y hy).2
 .rw[aF (show ¬(i:Int)<(x.kids.length:Int) by omega),af]
  have:i=x.kids.length:=by omega
  subst this;grind
def Zw9 {Bd:Zh} (h:Fk Bd) (n:Nat) (hn:8<=n) (a b:bh) (st:St):
  Ok (λo=>∃z s',o=(.val [.int .i64 z],s')/\aB st s'/\decide (z<0)=ft a b) (run Bd n 159 [.agg (fk a),.agg (fk b)] st):=by
 refine(aa1 h n hn a b st).mono ?_;rintro _ ⟨z,s',rfl,hp,e⟩;grind
variable {Q:Out β×St->Prop}
def Ok.join {f:ah->M β} {g:(ah->M β)->M β} (h: ∀jk,jk=f->Ok Q (g jk s)):Ok Q (cK f g s):=by rw[Za];exact h f rfl
def Zx1 (pn:M β) (x:jK) (px:ai) (Kc:Int->Int->Int->Int->ai->Nat->M β):uW pn (.iface 6 (.agg (oA x 1 px))) 6 (λd=>tI d λbM=>aD .i64 bM λx8 r=>aD .i64 r λx9 r=>aD .i64 r λcV r=>aD .i64 r λeB r=>bW 1 r λfj pI r=>aL r<|Kc x8 x9 cV eB fj pI)=Kc x.bJ.slot x.bJ.gen x.bJ.key x.bJ.value px x.kids.length:=rfl
def LG (K:bL) (s:St) (v:aS) (L:al) (z1:Nat) (p1:ai) (z2:Nat) (p2:ai) (z3:Nat) (p3:ai) (z4:Nat) (p4:ai) (hd:ah) (R:Option (List bh×aS)) (o:Out ah×St):Prop:=match R with
 |none=>∃s',o=(.fp,s')/\Fx L s s'
 |some (out,v')=>∃p z s',o=(.val [.slice z p out.length],s')/\(z=4\/p=none)/\eD K s' v' L z1 p1 z2 p2 z3 p3 z4 p4 hd/\Fx L s s'/\lH s' p (bY out)/\(∀b∈aO p,s.length<=b)/\v'.nodes+(room K.m v'.W:Nat)<=v.nodes+(room K.m v.W:Nat)/\v.nodes<=v'.nodes/\out.length<=4000
def eD.O5 (h:eD K s v L z1 p1 z2 p2 z3 p3 z4 p4 hd) (h0:qB s0 L hd v.aM) (hl: ∀x∈L,x<s0.length) (ha: ∀b o,K.a=some (b,o)->b<s0.length) (k0:Fx L s0 s) (k:Fx T s s') (hT: ∀x∈T,s0.length<=x):eD K s' v L z1 p1 z2 p2 z3 p3 z4 p4 hd/\Fx L s0 s':=by
 have hf:Fx L s0 s':=k0.step k λx hx=> .inr (hT x hx)
 exact⟨h.j5 k (by grind) (λb o e hm=>by have:=ha b o e;have:=hT b hm;omega) (h0.fx hf (Nw.refl L s0)),hf⟩
def Zy7 {Bd:Zh} (h:HA Bd) (n:Nat) (hK:Dl K) (k qT:Int) (hW:eD K s v L z1 p1 z2 p2 z3 p3 z4 p4 hd) (h0:0<=K.sup.used) (h1:K.sup.used<=1792) (hs:(v.aG.length:Int)=K.sup.used) (jo:0<=v.nodes) (hnr:v.nodes+(room K.m v.W:Nat)<=5000) (hm:K.m<=3072) (hn:4010<=n):
  Ok (LG K s v L z1 p1 z2 p2 z3 p3 z4 p4 hd (rG K k qT v)) (run Bd n 233 [.ptr (some (K.w,0)),.int .i64 k,.int .i64 qT] s):=by
 obtain⟨n,rfl⟩: ∃k,n=k+2:=⟨n-2,by omega⟩;rw[Ze,h.ae1];unfold Ql F5 Dh ZsB uA ZuP aA C_ Zm cP Zn N_ qI cw rW ix Lb Li Bv rG;simp only[eH,av,aq];rw[Zz];have Ee:=hW.lt;have Gx: ∀b o,K.a=some (b,o)->b<s.length:=λb o e=>Sl.lt (e▸hW.img)
 have ou:=aB.new s (some (⟨false,[DV.int .i64 k,.int .i64 qT,.int .i64 0,.int .i64 0,.int .i64 0,.int .i64 0,.bool true]⟩:bO));have ym:(s++[some (⟨false,[DV.int .i64 k,.int .i64 qT,.int .i64 0,.int .i64 0,.int .i64 0,.int .i64 0,.bool true]⟩:bO)])[s.length]? =some (some ⟨false,nL [⟨k,qT,yc,true⟩]⟩):=by simp;rfl
 have sF:=hW.pre ou;generalize s++[some (⟨false,[DV.int .i64 k,.int .i64 qT,.int .i64 0,.int .i64 0,.int .i64 0,.int .i64 0,.bool true]⟩:bO)]=s0 at ou ym sF;obtain⟨R,hR⟩: ∃R,jM K (K.m+1) [] [⟨k,qT,yc,true⟩] v=R:=⟨_,rfl⟩;rw[hR,Za];have hrm:=Zuy K.m v.W;refine Zi _ (λq y t=>∃(f:Nat) (out:List bh) (todo:List nh) (u:aS) (zo:Nat) (po:ai) (zt:Nat) (pt:ai),y=[.slice zo po out.length,.slice zt pt todo.length]/\(zo=4\/po=none)/\(zt=7\/pt=none)/\room K.m u.W<=q/\room K.m u.W<f/\eD K t u L z1 p1 z2 p2 z3 p3 z4 p4 hd/\u.aG=v.aG/\u.aM=v.aM/\Fx L s t/\lH t po (bY out)/\lH t pt (nL todo.reverse)/\(∀b∈aO po,s.length<=b)/\(∀b∈aO pt,s.length<=b)/\(∀b∈aO po,b∉aO pt)/\v.nodes<=u.nodes/\u.nodes+(room K.m u.W:Nat)<=v.nodes+(room K.m v.W:Nat)/\out.length+room K.m u.W<=3072/\todo.length+12*room K.m u.W<=40000/\jM K f out todo u=R) ?_ (room K.m v.W) (n+1) _ _ ⟨K.m+1,[],[⟨k,qT,yc,true⟩],v,0,none,7,some (s.length,0),rfl,.inr rfl,.inl rfl,aQ _,by omega,sF,rfl,rfl,Fx.pre L ou,.inl ⟨rfl,rfl⟩,.inr ⟨s.length,[],rfl,by rw[gz];exact ym⟩,λ_ h=>(by cases h),λb hb=>by rw[cB.1 hb];exact aQ _,λ_ h=>(by cases h),Int.le_refl _,Int.le_refl _,by simp;omega,by simp;omega,hR⟩ (by omega);rintro q _ t ⟨f,out,todo,u,zo,po,zt,pt,rfl,Yp,hzt,hrq,hrf,dZ,jc,uh,cL,OB,hot,Jx,yp,WZ,JZ,J0,ig,uf,aP⟩ rec aN;simp only[Zg 4 zo po _ Yp,Zg 7 zt pt _ hzt,aq];obtain⟨f,rfl⟩: ∃k,f=k+1:=⟨f-1,by omega⟩;cases todo with
 |nil=>
  rw[show decide ((([]:List nh).length:Int)>0)=false from rfl,af];simp only[aX,aq];unfold jM at aP;rw[Zd,<-aP];exact .mk ⟨po,4,t,rfl,.inl rfl,dZ,cL,OB,Jx,J0,JZ,by omega⟩
 |cons e r=>
  unfold jM at aP;rw[ax (show(((e::r).length:Nat):Int)>0 by grind),ae];rw[Za];rcases hot with⟨_,hx⟩|⟨bt,rest,rfl,abe⟩
  .exfalso
   have:=congrArg List.length hx;rw[MA]at this;simp at this
  have cG:ar ((((e::r).length:Nat):Int)-1)=(r.length:Int):=by
   have e3:((((e::r).length:Nat):Int)-1)=(r.length:Int):=by simp
   have h9:r.length<100000:=by omega
   rw[e3];exact Zc
  simp only[cG,bp];rw[bd,Zb (Zj (by simp))];have Cg:nL (e::r).reverse=nL r.reverse++F3 e:=by
   rw[List.reverse_cons,Zrf];simp[nL]
  have XF: ∀Kc:ah->M ah,bS bt (r.length*7+0) 7 Kc t=Kc (F3 e) t:=λKc=>by
   rw[gV,jL abe (by rw[bB,MA,List.length_reverse,cO];omega)];rw[Cg,show r.length*7=(nL r.reverse).length by rw[MA,List.length_reverse],fI,C4];rfl
  rw[XF];unfold F3;simp only[av,au,aq];rw[Zb (by rw[aY,bu,bu];simp;omega)];refine Ok.wv (dZ.take h (n+1) e.block hK.m hK.F9 hK.len (by omega)) ?_ ?_
  .intro s' hp
   cases ht:dN K e.block u with
   |none=>rw[ht]at hp aP;cases hp;rw[<-aP];exact⟨t,rfl,cL⟩
   |some q=>rw[ht]at hp;obtain⟨d,s2,e,_⟩:=hp;cases e
  intro ds t1 hp;cases ht:dN K e.block u with
  |none=>rw[ht]at hp;cases hp
  |some q=>
   obtain⟨b,u1⟩:=q;rw[ht]at hp aP;obtain⟨d,s2,e2,iN,ml,hb⟩:=hp;cases e2;obtain⟨g1,g2,g3,g4,g5,g6⟩:=Z3 ht;obtain⟨g7,g8⟩:=xM ht;have OO:=UP dZ.set.len g7;rw[<-g8]at OO;have om:Fx L s t1:=cL.trans (ml.mono λy hy=>by rw[cB.1 hy];exact dZ.w5);simp only[Dd,aq];cases b with
   |leaf x=>obtain⟨rfl,_⟩:=hb;rw[<-aP];exact .mk ⟨t1,rfl,om⟩
   |cc x=>obtain⟨rfl,_⟩:=hb;rw[<-aP];exact .mk ⟨t1,rfl,om⟩
   |queue x=>obtain⟨rfl,_⟩:=hb;rw[<-aP];exact .mk ⟨t1,rfl,om⟩
   |dir x=>obtain⟨p,rfl,_⟩:=hb;rw[<-aP];exact .mk ⟨t1,rfl,om⟩
   |none=>cases hb;rw[<-aP];exact .mk ⟨t1,rfl,om⟩
   |node x=>
    obtain⟨px,rfl,Kv,hxr,ab8⟩:=hb;simp only at aP;rw[Zx1];have OS:=Ie hxr;have vw: ∀t',Fx L s t'->uK K u1 e x=false->Ok (LG K s v L z1 p1 z2 p2 z3 p3 z4 p4 hd R) (some (.fp,t')):=λt' wL hf=>by
     rw[hf,af]at aP;rw[<-aP];exact .mk ⟨t',rfl,wL⟩
    obtain⟨c1,iZ⟩: ∃c1,(bif ((x.kids.length:Nat):Int)==e.qT then(bif e.top then true else ft e.par x.bJ)else false)=c1:=⟨_,rfl⟩;obtain⟨c2,kJ⟩: ∃c2,(bif decide (x.bJ.slot<K.sup.used)then DQ u1 x.bJ e.block else false)=c2:=⟨_,rfl⟩;have Xg:uK K u1 e x=(c1&&c2):=by unfold uK;rw[iZ,kJ]
    refine Ok.join λaW kK=>?_
    have hA: ∀t2,eD K t2 u1 L z1 p1 z2 p2 z3 p3 z4 p4 hd->Fx L s t2->lH t2 po (bY out)->lH t2 (some (bt,0)) (nL r.reverse)->Fz t2 px (ints x.kids)->Ok (LG K s v L z1 p1 z2 p2 z3 p3 z4 p4 hd R) (aW [.bool c1] t2):=by
     intro t2 mg fX ahO ahS aiL;rw[kK];simp only[au,aq];cases c1 with
     |false=>
      rw[oN h n rfl];exact vw t2 fX (by rw[Xg];rfl)
     |true=>
     rw[tr h n rfl];simp only[aq];rw[bd,Zo mg.cell rfl];simp only[bg];refine Ok.join λbz Ct=>?_
     have hB:Ok (LG K s v L z1 p1 z2 p2 z3 p3 z4 p4 hd R) (bz [.bool c2] t2):=by
      rw[Ct];simp only[au,aq];cases c2 with
      |false=>
       rw[oN h n rfl];exact vw t2 fX (by rw[Xg];rfl)
      |true=>
      rw[tr h n rfl];rw[Xg,vO,ae]at aP;simp only[aq,bd];rw[Zo mg.cell rfl];simp only[bg];have pC:ar (u1.nodes+1)=u1.nodes+1:=Zc (by rw[g5];omega) (by rw[g5];omega);rw[pC,eW];obtain⟨t3,e3,wI,fD,ahr⟩:=mg.ajm (β:=ah) (u1.nodes+1);rw[e3];have ox:K.w∈L:=dZ.EH;have abu:Fx L s t3:=fX.trans (fD.mono λy hy=>by rw[cB.1 hy];exact ox);have gX: ∀b,s.length<=b->b∉[K.w]:=λb hb hm=>by rw[cB.1 hm]at hb;have:=Ee _ ox;omega
      have ahP:=ahO.fx fD λb hb=>gX b (Jx b hb)
      have abQ:=ahS.fx fD λb hb=>gX b (yp b hb)
      have aiM:=aiL.kp ahr;obtain⟨bo,t4,q1,q2,q3,q4,q5⟩:=ZwU (β:=ah) ahP (sz:=4) (n:=out.length) (lim:=2199023255552) (fk x.bJ) (by omega) (Zt _) rfl;refine Eq.mpr (congrArg (Ok _) (q5 _)) ?_;have Xr:qB s L hd u1.aM:=by rw[g2,uh];exact hW.aM
      obtain⟨oi,sH⟩:=wI.O5 Xr Ee Gx abu q3 Jx;have ahT:=abQ.fx q3 λb hb hm=>WZ b hm hb
      have aiN:=aiM.kp q4;have hs4:s.length<=t4.length:=sH.1;rw[Za];refine ZzT (s:=s) (n+1) rfl x px r t4 (some (bt,0)) aiN ab8 ahT (by simp at uf;omega) yp hs4 (by omega) (Kn:=λds=>bW 7 ds λY9 aaa st=>aL st<|bW 4 [.slice 4 (some (bo,0)) (out.length+1),.slice 7 Y9 aaa] λuk sS st=>bW 7 st λY7 Y8 st=>aL st<|rec [.slice 4 uk sS,.slice 7 Y7 Y8]) ?_ 7 (.inl rfl);intro t5 pT z hz hT N3 Co;simp only[Zg 7 z pT _ hz,aX,aq];have abc:bo∉aO (some (bt,0)):=λhm=>by
       have:=lH.lt abQ bo hm;omega
      have wT:=abu.1;obtain⟨Gu,ahb⟩:=oi.O5 Xr Ee Gx sH Co yp;have aj1:bo<t4.length:=(ef.1 q2).1;refine aN (room K.m u1.W) _ _ (by omega) ⟨f,out++[x.bJ],sP x x.kids.length++r, { u1 with nodes:=u1.nodes+1 },4,some (bo,0),7,pT,?_,.inl rfl,.inl rfl,aQ _,(show room K.m u1.W<f by omega),Gu,by show u1.aG=_;rw[g1,jc],by show u1.aM=_;rw[g2,uh],ahb,.inr ⟨bo,[],rfl,?_⟩,hT,λb hb=>?_,λb hb=>(N3 b hb).1,λb hb hm=>?_,?_,?_,?_,?_,aP⟩
      .simp[UG,tk]
      .rw[gz,zL]
       have:=Co.2 bo _ abc q2;simpa [bY]using this
      .rw[cB.1 hb];omega
      .rw[cB.1 hb]at hm
       rcases(N3 bo hm).2 with h5|h5
       .exact abc h5
       .omega
      .show v.nodes<=u1.nodes+1
       rw[g5];omega
      .show u1.nodes+1+_<=_
       rw[g5];show u.nodes+1+(room K.m u1.W:Nat)<=_;omega
      .show(out++[x.bJ]).length+room K.m u1.W<=_
       simp;omega
      .show(sP x x.kids.length++r).length+12*room K.m u1.W<=_
       rw[bB,UG];simp at uf;omega
     cases aw:decide (x.bJ.slot<K.sup.used)with
     |false=>
      rw[aw,af]at kJ;rw[af,kJ];exact hB
     |true=>
      rw[aw,ae]at kJ;have ua:=mI aw;rw[ae,bd,Zo mg.cell rfl];show Ok _ (dr 3 (.slice z1 p1 u1.aG.length) _ t2);rw[Z2 3 z1 p1 _ mg.e1];have AJ:u1.aG.length=v.aG.length:=by rw[g1,jc]
      obtain⟨ks,yy⟩: ∃ks:Nat,x.bJ.slot=ks:=⟨x.bJ.slot.toNat,by omega⟩;have fY:ks<u1.aG.length:=by rw[AJ];omega
      obtain⟨bs,rfl,vh⟩:=mg.o1.cH (by rw[ZB];omega);have mX:u1.aG[ks]? =some u1.aG[ks]:=cq fY;unfold DQ at kJ;rw[yy,bp,mX]at kJ;rw[bd,yy,Zb (Zj fY),bp,Mf vh mX];unfold eL;simp only[au,av,aq];simp only at kJ;rw[kJ];exact hB
    have hjL:K.j∈L:=dZ.w5;have hnj: ∀b,s.length<=b->b∉[K.j]:=λb hb hm=>by rw[cB.1 hm]at hb;have:=Ee _ hjL;omega
    have XP:=OB.fx ml λb hb=>hnj b (Jx b hb)
    have XQ:lH t1 (some (bt,0)) (nL r.reverse):= .inr ⟨bt,F3 e++rest,rfl,by
     rw[<-fI,<-Cg];exact ml.2 bt _ (hnj bt (yp bt (by simp[aO]))) abe⟩
    cases D8:(((x.kids.length:Nat):Int)==e.qT)with
    |false=>
     rw[D8,af]at iZ;rw[af,iZ];exact hA t1 iN om XP XQ Kv
    |true=>
     rw[D8,ae]at iZ;rw[ae];refine Ok.join λdp Oh=>?_
     cases htp:e.top with
     |true=>
      rw[htp,ae]at iZ;rw[ae,Oh];simp only[au,aq];rw[iZ];exact hA t1 iN om XP XQ Kv
     |false=>
      rw[htp,af]at iZ;rw[af];refine Ok.call (Zw9 h.aiU (n+1) (by omega) e.par x.bJ t1) ?_;rintro _ ⟨z,t2,rfl,aU,e2⟩;refine⟨_,t2,rfl,?_⟩;rw[Oh];simp only[av,au,aq];rw[e2,iZ];exact hA t2 (iN.pre aU) (om.trans (Fx.pre L aU)) (XP.fx (Fx.pre [] aU) λ_ _ h=>by cases h) (XQ.fx (Fx.pre [] aU) λ_ _ h=>by cases h) (Kv.pre aU)
def e4 (e:bh):E4:=(e.slot,e.gen,e.key,e.value)
def CW (x:E4):bh:=⟨x.1,x.2.1,x.2.2.1,x.2.2.2⟩
def Go.Gv.aaV: ∀(l:List bh),Go.Gv.Ag (bY l)=some (l.map e4)
 |[]=>rfl
 |e::l=>by
  show(match Go.Gv.Ag (bY l)with|some l=>some ((e.slot,e.gen,e.key,e.value)::l)|none=>none)=_;rw[Go.Gv.aaV l];rfl
def Znm: ∀(l:List E4),mM l=bY (l.map CW)
 |[]=>rfl
 |x::l=>by
  show su x++mM l=_;rw[Znm l];rfl
def lz (l:List bh):List bh:=(jB (l.map e4)).map CW
def UH (l:List bh):(lz l).length=l.length:=by simp[lz,nQ,Uj]
def Zo5 (l:List bh):(lz l).Perm l:=by
 unfold lz;have:=(H7 (l.map e4)).map CW;rwa [Bf,show CW∘e4=id from rfl,List.map_id]at this
def U1 {x y:E4} (h:x.1≠y.1):(fL x y||fL y x)=true:=by
 rw[lT,DF,DF];omega
def RG: ∀ {l:List bh},Diff l->DO (l.map e4)=true
 |[],_=>rfl
 |e::l,.cons h1 h2=>by
  show((l.map e4).all (λy=>fL (e4 e) y||fL y (e4 e))&&DO (l.map e4))=true;rw[RG h2,vO,vR];intro y hy;obtain⟨z,hz,rfl⟩:=pK.1 hy;exact U1 (h1 z hz)
variable {Bd:Zh} [h:HA Bd]
def ZzN (n:Nat) (l:List bh) (p:ai) (st:St) (hs:lH st p (bY l)) (hd:Diff l) (hl:l.length<=1000000):
  ∃s',run Bd (n+1) 232 [.slice 4 p l.length,.func 159 [] []] st=some (.val [],s')/\lH s' p (bY (lz l))/\Fx (aO p) st s':=by
 rw[Ze,h.ae0];unfold Ix;rcases hs with⟨rfl,hx⟩|⟨b,rest,rfl,hb⟩
 .have h0:l.length=0:=by
   have:=congrArg List.length hx;rw[Zt]at this;rw[Be]at this;omega
  have h1:l=[]:=zp.1 h0;subst h1;exact⟨st,rfl,.inl ⟨rfl,rfl⟩,.refl _ _⟩
 .have eC:st.il b=some (bY l++rest):=by grind[St.il]
  simp only[eC];rw[gA (by rw[bB,Zt];omega),ae,dK,<-Zt,EY,Go.Gv.aaV];simp only[RG hd,gA hl,Bool.and_self,ae];have pA:mM (jB (l.map e4))=bY (lz l):=Znm _;rw[pA];have lP:=tw [] (bY l) rest (bY (lz l)) (by rw[Zt,Zt,UH]);rw[jG,jG]at lP;refine⟨_,rfl,.inr ⟨b,rest,rfl,?_⟩,Fx.set st b _⟩;rw[kX (ef.1 hb).1];grind
def dj (x:cy) (p:ai):ah:=[.int .i64 x.seq,.int .i64 x.blocks,.int .i64 x.de,.int .i64 x.g,.int .i64 x.cc,.int .i64 x.used,.int .i64 x.free,.int .i64 x.dir,.slice 1 p x.aJ.length]
def nJ (x:cy) (k:Int):Bool:=bif decide (k>=2)then decide (k<x.blocks)else false
def qE (x:cy):Bool:=(List.range x.aJ.length).all λi=>nJ x (x.aJ.getD i 0)&& !decide (x.aJ.getD i 0∈x.aJ.take i)
def ZU (x:cy):Bool:=
 !(decide (x.seq<1)||(decide (x.seq>4611686018427387904)||(!oY x.blocks x.de x.g||(decide (x.used<0)||(decide (x.used>x.de)||(decide (x.free<0)||decide (x.free>x.used)))))))&&
 (!((bif x.used==0 then !(x.cc==0)else false)||((bif decide (x.used>0)then !nJ x x.cc else false)||((bif !(x.dir==0)then !nJ x x.dir else false)|| !(((x.aJ.length:Nat):Int)==BJ x.blocks x.de x.g))))&&qE x)
def Zoi (n:Nat) (x:cy) (p:ai) (b:Nat) (k:Int) (st:St) (hb:st[b]? =some (some ⟨false,dj x p⟩)):
  run Bd (n+1) 221 [.int .i64 k,.ptr (some (b,0))] st=some (.val [.bool (nJ x k)],st):=by
 rw[Ze,h.aeQ];unfold Qy jh aA Zm Lb nJ;simp only[av,eH,aq,Za,bd];cases decide (k>=2)with
 |false=>rfl
 |true=>
  rw[ae,ae,Zo hb (d:= .int .i64 x.blocks) rfl];rfl
def ZkI (n:Nat) (x:cy) (p:ai) (st:St) (hs:Sl st p (ints x.aJ)) (hl:x.aJ.length<1000) (hn:x.aJ.length+10<=n):
  run Bd n 197 [.agg (dj x p)] st=some (.val [.bool (ZU x)],st++[some ⟨false,dj x p⟩]):=by
 obtain⟨n,rfl⟩: ∃k,n=k+3:=⟨n-3,by omega⟩;rw[Ze,h.aew];unfold Ry xC Zm aA Q_ cM Zn bq Zip tl Lb Li dY uQ ZU;have hb:(st++[some (⟨false,dj x p⟩:bO)])[st.length]? =some (some ⟨false,dj x p⟩):=by simp
 have eX:=hs.mono (aB.new st (some (⟨false,dj x p⟩:bO)));have Aq:=λk=>Zoi (n+1) x p st.length k _ hb
 have ld: ∀(k:Nat) (d:DV),(dj x p)[k]? =some d->∀Kc:DV->M ah,bD st.length k Kc (st++[some (⟨false,dj x p⟩:bO)])=Kc d (st++[some (⟨false,dj x p⟩:bO)]):=λk d e Kc=>Zo hb e Kc
 have Yx: ∀Kc:ah->M ah,bS st.length 1 3 Kc (st++[some (⟨false,dj x p⟩:bO)])=Kc [.int .i64 x.blocks,.int .i64 x.de,.int .i64 x.g] (st++[some (⟨false,dj x p⟩:bO)]):=λKc=>by
  rw[jL hb (by show 1+3<=9;omega)];rfl
 show ba [.agg (dj x p)] _ st=_;rw[cT];unfold dj;simp only[av,aX,aq];rw[Zz];change _=some (Out.val _,st++[some (⟨false,dj x p⟩:bO)]);have nx:([.int .i64 x.seq,.int .i64 x.blocks,.int .i64 x.de,.int .i64 x.g,.int .i64 x.cc,.int .i64 x.used,.int .i64 x.free,.int .i64 x.dir,.slice 1 p x.aJ.length]:ah)=dj x p:=rfl;rw[nx];generalize (st++[some (⟨false,dj x p⟩:bO)])=s1 at hb eX Aq ld Yx⊢;rw[ld 0 (.int .i64 x.seq) rfl];simp only[bg];refine ok_eq ?_;obtain⟨F1,hF1⟩: ∃F1,(decide (x.seq<1)||(decide (x.seq>4611686018427387904)||(!oY x.blocks x.de x.g||(decide (x.used<0)||(decide (x.used>x.de)||(decide (x.free<0)||decide (x.free>x.used)))))))=F1:=⟨_,rfl⟩;obtain⟨F2,hF2⟩: ∃F2,((bif x.used==0 then !(x.cc==0)else false)||((bif decide (x.used>0)then !nJ x x.cc else false)||((bif !(x.dir==0)then !nJ x x.dir else false)|| !(((x.aJ.length:Nat):Int)==BJ x.blocks x.de x.g))))=F2:=⟨_,rfl⟩;rw[hF1,hF2];refine Ok.join λaz h1=>?_
 have A1: ∀b,(decide (x.seq<1)||decide (x.seq>4611686018427387904))=b->Ok (λp=>p=(Out.val [DV.bool (!F1&&(!F2&&qE x))],s1)) (az [.bool b] s1):=by
  intro b1 e1;rw[h1];simp only[au,aq];refine Ok.join λaI h2=>?_
  have A2: ∀b,(b1|| !oY x.blocks x.de x.g)=b->Ok (λp=>p=(Out.val [DV.bool (!F1&&(!F2&&qE x))],s1)) (aI [.bool b] s1):=by
   intro b2 e2;rw[h2];simp only[au,aq];refine Ok.join λaW h3=>?_
   have A3: ∀b,(b2||decide (x.used<0))=b->Ok (λp=>p=(Out.val [DV.bool (!F1&&(!F2&&qE x))],s1)) (aW [.bool b] s1):=by
    intro b3 e3;rw[h3];simp only[au,aq];refine Ok.join λbz h4=>?_
    have A4: ∀b,(b3||decide (x.used>x.de))=b->Ok (λp=>p=(Out.val [DV.bool (!F1&&(!F2&&qE x))],s1)) (bz [.bool b] s1):=by
     intro b4 e4;rw[h4];simp only[au,aq];refine Ok.join λck h5=>?_
     have A5: ∀b,(b4||decide (x.free<0))=b->Ok (λp=>p=(Out.val [DV.bool (!F1&&(!F2&&qE x))],s1)) (ck [.bool b] s1):=by
      intro b5 e5;rw[h5];simp only[au,aq];refine Ok.join λdp h6=>?_
      have A6: ∀b,(b5||decide (x.free>x.used))=b->Ok (λp=>p=(Out.val [DV.bool (!F1&&(!F2&&qE x))],s1)) (dp [.bool b] s1):=by
       intro b6 e6;rw[h6];simp only[au,aq];have yo:F1=b6:=by rw[<-hF1,<-e6,<-e5,<-e4,<-e3,<-e2,<-e1];grind
       cases b6 with
       |true=>rw[ae,Zd,yo];exact .mk rfl
       |false=>
        rw[af,yo,bn,dF,ld 5 (.int .i64 x.used) rfl];simp only[bg];refine Ok.join λgN h7=>?_
        have B7: ∀b,(bif x.used==0 then !(x.cc==0)else false)=b->Ok (λp=>p=(Out.val [DV.bool (!F2&&qE x)],s1)) (gN [.bool b] s1):=by
         intro b7 e7;rw[h7];simp only[au,aq];refine Ok.join λiC h8=>?_
         have B8: ∀b,(b7||(bif decide (x.used>0)then !nJ x x.cc else false))=b->Ok (λp=>p=(Out.val [DV.bool (!F2&&qE x)],s1)) (iC [.bool b] s1):=by
          intro b8 e8;rw[h8];simp only[au,aq];refine Ok.join λiD h9=>?_
          have B9: ∀b,(b8||(bif !(x.dir==0)then !nJ x x.dir else false))=b->Ok (λp=>p=(Out.val [DV.bool (!F2&&qE x)],s1)) (iD [.bool b] s1):=by
           intro b9 e9;rw[h9];simp only[au,aq];refine Ok.join λkl NT=>?_
           have B10: ∀b,(b9|| !(((x.aJ.length:Nat):Int)==BJ x.blocks x.de x.g))=b->Ok (λp=>p=(Out.val [DV.bool (!F2&&qE x)],s1)) (kl [.bool b] s1):=by
            intro BV Jl;rw[NT];simp only[au,aq];have aba:F2=BV:=by rw[<-hF2,<-Jl,<-e9,<-e8,<-e7];simp only[Bool.or_assoc]
            cases BV with
            |true=>rw[ae,Zd,aba];exact .mk rfl
            |false=>
             rw[af,aba,bn,dF,ld 8 (.slice 1 p x.aJ.length) rfl];simp only[j9];rw[Za];refine Zi _ (λq y s=>∃i:Nat,y=[.int .i64 i]/\i<=x.aJ.length/\x.aJ.length-i<=q/\s=s1/\((List.range i).all λi=>nJ x (x.aJ.getD i 0)&& !decide (x.aJ.getD i 0∈x.aJ.take i))=true) ?_ x.aJ.length (n+2) _ _ ⟨0,rfl,by omega,by omega,rfl,rfl⟩ (by omega);rintro q _ s ⟨i,rfl,hi,hq,rfl,dt⟩ rec aN;simp only[av,aq];by_cases aw:i<x.aJ.length
             .obtain⟨i1,o1,rfl⟩:=eX.cH (by simp[ints];omega)
              rw[ax (by omega),ae,bd,Zb (Zj aw),bp,eX.dJ (ZD aw)];simp only[bg];have hw:ar ((i:Int)+1)=((i+1:Nat):Int):=Zc;have yv:x.aJ.getD i 0=x.aJ[i]:=by rw[dW,cq aw];rfl
              have cA:(nJ x x.aJ[i]&& !decide (x.aJ[i]∈x.aJ.take i))=false->qE x=false:=λe=>List.all_eq_false.2 ⟨i,uu.2 aw,by rw[yv,e];decide⟩
              rw[Zk (Aq x.aJ[i])];simp only[au,aq,Za];cases hb:nJ x x.aJ[i]with
              |false=>
               rw[bn,ae];rw[ae,Zd,cA (by rw[hb];rfl)];exact .mk rfl
              |true=>
               rw[br,af,ld 8 (.slice 1 (some (i1,o1)) x.aJ.length) rfl];simp only[j9];rw[Zb (by rw[aY,bu,bu];omega)];have Yc:(x.aJ.take i).length=i:=by rw[cX];omega
               have cg:Sl s (some (i1,o1)) (ints (x.aJ.take i)):=by
                have:=Sl.lA eX i;rwa [show(ints x.aJ).take i=ints (x.aJ.take i) by unfold ints;rw[List.map_take]]at this
               have hc:=ZjB (n+2) (x.aJ.take i) x.aJ[i] _ s cg (by omega) (by omega);rw[Yc]at hc;rw[Zk hc];simp only[au,aq];cases hm:decide (x.aJ[i]∈x.aJ.take i)with
               |true=>
                rw[ae,Zd,cA (by rw[hb,hm];rfl)];exact .mk rfl
               |false=>
                rw[af,hw];refine aN (x.aJ.length-(i+1)) _ _ (by omega) ⟨i+1,rfl,by omega,aQ _,rfl,?_⟩;rw[qw,tf,dt,vQ,List.all_nil,yv,hb,hm];rfl
             .rw[aF (by omega),af,Zd]
              rw[show i=x.aJ.length by omega]at dt;unfold qE;rw[dt];exact .mk rfl
           cases b9 with
           |true=>rw[ae];exact B10 true rfl
           |false=>
            rw[af,ld 8 (.slice 1 p x.aJ.length) rfl];simp only[j9];rw[Yx];simp only[av,aq];rw[qF (Zp4 n x.blocks x.de x.g s1) (.refl s1)];simp only[av,aq];exact B10 _ rfl
          cases b8 with
          |true=>rw[ae];exact B9 true rfl
          |false=>
           rw[af,ld 7 (.int .i64 x.dir) rfl];simp only[bg];rw[Za];cases hd:(!(x.dir==0))with
           |false=>rw[af];simp only[au,aq];exact B9 _ (by rw[hd];rfl)
           |true=>
            rw[ae,ld 7 (.int .i64 x.dir) rfl];simp only[bg];rw[Zk (Aq x.dir)];simp only[au,aq];exact B9 _ (by rw[hd];rfl)
         cases b7 with
         |true=>rw[ae];exact B8 true rfl
         |false=>
          rw[af,ld 5 (.int .i64 x.used) rfl];simp only[bg];rw[Za];cases hd:decide (x.used>0)with
          |false=>rw[af];simp only[au,aq];exact B8 _ (by rw[hd];rfl)
          |true=>
           rw[ae,ld 4 (.int .i64 x.cc) rfl];simp only[bg];rw[Zk (Aq x.cc)];simp only[au,aq];exact B8 _ (by rw[hd];rfl)
        cases hu:(x.used==0)with
        |true=>rw[ae,ld 4 (.int .i64 x.cc) rfl];simp only[bg];exact B7 _ (by rw[hu];rfl)
        |false=>rw[af];exact B7 _ (by rw[hu];rfl)
      cases b5 with
      |true=>rw[ae];exact A6 true rfl
      |false=>rw[af,ld 6 (.int .i64 x.free) rfl];simp only[bg];rw[ld 5 (.int .i64 x.used) rfl];simp only[bg];exact A6 _ rfl
     cases b4 with
     |true=>rw[ae];exact A5 true rfl
     |false=>rw[af,ld 6 (.int .i64 x.free) rfl];simp only[bg];exact A5 _ rfl
    cases b3 with
    |true=>rw[ae];exact A4 true rfl
    |false=>rw[af,ld 5 (.int .i64 x.used) rfl];simp only[bg];rw[ld 2 (.int .i64 x.de) rfl];simp only[bg];exact A4 _ rfl
   cases b2 with
   |true=>rw[ae];exact A3 true rfl
   |false=>rw[af,ld 5 (.int .i64 x.used) rfl];simp only[bg];exact A3 _ rfl
  cases b1 with
  |true=>rw[ae];exact A2 true rfl
  |false=>
   rw[af,Yx];simp only[av,aq];rw[Zk (ZlP (n+1) x.blocks x.de x.g s1)];simp only[au,aq];exact A2 _ rfl
 cases hc:decide (x.seq<1)with
 |true=>rw[ae];grind
 |false=>rw[af,ld 0 (.int .i64 x.seq) rfl];simp only[bg];grind
def lY (K:bL):Int->ak->List bh->aS->Option (List bh×aS)
 |_,[],acc,v=>some (acc,v)
 |k,y::r,acc,v=>bif !(y==0)then(match rG K y k v with
   |none=>none
   |some (out,v')=>lY K (k+1) r (acc++out) v')else lY K (k+1) r acc v
def Aa (v:aS) (k:Nat) (nm:aj):Bool:=bif decide (k=0)then true else(match v.aM[k-1]? with
 |none=>false
 |some x=>decide (cmpL (dB x.name) (dB nm)<0))
def tM (K:bL):Nat->ak->aS->Option aS
 |_,[],v=>some v
 |k,y::r,v=>match dN K y v with
  |some (.queue q,v1)=>bif Aa v1 k q.name then(match lY K 0 q.dz [] v1 with
   |none=>none
   |some (es,v2)=>tM K (k+1) r { v2 with aM:=v2.aM++[⟨q.name,lz es⟩] })else none
  |_=>none
def qL (K:bL) (v:aS):Option aS:=bif K.sup.dir==0 then some v else(match dN K K.sup.dir v with
 |some (.dir x,v')=>tM K 0 x v'
 |_=>none)
def qm (m:Nat):aS:=⟨jd m [0,1],[],[],[],[],0⟩
def sZ (K:bL):Option aS:=match nY K (qm K.m)with
 |none=>none
 |some v1=>match sB K v1 with
  |none=>none
  |some v2=>match qL K v2 with
   |none=>none
   |some v3=>bif decide ((yM v3:Int)=v3.nodes)then some (ui v3)else none
def Ip {K:bL} : ∀ {l:ak} {k:Int} {acc es:List bh} {v v':aS},v.W.length=(K.m+63)/64->lY K k l acc v=some (es,v')->(∀e∈acc,uC v e)->Diff acc->(∀e∈es,uC v' e)/\Diff es/\v'.W.length=(K.m+63)/64/\v'.aG=v.aG/\v'.aM=v.aM/\v'.aK=v.aK/\v'.free=v.free
 |[],_,_,_,_,_,hl,h,h1,h2=>by cases h;grind
 |y::r,k,acc,es,v,v',hl,h,h1,h2=>by
  unfold lY at h;cases hy:(!(y==0))with
  |false=>rw[hy,af]at h;exact Ip hl h h1 h2
  |true=>
   rw[hy,ae]at h;cases ht:rG K y k v with
   |none=>rw[ht]at h;cases h
   |some q=>
    obtain⟨out,v1⟩:=q;rw[ht]at h;obtain⟨a1,a2,a3,_,a5,a6,a7,a8⟩:=Iu (acc:=acc) hl ht (by simpa using h1) (by simpa using h2);obtain⟨b1,b2,b3,b4,b5,b6,b7⟩:=Ip a3 h a1 a2;grind
def adp {a:ai} (h:lH s a cs) {n:Nat} (ds:ah) (hz:0<sz) (hn:cs.length=n*sz) (hd:ds.length=m*sz) (hl:n+m<=lim):
  ∃a' s',lH s' a' (cs++ds)/\Fx (aO a) s s'/\Kp s s'/\(∀b∈aO a',b∈aO a\/s.length<=b)/\∀K:ai->M β,cm sz a n ds m lim K s=K a' s':=by
 by_cases hm:m=0
 .subst hm
  have:ds=[]:=by grind
  subst this;exact⟨a,s,by rwa [gz],.refl _ _,.refl _,λ_ h=> .inl h,λK=>rfl⟩
 .have hb:Nat.beq m 0=false:=by cases m with|zero=>exact absurd rfl hm|succ m=>rfl
  rcases h with⟨rfl,rfl⟩|⟨i,rest,rfl,hs⟩
  .have h0:n=0:=by
    rcases Hz.1 (show n*sz=0 by simpa using hn.symm)with h|h
    .exact h
    .omega
   subst h0;refine⟨some (s.length,0),s++[some (⟨false,ds⟩:bO)],.inr (by simp),Fx.pre _ (aB.new _ _),(aB.new _ _).kp,λb hb=> .inr (by rw[cB.1 hb];exact aQ _),λK=>?_⟩;unfold cm;simp only[hb,gA hl,ae,af];rfl
  .have eC:s.il i=some (cs++rest):=by grind[St.il]
   refine⟨some (s.length,0),s.set i none++[some (⟨false,cs++ds⟩:bO)],.inr (by simp),⟨by simp,λy x hy e=>?_⟩,(Kp.set hs none).trans (aB.new _ _).kp,λb hb=> .inr (by rw[cB.1 hb];exact aQ _),λK=>?_⟩
   .have hyl:=(ef.1 e).1
    have dP:i≠y:=λe=>hy (by simp[aO,e])
    rw[na (by simp;omega),jv dP];exact e
   .unfold cm
    simp only[hb,gA hl,ae,af,eC];rw[eW,gA (by rw[bB];omega),ae,dK,<-hn,EY]
def Zx6 {Bd:Zh} (hT:HA Bd) (n:Nat) (hK:Dl K) (nm:aj) (x:ak) (hx:x.length=12) (s0:St) (L0:al) (hW:eD K s v L z1 p1 z2 p2 z3 p3 z4 p4 hd) (vm:Fx L0 s0 s) (Eh:Nw L0 s0 L) (h0:0<=K.sup.used) (h1:K.sup.used<=1792) (hs:(v.aG.length:Int)=K.sup.used) (jo:0<=v.nodes) (hnr:v.nodes+(room K.m v.W:Nat)<=5000) (hm:K.m<=3072) (hn:4020<=n)
  (R:Option aS) (Kn:ah->M ah)
  (cA:lY K 0 x [] v=none->R=none)
  (aP: ∀es w,lY K 0 x [] v=some (es,w)->∀t p z,(z=4\/p=none)->eD K t w L z1 p1 z2 p2 z3 p3 z4 p4 hd->Fx L s t->lH t p (bY es)->(∀b∈aO p,s.length<=b)->w.nodes+(room K.m w.W:Nat)<=v.nodes+(room K.m v.W:Nat)->v.nodes<=w.nodes->es.length<=50000->Ok (rX K s0 L0 R []) (Kn [.agg [.str nm,.slice 4 p es.length]] t)):
  Ok (rX K s0 L0 R []) (cS (λdw st=>
      ba st λkF st=>
      eQ kF λh2 r=>
      bW 4 r λh3 Ao r=>
      aL r<|
      aD .i64 st λcV st=>
      aL st<|
      bif decide (cV<12)then
       aC (aR cV 12)<|
      eJ (ints x) (cV.toNat*1) λd6=>
      cY .i64 d6 λeB=>
      cK (λst=>
       ba st λnp st=>
      eQ np λh4 r=>
      bW 4 r λh5 WB r=>
      aL r<|
      aL st<|
      dw [.agg [.str h4,.slice 4 h5 WB],.int .i64 (ar (cV+1))]) λck=>
      bif !(eB==0)then
       cQ (run Bd n 233 [.ptr (some (K.w,0)),.int .i64 eB,.int .i64 cV]) λds=>
      bW 4 ds λfj pI ds=>
      aL ds<|
      dy fj (pI*4) λxZ=>
      cm 4 h3 Ao xZ pI 2199023255552 λp1=>
      ck [.agg [.str h2,.slice 4 p1 (Ao+pI)]]
      else
       ck [.agg [.str h2,.slice 4 h3 Ao]]
      else
       Kn [.agg [.str h2,.slice 4 h3 Ao]]) n [.agg [.str nm,.slice 0 none 0],.int .i64 0] s):=by
 have Ee:=hW.lt;have Gx: ∀b o,K.a=some (b,o)->b<s.length:=λb o e=>Sl.lt (e▸hW.img)
 obtain⟨G,hG⟩: ∃G,lY K 0 x [] v=G:=⟨_,rfl⟩;rw[hG]at aP cA;refine Zi _ (λq y t=>∃(i:Nat) (acc:List bh) (u:aS) (z:Nat) (p:ai),y=[.agg [.str nm,.slice z p acc.length],.int .i64 i]/\(z=4\/p=none)/\i<=12/\12-i<=q/\eD K t u L z1 p1 z2 p2 z3 p3 z4 p4 hd/\u.aG=v.aG/\u.aM=v.aM/\Fx L s t/\lH t p (bY acc)/\(∀b∈aO p,s.length<=b)/\v.nodes<=u.nodes/\u.nodes+(room K.m u.W:Nat)<=v.nodes+(room K.m v.W:Nat)/\acc.length<=4000*i/\lY K i (x.drop i) acc u=G) ?_ 12 n _ _ ⟨0,[],v,0,none,rfl,.inr rfl,by omega,by omega,hW,rfl,rfl,.refl L s,.inl ⟨rfl,rfl⟩,λ_ h=>(by cases h),Int.le_refl _,Int.le_refl _,by simp,by simpa using hG⟩ (by omega);rintro q _ t ⟨i,acc,u,z,p,rfl,hz,hi,hq,dZ,jc,uh,cL,eC,Cf,JZ,J0,As,ec⟩ rec aN;simp only[cT,bR,av,Zg 4 z p _ hz,aq,Za];by_cases aw:i<12
 .have fW:x.drop i=(x[i]'(by omega))::x.drop (i+1):=iV (by omega)
  rw[fW]at ec;rw[ax (show(i:Int)<12 by omega),ae,Zb (show aR (i:Int) 12=true from Zj aw),bp,cR,hJ (ZD)];simp only[bg];generalize x[i]'(by omega)=y at ec;have hw:ar ((i:Int)+1)=((i+1:Nat):Int):=Zc;have tT:((i+1:Nat):Int)=(i:Int)+1:=by omega
  rw[hw];unfold lY at ec;cases hy:(!(y==0))with
  |false=>
   rw[hy,af]at ec;rw[af];exact aN (12-(i+1)) _ _ (by omega) ⟨i+1,acc,u,4,p,rfl,.inl rfl,by omega,aQ _,dZ,jc,uh,cL,eC,Cf,JZ,J0,by omega,by rw[tT];exact ec⟩
  |true=>
   rw[hy,ae]at ec;rw[ae];have mW:Fx L0 s0 t:=vm.step cL Eh;refine Ok.wv (Zy7 hT n hK y i dZ h0 h1 (by rw[jc];exact hs) (by omega) (by omega) hm (by omega)) ?_ ?_
   .intro t' hp
    cases ht:rG K y i u with
    |some q=>rw[ht]at hp;obtain⟨_,_,_,e,_⟩:=hp;cases e
    |none=>
     rw[ht]at hp ec;obtain⟨t2,e,mU⟩:=hp;cases e;rw[cA ec.symm];exact⟨t',rfl,mW.step mU Eh⟩
   .intro ds t' hp
    cases ht:rG K y i u with
    |none=>rw[ht]at hp;obtain⟨_,e,_⟩:=hp;cases e
    |some q=>
     obtain⟨out,u1⟩:=q;rw[ht]at hp ec;obtain⟨po,zo,t2,e,Yp,iN,ml,OB,Jx,akk,akj,ig⟩:=hp;cases e;simp only at ec;obtain⟨_,_,_,_,a5,a6,_,_⟩:=Iu (acc:=[]) dZ.set.len ht (λ_ h=>by cases h) .nil;simp only[Zg 4 zo po _ Yp,aq];have dA:Sl t' po (bY out):=by
      rcases OB with⟨rfl,h2⟩|⟨b,rest,rfl,h2⟩
      .exact h2
      .exact⟨false,_,h2,by rw[bB];omega,by rw[dK,EY]⟩
     have lO:=iR (β:=ah) dA;rw[Zt]at lO;rw[lO];have ahR:=eC.fx ml λb hb lx=>by have:=Ee b lx;have:=Cf b hb;omega
     obtain⟨pa,t3,b1,b2,b3,b4,b5⟩:=adp (β:=ah) ahR (sz:=4) (n:=acc.length) (m:=out.length) (lim:=2199023255552) (bY out) (by omega) (Zt _) (Zt _) (by omega);rw[b5];have om:Fx L s t':=cL.trans ml;obtain⟨wI,fD⟩:=iN.O5 (by rw[a6,uh];exact hW.aM) Ee Gx om b2 Cf;refine aN (12-(i+1)) _ _ (by omega) ⟨i+1,acc++out,u1,4,pa,by rw[bB],.inl rfl,by omega,aQ _,wI,a5.trans jc,a6.trans uh,fD,by rw[zL];exact b1,λb hb=>?_,by omega,by omega,by rw[bB];omega,by rw[tT];exact ec⟩;rcases b4 b hb with h5|h5
     .exact Cf b h5
     .have:=om.1;omega
 .rw[aF (show ¬(i:Int)<12 by omega),af]
  rw[lU (by omega)]at ec;exact aP acc u ec.symm t p 4 (.inl rfl) dZ cL eC Cf J0 JZ (by omega)
def RQ {x:ZH} (h:ZJ l=some x):x.name.length<=24/\mO x=true:=by
 unfold ZJ at h;split at h
 .cases h
 .rename_i k t b _
  cases e:(decide (k=5)&&(decide (t<=24)&&ZE (b.drop (28+t))))with
  |false=>rw[e]at h;cases h
  |true=>
   rw[e]at h;cases e2:mO (Z9 b t)with
   |false=>rw[e2]at h;cases h
   |true=>
    rw[e2]at h;cases h;rw[aY,aY,bu]at e;refine⟨?_,e2⟩;have:=mI e.2.1;show((b.drop 28).take t).length<=24;rw[cX];omega
def ZmP {x:ZH} (h:ZY l= .queue x):ZJ l=some x:=by
 grind[ZY]
def TR {b:xr} (h:dN K k v=some (b,v')):ZY (ZG K.img k.toNat)=b:=by
 grind[dN]
def Zzv (pn:M β) (p:ai) (m:Nat) (Kc:ai->Nat->M β):uW pn (.iface 3 (.agg [.slice 1 p m])) 3 (λd=>tI d λcs=>bW 1 cs λx xn r=>aL r<|Kc x xn)=Kc p m:=rfl
def Zv4 (pn:M β) (q:ZH) (Kc:aj->Int->ah->M β):uW pn (.iface 4 (.agg (Z0 q))) 4 (λd=>tI d λcs=>eQ cs λx7 r1=>aD .i64 r1 λx8 r2=>Kc x7 x8 r2)=Kc q.name q.mask (ints q.dz):=rfl
def UW {K:bL} : ∀ {l:ak} {k:Nat} {v v':aS},v.W.length=(K.m+63)/64->tM K k l v=some v'->v'.aG=v.aG/\v'.aK=v.aK/\v'.free=v.free/\v'.aM.length=v.aM.length+l.length
 |[],_,_,_,_,h=>by cases h;simp
 |y::r,k,v,v',hl,h=>by
  unfold tM at h;split at h
  .rename_i q v1 ht
   cases hn:Aa v1 k q.name with
   |false=>rw[hn]at h;cases h
   |true=>
    rw[hn,ae]at h;obtain⟨g1,g2,g3,g4,g5,g6⟩:=Z3 ht;split at h
    .cases h
    .rename_i es v2 hh
     obtain⟨_,_,b3,b4,b5,b6,b7⟩:=Ip (by rw[(xM ht).2,oM];exact hl) hh (λ_ h=>by cases h) .nil;obtain⟨c1,c2,c3,c4⟩:=UW (by exact b3) h;grind
  .cases h
def bm.Pg {a:ai} (h:bm [] s a cs): ∀b∈aO a,∃c,s[b]? =some (some ⟨false,c⟩):=by
 rcases h.2 with⟨rfl,_⟩|⟨i,rfl,_,h3⟩
 .intro b hb;cases hb
 .intro b hb;rw[cB.1 hb];exact⟨_,h3⟩
def eD.kp (h:eD K s v L z1 p1 z2 p2 z3 p3 z4 p4 hd) (k:Fx L s s'):Kp s s':=by
 intro i all e;refine k.2 i _ (λhm=>?_) e;have ho: ∃c,s[i]? =some (some ⟨false,c⟩):=by
  rw[h.own]at hm;simp only[eF,gx]at hm;rcases hm with rfl|rfl|rfl|hm|hm|hm|hm
  .exact⟨_,h.cell⟩
  .exact⟨_,h.set.hd⟩
  .exact⟨_,h.set.wd⟩
  .exact h.o1.Pg i hm
  .exact h.o2.Pg i hm
  .exact h.o3.Pg i hm
  .exact h.o4.Pg i hm
 grind
def ZwP (n:Nat) (hK:Dl K) (hW:Wk K s v L) (h0:0<=K.sup.used) (h1:K.sup.used<=1792) (hs:(v.aG.length:Int)=K.sup.used) (jo:0<=v.nodes) (hnr:v.nodes+(room K.m v.W:Nat)<=5000) (hm:K.m<=3072) (hh:v.aM=[]) (hn:4030<=n):
  Ok (rX K s L (qL K v) []) (run Bd n 231 [.ptr (some (K.w,0))] s):=by
 obtain⟨n,rfl⟩: ∃k,n=k+2:=⟨n-2,by omega⟩;rw[Ze,h.aeZ];unfold Qc jh Zm uA bV Q_ cM Zn aA C_ cP cw ix Li Lb;obtain⟨R,hR⟩: ∃R,qL K v=R:=⟨_,rfl⟩;rw[hR];unfold qL at hR;simp only[eH,aq,bd];obtain⟨z1,p1,z2,p2,z3,p3,z4,p4,hd,hW⟩:=hW;rw[Zo hW.cell rfl];show Ok _ (cY .i64 (.int .i64 K.sup.dir) _ s);simp only[bg];cases yr:(K.sup.dir==0)with
 |true=>
  rw[yr,ae]at hR;rw[ae,<-hR,Zd];exact .mk ⟨s,L,rfl,hW.wk,.refl L s,.refl L s⟩
 |false=>
 rw[yr,af]at hR;rw[af,Zo hW.cell rfl];show Ok _ (cY .i64 (.int .i64 K.sup.dir) _ s);simp only[bg];refine Ok.wv (hW.take h (n+1) K.sup.dir hK.m hK.F9 hK.len (by omega)) ?_ ?_
 .intro s' hp
  cases ht:dN K K.sup.dir v with
  |none=>rw[ht]at hp hR;cases hp;rw[<-hR];exact⟨s,rfl,.refl L s⟩
  |some q=>rw[ht]at hp;grind
 intro ds s1 hp;cases ht:dN K K.sup.dir v with
 |none=>rw[ht]at hp;cases hp
 |some q=>
 obtain⟨b,v1⟩:=q;rw[ht]at hp hR;obtain⟨d,s2,e2,iN,ml,hb⟩:=hp;cases e2;obtain⟨g1,g2,g3,g4,g5,g6⟩:=Z3 ht;obtain⟨g7,g8⟩:=xM ht;have OO:=UP hW.set.len g7;rw[<-g8]at OO;have om:Fx L s s1:=ml.mono λy hy=>by rw[cB.1 hy];exact hW.w5
 simp only[Dd,aq];cases b with
 |leaf x=>obtain⟨rfl,_⟩:=hb;rw[<-hR];exact .mk ⟨s1,rfl,om⟩
 |cc x=>obtain⟨rfl,_⟩:=hb;rw[<-hR];exact .mk ⟨s1,rfl,om⟩
 |queue x=>obtain⟨rfl,_⟩:=hb;rw[<-hR];exact .mk ⟨s1,rfl,om⟩
 |node x=>obtain⟨p,rfl,_⟩:=hb;rw[<-hR];exact .mk ⟨s1,rfl,om⟩
 |none=>cases hb;rw[<-hR];exact .mk ⟨s1,rfl,om⟩
 |dir x=>
 obtain⟨px,rfl,Kv,aky⟩:=hb;simp only at hR;rw[Zzv];rw[Za];refine Zi _ (λq y t=>∃(i:Nat) (u:aS) (Lu:al),y=[.int .i64 i]/\i<=x.length/\x.length-i<=q/\Wk K t u Lu/\Fx L s t/\Nw L s Lu/\Fz t px (ints x)/\u.aG=v.aG/\u.aM.length=i/\(∀g∈u.aM,g.name.length<=24)/\v.nodes<=u.nodes/\u.nodes+(room K.m u.W:Nat)<=v.nodes+(room K.m v.W:Nat)/\tM K i (x.drop i) u=R) ?_ x.length (n+1) _ _ ⟨0,v1,L,rfl,cz _,by omega,iN.wk,om,.refl L s,Kv,g1,by rw[g2,hh];rfl,(by rw[g2,hh];intro _ h;cases h),by rw[g5];omega,by rw[g5];omega,by simpa using hR⟩ (by omega);rintro q _ t ⟨i,u,Lu,rfl,hi,hq,dZ,fK,jX,Ez,jc,uh,hun,JZ,J0,aP⟩ rec aN;obtain⟨y1,r1,y2,r2,y3,r3,y4,r4,ud,dZ⟩:=dZ;simp only[av,aq];by_cases aw:i<x.length
 .obtain⟨i1,o1,rfl⟩:=Ez.1.cH (by simp[ints];omega)
  rw[ax (show(i:Int)<(x.length:Int) by omega),ae];refine Ok.join λaI jU=>?_
  rw[bd,Zb (Zj aw),bp,Ez.1.dJ (ZD aw)];simp only[bg];have fW:x.drop i=x[i]::x.drop (i+1):=iV aw;rw[fW]at aP;generalize x[i]=y at aP;unfold tM at aP;refine Ok.wv (dZ.take h (n+1) y hK.m hK.F9 hK.len (by omega)) ?_ ?_
  .intro s' hp
   cases kO:dN K y u with
   |none=>rw[kO]at hp aP;cases hp;rw[<-aP];exact⟨t,rfl,fK⟩
   |some q=>rw[kO]at hp;grind
  intro ds t1 hp;cases kO:dN K y u with
  |none=>rw[kO]at hp;cases hp
  |some q=>
  obtain⟨b,u1⟩:=q;rw[kO]at hp aP;obtain⟨d,s2,e2,mg,fX,hb⟩:=hp;cases e2;obtain⟨k1,k2,k3,k4,k5,k6⟩:=Z3 kO;obtain⟨k7,k8⟩:=xM kO;have aik:=UP dZ.set.len k7;rw[<-k8]at aik;have abr:Fx Lu t t1:=fX.mono λy hy=>by rw[cB.1 hy];exact dZ.w5
  have sG:Fx L s t1:=fK.step abr jX;simp only[Dd,aq];cases b with
  |leaf x=>obtain⟨rfl,_⟩:=hb;rw[<-aP];exact .mk ⟨t1,rfl,sG⟩
  |cc x=>obtain⟨rfl,_⟩:=hb;rw[<-aP];exact .mk ⟨t1,rfl,sG⟩
  |dir x=>obtain⟨p,rfl,_⟩:=hb;rw[<-aP];exact .mk ⟨t1,rfl,sG⟩
  |node x=>obtain⟨p,rfl,_⟩:=hb;rw[<-aP];exact .mk ⟨t1,rfl,sG⟩
  |none=>cases hb;rw[<-aP];exact .mk ⟨t1,rfl,sG⟩
  |queue qv=>
  obtain⟨rfl,yC⟩:=hb;simp only at aP;rw[Zv4];obtain⟨OL,_⟩:=RQ (ZmP (TR kO));have AL:Fz t1 (some (i1,o1)) (ints x):=Ez.kp (dZ.kp abr);have Ed:(ints qv.dz).length=12:=by simp[ints,yC]
  rw[bI (cs:=ints qv.dz) (n:=12) Ed,bI (n:=14) (by simp[Ed])];refine Ok.join λaW kK=>?_
  have hA: ∀t2 bb,Aa u1 i qv.name=bb->eD K t2 u1 Lu y1 r1 y2 r2 y3 r3 y4 r4 ud->Fx L s t2->Fz t2 (some (i1,o1)) (ints x)->Ok (rX K s L R []) (aW [.bool bb] t2):=by
   intro t2 bb D5 wI fD Yi;rw[kK];simp only[au,aq];cases bb with
   |false=>
    rw[D5,af]at aP;rw[oN h n rfl,<-aP];exact .mk ⟨t2,rfl,fD⟩
   |true=>
    rw[D5,ae]at aP;rw[tr h n rfl];simp only[aq];refine Ok.join λbz Ct=>?_
    rw[dG (by omega)];refine Zx6 h (n+1) hK qv.name qv.dz yC s L wI fD jX h0 h1 (by rw[k1,jc];exact hs) (by rw[k5];omega) (by rw[k5];omega) hm (by omega) R bz ?_ ?_
    .grind
    intro es w he t3 p z hz oi sH eC Cf ahC ahA hel;rw[he]at aP;simp only at aP;obtain⟨c1,c2,c3,c4,c5,c6,c7⟩:=Ip wI.set.len he (λ_ h=>by cases h) .nil;rw[Ct];simp only[cT,bR,aX,aq];obtain⟨t4,e4,sJ,Co⟩:=ZzN n es p t3 eC c2 (by omega);rw[Zk e4];simp only[aq];have Gx: ∀b o,K.a=some (b,o)->b<t2.length:=λb o e=>Sl.lt (e▸wI.img)
    have pC:w.aM=u.aM:=c5.trans k2;have hh2:qB t2 Lu ud w.aM:=by rw[c5];exact wI.aM
    obtain⟨Gu,abv⟩:=oi.O5 hh2 wI.lt Gx sH Co Cf;have Yj:Fz t4 (some (i1,o1)) (ints x):=Yi.kp (wI.kp abv);have abw:Fx L s t4:=fD.step abv jX;rw[Zo Gu.cell rfl];show Ok _ (dr 2 (.slice y2 r2 w.aM.length) _ t4);rw[Z2 2 y2 r2 _ Gu.e2,<-UH es];have dA:Sl t4 p (bY (lz es)):=by
     rcases sJ with⟨rfl,h2⟩|⟨b,rest,rfl,h2⟩
     .exact h2
     .exact⟨false,_,h2,by rw[bB];omega,by rw[dK,EY]⟩
    have OH:lG Lu p:=lG.aO λb hb hm=>by have:=Cf b hb;have:=wI.lt b hm;omega
    obtain⟨b,t5,t6,L6,q1,q2,q3,q4,q5,q6⟩:=Gu.ajk (β:=ah) ⟨qv.name,lz es⟩ (by rw[pC,uh];omega) (z:=4) (.inl rfl) dA OH;refine Eq.mpr (congrArg (Ok _) (q1 _)) ?_;refine Eq.mpr (congrArg (Ok _) (q2 _)) ?_;rw[jU];simp only[aq];have j4:ar ((i:Int)+1)=((i+1:Nat):Int):=Zc;rw[j4];refine aN (x.length-(i+1)) _ _ (by omega) ⟨i+1,_,L6,rfl,by omega,aQ _,q3.wk,abw.step q4 jX,jX.trans abw.1 q5,Yj.kp (Gu.kp q4),(c4.trans k1).trans jc,?_,?_,?_,?_,aP⟩
    .show(w.aM++[_]).length=i+1
     rw[bB,pC,uh];rfl
    .intro g hg
     have oo:g∈w.aM++[⟨qv.name,lz es⟩]:=hg;rw[pC]at oo;rcases gx.1 oo with oo|oo
     .exact hun g oo
     .rw[cB.1 oo];exact OL
    .show v.nodes<=w.nodes
     rw[k5]at ahA;omega
    .show w.nodes+(room K.m w.W:Nat)<=_
     rw[k5]at ahC;omega
  by_cases vp:i=0
  .subst vp
   rw[show(((0:Nat):Int)==0)=true from rfl,ae];exact hA t1 true rfl mg sG AL
  .have hib:(((i:Nat):Int)==0)=false:=by rw[eG];omega
   rw[hib,af,Zo mg.cell rfl];show Ok _ (dr 2 (.slice y2 r2 u1.aM.length) _ t1);rw[Z2 2 y2 r2 _ mg.e2];have tY:u1.aM.length=i:=by rw[k2];exact uh
   have akw:ud.length=u1.aM.length*2:=mg.aM.aM.len;obtain⟨b,rfl,vh⟩:=mg.o2.cH (by omega);have cG:ar ((i:Int)-1)=((i-1:Nat):Int):=by rw[Zc];omega
   have Xp:u1.aM[i-1]? =some u1.aM[i-1]:=cq (by omega);rw[bd,cG,Zb (Zj),bp,FL mg.o2.sl mg.aM.aM Xp];have hgm:u1.aM[i-1].name.length<=24:=hun _ (by rw[<-k2];exact kz _);obtain⟨gg,wN⟩: ∃gg,u1.aM[i-1]=gg:=⟨_,rfl⟩;rw[wN]at Xp hgm⊢;simp only[zB];refine Ok.cv (Zpv (n+1) gg.name qv.name (by omega) (by omega) (by omega) (by omega) t1) λt2 aU=>?_
   simp only[av,aq];refine hA t2 _ ?_ (mg.pre aU) (sG.trans (Fx.pre _ aU)) (AL.kp aU.kp);unfold Aa;rw[aF vp,af,Xp]
 .rw[aF (show ¬(i:Int)<(x.length:Int) by omega),af]
  simp only[Zd];rw[lU (by omega)]at aP;rw[<-aP];exact .mk ⟨t,Lu,rfl,dZ.wk,fK,jX⟩
def Fx.acH (h:Fx [] s s'):aB s s':=by
 refine⟨s'.drop s.length,?_⟩;have:s'.take s.length=s:=by
  apply tg;intro i;by_cases hi:i<s.length
  .rw[List.getElem?_take_of_lt hi]
   have e:s[i]? =some s[i]:=cq hi;rw[e];exact h.2 i _ (λh=>by cases h) e
  grind
 conv=>lhs;rw[<-rQ s.length s',this]
def Ok.aaS {P:Out ah×St->Prop} {m:M ah} {H:Bool->M β} (h:Ok P (m s))
  (k1: ∀s',P (.fp,s')->Ok Q (H true s')) (k2: ∀ds s',P (.val ds,s')->Ok Q (H false s')):Ok Q (uY m H s):=by
 obtain⟨⟨o,s'⟩,e,hp⟩:=h;unfold uY;rw[e];cases o with
 |val ds=>exact k2 ds s' hp
 |fp=>exact k1 s' hp
def ZyE {k:IntKind} (h:s[i]? =some (some ⟨f,all⟩)) (hd:all[p]? =some (.int k n)) (K:IntKind->Int->M β):xX i p K s=K k n s:=by
 unfold xX;rw[Zo h hd]
def Vb (h:s[i]? =some (some ⟨f,all⟩)) (hd:all[p]? =some (.int .i64 n)) (K:M β):iu i p .i64 n K s=K s:=by
 unfold iu;rw[Zo h hd];simp
def Kept (v v':aS):Prop:=v'.aM=v.aM/\v'.aK=v.aK/\v'.free=v.free/\v'.nodes=v.nodes
def Kept.refl (v:aS):Kept v v:=⟨rfl,rfl,rfl,rfl⟩
def Kept.trans {a b c:aS} (h:Kept a b) (k:Kept b c):Kept a c:=⟨k.1.trans h.1,k.2.1.trans h.2.1,k.2.2.1.trans h.2.2.1,k.2.2.2.trans h.2.2.2⟩
def Uc {b:xr} (h:dN K k v=some (b,v')):Kept v v':=by
 obtain⟨_,h2,h3,h4,h5,_⟩:=Z3 h;exact⟨h2,h3,h4,h5⟩
def Znx {K:bL} : ∀ {x:List bw} {k:Int} {v v':aS},nk K k x v=some v'->Kept v v'
 |[],_,_,_,h=>by cases h;exact .refl _
 |x::r,k,v,v',h=>by
  unfold nk at h;cases h1:pS K k x v with
  |none=>rw[h1]at h;cases h
  |some w=>
   rw[h1]at h;refine Kept.trans ?_ (Znx h);unfold pS at h1;cases h2:decide (k>=K.sup.used)with
   |true=>
    rw[h2,ae]at h1;cases h3:nX x with
    |true=>rw[h3]at h1;cases h1;exact .refl _
    |false=>rw[h3]at h1;cases h1
   |false=>
    rw[h2,af]at h1;cases h3:oP K.sup x with
    |true=>rw[h3]at h1;cases h1;exact⟨rfl,rfl,rfl,rfl⟩
    |false=>rw[h3]at h1;cases h1
def Zu6 (h:mY K k slot v=some v'):Kept v v':=by
 unfold mY at h;split at h
 .rename_i x v1 ht
  exact(Uc ht).trans (Znx h)
 .cases h
def TB {K:bL} {cJ x5:Int} : ∀ {x:ak} {k:Int} {v v':aS},kD K cJ x5 k x v=some v'->Kept v v'
 |[],_,_,_,h=>by cases h;exact .refl _
 |y::r,k,v,v',h=>by
  unfold kD at h;cases h1:((!(y==0))==decide (x5*16+k<cJ))with
  |false=>rw[h1]at h;cases h
  |true=>
   rw[h1,ae]at h;cases h2:(!(y==0))with
   |false=>rw[h2]at h;exact TB h
   |true=>
    rw[h2,ae]at h;split at h
    .cases h
    .rename_i w hw
     exact(Zu6 hw).trans (TB h)
def TQ {K:bL} {cJ:Int} : ∀ {x:ak} {k:Int} {v v':aS},od K cJ k x v=some v'->Kept v v'
 |[],_,_,_,h=>by cases h;exact .refl _
 |y::r,k,v,v',h=>by
  unfold od at h;cases h1:((!(y==0))==decide (k*16<cJ))with
  |false=>rw[h1]at h;cases h
  |true=>
   rw[h1,ae]at h;cases h2:(y==0)with
   |true=>rw[h2]at h;exact TQ h
   |false=>
    rw[h2,af]at h;split at h
    .rename_i x v1 ht
     split at h
     .cases h
     .rename_i w hw
      exact((Uc ht).trans (TB hw)).trans (TQ h)
    .cases h
def ZnI (h:nY K v=some v'):Kept v v':=by
 unfold nY at h;cases h1:(K.sup.used==0)with
 |true=>rw[h1]at h;cases h;exact .refl _
 |false=>
  rw[h1,af]at h;split at h
  .rename_i x v1 ht
   exact(Uc ht).trans (TQ h)
  .cases h
def Zny {K:bL} : ∀ {f:Nat} {fl qW:List Bool} {k:Int} {v v':aS},nl K f fl k v=some (qW,v')->v'.aG=v.aG/\v'.aM=v.aM/\v'.aK=v.aK/\v'.nodes=v.nodes
 |0,_,_,_,_,_,h=>by cases h
 |f+1,fl,qW,k,v,v',h=>by
  unfold nl at h;cases h1:(k==0)with
  |true=>rw[h1]at h;grind
  |false=>
   rw[h1,af]at h;cases h2:decide (k<=K.sup.used)with
   |false=>rw[h2]at h;cases h
   |true=>
    rw[h2,ae]at h;split at h
    .cases h
    .rename_i x hx
     cases h3:(bif (bif !x.live then decide (x.gen<K.sup.g)else false)then !fl.getD (k-1).toNat false else false)with
     |false=>rw[h3]at h;cases h
     |true=>
      rw[h3,ae]at h;exact Zny (v:= { v with free:=v.free++[k-1] }) h
def Zps (h:sB K v=some v'):v'.aG=v.aG/\v'.aM=v.aM/\v'.aK=v.aK/\v'.nodes=v.nodes:=by
 unfold sB at h;cases h1:nl K (K.sup.used.toNat+1) (List.replicate K.sup.used.toNat false) K.sup.free v with
 |none=>rw[h1]at h;cases h
 |some q=>
  obtain⟨fl,w⟩:=q;rw[h1]at h;unfold BG at h;simp only at h;cases h2:qO K fl w.aG with
  |false=>rw[h2]at h;cases h
  |true=>rw[h2]at h;cases h;exact Zny h1
def ZmG (hl:v.W.length=(K.m+63)/64) (h:qL K v=some v'):v'.aG=v.aG/\v'.aK=v.aK/\v'.free=v.free:=by
 unfold qL at h;cases h1:(K.sup.dir==0)with
 |true=>rw[h1]at h;grind
 |false=>
  rw[h1,af]at h;split at h
  .rename_i x v1 ht
   obtain⟨g1,g2,g3,g4,g5,g6⟩:=Z3 ht;obtain⟨c1,c2,c3,c4⟩:=UW (by rw[(xM ht).2,oM];exact hl) h;grind
  .cases h
def fh (x:cy) (v:aS):fJ:=⟨x.blocks,x.de,x.g,v.aM,v.aK,v.free⟩
def nK:fJ:=⟨0,0,0,[],[],[]⟩
def rK (K:bL):Option (Option aS):=bif ZU K.sup then(bif decide (K.sup.blocks<=((K.img.length/64:Nat):Int))then some (sZ K)else some none)else none
def aav (s:St) (m:Nat) (x:cy) (r:Option (Option aS)) (o:Out ah×St):Prop:=match r with
 |none=>∃s',o=(.val [.agg (dE nK 0 none 0 none 0 none),.ptr none,.int .i64 2],s')/\aB s s'
 |some none=>∃s',o=(.val [.agg (dE nK 0 none 0 none 0 none),.ptr none,.int .i64 31],s')/\aB s s'
 |some (some v)=>∃s' z2 p2 z3 p3 z4 p4 i j,o=(.val [.agg (dE (fh x v) z2 p2 z3 p3 z4 p4),.ptr (some (i,0)),.int .i64 0],s')/\aB s s'/\(z2=2\/p2=none)/\(z3=1\/p3=none)/\(z4=1\/p4=none)/\lf s' (fh x v) p2 p3 p4/\gy s' false i j m v.W/\s.length<=j/\i≠j
structure pM (s:St) (b:Nat) (A:List DV) (r e:DV):Prop where
 st:s[b+1]? =some (some ⟨false,A⟩)
 re:s[b+2]? =some (some ⟨false,[r]⟩)
 er:s[b+3]? =some (some ⟨false,[e]⟩)
 len:A.length=6
def pM.fx {b:Nat} (h:pM s b A r e) (k:Fx T s s') (hT: ∀x∈T,x<b\/b+4<=x):pM s' b A r e:=
 ⟨k.2 _ _ (by grind) h.st,k.2 _ _ (by grind) h.re,k.2 _ _ (by grind) h.er,h.len⟩
def pM.Y3 {b:Nat} (h:pM s b A r e) (A':ah) (r' e':DV) (hl:A'.length=6): ∃s',(∀K:M β,(dI (b+1) 0 A'<|dI (b+2) 0 [r']<|dI (b+3) 0 [e'] K) s=K s')/\pM s' b A' r' e'/\Fx [b+1,b+2,b+3] s s':=by
 have h1:=(ef.1 h.st).1;have h2:=(ef.1 h.re).1;have h3:=(ef.1 h.er).1;have lP:cE A 0 A'=A':=by
  have:=tw [] A [] A' (by rw[h.len,hl]);simpa using this
 refine⟨((s.set (b+1) (some ⟨false,A'⟩)).set (b+2) (some ⟨false,[r']⟩)).set (b+3) (some ⟨false,[e']⟩),λK=>?_,⟨?_,?_,?_,hl⟩,⟨by simp,λi x hi e=>?_⟩⟩
 .rw[MX h.st (by rw[h.len,hl];omega),lP,qD (by rw[jv (by omega)];exact h.re) (by show 0<1;omega),qD (by rw[jv (by omega),jv (by omega)];exact h.er) (by show 0<1;omega)]
  rfl
 .rw[jv (by omega),jv (by omega),kX h1]
 .rw[jv (by omega),kX (by simpa using h2)]
 .rw[kX (by simpa using h3)]
 grind
def pM.yN {b:Nat} (h:pM s b A r e):(bS (b+1) 0 6 λo=>bD (b+2) 0 λo1=>bD (b+3) 0 λo2=>ay [.agg o,o1,o2]) s=some (.val [.agg A,r,e],s):=by
 rw[jL h.st (by rw[h.len];omega),Zo h.re rfl,Zo h.er rfl,dK,dG (by rw[h.len];omega),Zd]
def Sm {x:cy} (h:ZU x=true):oY x.blocks x.de x.g=true/\0<=x.used/\x.used<=x.de/\0<=x.free/\x.free<=x.used:=by
 grind[ZU]
def Z4 {b s g:Int} (h:oY b s g=true):16<=b/\b<=3072/\1<=s/\s<=1792/\1<=g/\g<=4294967295:=by
 grind[oY]
def pM.cj {b:Nat} (h:pM s b (dE nK 0 none 0 none 0 none) r e) (h':pM s' b A' r' e') (k:Fx [b+1,b+2,b+3] s s') {p:ai} {es:List bh} (hs:Sl s p (bY es)):Sl s' p (bY es):=by
 cases p with
 |none=>exact hs
 |some q=>
  obtain⟨i,o⟩:=q;by_cases hi:i∈[b+1,b+2,b+3]
  .have Ot:es=[]:=by
    cases es with
    |nil=>rfl
    |cons x es=>
     exfalso;obtain⟨f,all,e1,e2,e3⟩:=hs;have hlen:(bY (x::es)).length=4+(bY es).length:=by
      rw[Zt,Zt,cO];omega
     simp only[eF,tj,oH]at hi;rcases hi with rfl|rfl|rfl
     .rw[h.st]at e1
      cases e1;have h6:(dE nK 0 none 0 none 0 none).length=6:=rfl;have ho:o=0\/o=1\/o=2:=by omega
      have e4:=congrArg (λl=>l[3-o]?) e3;rw[List.getElem?_take_of_lt (by omega),Bc]at e4;rcases ho with rfl|rfl|rfl<;>cases e4
     .rw[h.re]at e1
      grind
     .rw[h.er]at e1
      grind
   subst Ot;obtain⟨f,all,e1,e2,_⟩:=hs;simp only[eF,tj,oH]at hi;rcases hi with rfl|rfl|rfl
   .rw[h.st]at e1
    cases e1;refine⟨false,_,h'.st,?_,rfl⟩;have:=h'.len;have h6:(dE nK 0 none 0 none 0 none).length=6:=rfl;omega
   .rw[h.re]at e1
    cases e1;exact⟨false,_,h'.re,e2,rfl⟩
   .rw[h.er]at e1
    cases e1;exact⟨false,_,h'.er,e2,rfl⟩
  .exact Sl.fx hs k λb' o' e=>by cases e;exact hi
def kA.cj {s s':St} (h: ∀(p:ai) (es:List bh),Sl s p (bY es)->Sl s' p (bY es)): ∀ {ds:ah} {xs:List dO},kA s ds xs->kA s' ds xs
 |_,[],h1=>h1
 |_,_::_,⟨z,p,t,hz,h1,h2,h3⟩=>⟨z,p,t,hz,h1,h p _ h2,h3.cj h⟩
def ac7 (K:bL) (s:St) (b:Nat) (r:Option aS) (o:Out ah×St):Prop:=match r with
 |none=>∃s',o=(.fp,s')/\Fx [] s s'
 |some v=>∃s' ds z2 p2 z3 p3 z4 p4,o=(.val ds,s')/\Fx [b+1,b+2,b+3] s s'/\pM s' b (dE (fh K.sup v) z2 p2 z3 p3 z4 p4) (.ptr (some (K.i,0))) (.int .i64 0)/\(z2=2\/p2=none)/\(z3=1\/p3=none)/\(z4=1\/p4=none)/\lf s' (fh K.sup v) p2 p3 p4/\gy s' false K.i K.j K.m v.W
def Zsb (n:Nat) (a:ai) (img:aj) (x:cy) (pc:ai) (s:St) (ha:dc s a img) (hc:Sl s pc (ints x.aJ)) (hl:img.length<1000000) (cN:x.aJ.length<1000) (hn:5000<=n):
  ∃K:bL,K.m=x.blocks.toNat/\K.img=img/\K.sup=x/\Ok (aav s x.blocks.toNat x (rK K)) (run Bd n 171 [.slice 1 a img.length,.agg (dj x pc)] s):=by
 obtain⟨n,rfl⟩: ∃k,n=k+3:=⟨n-3,by omega⟩;refine⟨⟨s.length+8,s.length+7,s.length+6,x.blocks.toNat,a,img,x,pc⟩,rfl,rfl,rfl,?_⟩;obtain⟨K,hK⟩: ∃K:bL,(⟨s.length+8,s.length+7,s.length+6,x.blocks.toNat,a,img,x,pc⟩:bL)=K:=⟨_,rfl⟩;rw[hK];have kw:s.length+8=K.w:=by rw[<-hK]
 have ki:s.length+7=K.i:=by rw[<-hK]
 have kj:s.length+6=K.j:=by rw[<-hK]
 have km:K.m=x.blocks.toNat:=by rw[<-hK]
 have ka:a=K.a:=by rw[<-hK]
 have kg:img=K.img:=by rw[<-hK]
 have ks:x=K.sup:=by rw[<-hK]
 have kp:pc=K.pc:=by rw[<-hK]
 clear hK;obtain⟨R,hR⟩: ∃R,rK K=R:=⟨_,rfl⟩;rw[hR];unfold rK at hR;rw[<-ks,<-kg]at hR;rw[Ze,h.aeh];unfold LW xC Z6 bq Zm C_ jh Zip cw Zx Lp Li ZZ Lb gJ uD;simp only[aX];rw[cT];unfold dj;simp only[av,aX,aq];have Cz:([.int .i64 x.seq,.int .i64 x.blocks,.int .i64 x.de,.int .i64 x.g,.int .i64 x.cc,.int .i64 x.used,.int .i64 x.free,.int .i64 x.dir,.slice 1 pc x.aJ.length]:ah)=dj x pc:=rfl;rw[Cz,Zz,Zz,Zz,Zz];have aiz:([.int .i64 0,.int .i64 0,.int .i64 0,.slice 0 none 0,.slice 0 none 0,.slice 0 none 0]:ah)=dE nK 0 none 0 none 0 none:=rfl;simp only[aiz];have l1: ∀c,(s++[some (c:bO)]).length=s.length+1:=λc=>by simp
 have l2: ∀c d,((s++[some (c:bO)])++[some (d:bO)]).length=s.length+2:=λc d=>by simp
 have l3: ∀c d e,(((s++[some (c:bO)])++[some (d:bO)])++[some (e:bO)]).length=s.length+3:=λc d e=>by simp
 simp only[l1,l2,l3];obtain⟨S1,Gq⟩: ∃S1,(((s++[some (⟨false,dj x pc⟩:bO)])++[some (⟨false,dE nK 0 none 0 none 0 none⟩:bO)])++[some (⟨false,[.ptr none]⟩:bO)])++[some (⟨false,[.int .i64 0]⟩:bO)]=S1:=⟨_,rfl⟩;rw[Gq];have aH:aB s S1:=by rw[<-Gq];exact((((aB.new _ _).trans (aB.new _ _)).trans (aB.new _ _)).trans (aB.new _ _))
 have On:S1.length=s.length+4:=by rw[<-Gq];simp
 have h9:S1[s.length]? =some (some ⟨false,dj x pc⟩):=by rw[<-Gq];simp
 have NW:pM S1 s.length (dE nK 0 none 0 none 0 none) (.ptr none) (.int .i64 0):=by
  rw[<-Gq];exact⟨by simp,by simp,by simp,rfl⟩
 clear Gq;rw[jL h9 (by show 0+9<=9;omega)];show Ok _ (aD .i64 (dj x pc) _ S1);unfold dj;simp only[av,aX,aq];rw[Cz];have hsR:=ZkI (n+2) x pc S1 (hc.mono aH) cN (by omega);rw[Zk hsR];simp only[au,aq];obtain⟨S2,N0⟩: ∃S2,S1++[some (⟨false,dj x pc⟩:bO)]=S2:=⟨_,rfl⟩;rw[N0];have aU:aB S1 S2:=by rw[<-N0];exact aB.new _ _
 have GN:S2.length=s.length+5:=by rw[<-N0];simp[On]
 have NV:=aU.get h9;have WD:pM S2 s.length (dE nK 0 none 0 none 0 none) (.ptr none) (.int .i64 0):=⟨aU.get NW.st,aU.get NW.re,aU.get NW.er,rfl⟩;have iP:=aH.trans aU;clear N0 aH aU NW h9 hsR;have Cm: ∀S3,Fx [s.length+1,s.length+2,s.length+3] S2 S3->aB s S3:=λS3 k=>by
  refine Fx.acH ((Fx.pre [] iP).step k λy hy=> .inr ?_);grind
 cases pB:ZU x with
 |false=>
  rw[pB,af]at hR;obtain⟨S3,e3,Jr,Xd⟩:=WD.Y3 (β:=ah) (dE nK 0 none 0 none 0 none) (.ptr none) (.int .i64 2) rfl;rw[bn,ae,e3,Jr.yN,<-hR];exact .mk ⟨S3,rfl,Cm S3 Xd⟩
 |true=>
 rw[pB,ae]at hR;rw[br,af];obtain⟨Ax,ug,vB,vm,Cl⟩:=Sm pB;obtain⟨g1,g2,g3,g4,g5,g6⟩:=Z4 Ax;refine Ok.aaS (P:=ac7 K S2 s.length (bif decide (x.blocks<=((img.length/64:Nat):Int))then sZ K else none)) ?_ ?_ ?_
 .have OZ: ∃m:Nat,x.blocks=(m:Int):=by grind
  rw[Zo NV (d:= .int .i64 x.blocks) rfl];simp only[bg];have hw:ar (((img.length:Nat):Int).tdiv 64)=((img.length/64:Nat):Int):=by
   rw[V0 (by omega),bp];exact Zc
  rw[hw];cases jl:decide (x.blocks<=((img.length/64:Nat):Int))with
  |false=>
   rw[oN h (n+1) rfl,af];exact .mk ⟨S2,rfl,.refl _ _⟩
  |true=>
  have agT:=mI jl;rw[tr h (n+1) rfl,ae];simp only[aq];rw[jL NV (by show 0+9<=9;omega)];show Ok _ (aD .i64 (dj x pc) _ S2);unfold dj;simp only[av,aX,aq];rw[Zo NV (d:= .int .i64 x.blocks) rfl];simp only[bg];rw[Zz];obtain⟨S3,D3⟩: ∃S3,S2++[some (⟨false,[.int .i64 0,.int .i64 1]⟩:bO)]=S3:=⟨_,rfl⟩;have cu:aB S2 S3:=by rw[<-D3];exact aB.new _ _
  have Oo:S3.length=s.length+6:=by rw[<-D3];simp[GN]
  have ain:Sl S3 (some (S2.length,0)) (ints [0,1]):=⟨false,[.int .i64 0,.int .i64 1],by rw[<-D3];simp,aQ _,rfl⟩;rw[D3];obtain⟨m,hm⟩:=OZ;obtain⟨S4,e4,fw,abD,G5⟩:=Ua (n+2) m [0,1] (some (S2.length,0)) S3 (by omega) ain (by show 2<1000000;omega) (by grind);have WI:m=K.m:=by rw[km,hm];rfl
  have e4':run Bd (n+2) 177 [.int .i64 x.blocks,.slice 1 (some (S2.length,0)) 2] S3=some (.val [.ptr (some (S3.length+1,0))],S4):=by rw[hm];exact e4
  rw[qF e4' fw];simp only[eH,aq];have h94:=fw.get (cu.get NV);rw[jL h94 (by show 1+3<=9;omega)];show Ok _ (aD .i64 (.int .i64 x.blocks::[.int .i64 x.de,.int .i64 x.g]) _ S4);simp only[av,aq];rw[Zz];have Yf:S4.length=K.w:=by rw[abD,Oo];omega
  have p8:S3.length+1=K.i:=by rw[Oo];omega
  rw[Yf,p8];have ais:gy S4 false K.i K.j K.m (jd K.m [0,1]):=by
   rw[p8]at G5;rw[<-kj,<-Oo,<-WI];exact G5
  obtain⟨S5,Gr⟩: ∃S5,S4++[some (⟨false,rL K (qm K.m) (dM 0 none 0) (dM 0 none 0) (dM 0 none 0) (dM 0 none 0)⟩:bO)]=S5:=⟨_,rfl⟩;have nx:([.slice 1 a img.length,.int .i64 x.seq,.int .i64 x.blocks,.int .i64 x.de,.int .i64 x.g,.int .i64 x.cc,.int .i64 x.used,.int .i64 x.free,.int .i64 x.dir,.slice 1 pc x.aJ.length,.ptr (some (K.i,0)),.slice 0 none 0,.int .i64 x.blocks,.int .i64 x.de,.int .i64 x.g,.slice 0 none 0,.slice 0 none 0,.slice 0 none 0,.int .i64 0]:ah)=rL K (qm K.m) (dM 0 none 0) (dM 0 none 0) (dM 0 none 0) (dM 0 none 0):=by
   unfold rL;rw[<-ka,<-kg,<-ks,<-kp];rfl
  rw[nx,Gr];have jY:aB S4 S5:=by rw[<-Gr];exact aB.new _ _
  have ake:S5.length=s.length+9:=by rw[<-Gr];simp[abD,Oo]
  have agJ:S5[K.w]? =some (some ⟨false,rL K (qm K.m) (dM 0 none 0) (dM 0 none 0) (dM 0 none 0) (dM 0 none 0)⟩):=by rw[<-Gr,<-Yf];simp
  have OC:aB s S5:=((iP.trans cu).trans fw).trans jY;have hW:eD K S5 (qm K.m) [K.w,K.i,K.j] 0 none 0 none 0 none 0 none []:=by
   refine⟨agJ,.inr rfl,.inr rfl,.inr rfl,.inr rfl,bm.nil ⟨S5,rfl⟩,bm.nil ⟨S5,rfl⟩,bm.nil ⟨S5,rfl⟩,bm.nil ⟨S5,rfl⟩,rfl,ais.pre jY,?_,?_,rfl,?_⟩
   .rw[<-ka,<-kg];exact ha.mono OC
   .rw[<-ka]
    rintro b o rfl hm;have:=Sl.lt ha;simp only[eF,tj,oH]at hm;omega
   .simp only[zu,eF,tj,oH,not_or]
    refine⟨⟨by omega,by omega⟩,by omega,not_false,.nil⟩
  have hC5:pM S5 s.length (dE nK 0 none 0 none 0 none) (.ptr none) (.int .i64 0):=WD.fx (Fx.pre [] ((cu.trans fw).trans jY)) λy hy=>by cases hy
  have ag5:Fx [] S2 S5:=Fx.pre [] ((cu.trans fw).trans jY);have aa3:Dl K:=⟨by rw[<-ks,hm,WI],by rw[<-kg,<-WI];omega,by rw[<-kg];exact hl⟩;have iA: ∀y∈[K.w,K.i,K.j],S2.length<=y:=λy hy=>by
   simp only[eF,tj,oH]at hy;omega
  have vw: ∀t,Fx [K.w,K.i,K.j] S5 t->Fx [] S2 t:=λt k=>ag5.step k λy hy=> .inr (iA y hy)
  obtain⟨W1,iN⟩: ∃W1,sZ K=W1:=⟨_,rfl⟩;rw[iN];unfold sZ at iN;have WJ:0<=K.sup.used:=by rw[<-ks];exact ug
  have WK:K.sup.used<=1792:=by rw[<-ks];omega
  have hKf:0<=K.sup.free:=by rw[<-ks];exact vm
  have agH:K.m<=3072:=by omega
  refine Ok.wv (Zyg (n+2) aa3 hW.wk (by show 0<1000;omega) (by omega)) ?_ ?_
  .intro t hp
   cases hr:nY K (qm K.m)with
   |none=>rw[hr]at hp iN;obtain⟨_,e,hf⟩:=hp;cases e;rw[<-iN];exact⟨t,rfl,vw t hf⟩
   |some v=>rw[hr]at hp;obtain⟨_,_,e,_⟩:=hp;cases e
  intro ds t1 hp;cases j1:nY K (qm K.m)with
  |none=>rw[j1]at hp;obtain⟨_,e,_⟩:=hp;cases e
  |some v1=>
  rw[j1]at hp iN;obtain⟨_,L1,e,agK,ml,XJ⟩:=hp;cases e;simp only at iN;simp only[aq];obtain⟨k1,k2,k3,k4⟩:=ZnI j1;obtain⟨eX,aic⟩:=ZqM WJ WK rfl j1;refine Ok.wv (ZyW (n+2) agK WJ WK hKf eX aic k1 k3 (by omega)) ?_ ?_
  .intro t hp
   cases hr:sB K v1 with
   |none=>rw[hr]at hp iN;obtain⟨_,e,hf⟩:=hp;cases e;rw[<-iN];exact⟨t,rfl,vw t (ml.step hf XJ)⟩
   |some v=>rw[hr]at hp;obtain⟨_,_,e,_⟩:=hp;cases e
  intro ds t2 hp;cases ik:sB K v1 with
  |none=>rw[ik]at hp;obtain⟨_,e,_⟩:=hp;cases e
  |some v2=>
  rw[ik]at hp iN;obtain⟨_,L2,e,aa5,fX,ahD⟩:=hp;cases e;simp only at iN;simp only[aq];obtain⟨q1,q2,q3,q4⟩:=Zps ik;have Xj:Fx [K.w,K.i,K.j] S5 t2:=ml.step fX XJ;have XK:Nw [K.w,K.i,K.j] S5 L2:=XJ.trans ml.1 ahD;have Gw:v2.W.length=(K.m+63)/64:=by obtain⟨_,_,_,_,_,_,_,_,_,hw⟩:=aa5;exact hw.set.len
  have Eh:v2.nodes=0:=by rw[q4,k4];rfl
  have OO:=Zuy K.m v2.W;refine Ok.wv (ZwP (n+2) aa3 aa5 WJ WK (by rw[q1];exact eX) (by rw[Eh];exact Int.le_refl _) (by rw[Eh];omega) agH (by rw[q2,k1];rfl) (by omega)) ?_ ?_
  .intro t hp
   cases hr:qL K v2 with
   |none=>rw[hr]at hp iN;obtain⟨_,e,hf⟩:=hp;cases e;rw[<-iN];exact⟨t,rfl,vw t (Xj.step hf XK)⟩
   |some v=>rw[hr]at hp;obtain⟨_,_,e,_⟩:=hp;cases e
  intro ds t3 hp;cases X4:qL K v2 with
  |none=>rw[X4]at hp;obtain⟨_,e,_⟩:=hp;cases e
  |some v3=>
  rw[X4]at hp iN;obtain⟨_,L3,e,agL,fD,ahE⟩:=hp;cases e;simp only at iN;simp only[aq];obtain⟨w1,w2,w3⟩:=ZmG Gw X4;have abt:Fx [K.w,K.i,K.j] S5 t3:=Xj.step fD XK;have abK:Nw [K.w,K.i,K.j] S5 L3:=XK.trans Xj.1 ahE;have dA:(v3.aG.length:Int)=K.sup.used:=by rw[w1,q1];exact eX
  have jm:v3.aK=[]:=by rw[w2,q3,k2];rfl
  obtain⟨y1,r1,y2,r2,y3,r3,y4,r4,hd,WV⟩:=agL;rw[ZyE WV.cell (k:= .i64) (n:=v3.nodes) rfl,Zo WV.cell (d:= .int .i64 v3.nodes) rfl];simp only[bg];refine Ok.call (ZzO (n+2) WV.wk (by omega) (by rw[jm];show 0<100000;omega) (by omega)) ?_;rintro _ ⟨t4,L4,rfl,agM,sH,ahF⟩;refine⟨_,t4,rfl,?_⟩;simp only[av,aq];have Xk:Fx [K.w,K.i,K.j] S5 t4:=abt.step sH abK;have ahG:Nw [K.w,K.i,K.j] S5 L4:=abK.trans abt.1 ahF;obtain⟨y1,r1,y2,r2,y3,r3,y4,r4,hd,oi⟩:=agM;have Ch:(rL K (ui v3) (dM y1 r1 (ui v3).aG.length) (dM y2 r2 (ui v3).aM.length) (dM y3 r3 (ui v3).aK.length) (dM y4 r4 (ui v3).free.length))[18]? =some (.int .i64 v3.nodes):=rfl;rw[Vb oi.cell Ch,Vb oi.cell Ch];have WZ:((((yM v3:Nat):Int))==v3.nodes)=decide (((yM v3:Nat):Int)=v3.nodes):=rfl;rw[WZ];cases eN:decide (((yM v3:Nat):Int)=v3.nodes)with
  |false=>
   rw[eN,af]at iN;rw[oN h (n+1) rfl,<-iN];exact .mk ⟨t4,rfl,vw t4 Xk⟩
  |true=>
  rw[eN,ae]at iN;rw[tr h (n+1) rfl];simp only[aq];rw[Vb oi.cell Ch,jL oi.cell (by grind)];show Ok _ (aD .i64 (.int .i64 K.sup.blocks:: .int .i64 K.sup.de:: .int .i64 K.sup.g::dM y2 r2 (ui v3).aM.length::dM y3 r3 (ui v3).aK.length::dM y4 r4 (ui v3).free.length::[]) _ t4);unfold dM;simp only[av,Zg 2 y2 r2 _ oi.e2,Zg 1 y3 r3 _ oi.e3,Zg 1 y4 r4 _ oi.e4,aq];rw[Zo oi.cell (d:= .ptr (some (K.i,0))) rfl];simp only[Lv];have yk:apart (some (s.length+1,0)) K.w=true:=by
   show(!Nat.beq K.w (s.length+1))=true;cases hbq:Nat.beq K.w (s.length+1)with
   |false=>rfl
   |true=>have:=dL hbq;omega
  rw[Zb yk];have NX:pM t4 s.length (dE nK 0 none 0 none 0 none) (.ptr none) (.int .i64 0):=hC5.fx Xk λy hy=>by
   have:=iA y hy;omega
  obtain⟨t5,e5,hC6,mV⟩:=NX.Y3 (β:=ah) (dE (fh K.sup (ui v3)) 2 r2 1 r3 1 r4) (.ptr (some (K.i,0))) (.int .i64 0) rfl;refine Eq.mpr (congrArg (Ok _) (e5 (ay []))) ?_;rw[Zd,<-iN];have cA: ∀y∈L4,y∉[s.length+1,s.length+2,s.length+3]:=λy hy hm=>by
   have h1:S2.length<=y:=by
    rcases ahG y hy with h2|h2
    .exact iA y h2
    omega
   simp only[eF,tj,oH]at hm;omega
  have J4:=oi.own;refine .mk ⟨t5,[],2,r2,1,r3,1,r4,rfl,((vw t4 Xk).mono λy hy=>by cases hy).trans mV,hC6,.inl rfl,.inl rfl,.inl rfl,⟨⟨hd,(oi.o2.fx mV λy hy=>cA y (by rw[J4];simp[hy])).sl,kA.cj (λ_ _ k=>NX.cj hC6 mV k) oi.aM.aM⟩,(oi.o3.fx mV λy hy=>cA y (by rw[J4];simp[hy])).sl,(oi.o4.fx mV λy hy=>cA y (by rw[J4];simp[hy])).sl⟩,oi.set.fx mV (cA _ (by rw[J4];simp)) (cA _ (by rw[J4];simp))⟩
 .intro S3 hp
  cases hb:(bif decide (x.blocks<=((img.length/64:Nat):Int))then sZ K else none)with
  |some v=>rw[hb]at hp;obtain⟨_,_,_,_,_,_,_,_,e,_⟩:=hp;cases e
  |none=>
   rw[hb]at hp;obtain⟨_,e,hf⟩:=hp;cases e;rw[ae];have Jr:=WD.fx hf λy hy=>by cases hy
   obtain⟨S4,e4,NX,JF⟩:=Jr.Y3 (β:=ah) (dE nK 0 none 0 none 0 none) (.ptr none) (.int .i64 31) rfl;have WR:R=some none:=by
    rw[<-hR];grind
   rw[WR];refine Ok.aaS (P:=λo=>o=(.val [],S4)) (by rw[e4];exact .mk rfl) ?_ ?_
   .intro S5 e;cases e
   .intro ds S5 e
    cases e;rw[af,NX.yN];exact .mk ⟨S4,rfl,Cm S4 ((hf.mono λy hy=>by cases hy).trans JF)⟩
 .intro ds S3 hp
  cases hb:(bif decide (x.blocks<=((img.length/64:Nat):Int))then sZ K else none)with
  |none=>rw[hb]at hp;obtain⟨_,e,_⟩:=hp;cases e
  |some v=>
   rw[hb]at hp;obtain⟨_,_,z2,p2,z3,p3,z4,p4,e,hf,Jr,gS,mA,wX,cg,dh⟩:=hp;cases e;rw[af,Jr.yN];have WR:R=some (some v):=by
    rw[<-hR];grind
   rw[WR,<-km,ks];exact .mk ⟨S3,z2,p2,z3,p3,z4,p4,K.i,K.j,rfl,Cm S3 hf,gS,mA,wX,cg,dh,by omega,by omega⟩
def qo (img:aj) (x:cy):bL:=⟨0,0,0,x.blocks.toNat,none,img,x,none⟩
section
variable (w i j m:Nat) (a:ai) (img:aj) (x:cy) (pc:ai)
def ZsX: ∀(l:List bw) (k:Int) (v:aS),nk ⟨w,i,j,m,a,img,x,pc⟩ k l v=nk ⟨0,0,0,m,none,img,x,none⟩ k l v
 |[],_,_=>rfl
 |y::r,k,v=>by
  unfold nk;rw[show pS ⟨w,i,j,m,a,img,x,pc⟩ k y v=pS ⟨0,0,0,m,none,img,x,none⟩ k y v from rfl];cases pS ⟨0,0,0,m,none,img,x,none⟩ k y v with
  |none=>rfl
  |some v'=>exact ZsX r (k+1) v'
def Zy3 (k slot:Int) (v:aS):mY ⟨w,i,j,m,a,img,x,pc⟩ k slot v=mY ⟨0,0,0,m,none,img,x,none⟩ k slot v:=by
 unfold mY;rw[show dN ⟨w,i,j,m,a,img,x,pc⟩ k v=dN ⟨0,0,0,m,none,img,x,none⟩ k v from rfl];cases dN ⟨0,0,0,m,none,img,x,none⟩ k v with
 |none=>rfl
 |some q=>
  obtain⟨b,v1⟩:=q;cases b<;>first|rfl|exact ZsX w i j m a img x pc _ _ _
def U5 (cJ x5:Int): ∀(l:ak) (k:Int) (v:aS),kD ⟨w,i,j,m,a,img,x,pc⟩ cJ x5 k l v=kD ⟨0,0,0,m,none,img,x,none⟩ cJ x5 k l v
 |[],_,_=>rfl
 |y::r,k,v=>by
  unfold kD;rw[Zy3,U5 cJ x5 r (k+1) v];cases mY ⟨0,0,0,m,none,img,x,none⟩ y ((x5*16+k)*7) v with
  |none=>rfl
  |some v'=>simp only[U5 cJ x5 r (k+1) v']
def U3 (cJ:Int): ∀(l:ak) (k:Int) (v:aS),od ⟨w,i,j,m,a,img,x,pc⟩ cJ k l v=od ⟨0,0,0,m,none,img,x,none⟩ cJ k l v
 |[],_,_=>rfl
 |y::r,k,v=>by
  unfold od;rw[show dN ⟨w,i,j,m,a,img,x,pc⟩ y v=dN ⟨0,0,0,m,none,img,x,none⟩ y v from rfl,U3 cJ r (k+1) v];cases dN ⟨0,0,0,m,none,img,x,none⟩ y v with
  |none=>rfl
  |some q=>
   obtain⟨b,v1⟩:=q;cases b<;>try rfl
   rename_i z;simp only[U5];cases kD ⟨0,0,0,m,none,img,x,none⟩ cJ k 0 z v1 with
   |none=>rfl
   |some v2=>simp only[U3 cJ r (k+1) v2]
def ZxM (v:aS):nY ⟨w,i,j,m,a,img,x,pc⟩ v=nY ⟨0,0,0,m,none,img,x,none⟩ v:=by
 unfold nY;rw[show dN ⟨w,i,j,m,a,img,x,pc⟩ x.cc v=dN ⟨0,0,0,m,none,img,x,none⟩ x.cc v from rfl];simp[U3]
def Ztx: ∀(f:Nat) (fl:List Bool) (k:Int) (v:aS),nl ⟨w,i,j,m,a,img,x,pc⟩ f fl k v=nl ⟨0,0,0,m,none,img,x,none⟩ f fl k v
 |0,_,_,_=>rfl
 |f+1,fl,k,v=>by
  unfold nl;cases v.aG[(k-1).toNat]? with
  |none=>rfl
  |some y=>simp only[Ztx f]
def ZsK: ∀(l:List bw) (fl:List Bool),qO ⟨w,i,j,m,a,img,x,pc⟩ fl l=qO ⟨0,0,0,m,none,img,x,none⟩ fl l
 |[],_=>by unfold qO;rfl
 |y::r,fl=>by
  unfold qO;rw[ZsK r];rfl
def ZzA (v:aS):sB ⟨w,i,j,m,a,img,x,pc⟩ v=sB ⟨0,0,0,m,none,img,x,none⟩ v:=by
 simp[sB,Ztx,BG,ZsK]
def Zta: ∀(f:Nat) (out:List bh) (todo:List nh) (v:aS),jM ⟨w,i,j,m,a,img,x,pc⟩ f out todo v=jM ⟨0,0,0,m,none,img,x,none⟩ f out todo v
 |0,_,_,_=>rfl
 |f+1,out,[],v=>rfl
 |f+1,out,t::r,v=>by
  unfold jM;rw[show dN ⟨w,i,j,m,a,img,x,pc⟩ t.block v=dN ⟨0,0,0,m,none,img,x,none⟩ t.block v from rfl];cases dN ⟨0,0,0,m,none,img,x,none⟩ t.block v with
  |none=>rfl
  |some q=>
   obtain⟨b,v1⟩:=q;cases b<;>try rfl
   rename_i z;simp only[Zta f];rfl
def Uh: ∀(l:ak) (k:Int) (acc:List bh) (v:aS),lY ⟨w,i,j,m,a,img,x,pc⟩ k l acc v=lY ⟨0,0,0,m,none,img,x,none⟩ k l acc v
 |[],_,_,_=>rfl
 |y::r,k,acc,v=>by
  unfold lY;rw[show rG ⟨w,i,j,m,a,img,x,pc⟩ y k v=rG ⟨0,0,0,m,none,img,x,none⟩ y k v from Zta w i j m a img x pc _ _ _ _,Uh r (k+1) acc v];cases rG ⟨0,0,0,m,none,img,x,none⟩ y k v with
  |none=>rfl
  |some q=>
   obtain⟨es,v1⟩:=q;simp only[Uh r (k+1)]
def ZuO: ∀(l:ak) (k:Nat) (v:aS),tM ⟨w,i,j,m,a,img,x,pc⟩ k l v=tM ⟨0,0,0,m,none,img,x,none⟩ k l v
 |[],_,_=>rfl
 |y::r,k,v=>by
  unfold tM;rw[show dN ⟨w,i,j,m,a,img,x,pc⟩ y v=dN ⟨0,0,0,m,none,img,x,none⟩ y v from rfl];cases dN ⟨0,0,0,m,none,img,x,none⟩ y v with
  |none=>rfl
  |some q=>
   obtain⟨b,v1⟩:=q;cases b<;>try rfl
   rename_i z;simp only[Uh];cases lY ⟨0,0,0,m,none,img,x,none⟩ 0 z.dz [] v1 with
   |none=>rfl
   |some q=>
    obtain⟨es,v2⟩:=q;simp only[ZuO r (k+1)]
def Zxa (v:aS):qL ⟨w,i,j,m,a,img,x,pc⟩ v=qL ⟨0,0,0,m,none,img,x,none⟩ v:=by
 unfold qL;rw[show dN ⟨w,i,j,m,a,img,x,pc⟩ x.dir v=dN ⟨0,0,0,m,none,img,x,none⟩ x.dir v from rfl];simp[ZuO]
def ZzR:sZ ⟨w,i,j,m,a,img,x,pc⟩=sZ ⟨0,0,0,m,none,img,x,none⟩:=by
 unfold sZ;simp only[ZxM w i j m a img x pc,ZzA w i j m a img x pc,Zxa w i j m a img x pc]
end
def Zv0 (K:bL) (h:K.m=K.sup.blocks.toNat):rK K=rK (qo K.img K.sup):=by
 obtain⟨w,i,j,m,a,img,sup,pc⟩:=K;simp only at h;subst h;unfold rK;rw[ZzR];rfl
def ZlN (n:Nat) (a:ai) (img:aj) (x:cy) (pc:ai) (s:St) (ha:dc s a img) (hc:Sl s pc (ints x.aJ)) (hl:img.length<1000000) (cN:x.aJ.length<1000) (hn:5000<=n:=by omega):
  Ok (aav s x.blocks.toNat x (rK (qo img x))) (run Bd n 171 [.slice 1 a img.length,.agg (dj x pc)] s):=by
 obtain⟨K,h1,h2,h3,h4⟩:=Zsb n a img x pc s ha hc hl cN hn;rw[Zv0 K (by rw[h1,h3]),h2,h3]at h4;exact h4
end Go.Gv.F
