/- The walker's trees: what they are, no program in sight. -/
import Derived.Test.YtegglibipjjblaaGreatDoorGvBMk
import Derived.Test.YtegglibipjjblaaGreatDoorGvZMb
set_option linter.all false
namespace Go.Gv.F
open Go.Gv
structure nb where
 block:Int
 pV:Int
 par:bc
 top:Bool
def rG (x:jj) (n:Nat):List nb:=((List.range n).map λi=>(⟨x.kids.getD i 0,i,x.bI,false⟩:nb)).reverse
theorem ZnU (x:jj) (n:Nat):rG x (n+1)=⟨x.kids.getD n 0,n,x.bI,false⟩::rG x n:=by
 simp[rG,uJ,fB,List.reverse_append]
def Ed (v:bg) (e:bc) (k:Int):Bool:=match v.aK[e.slot.toNat]? with
 |none=>false
 |some x=>(x.live==true)&&((x.gen==e.gen)&&((x.block==k)&&true))
def wx (K:bR) (v:bg) (t:nb) (x:jj):Bool:=
 (bif ((x.kids.length:Nat):Int)==t.pV then(bif t.top then true else eY t.par x.bI)else false)&&
 (bif decide (x.bI.slot<K.sup.used)then Ed v x.bI t.block else false)
def jR (K:bR):Nat->List bc->List nb->bg->Option (List bc×bg)
 |0,_,_,_=>none
 |_+1,out,[],v=>some (out,v)
 |f+1,out,t::r,v=>match dP K t.block v with
  |some (.node x,v')=>bif wx K v' t x then jR K f (out++[x.bI]) (rG x x.kids.length++r) { v' with nodes:=v'.nodes+1 } else none
  |_=>none
def wT:bc:=⟨0,0,0,0⟩
def rW (K:bR) (k pV:Int) (v:bg):Option (List bc×bg):=jR K (K.m+1) [] [⟨k,pV,wT,true⟩] v
def room (m:Nat) (W:al):Nat:=(List.range m).countP λb=> !dT W b
theorem ZpV {P Q:Nat->Bool} : ∀ {l:al} {k:Nat},(∀b,Q b=true->P b=true)->k∈l->P k=true->Q k=false->l.countP Q+1<=l.countP P
 |[],_,_,h,_,_=>by cases h
 |a::l,k,hm,h,hp,hq=>by
  rw[List.countP_cons,List.countP_cons];rcases dW.1 h with rfl|h
  .rw[hp,hq]
   have:=List.countP_mono_left (l:=l) (p:=Q) (q:=P) λb _ hb=>hm b hb
   simp;omega
  .have:=ZpV hm h hp hq
   grind
theorem Zs7 (m:Nat) (W:al):room m W<=m:=by
 unfold room;exact gJ (List.countP_le_length) (by simp)
variable {f:Bool} {e e' r r':DV} {k n slot:Int} {i lim m p:Nat} {s s' s0:St} {A A' cs:ah} {l:aj} {T W:al} {K:bR} {v v':bg}
theorem RM (hl:W.length=(m+63)/64) (h:ft m W k=true):room m (bU m W k)+1<=room m W:=by
 unfold ft at h;rw[aW,aW]at h;obtain⟨_,hm,hi⟩:=h;have oW:=hm;unfold fT at oW;rw[aW,bC,bC]at oW;refine ZpV (k:=k.toNat) (λb hb=>?_) (Di.2 (by omega)) hi ?_
 .rw[ya hl]at hb
  rw[lL]at hb⊢;rw[Bh]at hb;exact hb.1
 .rw[ya hl,hm]
  simp
theorem D4 {b:Bp} (h:dP K k v=some (b,v')):ft K.m v.W k=true/\v'.W=bU K.m v.W k:=by
 grind[dP]
def Dt (v:bg) (e:bc):Prop:=0<=e.slot/\∃(x:bw) (k:Nat),v.aK[e.slot.toNat]? =some x/\x.block=(k:Int)/\dT v.W k=true
def Diff (l:List bc):Prop:=l.Pairwise λa b=>a.slot≠b.slot
theorem Zst {x:jj} (h:ZX l= .node x):nS x=true/\x.kids.length<=12:=by
 unfold ZX at h;split at h
 .rename_i e;cases h;exact Ke e
 grind
theorem JM {x:jj} (h:nS x=true):0<=x.bI.slot/\x.bI.slot<1792:=by
 grind[nS]
theorem Rx {K:bR} : ∀ {f:Nat} {acc out IS:List bc} {todo:List nb} {v v':bg},v.W.length=(K.m+63)/64->jR K f out todo v=some (IS,v')->(∀e∈acc++out,Dt v e)->Diff (acc++out)->(∀e∈acc++IS,Dt v' e)/\Diff (acc++IS)/\v'.W.length=(K.m+63)/64/\(∀k,dT v.W k=true->dT v'.W k=true)/\v'.aK=v.aK/\v'.aS=v.aS/\v'.aG=v.aG/\v'.free=v.free
 |0,_,_,_,_,_,_,_,h,_,_=>by cases h
 |f+1,acc,out,IS,[],v,v',hl,h,h1,h2=>by cases h;grind
 |f+1,acc,out,IS,t::r,v,v',hl,h,h1,h2=>by
  unfold jR at h;cases ht:dP K t.block v with
  |none=>rw[ht]at h;cases h
  |some q=>
   obtain⟨b,v1⟩:=q;rw[ht]at h;obtain⟨g1,g2,g3,g4,g5,g6⟩:=sv ht;obtain⟨g7,g8⟩:=D4 ht;cases b with
   |leaf x=>cases h
   |bY x=>cases h
   |queue x=>cases h
   |dir x=>cases h
   |none=>cases h
   |node x=>
    simp only at h;cases hf:wx K v1 t x with
    |false=>rw[hf]at h;cases h
    |true=>
     rw[hf,ae]at h;have gx: ∀k,dT v.W k=true->dT v1.W k=true:=λk hk=>by rw[g8,ya hl,hk];rfl
     have oj:v1.W.length=(K.m+63)/64:=by rw[g8,tJ];exact hl
     have eO:=g7;unfold ft at eO;rw[aW,aW,bC]at eO;obtain⟨iR,ui,hki⟩:=eO;have Ye:=(JM (Zst g6.symm).1).1;unfold wx at hf;rw[aW]at hf;have Fl:Ed v1 x.bI t.block=true:=by
      grind
     unfold Ed at Fl;cases yI:v1.aK[x.bI.slot.toNat]? with
     |none=>rw[yI]at Fl;cases Fl
     |some y=>
      rw[yI]at Fl;simp only[aW,and_true]at Fl;obtain⟨hy1,hy2,hy3⟩:=Fl;have MM:y.block=(t.block.toNat:Int):=by rw[eq_of_beq hy3];omega
      have hold: ∀e∈acc++out,Dt v1 e:=λe he=>by
       obtain⟨a1,z,k,a2,a3,a4⟩:=h1 e he;exact⟨a1,z,k,by rw[g1];exact a2,a3,gx k a4⟩
      have iS:Dt v1 x.bI:=⟨Ye,y,t.block.toNat,yI,MM,by
       rw[g8,ya hl,ui];simp⟩
      have ady: ∀e∈acc++out,e.slot≠x.bI.slot:=λe he heq=>by
       obtain⟨a1,z,k,a2,a3,a4⟩:=h1 e he;rw[heq,<-g1,yI]at a2;grind
      have key:=Rx (acc:=acc) (v:= { v1 with nodes:=v1.nodes+1 }) oj h (λe he=>by
       rw[<-fA]at he;rcases gU.1 he with he|he
       .exact hold e he
       .rw[cx.1 he];exact iS) (by
       unfold Diff;rw[<-fA,Jm];refine⟨h2,List.pairwise_singleton _ _,λa ha b hb=>?_⟩;rw[cx.1 hb];exact ady a ha)
      grind
variable {β:Type}
variable {K:bR} {s:St} {v:bg} {L:al} {z1 z2 z3 z4:Nat} {p1 p2 p3 p4:ai} {hd:ah}
def kL (s:St) (a:ai) (cs:ah):Prop:=(a=none/\cs=[])\/∃b rest,a=some (b,0)/\s[b]? =some (some ⟨false,cs++rest⟩)
theorem kL.fx {a:ai} (h:kL s a cs) (k:Fx T s s') (n: ∀b∈aM a,b∉T):kL s' a cs:=by
 rcases h with h1|⟨i,r,rfl,h3⟩
 .exact .inl h1
 .exact .inr ⟨i,r,rfl,k.2 i _ (n i (by simp[aM])) h3⟩
theorem kL.lt {a:ai} (h:kL s a cs): ∀b∈aM a,b<s.length:=by
 rcases h with⟨rfl,_⟩|⟨i,r,rfl,h3⟩
 .intro b hb;cases hb
 .intro b hb;rw[cx.1 hb];grind
theorem Zur {a:ai} (h:kL s a cs) {sz n:Nat} (ds:ah) (hz:0<sz) (hn:cs.length=n*sz) (hd:ds.length=sz) (hl:n+1<=lim:=by omega):
  ∃b s',s.length<=b/\s'[b]? =some (some ⟨false,cs++ds⟩)/\Fx (aM a) s s'/\Kp s s'/\∀K:ai->M β,(cd ds λi=>bQ i 0 sz λcs'=>cj sz a n cs' 1 lim K) s=K (some (b,0)) s':=by
 rcases h with⟨rfl,rfl⟩|⟨i,rest,rfl,hs⟩
 .obtain⟨b,s',h1,h2,h3,h4,h5⟩:=bn.YK (β:=β) (s0:=[]) (s:=s) (a:=none) (cs:=[]) (bn.nil ⟨s,rfl⟩) ds hz hn hd hl
  rcases h2.2 with⟨e,_⟩|⟨i,e,_,h6⟩
  .cases e
  .cases e
   exact⟨b,s',h1,h6,⟨by have:=(eK.1 h6).1;omega,λi x _ e=>h4 i x e (λo e=>by cases e)⟩,h3,h5⟩
 .have jX:i<s.length:=by grind
  have kC:(s++[some (⟨false,ds⟩:bT)])[i]? =some (some (⟨false,cs++rest⟩:bT)):=by rw[oz jX];exact hs
  have eC:(s++[some (⟨false,ds⟩:bT)]).hY i=some (cs++rest):=by grind[St.hY]
  have hb:Nat.beq 1 0=false:=rfl;refine⟨s.length+1,(s++[some (⟨false,ds⟩:bT)]).set i none++[some (⟨false,cs++ds⟩:bT)],by omega,?_,⟨by simp;omega,λy x hy e=>?_⟩,(aC.new _ _).kp.trans ((Kp.set kC none).trans (aC.new _ _).kp),λK=>?_⟩
  .rw[mb (by simp)];simp
  .have hyl:=(eK.1 e).1
   have dI:i≠y:=λe=>hy (by simp[aM,e])
   rw[oz (by simp;omega),kJ dI,oz hyl];exact e
  .rw[Zz,ko (f:=false) (all:=ds) (by simp) (by omega),dA,dH (by omega)]
   unfold cj;simp only[hb,gr hl,ae,af,eC];rw[eW,gr (by rw[bA];omega),ae,dA,<-hn,Dj];simp
theorem dV.afO (h:dV K s v L z1 p1 z2 p2 z3 p3 z4 p4 hd) (x:Int):
  ∃s',(∀Kc:M β,eI K.w 18 [.int .i64 x] Kc s=Kc s')/\dV K s' { v with nodes:=x } L z1 p1 z2 p2 z3 p3 z4 p4 hd/\Fx [K.w] s s'/\Kp s s':=by
 have dI:=h.ne;have cF:=Fx.set s K.w (some (⟨false,qE K { v with nodes:=x } (dz z1 p1 v.aK.length) (dz z2 p2 v.aS.length) (dz z3 p3 v.aG.length) (dz z4 p4 v.free.length)⟩:bT));have oR:=cF.mono (T':=L) λy hy=>by rw[cx.1 hy];exact h.CX
 refine⟨_,λKc=>?_,⟨?_,h.e1,h.e2,h.e3,h.e4,h.o1.fx cF λb hb=>?_,h.o2.fx cF λb hb=>?_,h.o3.fx cF λb hb=>?_,h.o4.fx cF λb hb=>?_,h.aS.fx oR (Nw.refl L s),h.set.fx cF (by simpa using dI.1.symm) (by grind),Sl.fx h.img oR h.off,h.off,h.own,h.nodup⟩,cF,Kp.set h.cell _⟩
 .rw[uR h.cell (by show 18<19;omega)]
  rfl
 .exact mc (eK.1 h.cell).1
 all_goals simpa using (by grind)
def Ec (t:nb):ah:=[.int .i64 t.block,.int .i64 t.pV,.int .i64 t.par.slot,.int .i64 t.par.gen,.int .i64 t.par.key,.int .i64 t.par.value,.bool t.top]
def mP (l:List nb):ah:=(l.map Ec).flatten
theorem Kq (l:List nb):(mP l).length=l.length*7:=by
 unfold mP;induction l with
 |nil=>rfl
 |cons e l ih=>rw[pF,De,bA,ih,cO];show 7+_=_;omega
theorem ZpM (l m:List nb):mP (l++m)=mP l++mP m:=by simp[mP]
theorem Rh (x:jj) (n:Nat):(rG x n).length=n:=by unfold rG;simp
theorem Zxe {Kn:ah->M ah} {Q:Out ah×St->Prop} (n:Nat) (agr:s.length=s.length) (x:jj) (px:ai) (r:List nb) (t0:St) (yV:ai) (hx:Fz t0 px (ints x.kids)) (Yl:x.kids.length<=12) (ho:kL t0 yV (mP r.reverse)) (hr:r.length<100000) (gM: ∀b∈aM yV,s.length<=b) (dN:s.length<=t0.length) (hn:20<=n)
  (hK: ∀t pT z,(z=7\/pT=none)->kL t pT (mP (rG x x.kids.length++r).reverse)->(∀b∈aM pT,s.length<=b/\(b∈aM yV\/t0.length<=b))->Fx (aM yV) t0 t->Ok Q (Kn [.slice z pT (r.length+x.kids.length)] t)) (z0:Nat) (vH:z0=7\/yV=none):
  Ok Q (cW (λdt st=>
      bN 7 st λJb C5 st=>
      aF .i64 st λgq st=>
      aJ st<|
      bif decide (gq<(x.kids.length:Int))then
       bJ px λi6 o4=>
      aB (aP gq x.kids.length)<|
      bF i6 (gq.toNat*1+o4) λd3=>
      cP .i64 d3 λgN=>
      cd [.int .i64 gN,.int .i64 gq,.int .i64 x.bI.slot,.int .i64 x.bI.gen,.int .i64 x.bI.key,.int .i64 x.bI.value,.bool false] λi7=>
      bQ i7 0 7 λfq=>
      cj 7 Jb C5 fq 1 1256584717458 λp1=>
      dt [.slice 7 p1 (C5+1),.int .i64 (ar (gq+1))]
      else
       Kn [.slice 7 Jb C5]) n [.slice z0 yV r.length,.int .i64 0] t0):=by
 refine Zj _ (λq y t=>∃(i z:Nat) (pT:ai),y=[.slice z pT (r.length+i),.int .i64 i]/\(z=7\/pT=none)/\i<=x.kids.length/\x.kids.length-i<=q/\kL t pT (mP (rG x i++r).reverse)/\(∀b∈aM pT,s.length<=b/\(b∈aM yV\/t0.length<=b))/\Fx (aM yV) t0 t/\Fz t px (ints x.kids)) ?_ x.kids.length n _ _ ⟨0,z0,yV,rfl,vH,cE _,by omega,ho,by grind,.refl _ _,hx⟩ (by omega);rintro q _ t ⟨i,z,pT,rfl,hz,hi,hq,hoT,LS,cF,CL⟩ rec aQ;simp only[av,Zf 7 z pT _ hz,aq];by_cases ax:i<x.kids.length
 .obtain⟨i1,o1,rfl⟩:=CL.1.cB (by simp[ints];omega)
  rw[aw (show(i:Int)<(x.kids.length:Int) by omega),ae,aZ,Zb (Zi ax),br,CL.1.dF (ZA ax)];simp only[aX];have UN:(mP (rG x i++r).reverse).length=(r.length+i)*7:=by rw[Kq,List.length_reverse,bA,Rh];omega
  obtain⟨b,t1,g1,g2,g3,g4,g5⟩:=Zur (β:=ah) hoT (sz:=7) (n:=r.length+i) (lim:=1256584717458) (Ec ⟨x.kids[i],i,x.bI,false⟩) (by omega) UN rfl;refine Eq.mpr (congrArg (Ok _) (g5 _)) ?_;have j6:ar ((i:Int)+1)=((i+1:Nat):Int):=Zc;rw[j6];refine aQ (x.kids.length-(i+1)) _ _ (by omega) ⟨i+1,7,some (b,0),rfl,.inl rfl,by omega,aO _,.inr ⟨b,[],rfl,?_⟩,?_,?_,CL.kp g4⟩
  .rw[g2,gA,ZnU,mU,List.reverse_cons,ZpM]
   have:x.kids.getD i 0=x.kids[i]:=by rw[dZ,cg ax];rfl
   rw[this];simp[mP]
  .intro y hy
   rw[cx.1 hy];have:=cF.1;omega
  .exact cF.step g3 λy hy=>(LS y hy).2
 .rw[aD (show ¬(i:Int)<(x.kids.length:Int) by omega),af]
  have:i=x.kids.length:=by omega
  subst this;grind
theorem Zu9 {Bd:Zh} (h:Dz Bd) (n:Nat) (hn:8<=n) (a b:bc) (st:St):
  Ok (λo=>∃z s',o=(.val [.int .i64 z],s')/\aC st s'/\decide (z<0)=eY a b) (run Bd n 159 [.agg (eN a),.agg (eN b)] st):=by
 refine(Xd h n hn a b st).mono ?_;rintro _ ⟨z,s',rfl,hp,e⟩;grind
variable {Q:Out β×St->Prop}
theorem Ok.join {f:ah->M β} {g:(ah->M β)->M β} (h: ∀jk,jk=f->Ok Q (g jk s)):Ok Q (cI f g s):=by rw[Za];exact h f rfl
theorem Zwh (pn:M β) (x:jj) (px:ai) (Kc:Int->Int->Int->Int->ai->Nat->M β):tQ pn (.iface 6 (.agg (nA x 1 px))) 6 (λd=>sI d λbM=>aF .i64 bM λx8 r=>aF .i64 r λx9 r=>aF .i64 r λdq r=>aF .i64 r λeS r=>bN 1 r λfJ mS r=>aJ r<|Kc x8 x9 dq eS fJ mS)=Kc x.bI.slot x.bI.gen x.bI.key x.bI.value px x.kids.length:=rfl
def JA (K:bR) (s:St) (v:bg) (L:al) (z1:Nat) (p1:ai) (z2:Nat) (p2:ai) (z3:Nat) (p3:ai) (z4:Nat) (p4:ai) (hd:ah) (R:Option (List bc×bg)) (o:Out ah×St):Prop:=match R with
 |none=>∃s',o=(.eV,s')/\Fx L s s'
 |some (out,v')=>∃p z s',o=(.val [.slice z p out.length],s')/\(z=4\/p=none)/\dV K s' v' L z1 p1 z2 p2 z3 p3 z4 p4 hd/\Fx L s s'/\kL s' p (bK out)/\(∀b∈aM p,s.length<=b)/\v'.nodes+(room K.m v'.W:Nat)<=v.nodes+(room K.m v.W:Nat)/\v.nodes<=v'.nodes/\out.length<=4000
theorem dV.MR (h:dV K s v L z1 p1 z2 p2 z3 p3 z4 p4 hd) (h0:pJ s0 L hd v.aS) (hl: ∀x∈L,x<s0.length) (ha: ∀b o,K.a=some (b,o)->b<s0.length) (k0:Fx L s0 s) (k:Fx T s s') (hT: ∀x∈T,s0.length<=x):dV K s' v L z1 p1 z2 p2 z3 p3 z4 p4 hd/\Fx L s0 s':=by
 have hf:Fx L s0 s':=k0.step k λx hx=> .inr (hT x hx)
 exact⟨h.jy k (by grind) (λb o e hm=>by have:=ha b o e;have:=hT b hm;omega) (h0.fx hf (Nw.refl L s0)),hf⟩
theorem Zxd {Bd:Zh} (h:HA Bd) (n:Nat) (hK:Bz K) (k pV:Int) (hW:dV K s v L z1 p1 z2 p2 z3 p3 z4 p4 hd) (h0:0<=K.sup.used) (h1:K.sup.used<=1792) (hs:(v.aK.length:Int)=K.sup.used) (jw:0<=v.nodes) (hnr:v.nodes+(room K.m v.W:Nat)<=5000) (hm:K.m<=3072) (hn:4010<=n):
  Ok (JA K s v L z1 p1 z2 p2 z3 p3 z4 p4 hd (rW K k pV v)) (run Bd n 233 [.ptr (some (K.w,0)),.int .i64 k,.int .i64 pV] s):=by
 obtain⟨n,rfl⟩: ∃k,n=k+2:=⟨n-2,by omega⟩;rw[Ze,h.abW];unfold N0 gK Bx ZrK tm Ztb az C_ Zm cy Zn N_ pP cM tw mZ Lb Li zm zw rW;simp only[fV,av,aq];rw[Zz];have Cv:=hW.lt;have EH: ∀b o,K.a=some (b,o)->b<s.length:=λb o e=>Sl.lt (e▸hW.img)
 have yF:=aC.new s (some (⟨false,[DV.int .i64 k,.int .i64 pV,.int .i64 0,.int .i64 0,.int .i64 0,.int .i64 0,.bool true]⟩:bT));have Au:(s++[some (⟨false,[DV.int .i64 k,.int .i64 pV,.int .i64 0,.int .i64 0,.int .i64 0,.int .i64 0,.bool true]⟩:bT)])[s.length]? =some (some ⟨false,mP [⟨k,pV,wT,true⟩]⟩):=by simp;rfl
 have rp:=hW.pre yF;generalize s++[some (⟨false,[DV.int .i64 k,.int .i64 pV,.int .i64 0,.int .i64 0,.int .i64 0,.int .i64 0,.bool true]⟩:bT)]=s0 at yF Au rp;obtain⟨R,hR⟩: ∃R,jR K (K.m+1) [] [⟨k,pV,wT,true⟩] v=R:=⟨_,rfl⟩;rw[hR,Za];have hrm:=Zs7 K.m v.W;refine Zj _ (λq y t=>∃(f:Nat) (out:List bc) (todo:List nb) (u:bg) (zo:Nat) (po:ai) (zt:Nat) (pt:ai),y=[.slice zo po out.length,.slice zt pt todo.length]/\(zo=4\/po=none)/\(zt=7\/pt=none)/\room K.m u.W<=q/\room K.m u.W<f/\dV K t u L z1 p1 z2 p2 z3 p3 z4 p4 hd/\u.aK=v.aK/\u.aS=v.aS/\Fx L s t/\kL t po (bK out)/\kL t pt (mP todo.reverse)/\(∀b∈aM po,s.length<=b)/\(∀b∈aM pt,s.length<=b)/\(∀b∈aM po,b∉aM pt)/\v.nodes<=u.nodes/\u.nodes+(room K.m u.W:Nat)<=v.nodes+(room K.m v.W:Nat)/\out.length+room K.m u.W<=3072/\todo.length+12*room K.m u.W<=40000/\jR K f out todo u=R) ?_ (room K.m v.W) (n+1) _ _ ⟨K.m+1,[],[⟨k,pV,wT,true⟩],v,0,none,7,some (s.length,0),rfl,.inr rfl,.inl rfl,aO _,by omega,rp,rfl,rfl,Fx.pre L yF,.inl ⟨rfl,rfl⟩,.inr ⟨s.length,[],rfl,by rw[gA];exact Au⟩,λ_ h=>(by cases h),λb hb=>by rw[cx.1 hb];exact aO _,λ_ h=>(by cases h),Int.le_refl _,Int.le_refl _,by simp;omega,by simp;omega,hR⟩ (by omega);rintro q _ t ⟨f,out,todo,u,zo,po,zt,pt,rfl,VB,hzt,hrq,hrf,dL,kY,sY,cF,Mw,hot,HG,rq,Ug,H6,H7,iG,vE,aN⟩ rec aQ;simp only[Zf 4 zo po _ VB,Zf 7 zt pt _ hzt,aq];obtain⟨f,rfl⟩: ∃k,f=k+1:=⟨f-1,by omega⟩;cases todo with
 |nil=>
  rw[show decide ((([]:List nb).length:Int)>0)=false from rfl,af];simp only[bd,aq];unfold jR at aN;rw[Zd,<-aN];exact .mk ⟨po,4,t,rfl,.inl rfl,dL,cF,Mw,HG,H7,H6,by omega⟩
 |cons e r=>
  unfold jR at aN;rw[aw (show(((e::r).length:Nat):Int)>0 by grind),ae];rw[Za];rcases hot with⟨_,hx⟩|⟨bt,rest,rfl,Xp⟩
  .exfalso
   have:=congrArg List.length hx;rw[Kq]at this;simp at this
  have cD:ar ((((e::r).length:Nat):Int)-1)=(r.length:Int):=by
   have e3:((((e::r).length:Nat):Int)-1)=(r.length:Int):=by simp
   have h9:r.length<100000:=by omega
   rw[e3];exact Zc
  simp only[cD,br];rw[aZ,Zb (Zi (by simp))];have Aw:mP (e::r).reverse=mP r.reverse++Ec e:=by
   rw[List.reverse_cons,ZpM];simp[mP]
  have ad0: ∀Kc:ah->M ah,bQ bt (r.length*7+0) 7 Kc t=Kc (Ec e) t:=λKc=>by
   rw[gV,ko Xp (by rw[bA,Kq,List.length_reverse,cO];omega)];rw[Aw,show r.length*7=(mP r.reverse).length by rw[Kq,List.length_reverse],fA,Bi];rfl
  rw[ad0];unfold Ec;simp only[av,au,aq];rw[Zb (by rw[aW,bC,bC];simp;omega)];refine Ok.uZ (dL.take h (n+1) e.block hK.m hK.El hK.len (by omega)) ?_ ?_
  .intro s' hp
   cases ht:dP K e.block u with
   |none=>rw[ht]at hp aN;cases hp;rw[<-aN];exact⟨t,rfl,cF⟩
   |some q=>rw[ht]at hp;obtain⟨d,s2,e,_⟩:=hp;cases e
  intro ds t1 hp;cases ht:dP K e.block u with
  |none=>rw[ht]at hp;cases hp
  |some q=>
   obtain⟨b,u1⟩:=q;rw[ht]at hp aN;obtain⟨d,s2,e2,iw,lB,hb⟩:=hp;cases e2;obtain⟨g1,g2,g3,g4,g5,g6⟩:=sv ht;obtain⟨g7,g8⟩:=D4 ht;have ME:=RM dL.set.len g7;rw[<-g8]at ME;have np:Fx L s t1:=cF.trans (lB.mono λy hy=>by rw[cx.1 hy];exact dL.vK);simp only[Bt,aq];cases b with
   |leaf x=>obtain⟨rfl,_⟩:=hb;rw[<-aN];exact .mk ⟨t1,rfl,np⟩
   |bY x=>obtain⟨rfl,_⟩:=hb;rw[<-aN];exact .mk ⟨t1,rfl,np⟩
   |queue x=>obtain⟨rfl,_⟩:=hb;rw[<-aN];exact .mk ⟨t1,rfl,np⟩
   |dir x=>obtain⟨p,rfl,_⟩:=hb;rw[<-aN];exact .mk ⟨t1,rfl,np⟩
   |none=>cases hb;rw[<-aN];exact .mk ⟨t1,rfl,np⟩
   |node x=>
    obtain⟨px,rfl,Iz,hxr,Yl⟩:=hb;simp only at aN;rw[Zwh];have Ye:=JM hxr;have um: ∀t',Fx L s t'->wx K u1 e x=false->Ok (JA K s v L z1 p1 z2 p2 z3 p3 z4 p4 hd R) (some (.eV,t')):=λt' vp hf=>by
     rw[hf,af]at aN;rw[<-aN];exact .mk ⟨t',rfl,vp⟩
    obtain⟨c1,gY⟩: ∃c1,(bif ((x.kids.length:Nat):Int)==e.pV then(bif e.top then true else eY e.par x.bI)else false)=c1:=⟨_,rfl⟩;obtain⟨c2,jt⟩: ∃c2,(bif decide (x.bI.slot<K.sup.used)then Ed u1 x.bI e.block else false)=c2:=⟨_,rfl⟩;have Uw:wx K u1 e x=(c1&&c2):=by unfold wx;rw[gY,jt]
    refine Ok.join λaR lW=>?_
    have hA: ∀t2,dV K t2 u1 L z1 p1 z2 p2 z3 p3 z4 p4 hd->Fx L s t2->kL t2 po (bK out)->kL t2 (some (bt,0)) (mP r.reverse)->Fz t2 px (ints x.kids)->Ok (JA K s v L z1 p1 z2 p2 z3 p3 z4 p4 hd R) (aR [.bool c1] t2):=by
     intro t2 mC fF ael aep afd;rw[lW];simp only[au,aq];cases c1 with
     |false=>
      rw[Z5 h n rfl];exact um t2 fF (by rw[Uw];rfl)
     |true=>
     rw[sr h n rfl];simp only[aq];rw[aZ,Zo mC.cell rfl];simp only[aX];refine Ok.join λbz AJ=>?_
     have hB:Ok (JA K s v L z1 p1 z2 p2 z3 p3 z4 p4 hd R) (bz [.bool c2] t2):=by
      rw[AJ];simp only[au,aq];cases c2 with
      |false=>
       rw[Z5 h n rfl];exact um t2 fF (by rw[Uw];rfl)
      |true=>
      rw[sr h n rfl];rw[Uw,y9,ae]at aN;simp only[aq,aZ];rw[Zo mC.cell rfl];simp only[aX];have qm:ar (u1.nodes+1)=u1.nodes+1:=Zc (by rw[g5];omega) (by rw[g5];omega);rw[qm,eW];obtain⟨t3,e3,vm,fe,adY⟩:=mC.afO (β:=ah) (u1.nodes+1);rw[e3];have Iy:K.w∈L:=dL.CX;have XE:Fx L s t3:=fF.trans (fe.mono λy hy=>by rw[cx.1 hy];exact Iy);have gM: ∀b,s.length<=b->b∉[K.w]:=λb hb hm=>by rw[cx.1 hm]at hb;have:=Cv _ Iy;omega
      have aem:=ael.fx fe λb hb=>gM b (HG b hb)
      have X3:=aep.fx fe λb hb=>gM b (rq b hb)
      have afe:=afd.kp adY;obtain⟨bo,t4,q1,q2,q3,q4,q5⟩:=Zur (β:=ah) aem (sz:=4) (n:=out.length) (lim:=2199023255552) (eN x.bI) (by omega) (Zq _) rfl;refine Eq.mpr (congrArg (Ok _) (q5 _)) ?_;have hh0:pJ s L hd u1.aS:=by rw[g2,sY];exact hW.aS
      obtain⟨nk,rz⟩:=vm.MR hh0 Cv EH XE q3 HG;have aeq:=X3.fx q3 λb hb hm=>Ug b hm hb
      have aff:=afe.kp q4;have hs4:s.length<=t4.length:=rz.1;rw[Za];refine Zxe (s:=s) (n+1) rfl x px r t4 (some (bt,0)) aff Yl aeq (by simp at vE;omega) rq hs4 (by omega) (Kn:=λds=>bN 7 ds λWx Wy st=>aJ st<|bN 4 [.slice 4 (some (bo,0)) (out.length+1),.slice 7 Wx Wy] λta rK st=>bN 7 st λWv Ww st=>aJ st<|rec [.slice 4 ta rK,.slice 7 Wv Ww]) ?_ 7 (.inl rfl);intro t5 pT z hz hT LS AD;simp only[Zf 7 z pT _ hz,bd,aq];have Xn:bo∉aM (some (bt,0)):=λhm=>by
       have:=kL.lt X3 bo hm;omega
      have vB:=XE.1;obtain⟨EF,adJ⟩:=nk.MR hh0 Cv EH rz AD rq;have agB:bo<t4.length:=(eK.1 q2).1;refine aQ (room K.m u1.W) _ _ (by omega) ⟨f,out++[x.bI],rG x x.kids.length++r, { u1 with nodes:=u1.nodes+1 },4,some (bo,0),7,pT,?_,.inl rfl,.inl rfl,aO _,(show room K.m u1.W<f by omega),EF,by show u1.aK=_;rw[g1,kY],by show u1.aS=_;rw[g2,sY],adJ,.inr ⟨bo,[],rfl,?_⟩,hT,λb hb=>?_,λb hb=>(LS b hb).1,λb hb hm=>?_,?_,?_,?_,?_,aN⟩
      .simp[Rh,tk]
      .rw[gA,xT]
       have:=AD.2 bo _ Xn q2;simpa [bK]using this
      .rw[cx.1 hb];omega
      .rw[cx.1 hb]at hm
       rcases(LS bo hm).2 with h5|h5
       .exact Xn h5
       .omega
      .show v.nodes<=u1.nodes+1
       rw[g5];omega
      .show u1.nodes+1+_<=_
       rw[g5];show u.nodes+1+(room K.m u1.W:Nat)<=_;omega
      .show(out++[x.bI]).length+room K.m u1.W<=_
       simp;omega
      .show(rG x x.kids.length++r).length+12*room K.m u1.W<=_
       rw[bA,Rh];simp at vE;omega
     cases ax:decide (x.bI.slot<K.sup.used)with
     |false=>
      rw[ax,af]at jt;rw[af,jt];exact hB
     |true=>
      rw[ax,ae]at jt;have uj:=qL ax;rw[ae,aZ,Zo mC.cell rfl];show Ok _ (dB 3 (.slice z1 p1 u1.aK.length) _ t2);rw[tF 3 z1 p1 _ mC.e1];have xo:u1.aK.length=v.aK.length:=by rw[g1,kY]
      obtain⟨ks,HV⟩: ∃ks:Nat,x.bI.slot=ks:=⟨x.bI.slot.toNat,by omega⟩;have gE:ks<u1.aK.length:=by rw[xo];omega
      obtain⟨bs,rfl,w9⟩:=mC.o1.cB (by rw[Zx];omega);have lY:u1.aK[ks]? =some u1.aK[ks]:=cg gE;unfold Ed at jt;rw[HV,br,lY]at jt;rw[aZ,HV,Zb (Zi gE),br,JY w9 lY];unfold ee;simp only[au,av,aq];simp only at jt;rw[jt];exact hB
    have hjL:K.j∈L:=dL.vK;have hnj: ∀b,s.length<=b->b∉[K.j]:=λb hb hm=>by rw[cx.1 hm]at hb;have:=Cv _ hjL;omega
    have U0:=Mw.fx lB λb hb=>hnj b (HG b hb)
    have U1:kL t1 (some (bt,0)) (mP r.reverse):= .inr ⟨bt,Ec e++rest,rfl,by
     rw[<-fA,<-Aw];exact lB.2 bt _ (hnj bt (rq bt (by simp[aM]))) Xp⟩
    cases Co:(((x.kids.length:Nat):Int)==e.pV)with
    |false=>
     rw[Co,af]at gY;rw[af,gY];exact hA t1 iw np U0 U1 Iz
    |true=>
     rw[Co,ae]at gY;rw[ae];refine Ok.join λdp XM=>?_
     cases htp:e.top with
     |true=>
      rw[htp,ae]at gY;rw[ae,XM];simp only[au,aq];rw[gY];exact hA t1 iw np U0 U1 Iz
     |false=>
      rw[htp,af]at gY;rw[af];refine Ok.call (Zu9 h.afk (n+1) (by omega) e.par x.bI t1) ?_;rintro _ ⟨z,t2,rfl,aV,e2⟩;refine⟨_,t2,rfl,?_⟩;rw[XM];simp only[av,au,aq];rw[e2,gY];exact hA t2 (iw.pre aV) (np.trans (Fx.pre L aV)) (U0.fx (Fx.pre [] aV) λ_ _ h=>by cases h) (U1.fx (Fx.pre [] aV) λ_ _ h=>by cases h) (Iz.pre aV)
def e4 (e:bc):E4:=(e.slot,e.gen,e.key,e.value)
def FD (x:E4):bc:=⟨x.1,x.2.1,x.2.2.1,x.2.2.2⟩
theorem Go.Gv.W9: ∀(l:List bc),Go.Gv.yl (bK l)=some (l.map e4)
 |[]=>rfl
 |e::l=>by
  show(match Go.Gv.yl (bK l)with|some l=>some ((e.slot,e.gen,e.key,e.value)::l)|none=>none)=_;rw[Go.Gv.W9 l];rfl
theorem Zmn: ∀(l:List E4),lQ l=bK (l.map FD)
 |[]=>rfl
 |x::l=>by
  show q9 x++lQ l=_;rw[Zmn l];rfl
def uA (l:List bc):List bc:=(jM (l.map e4)).map FD
theorem ZpA (l:List bc):(uA l).length=l.length:=by simp[uA,uG,QX]
theorem Zr3 {x y:E4} (h:x.1≠y.1):(fm x y||fm y x)=true:=by
 rw[l9,BT,BT];omega
theorem Pu: ∀ {l:List bc},Diff l->B2 (l.map e4)=true
 |[],_=>rfl
 |e::l,.cons h1 h2=>by
  show((l.map e4).all (λy=>fm (e4 e) y||fm y (e4 e))&&B2 (l.map e4))=true;rw[Pu h2,y9,uF];intro y hy;obtain⟨z,hz,rfl⟩:=xO.1 hy;exact Zr3 (h1 z hz)
variable {Bd:Zh} [h:HA Bd]
theorem Zw2 (n:Nat) (l:List bc) (p:ai) (st:St) (hs:kL st p (bK l)) (hd:Diff l) (hl:l.length<=1000000):
  ∃s',run Bd (n+1) 232 [.slice 4 p l.length,.func 159 [] []] st=some (.val [],s')/\kL s' p (bK (uA l))/\Fx (aM p) st s':=by
 rw[Ze,h.abV];unfold GX;rcases hs with⟨rfl,hx⟩|⟨b,rest,rfl,hb⟩
 .have h0:l.length=0:=by
   have:=congrArg List.length hx;rw[Zq]at this;rw[Dh]at this;omega
  have h1:l=[]:=Bm.1 h0;subst h1;exact⟨st,rfl,.inl ⟨rfl,rfl⟩,.refl _ _⟩
 .have eC:st.hY b=some (bK l++rest):=by grind[St.hY]
  simp only[eC];rw[gr (by rw[bA,Zq];omega),ae,dA,<-Zq,Dj,Go.Gv.W9];simp only[Pu hd,gr hl,Bool.and_self,ae];have yI:lQ (jM (l.map e4))=bK (uA l):=Zmn _;rw[yI];have kX:=sy [] (bK l) rest (bK (uA l)) (by rw[Zq,Zq,ZpA]);rw[iL,iL]at kX;refine⟨_,rfl,.inr ⟨b,rest,rfl,?_⟩,Fx.set st b _⟩;rw[mc (eK.1 hb).1];grind
def dO (x:dY) (p:ai):ah:=[.int .i64 x.seq,.int .i64 x.blocks,.int .i64 x.cJ,.int .i64 x.g,.int .i64 x.bY,.int .i64 x.used,.int .i64 x.free,.int .i64 x.dir,.slice 1 p x.aL.length]
def mN (x:dY) (k:Int):Bool:=bif decide (k>=2)then decide (k<x.blocks)else false
def pL (x:dY):Bool:=(List.range x.aL.length).all λi=>mN x (x.aL.getD i 0)&& !decide (x.aL.getD i 0∈x.aL.take i)
def iN (x:dY):Bool:=
 !(decide (x.seq<1)||(decide (x.seq>4611686018427387904)||(!oa x.blocks x.cJ x.g||(decide (x.used<0)||(decide (x.used>x.cJ)||(decide (x.free<0)||decide (x.free>x.used)))))))&&
 (!((bif x.used==0 then !(x.bY==0)else false)||((bif decide (x.used>0)then !mN x x.bY else false)||((bif !(x.dir==0)then !mN x x.dir else false)|| !(((x.aL.length:Nat):Int)==yc x.blocks x.cJ x.g))))&&pL x)
theorem ZmX (n:Nat) (x:dY) (p:ai) (b:Nat) (k:Int) (st:St) (hb:st[b]? =some (some ⟨false,dO x p⟩)):
  run Bd (n+1) 221 [.int .i64 k,.ptr (some (b,0))] st=some (.val [.bool (mN x k)],st):=by
 rw[Ze,h.abL];unfold OL ji az Zm Lb mN;simp only[av,fV,aq,Za,aZ];cases decide (k>=2)with
 |false=>rfl
 |true=>
  rw[ae,ae,Zo hb (d:= .int .i64 x.blocks) rfl];rfl
theorem ZoD (n:Nat) (x:dY) (p:ai) (st:St) (hs:Sl st p (ints x.aL)) (hl:x.aL.length<1000) (hn:x.aL.length+10<=n):
  run Bd n 197 [.agg (dO x p)] st=some (.val [.bool (iN x)],st++[some ⟨false,dO x p⟩]):=by
 obtain⟨n,rfl⟩: ∃k,n=k+3:=⟨n-3,by omega⟩;rw[Ze,h.abn];unfold OV ZZ Zm az Q_ cH Zn aY B0 uL Lb Li eU tP iN;have hb:(st++[some (⟨false,dO x p⟩:bT)])[st.length]? =some (some ⟨false,dO x p⟩):=by simp
 have fH:=hs.mono (aC.new st (some (⟨false,dO x p⟩:bT)));have yw:=λk=>ZmX (n+1) x p st.length k _ hb
 have ld: ∀(k:Nat) (d:DV),(dO x p)[k]? =some d->∀Kc:DV->M ah,bF st.length k Kc (st++[some (⟨false,dO x p⟩:bT)])=Kc d (st++[some (⟨false,dO x p⟩:bT)]):=λk d e Kc=>Zo hb e Kc
 have VK: ∀Kc:ah->M ah,bQ st.length 1 3 Kc (st++[some (⟨false,dO x p⟩:bT)])=Kc [.int .i64 x.blocks,.int .i64 x.cJ,.int .i64 x.g] (st++[some (⟨false,dO x p⟩:bT)]):=λKc=>by
  rw[ko hb (by show 1+3<=9;omega)];rfl
 show bj [.agg (dO x p)] _ st=_;rw[cG];unfold dO;simp only[av,bd,aq];rw[Zz];change _=some (Out.val _,st++[some (⟨false,dO x p⟩:bT)]);have p9:([.int .i64 x.seq,.int .i64 x.blocks,.int .i64 x.cJ,.int .i64 x.g,.int .i64 x.bY,.int .i64 x.used,.int .i64 x.free,.int .i64 x.dir,.slice 1 p x.aL.length]:ah)=dO x p:=rfl;rw[p9];generalize (st++[some (⟨false,dO x p⟩:bT)])=s1 at hb fH yw ld VK⊢;rw[ld 0 (.int .i64 x.seq) rfl];simp only[aX];refine ok_eq ?_;obtain⟨F1,hF1⟩: ∃F1,(decide (x.seq<1)||(decide (x.seq>4611686018427387904)||(!oa x.blocks x.cJ x.g||(decide (x.used<0)||(decide (x.used>x.cJ)||(decide (x.free<0)||decide (x.free>x.used)))))))=F1:=⟨_,rfl⟩;obtain⟨F2,HB⟩: ∃F2,((bif x.used==0 then !(x.bY==0)else false)||((bif decide (x.used>0)then !mN x x.bY else false)||((bif !(x.dir==0)then !mN x x.dir else false)|| !(((x.aL.length:Nat):Int)==yc x.blocks x.cJ x.g))))=F2:=⟨_,rfl⟩;rw[hF1,HB];refine Ok.join λaA h1=>?_
 have A1: ∀b,(decide (x.seq<1)||decide (x.seq>4611686018427387904))=b->Ok (λp=>p=(Out.val [DV.bool (!F1&&(!F2&&pL x))],s1)) (aA [.bool b] s1):=by
  intro b1 e1;rw[h1];simp only[au,aq];refine Ok.join λaI h2=>?_
  have A2: ∀b,(b1|| !oa x.blocks x.cJ x.g)=b->Ok (λp=>p=(Out.val [DV.bool (!F1&&(!F2&&pL x))],s1)) (aI [.bool b] s1):=by
   intro b2 e2;rw[h2];simp only[au,aq];refine Ok.join λaR h3=>?_
   have A3: ∀b,(b2||decide (x.used<0))=b->Ok (λp=>p=(Out.val [DV.bool (!F1&&(!F2&&pL x))],s1)) (aR [.bool b] s1):=by
    intro b3 e3;rw[h3];simp only[au,aq];refine Ok.join λbz h4=>?_
    have A4: ∀b,(b3||decide (x.used>x.cJ))=b->Ok (λp=>p=(Out.val [DV.bool (!F1&&(!F2&&pL x))],s1)) (bz [.bool b] s1):=by
     intro b4 e4;rw[h4];simp only[au,aq];refine Ok.join λca h5=>?_
     have A5: ∀b,(b4||decide (x.free<0))=b->Ok (λp=>p=(Out.val [DV.bool (!F1&&(!F2&&pL x))],s1)) (ca [.bool b] s1):=by
      intro b5 e5;rw[h5];simp only[au,aq];refine Ok.join λdp h6=>?_
      have A6: ∀b,(b5||decide (x.free>x.used))=b->Ok (λp=>p=(Out.val [DV.bool (!F1&&(!F2&&pL x))],s1)) (dp [.bool b] s1):=by
       intro b6 e6;rw[h6];simp only[au,aq];have w8:F1=b6:=by rw[<-hF1,<-e6,<-e5,<-e4,<-e3,<-e2,<-e1];grind
       cases b6 with
       |true=>rw[ae,Zd,w8];exact .mk rfl
       |false=>
        rw[af,w8,bm,dx,ld 5 (.int .i64 x.used) rfl];simp only[aX];refine Ok.join λfS h7=>?_
        have B7: ∀b,(bif x.used==0 then !(x.bY==0)else false)=b->Ok (λp=>p=(Out.val [DV.bool (!F2&&pL x)],s1)) (fS [.bool b] s1):=by
         intro b7 e7;rw[h7];simp only[au,aq];refine Ok.join λgG h8=>?_
         have B8: ∀b,(b7||(bif decide (x.used>0)then !mN x x.bY else false))=b->Ok (λp=>p=(Out.val [DV.bool (!F2&&pL x)],s1)) (gG [.bool b] s1):=by
          intro b8 e8;rw[h8];simp only[au,aq];refine Ok.join λgH h9=>?_
          have B9: ∀b,(b8||(bif !(x.dir==0)then !mN x x.dir else false))=b->Ok (λp=>p=(Out.val [DV.bool (!F2&&pL x)],s1)) (gH [.bool b] s1):=by
           intro b9 e9;rw[h9];simp only[au,aq];refine Ok.join λjJ EA=>?_
           have B10: ∀b,(b9|| !(((x.aL.length:Nat):Int)==yc x.blocks x.cJ x.g))=b->Ok (λp=>p=(Out.val [DV.bool (!F2&&pL x)],s1)) (jJ [.bool b] s1):=by
            intro wM e10;rw[EA];simp only[au,aq];have Xl:F2=wM:=by rw[<-HB,<-e10,<-e9,<-e8,<-e7];simp only[Bool.or_assoc]
            cases wM with
            |true=>rw[ae,Zd,Xl];exact .mk rfl
            |false=>
             rw[af,Xl,bm,dx,ld 8 (.slice 1 p x.aL.length) rfl];simp only[lq];rw[Za];refine Zj _ (λq y s=>∃i:Nat,y=[.int .i64 i]/\i<=x.aL.length/\x.aL.length-i<=q/\s=s1/\((List.range i).all λi=>mN x (x.aL.getD i 0)&& !decide (x.aL.getD i 0∈x.aL.take i))=true) ?_ x.aL.length (n+2) _ _ ⟨0,rfl,by omega,by omega,rfl,rfl⟩ (by omega);rintro q _ s ⟨i,rfl,hi,hq,rfl,cQ⟩ rec aQ;simp only[av,aq];by_cases ax:i<x.aL.length
             .obtain⟨i1,o1,rfl⟩:=fH.cB (by simp[ints];omega)
              rw[aw (by omega),ae,aZ,Zb (Zi ax),br,fH.dF (ZA ax)];simp only[aX];have hw:ar ((i:Int)+1)=((i+1:Nat):Int):=Zc;have xc:x.aL.getD i 0=x.aL[i]:=by rw[dZ,cg ax];rfl
              have cA:(mN x x.aL[i]&& !decide (x.aL[i]∈x.aL.take i))=false->pL x=false:=λe=>List.all_eq_false.2 ⟨i,Di.2 ax,by rw[xc,e];decide⟩
              rw[Zk (yw x.aL[i])];simp only[au,aq,Za];cases hb:mN x x.aL[i]with
              |false=>
               rw[bm,ae];rw[ae,Zd,cA (by rw[hb];rfl)];exact .mk rfl
              |true=>
               rw[bp,af,ld 8 (.slice 1 (some (i1,o1)) x.aL.length) rfl];simp only[lq];rw[Zb (by rw[aW,bC,bC];omega)];have Vq:(x.aL.take i).length=i:=by rw[cV];omega
               have cc:Sl s (some (i1,o1)) (ints (x.aL.take i)):=by
                have:=Sl.lK fH i;rwa [show(ints x.aL).take i=ints (x.aL.take i) by unfold ints;rw[List.map_take]]at this
               have hc:=ZiQ (n+2) (x.aL.take i) x.aL[i] _ s cc (by omega) (by omega);rw[Vq]at hc;rw[Zk hc];simp only[au,aq];cases hm:decide (x.aL[i]∈x.aL.take i)with
               |true=>
                rw[ae,Zd,cA (by rw[hb,hm];rfl)];exact .mk rfl
               |false=>
                rw[af,hw];refine aQ (x.aL.length-(i+1)) _ _ (by omega) ⟨i+1,rfl,by omega,aO _,rfl,?_⟩;rw[uJ,sa,cQ,uE,List.all_nil,xc,hb,hm];rfl
             .rw[aD (by omega),af,Zd]
              rw[show i=x.aL.length by omega]at cQ;unfold pL;rw[cQ];exact .mk rfl
           cases b9 with
           |true=>rw[ae];exact B10 true rfl
           |false=>
            rw[af,ld 8 (.slice 1 p x.aL.length) rfl];simp only[lq];rw[VK];simp only[av,aq];rw[qR (Zon n x.blocks x.cJ x.g s1) (.refl s1)];simp only[av,aq];exact B10 _ rfl
          cases b8 with
          |true=>rw[ae];exact B9 true rfl
          |false=>
           rw[af,ld 7 (.int .i64 x.dir) rfl];simp only[aX];rw[Za];cases hd:(!(x.dir==0))with
           |false=>rw[af];simp only[au,aq];exact B9 _ (by rw[hd];rfl)
           |true=>
            rw[ae,ld 7 (.int .i64 x.dir) rfl];simp only[aX];rw[Zk (yw x.dir)];simp only[au,aq];exact B9 _ (by rw[hd];rfl)
         cases b7 with
         |true=>rw[ae];exact B8 true rfl
         |false=>
          rw[af,ld 5 (.int .i64 x.used) rfl];simp only[aX];rw[Za];cases hd:decide (x.used>0)with
          |false=>rw[af];simp only[au,aq];exact B8 _ (by rw[hd];rfl)
          |true=>
           rw[ae,ld 4 (.int .i64 x.bY) rfl];simp only[aX];rw[Zk (yw x.bY)];simp only[au,aq];exact B8 _ (by rw[hd];rfl)
        cases hu:(x.used==0)with
        |true=>rw[ae,ld 4 (.int .i64 x.bY) rfl];simp only[aX];exact B7 _ (by rw[hu];rfl)
        |false=>rw[af];exact B7 _ (by rw[hu];rfl)
      cases b5 with
      |true=>rw[ae];exact A6 true rfl
      |false=>rw[af,ld 6 (.int .i64 x.free) rfl];simp only[aX];rw[ld 5 (.int .i64 x.used) rfl];simp only[aX];exact A6 _ rfl
     cases b4 with
     |true=>rw[ae];exact A5 true rfl
     |false=>rw[af,ld 6 (.int .i64 x.free) rfl];simp only[aX];exact A5 _ rfl
    cases b3 with
    |true=>rw[ae];exact A4 true rfl
    |false=>rw[af,ld 5 (.int .i64 x.used) rfl];simp only[aX];rw[ld 2 (.int .i64 x.cJ) rfl];simp only[aX];exact A4 _ rfl
   cases b2 with
   |true=>rw[ae];exact A3 true rfl
   |false=>rw[af,ld 5 (.int .i64 x.used) rfl];simp only[aX];exact A3 _ rfl
  cases b1 with
  |true=>rw[ae];exact A2 true rfl
  |false=>
   rw[af,VK];simp only[av,aq];rw[Zk (ZkC (n+1) x.blocks x.cJ x.g s1)];simp only[au,aq];exact A2 _ rfl
 cases hc:decide (x.seq<1)with
 |true=>rw[ae];grind
 |false=>rw[af,ld 0 (.int .i64 x.seq) rfl];simp only[aX];grind
def mu (K:bR):Int->ak->List bc->bg->Option (List bc×bg)
 |_,[],acc,v=>some (acc,v)
 |k,y::r,acc,v=>bif !(y==0)then(match rW K y k v with
   |none=>none
   |some (out,v')=>mu K (k+1) r (acc++out) v')else mu K (k+1) r acc v
def BY (v:bg) (k:Nat) (nm:aj):Bool:=bif decide (k=0)then true else(match v.aS[k-1]? with
 |none=>false
 |some x=>decide (cmpL (dh x.name) (dh nm)<0))
def vd (K:bR):Nat->ak->bg->Option bg
 |_,[],v=>some v
 |k,y::r,v=>match dP K y v with
  |some (.queue q,v1)=>bif BY v1 k q.name then(match mu K 0 q.c9 [] v1 with
   |none=>none
   |some (es,v2)=>vd K (k+1) r { v2 with aS:=v2.aS++[⟨q.name,uA es⟩] })else none
  |_=>none
def sB (K:bR) (v:bg):Option bg:=bif K.sup.dir==0 then some v else(match dP K K.sup.dir v with
 |some (.dir x,v')=>vd K 0 x v'
 |_=>none)
def vZ (m:Nat):bg:=⟨kE m [0,1],[],[],[],[],0⟩
def uC (K:bR):Option bg:=match pO K (vZ K.m)with
 |none=>none
 |some v1=>match tY K v1 with
  |none=>none
  |some v2=>match sB K v2 with
   |none=>none
   |some v3=>bif decide ((CW v3:Int)=v3.nodes)then some (uu v3)else none
theorem J2 {K:bR} : ∀ {l:ak} {k:Int} {acc es:List bc} {v v':bg},v.W.length=(K.m+63)/64->mu K k l acc v=some (es,v')->(∀e∈acc,Dt v e)->Diff acc->(∀e∈es,Dt v' e)/\Diff es/\v'.W.length=(K.m+63)/64/\v'.aK=v.aK/\v'.aS=v.aS/\v'.aG=v.aG/\v'.free=v.free
 |[],_,_,_,_,_,hl,h,h1,h2=>by cases h;grind
 |y::r,k,acc,es,v,v',hl,h,h1,h2=>by
  unfold mu at h;cases hy:(!(y==0))with
  |false=>rw[hy,af]at h;exact J2 hl h h1 h2
  |true=>
   rw[hy,ae]at h;cases ht:rW K y k v with
   |none=>rw[ht]at h;cases h
   |some q=>
    obtain⟨out,v1⟩:=q;rw[ht]at h;obtain⟨a1,a2,a3,_,a5,a6,a7,a8⟩:=Rx (acc:=acc) hl ht (by simpa using h1) (by simpa using h2);obtain⟨b1,b2,b3,b4,b5,b6,b7⟩:=J2 a3 h a1 a2;grind
theorem aat {a:ai} (h:kL s a cs) {sz n:Nat} (ds:ah) (hz:0<sz) (hn:cs.length=n*sz) (hd:ds.length=m*sz) (hl:n+m<=lim):
  ∃a' s',kL s' a' (cs++ds)/\Fx (aM a) s s'/\Kp s s'/\(∀b∈aM a',b∈aM a\/s.length<=b)/\∀K:ai->M β,cj sz a n ds m lim K s=K a' s':=by
 by_cases hm:m=0
 .subst hm
  have:ds=[]:=by grind
  subst this;exact⟨a,s,by rwa [gA],.refl _ _,.refl _,λ_ h=> .inl h,λK=>rfl⟩
 .have hb:Nat.beq m 0=false:=by cases m with|zero=>exact absurd rfl hm|succ m=>rfl
  rcases h with⟨rfl,rfl⟩|⟨i,rest,rfl,hs⟩
  .have h0:n=0:=by
    rcases FR.1 (show n*sz=0 by simpa using hn.symm)with h|h
    .exact h
    .omega
   subst h0;refine⟨some (s.length,0),s++[some (⟨false,ds⟩:bT)],.inr (by simp),Fx.pre _ (aC.new _ _),(aC.new _ _).kp,λb hb=> .inr (by rw[cx.1 hb];exact aO _),λK=>?_⟩;unfold cj;simp only[hb,gr hl,ae,af];rfl
  .have eC:s.hY i=some (cs++rest):=by grind[St.hY]
   refine⟨some (s.length,0),s.set i none++[some (⟨false,cs++ds⟩:bT)],.inr (by simp),⟨by simp,λy x hy e=>?_⟩,(Kp.set hs none).trans (aC.new _ _).kp,λb hb=> .inr (by rw[cx.1 hb];exact aO _),λK=>?_⟩
   .have hyl:=(eK.1 e).1
    have dI:i≠y:=λe=>hy (by simp[aM,e])
    rw[oz (by simp;omega),kJ dI];exact e
   .unfold cj
    simp only[hb,gr hl,ae,af,eC];rw[eW,gr (by rw[bA];omega),ae,dA,<-hn,Dj]
theorem ZwL {Bd:Zh} (hT:HA Bd) (n:Nat) (hK:Bz K) (nm:aj) (x:ak) (hx:x.length=12) (s0:St) (L0:al) (hW:dV K s v L z1 p1 z2 p2 z3 p3 z4 p4 hd) (xb:Fx L0 s0 s) (Cy:Nw L0 s0 L) (h0:0<=K.sup.used) (h1:K.sup.used<=1792) (hs:(v.aK.length:Int)=K.sup.used) (jw:0<=v.nodes) (hnr:v.nodes+(room K.m v.W:Nat)<=5000) (hm:K.m<=3072) (hn:4020<=n)
  (R:Option bg) (Kn:ah->M ah)
  (cA:mu K 0 x [] v=none->R=none)
  (aN: ∀es w,mu K 0 x [] v=some (es,w)->∀t p z,(z=4\/p=none)->dV K t w L z1 p1 z2 p2 z3 p3 z4 p4 hd->Fx L s t->kL t p (bK es)->(∀b∈aM p,s.length<=b)->w.nodes+(room K.m w.W:Nat)<=v.nodes+(room K.m v.W:Nat)->v.nodes<=w.nodes->es.length<=50000->Ok (qO K s0 L0 R []) (Kn [.agg [.str nm,.slice 4 p es.length]] t)):
  Ok (qO K s0 L0 R []) (cW (λdt st=>
      bj st λjT st=>
      ep jT λh2 r=>
      bN 4 r λh3 yv r=>
      aJ r<|
      aF .i64 st λdq st=>
      aJ st<|
      bif decide (dq<12)then
       aB (aP dq 12)<|
      ej (ints x) (dq.toNat*1) λd6=>
      cP .i64 d6 λeS=>
      cI (λst=>
       bj st λpU st=>
      ep pU λh4 r=>
      bN 4 r λh5 TS r=>
      aJ r<|
      aJ st<|
      dt [.agg [.str h4,.slice 4 h5 TS],.int .i64 (ar (dq+1))]) λca=>
      bif !(eS==0)then
       cY (run Bd n 233 [.ptr (some (K.w,0)),.int .i64 eS,.int .i64 dq]) λds=>
      bN 4 ds λfJ mS ds=>
      aJ ds<|
      dw fJ (mS*4) λwP=>
      cj 4 h3 yv wP mS 2199023255552 λp1=>
      ca [.agg [.str h2,.slice 4 p1 (yv+mS)]]
      else
       ca [.agg [.str h2,.slice 4 h3 yv]]
      else
       Kn [.agg [.str h2,.slice 4 h3 yv]]) n [.agg [.str nm,.slice 0 none 0],.int .i64 0] s):=by
 have Cv:=hW.lt;have EH: ∀b o,K.a=some (b,o)->b<s.length:=λb o e=>Sl.lt (e▸hW.img)
 obtain⟨G,hG⟩: ∃G,mu K 0 x [] v=G:=⟨_,rfl⟩;rw[hG]at aN cA;refine Zj _ (λq y t=>∃(i:Nat) (acc:List bc) (u:bg) (z:Nat) (p:ai),y=[.agg [.str nm,.slice z p acc.length],.int .i64 i]/\(z=4\/p=none)/\i<=12/\12-i<=q/\dV K t u L z1 p1 z2 p2 z3 p3 z4 p4 hd/\u.aK=v.aK/\u.aS=v.aS/\Fx L s t/\kL t p (bK acc)/\(∀b∈aM p,s.length<=b)/\v.nodes<=u.nodes/\u.nodes+(room K.m u.W:Nat)<=v.nodes+(room K.m v.W:Nat)/\acc.length<=4000*i/\mu K i (x.drop i) acc u=G) ?_ 12 n _ _ ⟨0,[],v,0,none,rfl,.inr rfl,by omega,by omega,hW,rfl,rfl,.refl L s,.inl ⟨rfl,rfl⟩,λ_ h=>(by cases h),Int.le_refl _,Int.le_refl _,by simp,by simpa using hG⟩ (by omega);rintro q _ t ⟨i,acc,u,z,p,rfl,hz,hi,hq,dL,kY,sY,cF,eC,Av,H6,H7,yx,dM⟩ rec aQ;simp only[cG,bO,av,Zf 4 z p _ hz,aq,Za];by_cases ax:i<12
 .have fE:x.drop i=(x[i]'(by omega))::x.drop (i+1):=iC (by omega)
  rw[fE]at dM;rw[aw (show(i:Int)<12 by omega),ae,Zb (show aP (i:Int) 12=true from Zi ax),br,cT,gW (ZA)];simp only[aX];generalize x[i]'(by omega)=y at dM;have hw:ar ((i:Int)+1)=((i+1:Nat):Int):=Zc;have sR:((i+1:Nat):Int)=(i:Int)+1:=by omega
  rw[hw];unfold mu at dM;cases hy:(!(y==0))with
  |false=>
   rw[hy,af]at dM;rw[af];exact aQ (12-(i+1)) _ _ (by omega) ⟨i+1,acc,u,4,p,rfl,.inl rfl,by omega,aO _,dL,kY,sY,cF,eC,Av,H6,H7,by omega,by rw[sR];exact dM⟩
  |true=>
   rw[hy,ae]at dM;rw[ae];have oi:Fx L0 s0 t:=xb.step cF Cy;refine Ok.uZ (Zxd hT n hK y i dL h0 h1 (by rw[kY];exact hs) (by omega) (by omega) hm (by omega)) ?_ ?_
   .intro t' hp
    cases ht:rW K y i u with
    |some q=>rw[ht]at hp;obtain⟨_,_,_,e,_⟩:=hp;cases e
    |none=>
     rw[ht]at hp dM;obtain⟨t2,e,nn⟩:=hp;cases e;rw[cA dM.symm];exact⟨t',rfl,oi.step nn Cy⟩
   .intro ds t' hp
    cases ht:rW K y i u with
    |none=>rw[ht]at hp;obtain⟨_,e,_⟩:=hp;cases e
    |some q=>
     obtain⟨out,u1⟩:=q;rw[ht]at hp dM;obtain⟨po,zo,t2,e,VB,iw,lB,Mw,HG,agS,agR,iG⟩:=hp;cases e;simp only at dM;obtain⟨_,_,_,_,a5,a6,_,_⟩:=Rx (acc:=[]) dL.set.len ht (λ_ h=>by cases h) .nil;simp only[Zf 4 zo po _ VB,aq];have dN:Sl t' po (bK out):=by
      rcases Mw with⟨rfl,h2⟩|⟨b,rest,rfl,h2⟩
      .exact h2
      .exact⟨false,_,h2,by rw[bA];omega,by rw[dA,Dj]⟩
     have oY:=jf (β:=ah) dN;rw[Zq]at oY;rw[oY];have aeo:=eC.fx lB λb hb kB=>by have:=Cv b kB;have:=Av b hb;omega
     obtain⟨pa,t3,b1,b2,b3,b4,b5⟩:=aat (β:=ah) aeo (sz:=4) (n:=acc.length) (m:=out.length) (lim:=2199023255552) (bK out) (by omega) (Zq _) (Zq _) (by omega);rw[b5];have np:Fx L s t':=cF.trans lB;obtain⟨vm,fe⟩:=iw.MR (by rw[a6,sY];exact hW.aS) Cv EH np b2 Av;refine aQ (12-(i+1)) _ _ (by omega) ⟨i+1,acc++out,u1,4,pa,by rw[bA],.inl rfl,by omega,aO _,vm,a5.trans kY,a6.trans sY,fe,by rw[xT];exact b1,λb hb=>?_,by omega,by omega,by rw[bA];omega,by rw[sR];exact dM⟩;rcases b4 b hb with h5|h5
     .exact Av b h5
     .have:=np.1;omega
 .rw[aD (show ¬(i:Int)<12 by omega),af]
  rw[ke (by omega)]at dM;exact aN acc u dM.symm t p 4 (.inl rfl) dL cF eC Av H7 H6 (by omega)
theorem ZkM {x:ZC} (h:ZF l=some x):x.name.length<=24/\mo x=true:=by
 unfold ZF at h;split at h
 .cases h
 .rename_i k t b _
  cases e:(decide (k=5)&&(decide (t<=24)&&ZG (b.drop (28+t))))with
  |false=>rw[e]at h;cases h
  |true=>
   rw[e]at h;cases e2:mo (Z1 b t)with
   |false=>rw[e2]at h;cases h
   |true=>
    rw[e2]at h;cases h;rw[aW,aW,bC]at e;refine⟨?_,e2⟩;have:=qL e.2.1;show((b.drop 28).take t).length<=24;rw[cV];omega
theorem Zq1 {x:ZC} (h:ZX l= .queue x):ZF l=some x:=by
 grind[ZX]
theorem Zus {b:Bp} (h:dP K k v=some (b,v')):ZX (ZB K.img k.toNat)=b:=by
 grind[dP]
theorem ZwT (pn:M β) (p:ai) (m:Nat) (Kc:ai->Nat->M β):tQ pn (.iface 3 (.agg [.slice 1 p m])) 3 (λd=>sI d λcs=>bN 1 cs λx xn r=>aJ r<|Kc x xn)=Kc p m:=rfl
theorem Zvh (pn:M β) (q:ZC) (Kc:aj->Int->ah->M β):tQ pn (.iface 4 (.agg (ZU q))) 4 (λd=>sI d λcs=>ep cs λx7 r1=>aF .i64 r1 λx8 r2=>Kc x7 x8 r2)=Kc q.name q.mask (ints q.c9):=rfl
theorem Zrc {K:bR} : ∀ {l:ak} {k:Nat} {v v':bg},v.W.length=(K.m+63)/64->vd K k l v=some v'->v'.aK=v.aK/\v'.aG=v.aG/\v'.free=v.free/\v'.aS.length=v.aS.length+l.length
 |[],_,_,_,_,h=>by cases h;simp
 |y::r,k,v,v',hl,h=>by
  unfold vd at h;split at h
  .rename_i q v1 ht
   cases hn:BY v1 k q.name with
   |false=>rw[hn]at h;cases h
   |true=>
    rw[hn,ae]at h;obtain⟨g1,g2,g3,g4,g5,g6⟩:=sv ht;split at h
    .cases h
    .rename_i es v2 hh
     obtain⟨_,_,b3,b4,b5,b6,b7⟩:=J2 (by rw[(D4 ht).2,tJ];exact hl) hh (λ_ h=>by cases h) .nil;obtain⟨c1,c2,c3,c4⟩:=Zrc (by exact b3) h;grind
  .cases h
theorem bn.M1 {a:ai} (h:bn [] s a cs): ∀b∈aM a,∃c,s[b]? =some (some ⟨false,c⟩):=by
 rcases h.2 with⟨rfl,_⟩|⟨i,rfl,_,h3⟩
 .intro b hb;cases hb
 .intro b hb;rw[cx.1 hb];exact⟨_,h3⟩
theorem dV.kp (h:dV K s v L z1 p1 z2 p2 z3 p3 z4 p4 hd) (k:Fx L s s'):Kp s s':=by
 intro i all e;refine k.2 i _ (λhm=>?_) e;have ho: ∃c,s[i]? =some (some ⟨false,c⟩):=by
  rw[h.own]at hm;simp only[dW,gU]at hm;rcases hm with rfl|rfl|rfl|hm|hm|hm|hm
  .exact⟨_,h.cell⟩
  .exact⟨_,h.set.hd⟩
  .exact⟨_,h.set.wd⟩
  .exact h.o1.M1 i hm
  .exact h.o2.M1 i hm
  .exact h.o3.M1 i hm
  .exact h.o4.M1 i hm
 grind
theorem ZvF (n:Nat) (hK:Bz K) (hW:Wk K s v L) (h0:0<=K.sup.used) (h1:K.sup.used<=1792) (hs:(v.aK.length:Int)=K.sup.used) (jw:0<=v.nodes) (hnr:v.nodes+(room K.m v.W:Nat)<=5000) (hm:K.m<=3072) (hh:v.aS=[]) (hn:4030<=n):
  Ok (qO K s L (sB K v) []) (run Bd n 231 [.ptr (some (K.w,0))] s):=by
 obtain⟨n,rfl⟩: ∃k,n=k+2:=⟨n-2,by omega⟩;rw[Ze,h.abU];unfold N3 ji Zm tm cm Q_ cH Zn az C_ GQ cy cM mZ Li Lb;obtain⟨R,hR⟩: ∃R,sB K v=R:=⟨_,rfl⟩;rw[hR];unfold sB at hR;simp only[fV,aq,aZ];obtain⟨z1,p1,z2,p2,z3,p3,z4,p4,hd,hW⟩:=hW;rw[Zo hW.cell rfl];show Ok _ (cP .i64 (.int .i64 K.sup.dir) _ s);simp only[aX];cases Cn:(K.sup.dir==0)with
 |true=>
  rw[Cn,ae]at hR;rw[ae,<-hR,Zd];exact .mk ⟨s,L,rfl,hW.wk,.refl L s,.refl L s⟩
 |false=>
 rw[Cn,af]at hR;rw[af,Zo hW.cell rfl];show Ok _ (cP .i64 (.int .i64 K.sup.dir) _ s);simp only[aX];refine Ok.uZ (hW.take h (n+1) K.sup.dir hK.m hK.El hK.len (by omega)) ?_ ?_
 .intro s' hp
  cases ht:dP K K.sup.dir v with
  |none=>rw[ht]at hp hR;cases hp;rw[<-hR];exact⟨s,rfl,.refl L s⟩
  |some q=>rw[ht]at hp;grind
 intro ds s1 hp;cases ht:dP K K.sup.dir v with
 |none=>rw[ht]at hp;cases hp
 |some q=>
 obtain⟨b,v1⟩:=q;rw[ht]at hp hR;obtain⟨d,s2,e2,iw,lB,hb⟩:=hp;cases e2;obtain⟨g1,g2,g3,g4,g5,g6⟩:=sv ht;obtain⟨g7,g8⟩:=D4 ht;have ME:=RM hW.set.len g7;rw[<-g8]at ME;have np:Fx L s s1:=lB.mono λy hy=>by rw[cx.1 hy];exact hW.vK
 simp only[Bt,aq];cases b with
 |leaf x=>obtain⟨rfl,_⟩:=hb;rw[<-hR];exact .mk ⟨s1,rfl,np⟩
 |bY x=>obtain⟨rfl,_⟩:=hb;rw[<-hR];exact .mk ⟨s1,rfl,np⟩
 |queue x=>obtain⟨rfl,_⟩:=hb;rw[<-hR];exact .mk ⟨s1,rfl,np⟩
 |node x=>obtain⟨p,rfl,_⟩:=hb;rw[<-hR];exact .mk ⟨s1,rfl,np⟩
 |none=>cases hb;rw[<-hR];exact .mk ⟨s1,rfl,np⟩
 |dir x=>
 obtain⟨px,rfl,Iz,ag5⟩:=hb;simp only at hR;rw[ZwT];rw[Za];refine Zj _ (λq y t=>∃(i:Nat) (u:bg) (Lu:al),y=[.int .i64 i]/\i<=x.length/\x.length-i<=q/\Wk K t u Lu/\Fx L s t/\Nw L s Lu/\Fz t px (ints x)/\u.aK=v.aK/\u.aS.length=i/\(∀g∈u.aS,g.name.length<=24)/\v.nodes<=u.nodes/\u.nodes+(room K.m u.W:Nat)<=v.nodes+(room K.m v.W:Nat)/\vd K i (x.drop i) u=R) ?_ x.length (n+1) _ _ ⟨0,v1,L,rfl,cE _,by omega,iw.wk,np,.refl L s,Iz,g1,by rw[g2,hh];rfl,(by rw[g2,hh];intro _ h;cases h),by rw[g5];omega,by rw[g5];omega,by simpa using hR⟩ (by omega);rintro q _ t ⟨i,u,Lu,rfl,hi,hq,dL,fk,jx,CL,kY,sY,hun,H6,H7,aN⟩ rec aQ;obtain⟨y1,r1,y2,r2,y3,r3,y4,r4,ud,dL⟩:=dL;simp only[av,aq];by_cases ax:i<x.length
 .obtain⟨i1,o1,rfl⟩:=CL.1.cB (by simp[ints];omega)
  rw[aw (show(i:Int)<(x.length:Int) by omega),ae];refine Ok.join λaI jY=>?_
  rw[aZ,Zb (Zi ax),br,CL.1.dF (ZA ax)];simp only[aX];have fE:x.drop i=x[i]::x.drop (i+1):=iC ax;rw[fE]at aN;generalize x[i]=y at aN;unfold vd at aN;refine Ok.uZ (dL.take h (n+1) y hK.m hK.El hK.len (by omega)) ?_ ?_
  .intro s' hp
   cases j5:dP K y u with
   |none=>rw[j5]at hp aN;cases hp;rw[<-aN];exact⟨t,rfl,fk⟩
   |some q=>rw[j5]at hp;grind
  intro ds t1 hp;cases j5:dP K y u with
  |none=>rw[j5]at hp;cases hp
  |some q=>
  obtain⟨b,u1⟩:=q;rw[j5]at hp aN;obtain⟨d,s2,e2,mC,fF,hb⟩:=hp;cases e2;obtain⟨k1,k2,k3,k4,k5,k6⟩:=sv j5;obtain⟨k7,k8⟩:=D4 j5;have aeQ:=RM dL.set.len k7;rw[<-k8]at aeQ;have XC:Fx Lu t t1:=fF.mono λy hy=>by rw[cx.1 hy];exact dL.vK
  have ry:Fx L s t1:=fk.step XC jx;simp only[Bt,aq];cases b with
  |leaf x=>obtain⟨rfl,_⟩:=hb;rw[<-aN];exact .mk ⟨t1,rfl,ry⟩
  |bY x=>obtain⟨rfl,_⟩:=hb;rw[<-aN];exact .mk ⟨t1,rfl,ry⟩
  |dir x=>obtain⟨p,rfl,_⟩:=hb;rw[<-aN];exact .mk ⟨t1,rfl,ry⟩
  |node x=>obtain⟨p,rfl,_⟩:=hb;rw[<-aN];exact .mk ⟨t1,rfl,ry⟩
  |none=>cases hb;rw[<-aN];exact .mk ⟨t1,rfl,ry⟩
  |queue qv=>
  obtain⟨rfl,xj⟩:=hb;simp only at aN;rw[Zvh];obtain⟨hqn,_⟩:=ZkM (Zq1 (Zus j5));have yN:Fz t1 (some (i1,o1)) (ints x):=CL.kp (dL.kp XC);have Cu:(ints qv.c9).length=12:=by simp[ints,xj]
  rw[bD (cs:=ints qv.c9) (n:=12) Cu,bD (n:=14) (by simp[Cu])];refine Ok.join λaR lW=>?_
  have hA: ∀t2 bb,BY u1 i qv.name=bb->dV K t2 u1 Lu y1 r1 y2 r2 y3 r3 y4 r4 ud->Fx L s t2->Fz t2 (some (i1,o1)) (ints x)->Ok (qO K s L R []) (aR [.bool bb] t2):=by
   intro t2 bb yy vm fe Vu;rw[lW];simp only[au,aq];cases bb with
   |false=>
    rw[yy,af]at aN;rw[Z5 h n rfl,<-aN];exact .mk ⟨t2,rfl,fe⟩
   |true=>
    rw[yy,ae]at aN;rw[sr h n rfl];simp only[aq];refine Ok.join λbz AJ=>?_
    rw[dH (by omega)];refine ZwL h (n+1) hK qv.name qv.c9 xj s L vm fe jx h0 h1 (by rw[k1,kY];exact hs) (by rw[k5];omega) (by rw[k5];omega) hm (by omega) R bz ?_ ?_
    .grind
    intro es w he t3 p z hz nk rz eC Av ad9 ad7 HN;rw[he]at aN;simp only at aN;obtain⟨c1,c2,c3,c4,c5,c6,c7⟩:=J2 vm.set.len he (λ_ h=>by cases h) .nil;rw[AJ];simp only[cG,bO,bd,aq];obtain⟨t4,e4,rC,AD⟩:=Zw2 n es p t3 eC c2 (by omega);rw[Zk e4];simp only[aq];have EH: ∀b o,K.a=some (b,o)->b<t2.length:=λb o e=>Sl.lt (e▸vm.img)
    have qm:w.aS=u.aS:=c5.trans k2;have hh2:pJ t2 Lu ud w.aS:=by rw[c5];exact vm.aS
    obtain⟨EF,XF⟩:=nk.MR hh2 vm.lt EH rz AD Av;have Vv:Fz t4 (some (i1,o1)) (ints x):=Vu.kp (vm.kp XF);have XG:Fx L s t4:=fe.step XF jx;rw[Zo EF.cell rfl];show Ok _ (dB 2 (.slice y2 r2 w.aS.length) _ t4);rw[tF 2 y2 r2 _ EF.e2,<-ZpA es];have dN:Sl t4 p (bK (uA es)):=by
     rcases rC with⟨rfl,h2⟩|⟨b,rest,rfl,h2⟩
     .exact h2
     .exact⟨false,_,h2,by rw[bA];omega,by rw[dA,Dj]⟩
    have Mz:lr Lu p:=lr.aM λb hb hm=>by have:=Av b hb;have:=vm.lt b hm;omega
    obtain⟨b,t5,t6,L6,q1,q2,q3,q4,q5,q6⟩:=EF.afL (β:=ah) ⟨qv.name,uA es⟩ (by rw[qm,sY];omega) (z:=4) (.inl rfl) dN Mz;refine Eq.mpr (congrArg (Ok _) (q1 _)) ?_;refine Eq.mpr (congrArg (Ok _) (q2 _)) ?_;rw[jY];simp only[aq];have j6:ar ((i:Int)+1)=((i+1:Nat):Int):=Zc;rw[j6];refine aQ (x.length-(i+1)) _ _ (by omega) ⟨i+1,_,L6,rfl,by omega,aO _,q3.wk,XG.step q4 jx,jx.trans XG.1 q5,Vv.kp (EF.kp q4),(c4.trans k1).trans kY,?_,?_,?_,?_,aN⟩
    .show(w.aS++[_]).length=i+1
     rw[bA,qm,sY];rfl
    .intro g hg
     have AE:g∈w.aS++[⟨qv.name,uA es⟩]:=hg;rw[qm]at AE;rcases gU.1 AE with AE|AE
     .exact hun g AE
     .rw[cx.1 AE];exact hqn
    .show v.nodes<=w.nodes
     rw[k5]at ad7;omega
    .show w.nodes+(room K.m w.W:Nat)<=_
     rw[k5]at ad9;omega
  by_cases ug:i=0
  .subst ug
   rw[show(((0:Nat):Int)==0)=true from rfl,ae];exact hA t1 true rfl mC ry yN
  .have hib:(((i:Nat):Int)==0)=false:=by rw[dX];omega
   rw[hib,af,Zo mC.cell rfl];show Ok _ (dB 2 (.slice y2 r2 u1.aS.length) _ t1);rw[tF 2 y2 r2 _ mC.e2];have AF:u1.aS.length=i:=by rw[k2];exact sY
   have ag3:ud.length=u1.aS.length*2:=mC.aS.aS.len;obtain⟨b,rfl,w9⟩:=mC.o2.cB (by omega);have cD:ar ((i:Int)-1)=((i-1:Nat):Int):=by rw[Zc];omega
   have UE:u1.aS[i-1]? =some u1.aS[i-1]:=cg (by omega);rw[aZ,cD,Zb (Zi),br,BG mC.o2.sl mC.aS.aS UE];have hgm:u1.aS[i-1].name.length<=24:=hun _ (by rw[<-k2];exact jP _);obtain⟨gg,vu⟩: ∃gg,u1.aS[i-1]=gg:=⟨_,rfl⟩;rw[vu]at UE hgm⊢;simp only[wh];refine Ok.call (Znk (n+1) gg.name qv.name (by omega) (by omega) (by omega) (by omega) t1) ?_;rintro _ ⟨t2,rfl,aV⟩;refine⟨_,t2,rfl,?_⟩;simp only[av,aq];refine hA t2 _ ?_ (mC.pre aV) (ry.trans (Fx.pre _ aV)) (yN.kp aV.kp);unfold BY;rw[aD ug,af,UE]
 .rw[aD (show ¬(i:Int)<(x.length:Int) by omega),af]
  simp only[Zd];rw[ke (by omega)]at aN;rw[<-aN];exact .mk ⟨t,Lu,rfl,dL.wk,fk,jx⟩
theorem Fx.YU (h:Fx [] s s'):aC s s':=by
 refine⟨s'.drop s.length,?_⟩;have:s'.take s.length=s:=by
  apply qH;intro i;by_cases hi:i<s.length
  .rw[List.getElem?_take_of_lt hi]
   have e:s[i]? =some s[i]:=cg hi;rw[e];exact h.2 i _ (λh=>by cases h) e
  grind
 conv=>lhs;rw[<-oA s.length s',this]
theorem Ok.W6 {P:Out ah×St->Prop} {m:M ah} {H:Bool->M β} (h:Ok P (m s))
  (k1: ∀s',P (.eV,s')->Ok Q (H true s')) (k2: ∀ds s',P (.val ds,s')->Ok Q (H false s')):Ok Q (tR m H s):=by
 obtain⟨⟨o,s'⟩,e,hp⟩:=h;unfold tR;rw[e];cases o with
 |val ds=>exact k2 ds s' hp
 |eV=>exact k1 s' hp
theorem ZwF {all:ah} {k:IntKind} (h:s[i]? =some (some ⟨f,all⟩)) (hd:all[p]? =some (.int k n)) (K:IntKind->Int->M β):wO i p K s=K k n s:=by
 unfold wO;rw[Zo h hd]
theorem RZ {all:ah} (h:s[i]? =some (some ⟨f,all⟩)) (hd:all[p]? =some (.int .i64 n)) (K:M β):gT i p .i64 n K s=K s:=by
 unfold gT;rw[Zo h hd];simp
def Kept (v v':bg):Prop:=v'.aS=v.aS/\v'.aG=v.aG/\v'.free=v.free/\v'.nodes=v.nodes
theorem Kept.refl (v:bg):Kept v v:=⟨rfl,rfl,rfl,rfl⟩
theorem Kept.trans {a b c:bg} (h:Kept a b) (k:Kept b c):Kept a c:=⟨k.1.trans h.1,k.2.1.trans h.2.1,k.2.2.1.trans h.2.2.1,k.2.2.2.trans h.2.2.2⟩
theorem Q3 {b:Bp} (h:dP K k v=some (b,v')):Kept v v':=by
 obtain⟨_,h2,h3,h4,h5,_⟩:=sv h;exact⟨h2,h3,h4,h5⟩
theorem Zmx {K:bR} : ∀ {x:List bw} {k:Int} {v v':bg},nQ K k x v=some v'->Kept v v'
 |[],_,_,_,h=>by cases h;exact .refl _
 |x::r,k,v,v',h=>by
  unfold nQ at h;cases h1:qS K k x v with
  |none=>rw[h1]at h;cases h
  |some w=>
   rw[h1]at h;refine Kept.trans ?_ (Zmx h);unfold qS at h1;cases h2:decide (k>=K.sup.used)with
   |true=>
    rw[h2,ae]at h1;cases h3:nh x with
    |true=>rw[h3]at h1;cases h1;exact .refl _
    |false=>rw[h3]at h1;cases h1
   |false=>
    rw[h2,af]at h1;cases h3:tM K.sup x with
    |true=>rw[h3]at h1;cases h1;exact⟨rfl,rfl,rfl,rfl⟩
    |false=>rw[h3]at h1;cases h1
theorem Zt6 (h:nx K k slot v=some v'):Kept v v':=by
 unfold nx at h;split at h
 .rename_i x v1 ht
  exact(Q3 ht).trans (Zmx h)
 .cases h
theorem PY {K:bR} {cK x5:Int} : ∀ {x:ak} {k:Int} {v v':bg},kR K cK x5 k x v=some v'->Kept v v'
 |[],_,_,_,h=>by cases h;exact .refl _
 |y::r,k,v,v',h=>by
  unfold kR at h;cases h1:((!(y==0))==decide (x5*16+k<cK))with
  |false=>rw[h1]at h;cases h
  |true=>
   rw[h1,ae]at h;cases h2:(!(y==0))with
   |false=>rw[h2]at h;exact PY h
   |true=>
    rw[h2,ae]at h;split at h
    .cases h
    .rename_i w hw
     exact(Zt6 hw).trans (PY h)
theorem P4 {K:bR} {cK:Int} : ∀ {x:ak} {k:Int} {v v':bg},oM K cK k x v=some v'->Kept v v'
 |[],_,_,_,h=>by cases h;exact .refl _
 |y::r,k,v,v',h=>by
  unfold oM at h;cases h1:((!(y==0))==decide (k*16<cK))with
  |false=>rw[h1]at h;cases h
  |true=>
   rw[h1,ae]at h;cases h2:(y==0)with
   |true=>rw[h2]at h;exact P4 h
   |false=>
    rw[h2,af]at h;split at h
    .rename_i x v1 ht
     split at h
     .cases h
     .rename_i w hw
      exact((Q3 ht).trans (PY hw)).trans (P4 h)
    .cases h
theorem ZsO (h:pO K v=some v'):Kept v v':=by
 unfold pO at h;cases h1:(K.sup.used==0)with
 |true=>rw[h1]at h;cases h;exact .refl _
 |false=>
  rw[h1,af]at h;split at h
  .rename_i x v1 ht
   exact(Q3 ht).trans (P4 h)
  .cases h
theorem Zmk {K:bR} : ∀ {f:Nat} {fl Ce:List Bool} {k:Int} {v v':bg},qT K f fl k v=some (Ce,v')->v'.aK=v.aK/\v'.aS=v.aS/\v'.aG=v.aG/\v'.nodes=v.nodes
 |0,_,_,_,_,_,h=>by cases h
 |f+1,fl,Ce,k,v,v',h=>by
  unfold qT at h;cases h1:(k==0)with
  |true=>rw[h1]at h;grind
  |false=>
   rw[h1,af]at h;cases h2:decide (k<=K.sup.used)with
   |false=>rw[h2]at h;cases h
   |true=>
    rw[h2,ae]at h;split at h
    .cases h
    .rename_i x hx
     cases h3:(bif (bif !x.live then decide (x.gen<K.sup.g)else false)then !fl.getD (k-1).toNat false else false)with
     |false=>rw[h3]at h;cases h
     |true=>
      rw[h3,ae]at h;exact Zmk (v:= { v with free:=v.free++[k-1] }) h
theorem ZtU (h:tY K v=some v'):v'.aK=v.aK/\v'.aS=v.aS/\v'.aG=v.aG/\v'.nodes=v.nodes:=by
 unfold tY at h;cases h1:qT K (K.sup.used.toNat+1) (List.replicate K.sup.used.toNat false) K.sup.free v with
 |none=>rw[h1]at h;cases h
 |some q=>
  obtain⟨fl,w⟩:=q;rw[h1]at h;unfold BW at h;simp only at h;cases h2:uT K fl w.aK with
  |false=>rw[h2]at h;cases h
  |true=>rw[h2]at h;cases h;exact Zmk h1
theorem Zrp (hl:v.W.length=(K.m+63)/64) (h:sB K v=some v'):v'.aK=v.aK/\v'.aG=v.aG/\v'.free=v.free:=by
 unfold sB at h;cases h1:(K.sup.dir==0)with
 |true=>rw[h1]at h;grind
 |false=>
  rw[h1,af]at h;split at h
  .rename_i x v1 ht
   obtain⟨g1,g2,g3,g4,g5,g6⟩:=sv ht;obtain⟨c1,c2,c3,c4⟩:=Zrc (by rw[(D4 ht).2,tJ];exact hl) h;grind
  .cases h
def vV (x:dY) (v:bg):eL:=⟨x.blocks,x.cJ,x.g,v.aS,v.aG,v.free⟩
def pB:eL:=⟨0,0,0,[],[],[]⟩
def ox (K:bR):Option (Option bg):=bif iN K.sup then(bif decide (K.sup.blocks<=((K.img.length/64:Nat):Int))then some (uC K)else some none)else none
def WN (s:St) (m:Nat) (x:dY) (r:Option (Option bg)) (o:Out ah×St):Prop:=match r with
 |none=>∃s',o=(.val [.agg (dD pB 0 none 0 none 0 none),.ptr none,.int .i64 2],s')/\aC s s'
 |some none=>∃s',o=(.val [.agg (dD pB 0 none 0 none 0 none),.ptr none,.int .i64 31],s')/\aC s s'
 |some (some v)=>∃s' z2 p2 z3 p3 z4 p4 i j,o=(.val [.agg (dD (vV x v) z2 p2 z3 p3 z4 p4),.ptr (some (i,0)),.int .i64 0],s')/\aC s s'/\(z2=2\/p2=none)/\(z3=1\/p3=none)/\(z4=1\/p4=none)/\na s' (vV x v) p2 p3 p4/\fY s' false i j m v.W/\s.length<=j/\i≠j
structure oD (s:St) (b:Nat) (A:List DV) (r e:DV):Prop where
 st:s[b+1]? =some (some ⟨false,A⟩)
 re:s[b+2]? =some (some ⟨false,[r]⟩)
 er:s[b+3]? =some (some ⟨false,[e]⟩)
 len:A.length=6
theorem oD.fx {b:Nat} (h:oD s b A r e) (k:Fx T s s') (hT: ∀x∈T,x<b\/b+4<=x):oD s' b A r e:=
 ⟨k.2 _ _ (by grind) h.st,k.2 _ _ (by grind) h.re,k.2 _ _ (by grind) h.er,h.len⟩
theorem oD.Wq {b:Nat} (h:oD s b A r e) (A':ah) (r' e':DV) (hl:A'.length=6): ∃s',(∀K:M β,(eI (b+1) 0 A'<|eI (b+2) 0 [r']<|eI (b+3) 0 [e'] K) s=K s')/\oD s' b A' r' e'/\Fx [b+1,b+2,b+3] s s':=by
 have h1:=(eK.1 h.st).1;have h2:=(eK.1 h.re).1;have h3:=(eK.1 h.er).1;have kX:cq A 0 A'=A':=by
  have:=sy [] A [] A' (by rw[h.len,hl]);simpa using this
 refine⟨((s.set (b+1) (some ⟨false,A'⟩)).set (b+2) (some ⟨false,[r']⟩)).set (b+3) (some ⟨false,[e']⟩),λK=>?_,⟨?_,?_,?_,hl⟩,⟨by simp,λi x hi e=>?_⟩⟩
 .rw[KF h.st (by rw[h.len,hl];omega),kX,uR (by rw[kJ (by omega)];exact h.re) (by show 0<1;omega),uR (by rw[kJ (by omega),kJ (by omega)];exact h.er) (by show 0<1;omega)]
  rfl
 .rw[kJ (by omega),kJ (by omega),mc h1]
 .rw[kJ (by omega),mc (by simpa using h2)]
 .rw[mc (by simpa using h3)]
 grind
theorem oD.xz {b:Nat} (h:oD s b A r e):(bQ (b+1) 0 6 λo=>bF (b+2) 0 λo1=>bF (b+3) 0 λo2=>ay [.agg o,o1,o2]) s=some (.val [.agg A,r,e],s):=by
 rw[ko h.st (by rw[h.len];omega),Zo h.re rfl,Zo h.er rfl,dA,dH (by rw[h.len];omega),Zd]
theorem Zlr {x:dY} (h:iN x=true):oa x.blocks x.cJ x.g=true/\0<=x.used/\x.used<=x.cJ/\0<=x.free/\x.free<=x.used:=by
 grind[iN]
theorem Z2 {b s g:Int} (h:oa b s g=true):16<=b/\b<=3072/\1<=s/\s<=1792/\1<=g/\g<=4294967295:=by
 grind[oa]
theorem oD.bS {b:Nat} (h:oD s b (dD pB 0 none 0 none 0 none) r e) (h':oD s' b A' r' e') (k:Fx [b+1,b+2,b+3] s s') {p:ai} {es:List bc} (hs:Sl s p (bK es)):Sl s' p (bK es):=by
 cases p with
 |none=>exact hs
 |some q=>
  obtain⟨i,o⟩:=q;by_cases hi:i∈[b+1,b+2,b+3]
  .have XW:es=[]:=by
    cases es with
    |nil=>rfl
    |cons x es=>
     exfalso;obtain⟨f,all,e1,e2,e3⟩:=hs;have hlen:(bK (x::es)).length=4+(bK es).length:=by
      rw[Zq,Zq,cO];omega
     simp only[dW,th,oB]at hi;rcases hi with rfl|rfl|rfl
     .rw[h.st]at e1
      cases e1;have h6:(dD pB 0 none 0 none 0 none).length=6:=rfl;have ho:o=0\/o=1\/o=2:=by omega
      have e4:=congrArg (λl=>l[3-o]?) e3;rw[List.getElem?_take_of_lt (by omega),Bl]at e4;rcases ho with rfl|rfl|rfl<;>cases e4
     .rw[h.re]at e1
      grind
     .rw[h.er]at e1
      grind
   subst XW;obtain⟨f,all,e1,e2,_⟩:=hs;simp only[dW,th,oB]at hi;rcases hi with rfl|rfl|rfl
   .rw[h.st]at e1
    cases e1;refine⟨false,_,h'.st,?_,rfl⟩;have:=h'.len;have h6:(dD pB 0 none 0 none 0 none).length=6:=rfl;omega
   .rw[h.re]at e1
    cases e1;exact⟨false,_,h'.re,e2,rfl⟩
   .rw[h.er]at e1
    cases e1;exact⟨false,_,h'.er,e2,rfl⟩
  .exact Sl.fx hs k λb' o' e=>by cases e;exact hi
theorem iZ.bS {s s':St} (h: ∀(p:ai) (es:List bc),Sl s p (bK es)->Sl s' p (bK es)): ∀ {ds:ah} {xs:List di},iZ s ds xs->iZ s' ds xs
 |_,[],h1=>h1
 |_,_::_,⟨z,p,t,hz,h1,h2,h3⟩=>⟨z,p,t,hz,h1,h p _ h2,h3.bS h⟩
def aah (K:bR) (s:St) (b:Nat) (r:Option bg) (o:Out ah×St):Prop:=match r with
 |none=>∃s',o=(.eV,s')/\Fx [] s s'
 |some v=>∃s' ds z2 p2 z3 p3 z4 p4,o=(.val ds,s')/\Fx [b+1,b+2,b+3] s s'/\oD s' b (dD (vV K.sup v) z2 p2 z3 p3 z4 p4) (.ptr (some (K.i,0))) (.int .i64 0)/\(z2=2\/p2=none)/\(z3=1\/p3=none)/\(z4=1\/p4=none)/\na s' (vV K.sup v) p2 p3 p4/\fY s' false K.i K.j K.m v.W
theorem ZqT (n:Nat) (a:ai) (img:aj) (x:dY) (pc:ai) (s:St) (ha:dE s a img) (hc:Sl s pc (ints x.aL)) (hl:img.length<1000000) (cL:x.aL.length<1000) (hn:5000<=n):
  ∃K:bR,K.m=x.blocks.toNat/\K.img=img/\K.sup=x/\Ok (WN s x.blocks.toNat x (ox K)) (run Bd n 171 [.slice 1 a img.length,.agg (dO x pc)] s):=by
 obtain⟨n,rfl⟩: ∃k,n=k+3:=⟨n-3,by omega⟩;refine⟨⟨s.length+8,s.length+7,s.length+6,x.blocks.toNat,a,img,x,pc⟩,rfl,rfl,rfl,?_⟩;obtain⟨K,hK⟩: ∃K:bR,(⟨s.length+8,s.length+7,s.length+6,x.blocks.toNat,a,img,x,pc⟩:bR)=K:=⟨_,rfl⟩;rw[hK];have kw:s.length+8=K.w:=by rw[<-hK]
 have ki:s.length+7=K.i:=by rw[<-hK]
 have kj:s.length+6=K.j:=by rw[<-hK]
 have km:K.m=x.blocks.toNat:=by rw[<-hK]
 have ka:a=K.a:=by rw[<-hK]
 have kg:img=K.img:=by rw[<-hK]
 have ks:x=K.sup:=by rw[<-hK]
 have kp:pc=K.pc:=by rw[<-hK]
 clear hK;obtain⟨R,hR⟩: ∃R,ox K=R:=⟨_,rfl⟩;rw[hR];unfold ox at hR;rw[<-ks,<-kg]at hR;rw[Ze,h.aa4];unfold JR ZZ BA aY Zm C_ ji B0 cM ZH Lp Li wq Lb fW tr;simp only[bd];rw[cG];unfold dO;simp only[av,bd,aq];have AT:([.int .i64 x.seq,.int .i64 x.blocks,.int .i64 x.cJ,.int .i64 x.g,.int .i64 x.bY,.int .i64 x.used,.int .i64 x.free,.int .i64 x.dir,.slice 1 pc x.aL.length]:ah)=dO x pc:=rfl;rw[AT,Zz,Zz,Zz,Zz];have ae3:([.int .i64 0,.int .i64 0,.int .i64 0,.slice 0 none 0,.slice 0 none 0,.slice 0 none 0]:ah)=dD pB 0 none 0 none 0 none:=rfl;simp only[ae3];have l1: ∀c,(s++[some (c:bT)]).length=s.length+1:=λc=>by simp
 have l2: ∀c d,((s++[some (c:bT)])++[some (d:bT)]).length=s.length+2:=λc d=>by simp
 have l3: ∀c d e,(((s++[some (c:bT)])++[some (d:bT)])++[some (e:bT)]).length=s.length+3:=λc d e=>by simp
 simp only[l1,l2,l3];obtain⟨S1,ED⟩: ∃S1,(((s++[some (⟨false,dO x pc⟩:bT)])++[some (⟨false,dD pB 0 none 0 none 0 none⟩:bT)])++[some (⟨false,[.ptr none]⟩:bT)])++[some (⟨false,[.int .i64 0]⟩:bT)]=S1:=⟨_,rfl⟩;rw[ED];have aH:aC s S1:=by rw[<-ED];exact((((aC.new _ _).trans (aC.new _ _)).trans (aC.new _ _)).trans (aC.new _ _))
 have Ml:S1.length=s.length+4:=by rw[<-ED];simp
 have h9:S1[s.length]? =some (some ⟨false,dO x pc⟩):=by rw[<-ED];simp
 have LN:oD S1 s.length (dD pB 0 none 0 none 0 none) (.ptr none) (.int .i64 0):=by
  rw[<-ED];exact⟨by simp,by simp,by simp,rfl⟩
 clear ED;rw[ko h9 (by show 0+9<=9;omega)];show Ok _ (aF .i64 (dO x pc) _ S1);unfold dO;simp only[av,bd,aq];rw[AT];have hsR:=ZoD (n+2) x pc S1 (hc.mono aH) cL (by omega);rw[Zk hsR];simp only[au,aq];obtain⟨S2,LQ⟩: ∃S2,S1++[some (⟨false,dO x pc⟩:bT)]=S2:=⟨_,rfl⟩;rw[LQ];have aV:aC S1 S2:=by rw[<-LQ];exact aC.new _ _
 have EX:S2.length=s.length+5:=by rw[<-LQ];simp[Ml]
 have LM:=aV.get h9;have TV:oD S2 s.length (dD pB 0 none 0 none 0 none) (.ptr none) (.int .i64 0):=⟨aV.get LN.st,aV.get LN.re,aV.get LN.er,rfl⟩;have sX:=aH.trans aV;clear LQ aH aV LN h9 hsR;have Az: ∀S3,Fx [s.length+1,s.length+2,s.length+3] S2 S3->aC s S3:=λS3 k=>by
  refine Fx.YU ((Fx.pre [] sX).step k λy hy=> .inr ?_);grind
 cases qj:iN x with
 |false=>
  rw[qj,af]at hR;obtain⟨S3,e3,Hz,Ut⟩:=TV.Wq (β:=ah) (dD pB 0 none 0 none 0 none) (.ptr none) (.int .i64 2) rfl;rw[bm,ae,e3,Hz.xz,<-hR];exact .mk ⟨S3,rfl,Az S3 Ut⟩
 |true=>
 rw[qj,ae]at hR;rw[bp,af];obtain⟨ER,vF,yL,xb,Cp⟩:=Zlr qj;obtain⟨g1,g2,g3,g4,g5,g6⟩:=Z2 ER;refine Ok.W6 (P:=aah K S2 s.length (bif decide (x.blocks<=((img.length/64:Nat):Int))then uC K else none)) ?_ ?_ ?_
 .have MK: ∃m:Nat,x.blocks=(m:Int):=by grind
  rw[Zo LM (d:= .int .i64 x.blocks) rfl];simp only[aX];have hw:ar (((img.length:Nat):Int).tdiv 64)=((img.length/64:Nat):Int):=by
   rw[S7 (by omega),br];exact Zc
  rw[hw];cases ix:decide (x.blocks<=((img.length/64:Nat):Int))with
  |false=>
   rw[Z5 h (n+1) rfl,af];exact .mk ⟨S2,rfl,.refl _ _⟩
  |true=>
  have adt:=qL ix;rw[sr h (n+1) rfl,ae];simp only[aq];rw[ko LM (by show 0+9<=9;omega)];show Ok _ (aF .i64 (dO x pc) _ S2);unfold dO;simp only[av,bd,aq];rw[Zo LM (d:= .int .i64 x.blocks) rfl];simp only[aX];rw[Zz];obtain⟨S3,Ci⟩: ∃S3,S2++[some (⟨false,[.int .i64 0,.int .i64 1]⟩:bT)]=S3:=⟨_,rfl⟩;have ck:aC S2 S3:=by rw[<-Ci];exact aC.new _ _
  have Mm:S3.length=s.length+6:=by rw[<-Ci];simp[EX]
  have aeT:Sl S3 (some (S2.length,0)) (ints [0,1]):=⟨false,[.int .i64 0,.int .i64 1],by rw[<-Ci];simp,aO _,rfl⟩;rw[Ci];obtain⟨m,hm⟩:=MK;obtain⟨S4,e4,fG,XO,Yc⟩:=Qm (n+2) m [0,1] (some (S2.length,0)) S3 (by omega) aeT (by show 2<1000000;omega) (by grind);have TZ:m=K.m:=by rw[km,hm];rfl
  have e4':run Bd (n+2) 177 [.int .i64 x.blocks,.slice 1 (some (S2.length,0)) 2] S3=some (.val [.ptr (some (S3.length+1,0))],S4):=by rw[hm];exact e4
  rw[qR e4' fG];simp only[fV,aq];have h94:=fG.get (ck.get LM);rw[ko h94 (by show 1+3<=9;omega)];show Ok _ (aF .i64 (.int .i64 x.blocks::[.int .i64 x.cJ,.int .i64 x.g]) _ S4);simp only[av,aq];rw[Zz];have hw8:S4.length=K.w:=by rw[XO,Mm];omega
  have oT:S3.length+1=K.i:=by rw[Mm];omega
  rw[hw8,oT];have aeW:fY S4 false K.i K.j K.m (kE K.m [0,1]):=by
   rw[oT]at Yc;rw[<-kj,<-Mm,<-TZ];exact Yc
  obtain⟨S5,EE⟩: ∃S5,S4++[some (⟨false,qE K (vZ K.m) (dz 0 none 0) (dz 0 none 0) (dz 0 none 0) (dz 0 none 0)⟩:bT)]=S5:=⟨_,rfl⟩;have p9:([.slice 1 a img.length,.int .i64 x.seq,.int .i64 x.blocks,.int .i64 x.cJ,.int .i64 x.g,.int .i64 x.bY,.int .i64 x.used,.int .i64 x.free,.int .i64 x.dir,.slice 1 pc x.aL.length,.ptr (some (K.i,0)),.slice 0 none 0,.int .i64 x.blocks,.int .i64 x.cJ,.int .i64 x.g,.slice 0 none 0,.slice 0 none 0,.slice 0 none 0,.int .i64 0]:ah)=qE K (vZ K.m) (dz 0 none 0) (dz 0 none 0) (dz 0 none 0) (dz 0 none 0):=by
   unfold qE;rw[<-ka,<-kg,<-ks,<-kp];rfl
  rw[p9,EE];have jd:aC S4 S5:=by rw[<-EE];exact aC.new _ _
  have agN:S5.length=s.length+9:=by rw[<-EE];simp[XO,Mm]
  have adl:S5[K.w]? =some (some ⟨false,qE K (vZ K.m) (dz 0 none 0) (dz 0 none 0) (dz 0 none 0) (dz 0 none 0)⟩):=by rw[<-EE,<-hw8];simp
  have Mx:aC s S5:=((sX.trans ck).trans fG).trans jd;have hW:dV K S5 (vZ K.m) [K.w,K.i,K.j] 0 none 0 none 0 none 0 none []:=by
   refine⟨adl,.inr rfl,.inr rfl,.inr rfl,.inr rfl,bn.nil ⟨S5,rfl⟩,bn.nil ⟨S5,rfl⟩,bn.nil ⟨S5,rfl⟩,bn.nil ⟨S5,rfl⟩,rfl,aeW.pre jd,?_,?_,rfl,?_⟩
   .rw[<-ka,<-kg];exact ha.mono Mx
   .rw[<-ka]
    rintro b o rfl hm;have:=Sl.lt ha;simp only[dW,th,oB]at hm;omega
   .simp only[zg,dW,th,oB,not_or]
    refine⟨⟨by omega,by omega⟩,by omega,not_false,.nil⟩
  have hC5:oD S5 s.length (dD pB 0 none 0 none 0 none) (.ptr none) (.int .i64 0):=TV.fx (Fx.pre [] ((ck.trans fG).trans jd)) λy hy=>by cases hy
  have adE:Fx [] S2 S5:=Fx.pre [] ((ck.trans fG).trans jd);have Xf:Bz K:=⟨by rw[<-ks,hm,TZ],by rw[<-kg,<-TZ];omega,by rw[<-kg];exact hl⟩;have iS: ∀y∈[K.w,K.i,K.j],S2.length<=y:=λy hy=>by
   simp only[dW,th,oB]at hy;omega
  have um: ∀t,Fx [K.w,K.i,K.j] S5 t->Fx [] S2 t:=λt k=>adE.step k λy hy=> .inr (iS y hy)
  obtain⟨W1,iw⟩: ∃W1,uC K=W1:=⟨_,rfl⟩;rw[iw];unfold uC at iw;have T0:0<=K.sup.used:=by rw[<-ks];exact vF
  have T1:K.sup.used<=1792:=by rw[<-ks];omega
  have hKf:0<=K.sup.free:=by rw[<-ks];exact xb
  have adj:K.m<=3072:=by omega
  refine Ok.uZ (Zwn (n+2) Xf hW.wk (by show 0<1000;omega) (by omega)) ?_ ?_
  .intro t hp
   cases hr:pO K (vZ K.m)with
   |none=>rw[hr]at hp iw;obtain⟨_,e,hf⟩:=hp;cases e;rw[<-iw];exact⟨t,rfl,um t hf⟩
   |some v=>rw[hr]at hp;obtain⟨_,_,e,_⟩:=hp;cases e
  intro ds t1 hp;cases j3:pO K (vZ K.m)with
  |none=>rw[j3]at hp;obtain⟨_,e,_⟩:=hp;cases e
  |some v1=>
  rw[j3]at hp iw;obtain⟨_,L1,e,adm,lB,UT⟩:=hp;cases e;simp only at iw;simp only[aq];obtain⟨k1,k2,k3,k4⟩:=ZsO j3;obtain⟨fH,aeJ⟩:=Zup T0 T1 rfl j3;refine Ok.uZ (Zxn (n+2) adm T0 T1 hKf fH aeJ k1 k3 (by omega)) ?_ ?_
  .intro t hp
   cases hr:tY K v1 with
   |none=>rw[hr]at hp iw;obtain⟨_,e,hf⟩:=hp;cases e;rw[<-iw];exact⟨t,rfl,um t (lB.step hf UT)⟩
   |some v=>rw[hr]at hp;obtain⟨_,_,e,_⟩:=hp;cases e
  intro ds t2 hp;cases jH:tY K v1 with
  |none=>rw[jH]at hp;obtain⟨_,e,_⟩:=hp;cases e
  |some v2=>
  rw[jH]at hp iw;obtain⟨_,L2,e,Xg,fF,aea⟩:=hp;cases e;simp only at iw;simp only[aq];obtain⟨q1,q2,q3,q4⟩:=ZtU jH;have Uz:Fx [K.w,K.i,K.j] S5 t2:=lB.step fF UT;have UU:Nw [K.w,K.i,K.j] S5 L2:=UT.trans lB.1 aea;have Ua:v2.W.length=(K.m+63)/64:=by obtain⟨_,_,_,_,_,_,_,_,_,hw⟩:=Xg;exact hw.set.len
  have Cy:v2.nodes=0:=by rw[q4,k4];rfl
  have ME:=Zs7 K.m v2.W;refine Ok.uZ (ZvF (n+2) Xf Xg T0 T1 (by rw[q1];exact fH) (by rw[Cy];exact Int.le_refl _) (by rw[Cy];omega) adj (by rw[q2,k1];rfl) (by omega)) ?_ ?_
  .intro t hp
   cases hr:sB K v2 with
   |none=>rw[hr]at hp iw;obtain⟨_,e,hf⟩:=hp;cases e;rw[<-iw];exact⟨t,rfl,um t (Uz.step hf UU)⟩
   |some v=>rw[hr]at hp;obtain⟨_,_,e,_⟩:=hp;cases e
  intro ds t3 hp;cases Il:sB K v2 with
  |none=>rw[Il]at hp;obtain⟨_,e,_⟩:=hp;cases e
  |some v3=>
  rw[Il]at hp iw;obtain⟨_,L3,e,adn,fe,aeb⟩:=hp;cases e;simp only at iw;simp only[aq];obtain⟨w1,w2,w3⟩:=Zrp Ua Il;have XD:Fx [K.w,K.i,K.j] S5 t3:=Uz.step fe UU;have XX:Nw [K.w,K.i,K.j] S5 L3:=UU.trans Uz.1 aeb;have dN:(v3.aK.length:Int)=K.sup.used:=by rw[w1,q1];exact fH
  have lC:v3.aG=[]:=by rw[w2,q3,k2];rfl
  obtain⟨y1,r1,y2,r2,y3,r3,y4,r4,hd,Ub⟩:=adn;rw[ZwF Ub.cell (k:= .i64) (n:=v3.nodes) rfl,Zo Ub.cell (d:= .int .i64 v3.nodes) rfl];simp only[aX];refine Ok.call (ZxD (n+2) Ub.wk (by omega) (by rw[lC];show 0<100000;omega) (by omega)) ?_;rintro _ ⟨t4,L4,rfl,ado,rz,aec⟩;refine⟨_,t4,rfl,?_⟩;simp only[av,aq];have UA:Fx [K.w,K.i,K.j] S5 t4:=XD.step rz XX;have aed:Nw [K.w,K.i,K.j] S5 L4:=XX.trans XD.1 aec;obtain⟨y1,r1,y2,r2,y3,r3,y4,r4,hd,nk⟩:=ado;have EL:(qE K (uu v3) (dz y1 r1 (uu v3).aK.length) (dz y2 r2 (uu v3).aS.length) (dz y3 r3 (uu v3).aG.length) (dz y4 r4 (uu v3).free.length))[18]? =some (.int .i64 v3.nodes):=rfl;rw[RZ nk.cell EL,RZ nk.cell EL];have Ug:((((CW v3:Nat):Int))==v3.nodes)=decide (((CW v3:Nat):Int)=v3.nodes):=rfl;rw[Ug];cases fg:decide (((CW v3:Nat):Int)=v3.nodes)with
  |false=>
   rw[fg,af]at iw;rw[Z5 h (n+1) rfl,<-iw];exact .mk ⟨t4,rfl,um t4 UA⟩
  |true=>
  rw[fg,ae]at iw;rw[sr h (n+1) rfl];simp only[aq];rw[RZ nk.cell EL,ko nk.cell (by grind)];show Ok _ (aF .i64 (.int .i64 K.sup.blocks:: .int .i64 K.sup.cJ:: .int .i64 K.sup.g::dz y2 r2 (uu v3).aS.length::dz y3 r3 (uu v3).aG.length::dz y4 r4 (uu v3).free.length::[]) _ t4);unfold dz;simp only[av,Zf 2 y2 r2 _ nk.e2,Zf 1 y3 r3 _ nk.e3,Zf 1 y4 r4 _ nk.e4,aq];rw[Zo nk.cell (d:= .ptr (some (K.i,0))) rfl];simp only[NA];have w4:apart (some (s.length+1,0)) K.w=true:=by
   show(!Nat.beq K.w (s.length+1))=true;cases hbq:Nat.beq K.w (s.length+1)with
   |false=>rfl
   |true=>have:=dy hbq;omega
  rw[Zb w4];have LO:oD t4 s.length (dD pB 0 none 0 none 0 none) (.ptr none) (.int .i64 0):=hC5.fx UA λy hy=>by
   have:=iS y hy;omega
  obtain⟨t5,e5,hC6,lV⟩:=LO.Wq (β:=ah) (dD (vV K.sup (uu v3)) 2 r2 1 r3 1 r4) (.ptr (some (K.i,0))) (.int .i64 0) rfl;refine Eq.mpr (congrArg (Ok _) (e5 (ay []))) ?_;rw[Zd,<-iw];have cA: ∀y∈L4,y∉[s.length+1,s.length+2,s.length+3]:=λy hy hm=>by
   have h1:S2.length<=y:=by
    rcases aed y hy with h2|h2
    .exact iS y h2
    omega
   simp only[dW,th,oB]at hm;omega
  have Ib:=nk.own;refine .mk ⟨t5,[],2,r2,1,r3,1,r4,rfl,((um t4 UA).mono λy hy=>by cases hy).trans lV,hC6,.inl rfl,.inl rfl,.inl rfl,⟨⟨hd,(nk.o2.fx lV λy hy=>cA y (by rw[Ib];simp[hy])).sl,iZ.bS (λ_ _ k=>LO.bS hC6 lV k) nk.aS.aS⟩,(nk.o3.fx lV λy hy=>cA y (by rw[Ib];simp[hy])).sl,(nk.o4.fx lV λy hy=>cA y (by rw[Ib];simp[hy])).sl⟩,nk.set.fx lV (cA _ (by rw[Ib];simp)) (cA _ (by rw[Ib];simp))⟩
 .intro S3 hp
  cases hb:(bif decide (x.blocks<=((img.length/64:Nat):Int))then uC K else none)with
  |some v=>rw[hb]at hp;obtain⟨_,_,_,_,_,_,_,_,e,_⟩:=hp;cases e
  |none=>
   rw[hb]at hp;obtain⟨_,e,hf⟩:=hp;cases e;rw[ae];have Hz:=TV.fx hf λy hy=>by cases hy
   obtain⟨S4,e4,LO,HO⟩:=Hz.Wq (β:=ah) (dD pB 0 none 0 none 0 none) (.ptr none) (.int .i64 31) rfl;have T7:R=some none:=by
    rw[<-hR];grind
   rw[T7];refine Ok.W6 (P:=λo=>o=(.val [],S4)) (by rw[e4];exact .mk rfl) ?_ ?_
   .intro S5 e;cases e
   .intro ds S5 e
    cases e;rw[af,LO.xz];exact .mk ⟨S4,rfl,Az S4 ((hf.mono λy hy=>by cases hy).trans HO)⟩
 .intro ds S3 hp
  cases hb:(bif decide (x.blocks<=((img.length/64:Nat):Int))then uC K else none)with
  |none=>rw[hb]at hp;obtain⟨_,e,_⟩:=hp;cases e
  |some v=>
   rw[hb]at hp;obtain⟨_,_,z2,p2,z3,p3,z4,p4,e,hf,Hz,gy,kD,CN,cc,db⟩:=hp;cases e;rw[af,Hz.xz];have T7:R=some (some v):=by
    rw[<-hR];grind
   rw[T7,<-km,ks];exact .mk ⟨S3,z2,p2,z3,p3,z4,p4,K.i,K.j,rfl,Az S3 hf,gy,kD,CN,cc,db,by omega,by omega⟩
def nG (img:aj) (x:dY):bR:=⟨0,0,0,x.blocks.toNat,none,img,x,none⟩
section
variable (w i j m:Nat) (a:ai) (img:aj) (x:dY) (pc:ai)
theorem Zra: ∀(l:List bw) (k:Int) (v:bg),nQ ⟨w,i,j,m,a,img,x,pc⟩ k l v=nQ ⟨0,0,0,m,none,img,x,none⟩ k l v
 |[],_,_=>rfl
 |y::r,k,v=>by
  unfold nQ;rw[show qS ⟨w,i,j,m,a,img,x,pc⟩ k y v=qS ⟨0,0,0,m,none,img,x,none⟩ k y v from rfl];cases qS ⟨0,0,0,m,none,img,x,none⟩ k y v with
  |none=>rfl
  |some v'=>exact Zra r (k+1) v'
theorem Zw0 (k slot:Int) (v:bg):nx ⟨w,i,j,m,a,img,x,pc⟩ k slot v=nx ⟨0,0,0,m,none,img,x,none⟩ k slot v:=by
 unfold nx;rw[show dP ⟨w,i,j,m,a,img,x,pc⟩ k v=dP ⟨0,0,0,m,none,img,x,none⟩ k v from rfl];cases dP ⟨0,0,0,m,none,img,x,none⟩ k v with
 |none=>rfl
 |some q=>
  obtain⟨b,v1⟩:=q;cases b<;>first|rfl|exact Zra w i j m a img x pc _ _ _
theorem RO (cK x5:Int): ∀(l:ak) (k:Int) (v:bg),kR ⟨w,i,j,m,a,img,x,pc⟩ cK x5 k l v=kR ⟨0,0,0,m,none,img,x,none⟩ cK x5 k l v
 |[],_,_=>rfl
 |y::r,k,v=>by
  unfold kR;rw[Zw0,RO cK x5 r (k+1) v];cases nx ⟨0,0,0,m,none,img,x,none⟩ y ((x5*16+k)*7) v with
  |none=>rfl
  |some v'=>simp only[RO cK x5 r (k+1) v']
theorem RG (cK:Int): ∀(l:ak) (k:Int) (v:bg),oM ⟨w,i,j,m,a,img,x,pc⟩ cK k l v=oM ⟨0,0,0,m,none,img,x,none⟩ cK k l v
 |[],_,_=>rfl
 |y::r,k,v=>by
  unfold oM;rw[show dP ⟨w,i,j,m,a,img,x,pc⟩ y v=dP ⟨0,0,0,m,none,img,x,none⟩ y v from rfl,RG cK r (k+1) v];cases dP ⟨0,0,0,m,none,img,x,none⟩ y v with
  |none=>rfl
  |some q=>
   obtain⟨b,v1⟩:=q;cases b<;>try rfl
   rename_i z;simp only[RO];cases kR ⟨0,0,0,m,none,img,x,none⟩ cK k 0 z v1 with
   |none=>rfl
   |some v2=>simp only[RG cK r (k+1) v2]
theorem ZwM (v:bg):pO ⟨w,i,j,m,a,img,x,pc⟩ v=pO ⟨0,0,0,m,none,img,x,none⟩ v:=by
 unfold pO;rw[show dP ⟨w,i,j,m,a,img,x,pc⟩ x.bY v=dP ⟨0,0,0,m,none,img,x,none⟩ x.bY v from rfl];simp[RG]
theorem Zq0: ∀(f:Nat) (fl:List Bool) (k:Int) (v:bg),qT ⟨w,i,j,m,a,img,x,pc⟩ f fl k v=qT ⟨0,0,0,m,none,img,x,none⟩ f fl k v
 |0,_,_,_=>rfl
 |f+1,fl,k,v=>by
  unfold qT;cases v.aK[(k-1).toNat]? with
  |none=>rfl
  |some y=>simp only[Zq0 f]
theorem ZqG: ∀(l:List bw) (fl:List Bool),uT ⟨w,i,j,m,a,img,x,pc⟩ fl l=uT ⟨0,0,0,m,none,img,x,none⟩ fl l
 |[],_=>by unfold uT;rfl
 |y::r,fl=>by
  unfold uT;rw[ZqG r];rfl
theorem ZwQ (v:bg):tY ⟨w,i,j,m,a,img,x,pc⟩ v=tY ⟨0,0,0,m,none,img,x,none⟩ v:=by
 simp[tY,Zq0,BW,ZqG]
theorem ZqM: ∀(f:Nat) (out:List bc) (todo:List nb) (v:bg),jR ⟨w,i,j,m,a,img,x,pc⟩ f out todo v=jR ⟨0,0,0,m,none,img,x,none⟩ f out todo v
 |0,_,_,_=>rfl
 |f+1,out,[],v=>rfl
 |f+1,out,t::r,v=>by
  unfold jR;rw[show dP ⟨w,i,j,m,a,img,x,pc⟩ t.block v=dP ⟨0,0,0,m,none,img,x,none⟩ t.block v from rfl];cases dP ⟨0,0,0,m,none,img,x,none⟩ t.block v with
  |none=>rfl
  |some q=>
   obtain⟨b,v1⟩:=q;cases b<;>try rfl
   rename_i z;simp only[ZqM f];rfl
theorem QU: ∀(l:ak) (k:Int) (acc:List bc) (v:bg),mu ⟨w,i,j,m,a,img,x,pc⟩ k l acc v=mu ⟨0,0,0,m,none,img,x,none⟩ k l acc v
 |[],_,_,_=>rfl
 |y::r,k,acc,v=>by
  unfold mu;rw[show rW ⟨w,i,j,m,a,img,x,pc⟩ y k v=rW ⟨0,0,0,m,none,img,x,none⟩ y k v from ZqM w i j m a img x pc _ _ _ _,QU r (k+1) acc v];cases rW ⟨0,0,0,m,none,img,x,none⟩ y k v with
  |none=>rfl
  |some q=>
   obtain⟨es,v1⟩:=q;simp only[QU r (k+1)]
theorem Ztp: ∀(l:ak) (k:Nat) (v:bg),vd ⟨w,i,j,m,a,img,x,pc⟩ k l v=vd ⟨0,0,0,m,none,img,x,none⟩ k l v
 |[],_,_=>rfl
 |y::r,k,v=>by
  unfold vd;rw[show dP ⟨w,i,j,m,a,img,x,pc⟩ y v=dP ⟨0,0,0,m,none,img,x,none⟩ y v from rfl];cases dP ⟨0,0,0,m,none,img,x,none⟩ y v with
  |none=>rfl
  |some q=>
   obtain⟨b,v1⟩:=q;cases b<;>try rfl
   rename_i z;simp only[QU];cases mu ⟨0,0,0,m,none,img,x,none⟩ 0 z.c9 [] v1 with
   |none=>rfl
   |some q=>
    obtain⟨es,v2⟩:=q;simp only[Ztp r (k+1)]
theorem ZuB (v:bg):sB ⟨w,i,j,m,a,img,x,pc⟩ v=sB ⟨0,0,0,m,none,img,x,none⟩ v:=by
 unfold sB;rw[show dP ⟨w,i,j,m,a,img,x,pc⟩ x.dir v=dP ⟨0,0,0,m,none,img,x,none⟩ x.dir v from rfl];simp[Ztp]
theorem ZxG:uC ⟨w,i,j,m,a,img,x,pc⟩=uC ⟨0,0,0,m,none,img,x,none⟩:=by
 unfold uC;simp only[ZwM w i j m a img x pc,ZwQ w i j m a img x pc,ZuB w i j m a img x pc]
end
theorem ZtM (K:bR) (h:K.m=K.sup.blocks.toNat):ox K=ox (nG K.img K.sup):=by
 obtain⟨w,i,j,m,a,img,sup,pc⟩:=K;simp only at h;subst h;unfold ox;rw[ZxG];rfl
theorem OY (n:Nat) (a:ai) (img:aj) (x:dY) (pc:ai) (s:St) (ha:dE s a img) (hc:Sl s pc (ints x.aL)) (hl:img.length<1000000) (cL:x.aL.length<1000) (hn:5000<=n:=by omega):
  Ok (WN s x.blocks.toNat x (ox (nG img x))) (run Bd n 171 [.slice 1 a img.length,.agg (dO x pc)] s):=by
 obtain⟨K,h1,h2,h3,h4⟩:=ZqT n a img x pc s ha hc hl cL hn;rw[ZtM K (by rw[h1,h3]),h2,h3]at h4;exact h4
end Go.Gv.F
