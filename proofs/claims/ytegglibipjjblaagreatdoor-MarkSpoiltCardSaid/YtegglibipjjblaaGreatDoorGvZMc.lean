/- The walker's trees: what they are, no program in sight. -/
import Derived.Test.YtegglibipjjblaaGreatDoorGvBMk
import Derived.Test.YtegglibipjjblaaGreatDoorGvZMb
namespace Go.Gv.F
open Go.Gv
structure nz where
 block:Int
 qB:Int
 par:bh
 top:Bool
def sq (x:jo) (n:Nat):List nz:=((List.range n).map λi=>(⟨x.kids.getD i 0,i,x.bH,false⟩:nz)).reverse
theorem Zn8 (x:jo) (n:Nat):sq x (n+1)=⟨x.kids.getD n 0,n,x.bH,false⟩::sq x n:=by
 unfold sq;rw[vj,fg,List.reverse_append];rfl
def EH (v:bj) (e:bh) (k:Int):Bool:=match v.aK[e.slot.toNat]? with
 |none=>false
 |some x=>(x.live==true)&&((x.gen==e.gen)&&((x.block==k)&&true))
def wZ (K:bV) (v:bj) (t:nz) (x:jo):Bool:=
 (bif ((x.kids.length:Nat):Int)==t.qB then(bif t.top then true else fb t.par x.bH)else false)&&
 (bif decide (x.bH.slot<K.sup.used)then EH v x.bH t.block else false)
def j3 (K:bV):Nat->List bh->List nz->bj->Option (List bh×bj)
 |0,_,_,_=>none
 |_+1,out,[],v=>some (out,v)
 |f+1,out,t::r,v=>match dN K t.block v with
  |some (.node x,v')=>bif wZ K v' t x then j3 K f (out++[x.bH]) (sq x x.kids.length++r) { v' with nodes:=v'.nodes+1 } else none
  |_=>none
def xq:bh:=⟨0,0,0,0⟩
def sH (K:bV) (k qB:Int) (v:bj):Option (List bh×bj):=j3 K (K.m+1) [] [⟨k,qB,xq,true⟩] v
def room (m:Nat) (W:al):Nat:=(List.range m).countP λb=> !dM W b
theorem ZpT {P Q:Nat->Bool} : ∀ {l:al} {k:Nat},(∀b,Q b=true->P b=true)->k∈l->P k=true->Q k=false->l.countP Q+1<=l.countP P
 |[],_,_,h,_,_=>by cases h
 |a::l,k,hm,h,hp,hq=>by
  rw[List.countP_cons,List.countP_cons];rcases dC.1 h with rfl|h
  .rw[hp,hq]
   have:=List.countP_mono_left (l:=l) (p:=Q) (q:=P) λb _ hb=>hm b hb
   simp;omega
  .have:=ZpT hm h hp hq
   cases hQ:Q a with
   |true=>rw[hm a hQ];omega
   |false=>cases P a<;>simp<;>omega
theorem ZtF (m:Nat) (W:al):room m W<=m:=by
 unfold room;exact gH (List.countP_le_length) (by simp)
variable {f:Bool} {e e' r r':DV} {k n slot:Int} {i lim m p:Nat} {s s' s0:St} {A A' cs:ah} {l:aj} {T W:al} {K:bV} {v v':bj}
theorem SJ (hl:W.length=(m+63)/64) (h:fu m W k=true):room m (bX m W k)+1<=room m W:=by
 unfold fu at h;rw[aR,aR]at h;obtain⟨_,hm,hi⟩:=h;have pR:=hm;unfold fR at pR;rw[aR,bq,bq]at pR;refine ZpT (k:=k.toNat) (λb hb=>?_) (yj.2 (by omega)) hi ?_
 .rw[yB hl]at hb
  rw[kR]at hb⊢;rw[wF]at hb;exact hb.1
 .rw[yB hl,hm]
  simp
theorem Ez {b:BQ} (h:dN K k v=some (b,v')):fu K.m v.W k=true/\v'.W=bX K.m v.W k:=by
 unfold dN at h;cases hf:fu K.m v.W k with
 |false=>rw[hf]at h;cases h
 |true=>rw[hf]at h;cases h;exact⟨rfl,rfl⟩
def DT (v:bj) (e:bh):Prop:=0<=e.slot/\∃(x:bA) (k:Nat),v.aK[e.slot.toNat]? =some x/\x.block=(k:Int)/\dM v.W k=true
def Diff (l:List bh):Prop:=l.Pairwise λa b=>a.slot≠b.slot
theorem Zs7 {x:jo} (h:ZX l= .node x):ot x=true/\x.kids.length<=12:=by
 unfold ZX at h;split at h
 .rename_i e;cases h;exact KQ e
 .split at h
  .cases h
  .split at h
   .cases h
   .split at h
    .cases h
    .split at h<;>cases h
theorem Kr {x:jo} (h:ot x=true):0<=x.bH.slot/\x.bH.slot<1792:=by
 unfold ot at h;rw[aR,kR,wF,wF,ry,ry]at h;omega
theorem RP {K:bV} : ∀ {f:Nat} {acc out Ji:List bh} {todo:List nz} {v v':bj},v.W.length=(K.m+63)/64->j3 K f out todo v=some (Ji,v')->(∀e∈acc++out,DT v e)->Diff (acc++out)->(∀e∈acc++Ji,DT v' e)/\Diff (acc++Ji)/\v'.W.length=(K.m+63)/64/\(∀k,dM v.W k=true->dM v'.W k=true)/\v'.aK=v.aK/\v'.aU=v.aU/\v'.aH=v.aH/\v'.free=v.free
 |0,_,_,_,_,_,_,_,h,_,_=>by cases h
 |f+1,acc,out,Ji,[],v,v',hl,h,h1,h2=>by cases h;exact⟨h1,h2,hl,λ_ h=>h,rfl,rfl,rfl,rfl⟩
 |f+1,acc,out,Ji,t::r,v,v',hl,h,h1,h2=>by
  unfold j3 at h;cases ht:dN K t.block v with
  |none=>rw[ht]at h;cases h
  |some q=>
   obtain⟨b,v1⟩:=q;rw[ht]at h;obtain⟨g1,g2,g3,g4,g5,g6⟩:=sV ht;obtain⟨g7,g8⟩:=Ez ht;cases b with
   |leaf x=>cases h
   |cc x=>cases h
   |queue x=>cases h
   |dir x=>cases h
   |none=>cases h
   |node x=>
    simp only at h;cases hf:wZ K v1 t x with
    |false=>rw[hf]at h;cases h
    |true=>
     rw[hf,ae]at h;have fO: ∀k,dM v.W k=true->dM v1.W k=true:=λk hk=>by rw[g8,yB hl,hk];rfl
     have oP:v1.W.length=(K.m+63)/64:=by rw[g8,uj];exact hl
     have ew:=g7;unfold fu at ew;rw[aR,aR,bq]at ew;obtain⟨iL,qL,hki⟩:=ew;have YL:=(Kr (Zs7 g6.symm).1).1;unfold wZ at hf;rw[aR]at hf;have FO:EH v1 x.bH t.block=true:=by
      have h3:=hf.2;cases hd:decide (x.bH.slot<K.sup.used)with
      |false=>rw[hd]at h3;cases h3
      |true=>rw[hd]at h3;exact h3
     unfold EH at FO;cases y9:v1.aK[x.bH.slot.toNat]? with
     |none=>rw[y9]at FO;cases FO
     |some y=>
      rw[y9]at FO;simp only[aR,and_true]at FO;obtain⟨hy1,hy2,hy3⟩:=FO;have hyb:y.block=(t.block.toNat:Int):=by rw[eq_of_beq hy3];omega
      have hold: ∀e∈acc++out,DT v1 e:=λe he=>by
       obtain⟨a1,z,k,a2,a3,a4⟩:=h1 e he;exact⟨a1,z,k,by rw[g1];exact a2,a3,fO k a4⟩
      have iY:DT v1 x.bH:=⟨YL,y,t.block.toNat,y9,hyb,by
       rw[g8,yB hl,qL];simp⟩
      have aed: ∀e∈acc++out,e.slot≠x.bH.slot:=λe he heq=>by
       obtain⟨a1,z,k,a2,a3,a4⟩:=h1 e he;rw[heq,<-g1,y9]at a2;cases a2;rw[a3]at hyb;have:k=t.block.toNat:=by omega
       rw[this]at a4;rw[a4]at hki;cases hki
      have key:=RP (acc:=acc) (v:= { v1 with nodes:=v1.nodes+1 }) oP h (λe he=>by
       rw[<-fD]at he;rcases fE.1 he with he|he
       .exact hold e he
       .rw[cj.1 he];exact iY) (by
       unfold Diff;rw[<-fD,JM];refine⟨h2,List.pairwise_singleton _ _,λa ha b hb=>?_⟩;rw[cj.1 hb];exact aed a ha)
      obtain⟨k1,k2,k3,k4,k5,k6,k7,k8⟩:=key;exact⟨k1,k2,k3,λk hk=>k4 k (fO k hk),k5.trans g1,k6.trans g2,k7.trans g3,k8.trans g4⟩
variable {β:Type}
variable {K:bV} {s:St} {v:bj} {L:al} {z1 z2 z3 z4:Nat} {p1 p2 p3 p4:ai} {hd:ah}
def kX (s:St) (a:ai) (cs:ah):Prop:=(a=none/\cs=[])\/∃b rest,a=some (b,0)/\s[b]? =some (some ⟨false,cs++rest⟩)
theorem kX.fx {a:ai} (h:kX s a cs) (k:Fx T s s') (n: ∀b∈aM a,b∉T):kX s' a cs:=by
 rcases h with h1|⟨i,r,rfl,h3⟩
 .exact .inl h1
 .exact .inr ⟨i,r,rfl,k.2 i _ (n i (by simp[aM])) h3⟩
theorem kX.lt {a:ai} (h:kX s a cs): ∀b∈aM a,b<s.length:=by
 rcases h with⟨rfl,_⟩|⟨i,r,rfl,h3⟩
 .intro b hb;cases hb
 .intro b hb;rw[cj.1 hb];exact(dB.1 h3).1
theorem Zvq {a:ai} (h:kX s a cs) {sz n:Nat} (ds:ah) (hz:0<sz) (hn:cs.length=n*sz) (hd:ds.length=sz) (hl:n+1<=lim:=by omega):
  ∃b s',s.length<=b/\s'[b]? =some (some ⟨false,cs++ds⟩)/\Fx (aM a) s s'/\Kp s s'/\∀K:ai->M β,(cg ds λi=>bS i 0 sz λcs'=>cm sz a n cs' 1 lim K) s=K (some (b,0)) s':=by
 rcases h with⟨rfl,rfl⟩|⟨i,rest,rfl,hs⟩
 .obtain⟨b,s',h1,h2,h3,h4,h5⟩:=ba.aak (β:=β) (s0:=[]) (s:=s) (a:=none) (cs:=[]) (ba.nil ⟨s,rfl⟩) ds hz hn hd hl
  rcases h2.2 with⟨e,_⟩|⟨i,e,_,h6⟩
  .cases e
  .cases e
   exact⟨b,s',h1,h6,⟨by have:=(dB.1 h6).1;omega,λi x _ e=>h4 i x e (λo e=>by cases e)⟩,h3,h5⟩
 .have jL:i<s.length:=(dB.1 hs).1
  have jN:(s++[some (⟨false,ds⟩:bT)])[i]? =some (some (⟨false,cs++rest⟩:bT)):=by rw[l8 jL];exact hs
  have ef:(s++[some (⟨false,ds⟩:bT)]).gE i=some (cs++rest):=by unfold St.gE;rw[jN]
  have hb:Nat.beq 1 0=false:=rfl;refine⟨s.length+1,(s++[some (⟨false,ds⟩:bT)]).set i none++[some (⟨false,cs++ds⟩:bT)],by omega,?_,⟨by simp;omega,λy x hy e=>?_⟩,(aD.new _ _).kp.trans ((Kp.set jN none).trans (aD.new _ _).kp),λK=>?_⟩
  .rw[jY (by simp)];simp
  .have hyl:=(dB.1 e).1
   have du:i≠y:=λe=>hy (by simp[aM,e])
   rw[l8 (by simp;omega),jZ du,l8 hyl];exact e
  .rw[Zy,kC (f:=false) (all:=ds) (by simp) (by omega),dj,dq (by omega)]
   unfold cm;simp only[hb,gf hl,ae,af,ef];rw[ej,gf (by rw[bz];omega),ae,dj,<-hn,BK];simp
theorem ec.agu (h:ec K s v L z1 p1 z2 p2 z3 p3 z4 p4 hd) (x:Int):
  ∃s',(∀Kc:M β,ee K.w 18 [.int .i64 x] Kc s=Kc s')/\ec K s' { v with nodes:=x } L z1 p1 z2 p2 z3 p3 z4 p4 hd/\Fx [K.w] s s'/\Kp s s':=by
 have du:=h.ne;have cF:=Fx.set s K.w (some (⟨false,rf K { v with nodes:=x } (dI z1 p1 v.aK.length) (dI z2 p2 v.aU.length) (dI z3 p3 v.aH.length) (dI z4 p4 v.free.length)⟩:bT));have pN:=cF.mono (T':=L) λy hy=>by rw[cj.1 hy];exact h.Ds
 refine⟨_,λKc=>?_,⟨?_,h.e1,h.e2,h.e3,h.e4,h.o1.fx cF λb hb=>?_,h.o2.fx cF λb hb=>?_,h.o3.fx cF λb hb=>?_,h.o4.fx cF λb hb=>?_,h.aU.fx pN (Nw.refl L s),h.set.fx cF (by simpa using du.1.symm) (by simpa using du.2.1.symm),Sl.fx h.img pN h.off,h.off,h.own,h.nodup⟩,cF,Kp.set h.cell _⟩
 .rw[vu h.cell (by show 18<19;omega)]
  rfl
 .exact lC (dB.1 h.cell).1
 all_goals simpa using (du.2.2.2 b (by simp[hb])).1
def EG (t:nz):ah:=[.int .i64 t.block,.int .i64 t.qB,.int .i64 t.par.slot,.int .i64 t.par.gen,.int .i64 t.par.key,.int .i64 t.par.value,.bool t.top]
def nj (l:List nz):ah:=(l.map EG).flatten
theorem K0 (l:List nz):(nj l).length=l.length*7:=by
 unfold nj;induction l with
 |nil=>rfl
 |cons e l ih=>rw[nZ,yh,bz,ih,cH];show 7+_=_;omega
theorem ZpQ (l m:List nz):nj (l++m)=nj l++nj m:=by unfold nj;rw[fg,Gb]
theorem Sd (x:jo) (n:Nat):(sq x n).length=n:=by unfold sq;simp
theorem ZxR {Kn:ah->M ah} {Q:Out ah×St->Prop} (n:Nat) (ag7:s.length=s.length) (x:jo) (px:ai) (r:List nz) (t0:St) (zA:ai) (hx:Fz t0 px (ints x.kids)) (YT:x.kids.length<=12) (ho:kX t0 zA (nj r.reverse)) (hr:r.length<100000) (gL: ∀b∈aM zA,s.length<=b) (dG:s.length<=t0.length) (hn:20<=n)
  (hK: ∀t pT z,(z=7\/pT=none)->kX t pT (nj (sq x x.kids.length++r).reverse)->(∀b∈aM pT,s.length<=b/\(b∈aM zA\/t0.length<=b))->Fx (aM zA) t0 t->Ok Q (Kn [.slice z pT (r.length+x.kids.length)] t)) (z0:Nat) (v8:z0=7\/zA=none):
  Ok Q (cY (λdA st=>
      bL 7 st λJz Dy st=>
      aF .i64 st λgx st=>
      aJ st<|
      bif decide (gx<(x.kids.length:Int))then
       bJ px λi6 o4=>
      aC (aQ gx x.kids.length)<|
      bG i6 (gx.toNat*1+o4) λd3=>
      cT .i64 d3 λgT=>
      cg [.int .i64 gT,.int .i64 gx,.int .i64 x.bH.slot,.int .i64 x.bH.gen,.int .i64 x.bH.key,.int .i64 x.bH.value,.bool false] λi7=>
      bS i7 0 7 λfA=>
      cm 7 Jz Dy fA 1 1256584717458 λp1=>
      dA [.slice 7 p1 (Dy+1),.int .i64 (ar (gx+1))]
      else
       Kn [.slice 7 Jz Dy]) n [.slice z0 zA r.length,.int .i64 0] t0):=by
 refine Zj _ (λq y t=>∃(i z:Nat) (pT:ai),y=[.slice z pT (r.length+i),.int .i64 i]/\(z=7\/pT=none)/\i<=x.kids.length/\x.kids.length-i<=q/\kX t pT (nj (sq x i++r).reverse)/\(∀b∈aM pT,s.length<=b/\(b∈aM zA\/t0.length<=b))/\Fx (aM zA) t0 t/\Fz t px (ints x.kids)) ?_ x.kids.length n _ _ ⟨0,z0,zA,rfl,v8,cn _,by omega,ho,λb hb=>⟨gL b hb,.inl hb⟩,.refl _ _,hx⟩ (by omega);rintro q _ t ⟨i,z,pT,rfl,hz,hi,hq,hoT,HZ,cF,Di⟩ rec aP;simp only[av,Zg 7 z pT _ hz,aq];by_cases ax:i<x.kids.length
 .obtain⟨i1,o1,rfl⟩:=Di.1.cD (by simp[ints];omega)
  rw[aw (show(i:Int)<(x.kids.length:Int) by omega),ae,aX,Zb (Zi ax),bu,Di.1.dL (ZA ax)];simp only[aY];have Vm:(nj (sq x i++r).reverse).length=(r.length+i)*7:=by rw[K0,List.length_reverse,bz,Sd];omega
  obtain⟨b,t1,g1,g2,g3,g4,g5⟩:=Zvq (β:=ah) hoT (sz:=7) (n:=r.length+i) (lim:=1256584717458) (EG ⟨x.kids[i],i,x.bH,false⟩) (by omega) Vm rfl;refine Eq.mpr (congrArg (Ok _) (g5 _)) ?_;have ko:ar ((i:Int)+1)=((i+1:Nat):Int):=Zc;rw[ko];refine aP (x.kids.length-(i+1)) _ _ (by omega) ⟨i+1,7,some (b,0),rfl,.inl rfl,by omega,aL _,.inr ⟨b,[],rfl,?_⟩,?_,?_,Di.kp g4⟩
  .rw[g2,gG,Zn8,nr,List.reverse_cons,ZpQ]
   have:x.kids.getD i 0=x.kids[i]:=by rw[dX,bU ax];rfl
   rw[this];simp[nj]
  .intro y hy
   rw[cj.1 hy];have:=cF.1;exact⟨by omega,.inr (by omega)⟩
  .exact cF.step g3 λy hy=>(HZ y hy).2
 .rw[aB (show ¬(i:Int)<(x.kids.length:Int) by omega),af]
  have:i=x.kids.length:=by omega
  subst this;exact hK t pT 7 (.inl rfl) hoT HZ cF
theorem Zvd {Bd:Zh} (h:D0 Bd) (n:Nat) (hn:8<=n) (a b:bh) (st:St):
  Ok (λo=>∃z s',o=(.val [.int .i64 z],s')/\aD st s'/\decide (z<0)=fb a b) (run Bd n 159 [.agg (eR a),.agg (eR b)] st):=by
 refine(XI h n hn a b st).mono ?_;rintro _ ⟨z,s',rfl,hp,e⟩;grind
variable {Q:Out β×St->Prop}
theorem Ok.join {f:ah->M β} {g:(ah->M β)->M β} (h: ∀jk,jk=f->Ok Q (g jk s)):Ok Q (cK f g s):=by rw[Za];exact h f rfl
theorem Zv8 (pn:M β) (x:jo) (px:ai) (Kc:Int->Int->Int->Int->ai->Nat->M β):uu pn (.iface 6 (.agg (nR x 1 px))) 6 (λd=>th d λbN=>aF .i64 bN λx8 r=>aF .i64 r λx9 r=>aF .i64 r λdx r=>aF .i64 r λeV r=>bL 1 r λfL nn r=>aJ r<|Kc x8 x9 dx eV fL nn)=Kc x.bH.slot x.bH.gen x.bH.key x.bH.value px x.kids.length:=rfl
def J3 (K:bV) (s:St) (v:bj) (L:al) (z1:Nat) (p1:ai) (z2:Nat) (p2:ai) (z3:Nat) (p3:ai) (z4:Nat) (p4:ai) (hd:ah) (R:Option (List bh×bj)) (o:Out ah×St):Prop:=match R with
 |none=>∃s',o=(.eZ,s')/\Fx L s s'
 |some (out,v')=>∃p z s',o=(.val [.slice z p out.length],s')/\(z=4\/p=none)/\ec K s' v' L z1 p1 z2 p2 z3 p3 z4 p4 hd/\Fx L s s'/\kX s' p (bM out)/\(∀b∈aM p,s.length<=b)/\v'.nodes+(room K.m v'.W:Nat)<=v.nodes+(room K.m v.W:Nat)/\v.nodes<=v'.nodes/\out.length<=4000
theorem ec.Nt (h:ec K s v L z1 p1 z2 p2 z3 p3 z4 p4 hd) (h0:qd s0 L hd v.aU) (hl: ∀x∈L,x<s0.length) (ha: ∀b o,K.a=some (b,o)->b<s0.length) (k0:Fx L s0 s) (k:Fx T s s') (hT: ∀x∈T,s0.length<=x):ec K s' v L z1 p1 z2 p2 z3 p3 z4 p4 hd/\Fx L s0 s':=by
 have hf:Fx L s0 s':=k0.step k λx hx=> .inr (hT x hx)
 exact⟨h.jB k (by grind) (λb o e hm=>by have:=ha b o e;have:=hT b hm;omega) (h0.fx hf (Nw.refl L s0)),hf⟩
theorem ZxE {Bd:Zh} (h:HA Bd) (n:Nat) (hK:B0 K) (k qB:Int) (hW:ec K s v L z1 p1 z2 p2 z3 p3 z4 p4 hd) (h0:0<=K.sup.used) (h1:K.sup.used<=1792) (hs:(v.aK.length:Int)=K.sup.used) (jz:0<=v.nodes) (hnr:v.nodes+(room K.m v.W:Nat)<=5000) (hm:K.m<=3072) (hn:4010<=n):
  Ok (J3 K s v L z1 p1 z2 p2 z3 p3 z4 p4 hd (sH K k qB v)) (run Bd n 233 [.ptr (some (K.w,0)),.int .i64 k,.int .i64 qB] s):=by
 obtain⟨n,rfl⟩: ∃k,n=k+2:=⟨n-2,by omega⟩;rw[Ze,h.acD];unfold OC gP BY Zre tQ Zty az C_ Zm cA Zn N_ qo cQ tU nx Lb Li zO zT sH;simp only[gj,av,aq];rw[Zy];have C2:=hW.lt;have Fh: ∀b o,K.a=some (b,o)->b<s.length:=λb o e=>Sl.lt (e▸hW.img)
 have y6:=aD.new s (some (⟨false,[DV.int .i64 k,.int .i64 qB,.int .i64 0,.int .i64 0,.int .i64 0,.int .i64 0,.bool true]⟩:bT));have AR:(s++[some (⟨false,[DV.int .i64 k,.int .i64 qB,.int .i64 0,.int .i64 0,.int .i64 0,.int .i64 0,.bool true]⟩:bT)])[s.length]? =some (some ⟨false,nj [⟨k,qB,xq,true⟩]⟩):=by simp;rfl
 have sc:=hW.pre y6;generalize s++[some (⟨false,[DV.int .i64 k,.int .i64 qB,.int .i64 0,.int .i64 0,.int .i64 0,.int .i64 0,.bool true]⟩:bT)]=s0 at y6 AR sc;obtain⟨R,hR⟩: ∃R,j3 K (K.m+1) [] [⟨k,qB,xq,true⟩] v=R:=⟨_,rfl⟩;rw[hR,Za];have hrm:=ZtF K.m v.W;refine Zj _ (λq y t=>∃(f:Nat) (out:List bh) (todo:List nz) (u:bj) (zo:Nat) (po:ai) (zt:Nat) (pt:ai),y=[.slice zo po out.length,.slice zt pt todo.length]/\(zo=4\/po=none)/\(zt=7\/pt=none)/\room K.m u.W<=q/\room K.m u.W<f/\ec K t u L z1 p1 z2 p2 z3 p3 z4 p4 hd/\u.aK=v.aK/\u.aU=v.aU/\Fx L s t/\kX t po (bM out)/\kX t pt (nj todo.reverse)/\(∀b∈aM po,s.length<=b)/\(∀b∈aM pt,s.length<=b)/\(∀b∈aM po,b∉aM pt)/\v.nodes<=u.nodes/\u.nodes+(room K.m u.W:Nat)<=v.nodes+(room K.m v.W:Nat)/\out.length+room K.m u.W<=3072/\todo.length+12*room K.m u.W<=40000/\j3 K f out todo u=R) ?_ (room K.m v.W) (n+1) _ _ ⟨K.m+1,[],[⟨k,qB,xq,true⟩],v,0,none,7,some (s.length,0),rfl,.inr rfl,.inl rfl,aL _,by omega,sc,rfl,rfl,Fx.pre L y6,.inl ⟨rfl,rfl⟩,.inr ⟨s.length,[],rfl,by rw[gG];exact AR⟩,λ_ h=>(by cases h),λb hb=>by rw[cj.1 hb];exact aL _,λ_ h=>(by cases h),Int.le_refl _,Int.le_refl _,by simp;omega,by simp;omega,hR⟩ (by omega);rintro q _ t ⟨f,out,todo,u,zo,po,zt,pt,rfl,Wa,hzt,hrq,hrf,dQ,lu,tF,cF,M4,hot,H3,pM,UQ,Iv,Iw,iM,vX,aN⟩ rec aP;simp only[Zg 4 zo po _ Wa,Zg 7 zt pt _ hzt,aq];obtain⟨f,rfl⟩: ∃k,f=k+1:=⟨f-1,by omega⟩;cases todo with
 |nil=>
  rw[show decide ((([]:List nz).length:Int)>0)=false from rfl,af];simp only[bc,aq];unfold j3 at aN;rw[Zd,<-aN];exact .mk ⟨po,4,t,rfl,.inl rfl,dQ,cF,M4,H3,Iw,Iv,by omega⟩
 |cons e r=>
  unfold j3 at aN;rw[aw (show(((e::r).length:Nat):Int)>0 by grind),ae];rw[Za];rcases hot with⟨_,hx⟩|⟨bt,rest,rfl,XT⟩
  .exfalso
   have:=congrArg List.length hx;rw[K0]at this;simp at this
  have cG:ar ((((e::r).length:Nat):Int)-1)=(r.length:Int):=by
   have e3:((((e::r).length:Nat):Int)-1)=(r.length:Int):=by simp
   have h9:r.length<100000:=by omega
   rw[e3];exact Zc
  simp only[cG,bu];rw[aX,Zb (Zi (by simp))];have AT:nj (e::r).reverse=nj r.reverse++EG e:=by
   rw[List.reverse_cons,ZpQ];simp[nj]
  have aeG: ∀Kc:ah->M ah,bS bt (r.length*7+0) 7 Kc t=Kc (EG e) t:=λKc=>by
   rw[fT,kC XT (by rw[bz,K0,List.length_reverse,cH];omega)];rw[AT,show r.length*7=(nj r.reverse).length by rw[K0,List.length_reverse],fD,BI];rfl
  rw[aeG];unfold EG;simp only[av,au,aq];rw[Zb (by rw[aR,bq,bq];simp;omega)];refine Ok.vA (dQ.take h (n+1) e.block hK.m hK.EM hK.len (by omega)) ?_ ?_
  .intro s' hp
   cases ht:dN K e.block u with
   |none=>rw[ht]at hp aN;cases hp;rw[<-aN];exact⟨t,rfl,cF⟩
   |some q=>rw[ht]at hp;obtain⟨d,s2,e,_⟩:=hp;cases e
  intro ds t1 hp;cases ht:dN K e.block u with
  |none=>rw[ht]at hp;cases hp
  |some q=>
   obtain⟨b,u1⟩:=q;rw[ht]at hp aN;obtain⟨d,s2,e2,iA,lQ,hb⟩:=hp;cases e2;obtain⟨g1,g2,g3,g4,g5,g6⟩:=sV ht;obtain⟨g7,g8⟩:=Ez ht;have Nc:=SJ dQ.set.len g7;rw[<-g8]at Nc;have nL:Fx L s t1:=cF.trans (lQ.mono λy hy=>by rw[cj.1 hy];exact dQ.wc);simp only[BU,aq];cases b with
   |leaf x=>obtain⟨rfl,_⟩:=hb;rw[<-aN];exact .mk ⟨t1,rfl,nL⟩
   |cc x=>obtain⟨rfl,_⟩:=hb;rw[<-aN];exact .mk ⟨t1,rfl,nL⟩
   |queue x=>obtain⟨rfl,_⟩:=hb;rw[<-aN];exact .mk ⟨t1,rfl,nL⟩
   |dir x=>obtain⟨p,rfl,_⟩:=hb;rw[<-aN];exact .mk ⟨t1,rfl,nL⟩
   |none=>cases hb;rw[<-aN];exact .mk ⟨t1,rfl,nL⟩
   |node x=>
    obtain⟨px,rfl,IX,hxr,YT⟩:=hb;simp only at aN;rw[Zv8];have YL:=Kr hxr;have uR: ∀t',Fx L s t'->wZ K u1 e x=false->Ok (J3 K s v L z1 p1 z2 p2 z3 p3 z4 p4 hd R) (some (.eZ,t')):=λt' vN hf=>by
     rw[hf,af]at aN;rw[<-aN];exact .mk ⟨t',rfl,vN⟩
    obtain⟨c1,iJ⟩: ∃c1,(bif ((x.kids.length:Nat):Int)==e.qB then(bif e.top then true else fb e.par x.bH)else false)=c1:=⟨_,rfl⟩;obtain⟨c2,j7⟩: ∃c2,(bif decide (x.bH.slot<K.sup.used)then EH u1 x.bH e.block else false)=c2:=⟨_,rfl⟩;have U5:wZ K u1 e x=(c1&&c2):=by unfold wZ;rw[iJ,j7]
    refine Ok.join λaS mw=>?_
    have hA: ∀t2,ec K t2 u1 L z1 p1 z2 p2 z3 p3 z4 p4 hd->Fx L s t2->kX t2 po (bM out)->kX t2 (some (bt,0)) (nj r.reverse)->Fz t2 px (ints x.kids)->Ok (J3 K s v L z1 p1 z2 p2 z3 p3 z4 p4 hd R) (aS [.bool c1] t2):=by
     intro t2 mT fI ae0 ae4 afS;rw[mw];simp only[au,aq];cases c1 with
     |false=>
      rw[Z7 h n rfl];exact uR t2 fI (by rw[U5];rfl)
     |true=>
     rw[sT h n rfl];simp only[aq];rw[aX,Zo mT.cell rfl];simp only[aY];refine Ok.join λbC Bf=>?_
     have hB:Ok (J3 K s v L z1 p1 z2 p2 z3 p3 z4 p4 hd R) (bC [.bool c2] t2):=by
      rw[Bf];simp only[au,aq];cases c2 with
      |false=>
       rw[Z7 h n rfl];exact uR t2 fI (by rw[U5];rfl)
      |true=>
      rw[sT h n rfl];rw[U5,wE,ae]at aN;simp only[aq,aX];rw[Zo mT.cell rfl];simp only[aY];have qS:ar (u1.nodes+1)=u1.nodes+1:=Zc (by rw[g5];omega) (by rw[g5];omega);rw[qS,ej];obtain⟨t3,e3,vI,fh,aeD⟩:=mT.agu (β:=ah) (u1.nodes+1);rw[e3];have IW:K.w∈L:=dQ.Ds;have X9:Fx L s t3:=fI.trans (fh.mono λy hy=>by rw[cj.1 hy];exact IW);have gL: ∀b,s.length<=b->b∉[K.w]:=λb hb hm=>by rw[cj.1 hm]at hb;have:=C2 _ IW;omega
      have ae1:=ae0.fx fh λb hb=>gL b (H3 b hb)
      have Yz:=ae4.fx fh λb hb=>gL b (pM b hb)
      have afT:=afS.kp aeD;obtain⟨bo,t4,q1,q2,q3,q4,q5⟩:=Zvq (β:=ah) ae1 (sz:=4) (n:=out.length) (lim:=2199023255552) (eR x.bH) (by omega) (Zr _) rfl;refine Eq.mpr (congrArg (Ok _) (q5 _)) ?_;have hh0:qd s L hd u1.aU:=by rw[g2,tF];exact hW.aU
      obtain⟨nH,sf⟩:=vI.Nt hh0 C2 Fh X9 q3 H3;have ae5:=Yz.fx q3 λb hb hm=>UQ b hm hb
      have afU:=afT.kp q4;have hs4:s.length<=t4.length:=sf.1;rw[Za];refine ZxR (s:=s) (n+1) rfl x px r t4 (some (bt,0)) afU YT ae5 (by simp at vX;omega) pM hs4 (by omega) (Kn:=λds=>bL 7 ds λW8 W9 st=>aJ st<|bL 4 [.slice 4 (some (bo,0)) (out.length+1),.slice 7 W8 W9] λtH sw st=>bL 7 st λW6 W7 st=>aJ st<|rec [.slice 4 tH sw,.slice 7 W6 W7]) ?_ 7 (.inl rfl);intro t5 pT z hz hT HZ A0;simp only[Zg 7 z pT _ hz,bc,aq];have XR:bo∉aM (some (bt,0)):=λhm=>by
       have:=kX.lt Yz bo hm;omega
      have vV:=X9.1;obtain⟨Ff,aen⟩:=nH.Nt hh0 C2 Fh sf A0 pM;have ahh:bo<t4.length:=(dB.1 q2).1;refine aP (room K.m u1.W) _ _ (by omega) ⟨f,out++[x.bH],sq x x.kids.length++r, { u1 with nodes:=u1.nodes+1 },4,some (bo,0),7,pT,?_,.inl rfl,.inl rfl,aL _,(show room K.m u1.W<f by omega),Ff,by show u1.aK=_;rw[g1,lu],by show u1.aU=_;rw[g2,tF],aen,.inr ⟨bo,[],rfl,?_⟩,hT,λb hb=>?_,λb hb=>(HZ b hb).1,λb hb hm=>?_,?_,?_,?_,?_,aN⟩
      .simp[Sd,sN]
      .rw[gG,yq]
       have:=A0.2 bo _ XR q2;simpa [bM]using this
      .rw[cj.1 hb];omega
      .rw[cj.1 hb]at hm
       rcases(HZ bo hm).2 with h5|h5
       .exact XR h5
       .omega
      .show v.nodes<=u1.nodes+1
       rw[g5];omega
      .show u1.nodes+1+_<=_
       rw[g5];show u.nodes+1+(room K.m u1.W:Nat)<=_;omega
      .show(out++[x.bH]).length+room K.m u1.W<=_
       simp;omega
      .show(sq x x.kids.length++r).length+12*room K.m u1.W<=_
       rw[bz,Sd];simp at vX;omega
     cases ax:decide (x.bH.slot<K.sup.used)with
     |false=>
      rw[ax,af]at j7;rw[af,j7];exact hB
     |true=>
      rw[ax,ae]at j7;have sh:=iR ax;rw[ae,aX,Zo mT.cell rfl];show Ok _ (dE 3 (.slice z1 p1 u1.aK.length) _ t2);rw[ue 3 z1 p1 _ mT.e1];have xN:u1.aK.length=v.aK.length:=by rw[g1,lu]
      obtain⟨ks,Ik⟩: ∃ks:Nat,x.bH.slot=ks:=⟨x.bH.slot.toNat,by omega⟩;have gA:ks<u1.aK.length:=by rw[xN];omega
      obtain⟨bs,rfl,xC⟩:=mT.o1.cD (by rw[Zz];omega);have lV:u1.aK[ks]? =some u1.aK[ks]:=bU gA;unfold EH at j7;rw[Ik,bu,lV]at j7;rw[aX,Ik,Zb (Zi gA),bu,KG xC lV];unfold ez;simp only[au,av,aq];simp only at j7;rw[j7];exact hB
    have hjL:K.j∈L:=dQ.wc;have hnj: ∀b,s.length<=b->b∉[K.j]:=λb hb hm=>by rw[cj.1 hm]at hb;have:=C2 _ hjL;omega
    have Vx:=M4.fx lQ λb hb=>hnj b (H3 b hb)
    have Vy:kX t1 (some (bt,0)) (nj r.reverse):= .inr ⟨bt,EG e++rest,rfl,by
     rw[<-fD,<-AT];exact lQ.2 bt _ (hnj bt (pM bt (by simp[aM]))) XT⟩
    cases CU:(((x.kids.length:Nat):Int)==e.qB)with
    |false=>
     rw[CU,af]at iJ;rw[af,iJ];exact hA t1 iA nL Vx Vy IX
    |true=>
     rw[CU,ae]at iJ;rw[ae];refine Ok.join λdw Yh=>?_
     cases htp:e.top with
     |true=>
      rw[htp,ae]at iJ;rw[ae,Yh];simp only[au,aq];rw[iJ];exact hA t1 iA nL Vx Vy IX
     |false=>
      rw[htp,af]at iJ;rw[af];refine Ok.call (Zvd h.afZ (n+1) (by omega) e.par x.bH t1) ?_;rintro _ ⟨z,t2,rfl,aZ,e2⟩;refine⟨_,t2,rfl,?_⟩;rw[Yh];simp only[av,au,aq];rw[e2,iJ];exact hA t2 (iA.pre aZ) (nL.trans (Fx.pre L aZ)) (Vx.fx (Fx.pre [] aZ) λ_ _ h=>by cases h) (Vy.fx (Fx.pre [] aZ) λ_ _ h=>by cases h) (IX.pre aZ)
def e4 (e:bh):E4:=(e.slot,e.gen,e.key,e.value)
def F3 (x:E4):bh:=⟨x.1,x.2.1,x.2.2.1,x.2.2.2⟩
theorem Go.Gv.XE: ∀(l:List bh),Go.Gv.yJ (bM l)=some (l.map e4)
 |[]=>rfl
 |e::l=>by
  show(match Go.Gv.yJ (bM l)with|some l=>some ((e.slot,e.gen,e.key,e.value)::l)|none=>none)=_;rw[Go.Gv.XE l];rfl
theorem ZmL: ∀(l:List E4),ml l=bM (l.map F3)
 |[]=>rfl
 |x::l=>by
  show rU x++ml l=_;rw[ZmL l];rfl
def vb (l:List bh):List bh:=(jS (l.map e4)).map F3
theorem Zp5 (l:List bh):(vb l).length=l.length:=by unfold vb;rw[nY,Sm,nY]
theorem ZrW {x y:E4} (h:x.1≠y.1):(fp x y||fp y x)=true:=by
 rw[lz,Cm,Cm];omega
theorem Qk: ∀ {l:List bh},Diff l->Cy (l.map e4)=true
 |[],_=>rfl
 |e::l,.cons h1 h2=>by
  show((l.map e4).all (λy=>fp (e4 e) y||fp y (e4 e))&&Cy (l.map e4))=true;rw[Qk h2,wE,lA];intro y hy;obtain⟨z,hz,rfl⟩:=tN.1 hy;exact ZrW (h1 z hz)
variable {Bd:Zh} [h:HA Bd]
theorem Zxu (n:Nat) (l:List bh) (p:ai) (st:St) (hs:kX st p (bM l)) (hd:Diff l) (hl:l.length<=1000000):
  ∃s',run Bd (n+1) 232 [.slice 4 p l.length,.func 159 [] []] st=some (.val [],s')/\kX s' p (bM (vb l))/\Fx (aM p) st s':=by
 rw[Ze,h.acC];unfold Hh;rcases hs with⟨rfl,hx⟩|⟨b,rest,rfl,hb⟩
 .have h0:l.length=0:=by
   have:=congrArg List.length hx;rw[Zr]at this;rw[yi]at this;omega
  have h1:l=[]:=wG.1 h0;subst h1;exact⟨st,rfl,.inl ⟨rfl,rfl⟩,.refl _ _⟩
 .have ef:st.gE b=some (bM l++rest):=by unfold St.gE;rw[hb]
  simp only[ef];rw[gf (by rw[bz,Zr];omega),ae,dj,<-Zr,BK,Go.Gv.XE];simp only[Qk hd,gf hl,Bool.and_self,ae];have y9:ml (jS (l.map e4))=bM (vb l):=ZmL _;rw[y9];have iC:=rN [] (bM l) rest (bM (vb l)) (by rw[Zr,Zr,Zp5]);rw[gU,gU]at iC;refine⟨_,rfl,.inr ⟨b,rest,rfl,?_⟩,Fx.set st b _⟩;rw[lC (dB.1 hb).1];exact congrArg (λc=>some (some (⟨false,c⟩:bT))) iC
def dS (x:eC) (p:ai):ah:=[.int .i64 x.seq,.int .i64 x.blocks,.int .i64 x.cO,.int .i64 x.g,.int .i64 x.cc,.int .i64 x.used,.int .i64 x.free,.int .i64 x.dir,.slice 1 p x.aO.length]
def nh (x:eC) (k:Int):Bool:=bif decide (k>=2)then decide (k<x.blocks)else false
def qh (x:eC):Bool:=(List.range x.aO.length).all λi=>nh x (x.aO.getD i 0)&& !decide (x.aO.getD i 0∈x.aO.take i)
def Z6 (x:eC):Bool:=
 !(decide (x.seq<1)||(decide (x.seq>4611686018427387904)||(!oG x.blocks x.cO x.g||(decide (x.used<0)||(decide (x.used>x.cO)||(decide (x.free<0)||decide (x.free>x.used)))))))&&
 (!((bif x.used==0 then !(x.cc==0)else false)||((bif decide (x.used>0)then !nh x x.cc else false)||((bif !(x.dir==0)then !nh x x.dir else false)|| !(((x.aO.length:Nat):Int)==yy x.blocks x.cO x.g))))&&qh x)
theorem ZmV (n:Nat) (x:eC) (p:ai) (b:Nat) (k:Int) (st:St) (hb:st[b]? =some (some ⟨false,dS x p⟩)):
  run Bd (n+1) 221 [.int .i64 k,.ptr (some (b,0))] st=some (.val [.bool (nh x k)],st):=by
 rw[Ze,h.acr];unfold O3 jn az Zm Lb nh;simp only[av,gj,aq,Za,aX];cases decide (k>=2)with
 |false=>rfl
 |true=>
  rw[ae,ae,Zo hb (d:= .int .i64 x.blocks) rfl];rfl
theorem Zo8 (n:Nat) (x:eC) (p:ai) (st:St) (hs:Sl st p (ints x.aO)) (hl:x.aO.length<1000) (hn:x.aO.length+10<=n):
  run Bd n 197 [.agg (dS x p)] st=some (.val [.bool (Z6 x)],st++[some ⟨false,dS x p⟩]):=by
 obtain⟨n,rfl⟩: ∃k,n=k+3:=⟨n-3,by omega⟩;rw[Ze,h.ab1];unfold PB ZZ Zm az Q_ cI Zn bd Cw vn Lb Li eW ur Z6;have hb:(st++[some (⟨false,dS x p⟩:bT)])[st.length]? =some (some ⟨false,dS x p⟩):=by simp
 have fm:=hs.mono (aD.new st (some (⟨false,dS x p⟩:bT)));have yS:=λk=>ZmV (n+1) x p st.length k _ hb
 have ld: ∀(k:Nat) (d:DV),(dS x p)[k]? =some d->∀Kc:DV->M ah,bG st.length k Kc (st++[some (⟨false,dS x p⟩:bT)])=Kc d (st++[some (⟨false,dS x p⟩:bT)]):=λk d e Kc=>Zo hb e Kc
 have Wl: ∀Kc:ah->M ah,bS st.length 1 3 Kc (st++[some (⟨false,dS x p⟩:bT)])=Kc [.int .i64 x.blocks,.int .i64 x.cO,.int .i64 x.g] (st++[some (⟨false,dS x p⟩:bT)]):=λKc=>by
  rw[kC hb (by show 1+3<=9;omega)];rfl
 show bn [.agg (dS x p)] _ st=_;rw[cJ];unfold dS;simp only[av,bc,aq];rw[Zy];change _=some (Out.val _,st++[some (⟨false,dS x p⟩:bT)]);have oH:([.int .i64 x.seq,.int .i64 x.blocks,.int .i64 x.cO,.int .i64 x.g,.int .i64 x.cc,.int .i64 x.used,.int .i64 x.free,.int .i64 x.dir,.slice 1 p x.aO.length]:ah)=dS x p:=rfl;rw[oH];generalize (st++[some (⟨false,dS x p⟩:bT)])=s1 at hb fm yS ld Wl⊢;rw[ld 0 (.int .i64 x.seq) rfl];simp only[aY];refine ok_eq ?_;obtain⟨F1,hF1⟩: ∃F1,(decide (x.seq<1)||(decide (x.seq>4611686018427387904)||(!oG x.blocks x.cO x.g||(decide (x.used<0)||(decide (x.used>x.cO)||(decide (x.free<0)||decide (x.free>x.used)))))))=F1:=⟨_,rfl⟩;obtain⟨F2,HW⟩: ∃F2,((bif x.used==0 then !(x.cc==0)else false)||((bif decide (x.used>0)then !nh x x.cc else false)||((bif !(x.dir==0)then !nh x x.dir else false)|| !(((x.aO.length:Nat):Int)==yy x.blocks x.cO x.g))))=F2:=⟨_,rfl⟩;rw[hF1,HW];refine Ok.join λaA h1=>?_
 have A1: ∀b,(decide (x.seq<1)||decide (x.seq>4611686018427387904))=b->Ok (λp=>p=(Out.val [DV.bool (!F1&&(!F2&&qh x))],s1)) (aA [.bool b] s1):=by
  intro b1 e1;rw[h1];simp only[au,aq];refine Ok.join λaI h2=>?_
  have A2: ∀b,(b1|| !oG x.blocks x.cO x.g)=b->Ok (λp=>p=(Out.val [DV.bool (!F1&&(!F2&&qh x))],s1)) (aI [.bool b] s1):=by
   intro b2 e2;rw[h2];simp only[au,aq];refine Ok.join λaS h3=>?_
   have A3: ∀b,(b2||decide (x.used<0))=b->Ok (λp=>p=(Out.val [DV.bool (!F1&&(!F2&&qh x))],s1)) (aS [.bool b] s1):=by
    intro b3 e3;rw[h3];simp only[au,aq];refine Ok.join λbC h4=>?_
    have A4: ∀b,(b3||decide (x.used>x.cO))=b->Ok (λp=>p=(Out.val [DV.bool (!F1&&(!F2&&qh x))],s1)) (bC [.bool b] s1):=by
     intro b4 e4;rw[h4];simp only[au,aq];refine Ok.join λcd h5=>?_
     have A5: ∀b,(b4||decide (x.free<0))=b->Ok (λp=>p=(Out.val [DV.bool (!F1&&(!F2&&qh x))],s1)) (cd [.bool b] s1):=by
      intro b5 e5;rw[h5];simp only[au,aq];refine Ok.join λdw h6=>?_
      have A6: ∀b,(b5||decide (x.free>x.used))=b->Ok (λp=>p=(Out.val [DV.bool (!F1&&(!F2&&qh x))],s1)) (dw [.bool b] s1):=by
       intro b6 e6;rw[h6];simp only[au,aq];have vK:F1=b6:=by rw[<-hF1,<-e6,<-e5,<-e4,<-e3,<-e2,<-e1];grind
       cases b6 with
       |true=>rw[ae,Zd,vK];exact .mk rfl
       |false=>
        rw[af,vK,bp,de,ld 5 (.int .i64 x.used) rfl];simp only[aY];refine Ok.join λfW h7=>?_
        have B7: ∀b,(bif x.used==0 then !(x.cc==0)else false)=b->Ok (λp=>p=(Out.val [DV.bool (!F2&&qh x)],s1)) (fW [.bool b] s1):=by
         intro b7 e7;rw[h7];simp only[au,aq];refine Ok.join λgM h8=>?_
         have B8: ∀b,(b7||(bif decide (x.used>0)then !nh x x.cc else false))=b->Ok (λp=>p=(Out.val [DV.bool (!F2&&qh x)],s1)) (gM [.bool b] s1):=by
          intro b8 e8;rw[h8];simp only[au,aq];refine Ok.join λgN h9=>?_
          have B9: ∀b,(b8||(bif !(x.dir==0)then !nh x x.dir else false))=b->Ok (λp=>p=(Out.val [DV.bool (!F2&&qh x)],s1)) (gN [.bool b] s1):=by
           intro b9 e9;rw[h9];simp only[au,aq];refine Ok.join λjP E8=>?_
           have B10: ∀b,(b9|| !(((x.aO.length:Nat):Int)==yy x.blocks x.cO x.g))=b->Ok (λp=>p=(Out.val [DV.bool (!F2&&qh x)],s1)) (jP [.bool b] s1):=by
            intro xg e10;rw[E8];simp only[au,aq];have XP:F2=xg:=by rw[<-HW,<-e10,<-e9,<-e8,<-e7];simp only[Bool.or_assoc]
            cases xg with
            |true=>rw[ae,Zd,XP];exact .mk rfl
            |false=>
             rw[af,XP,bp,de,ld 8 (.slice 1 p x.aO.length) rfl];simp only[lG];rw[Za];refine Zj _ (λq y s=>∃i:Nat,y=[.int .i64 i]/\i<=x.aO.length/\x.aO.length-i<=q/\s=s1/\((List.range i).all λi=>nh x (x.aO.getD i 0)&& !decide (x.aO.getD i 0∈x.aO.take i))=true) ?_ x.aO.length (n+2) _ _ ⟨0,rfl,by omega,by omega,rfl,rfl⟩ (by omega);rintro q _ s ⟨i,rfl,hi,hq,rfl,cS⟩ rec aP;simp only[av,aq];by_cases ax:i<x.aO.length
             .obtain⟨i1,o1,rfl⟩:=fm.cD (by simp[ints];omega)
              rw[aw (by omega),ae,aX,Zb (Zi ax),bu,fm.dL (ZA ax)];simp only[aY];have hw:ar ((i:Int)+1)=((i+1:Nat):Int):=Zc;have xE:x.aO.getD i 0=x.aO[i]:=by rw[dX,bU ax];rfl
              have cx:(nh x x.aO[i]&& !decide (x.aO[i]∈x.aO.take i))=false->qh x=false:=λe=>JJ.2 ⟨i,yj.2 ax,by rw[xE,e];decide⟩
              rw[Zk (yS x.aO[i])];simp only[au,aq,Za];cases hb:nh x x.aO[i]with
              |false=>
               rw[bp,ae];rw[ae,Zd,cx (by rw[hb];rfl)];exact .mk rfl
              |true=>
               rw[bm,af,ld 8 (.slice 1 (some (i1,o1)) x.aO.length) rfl];simp only[lG];rw[Zb (by rw[aR,bq,bq];omega)];have VY:(x.aO.take i).length=i:=by rw[cz];omega
               have ca:Sl s (some (i1,o1)) (ints (x.aO.take i)):=by
                have:=Sl.lY fm i;rwa [show(ints x.aO).take i=ints (x.aO.take i) by unfold ints;rw[List.map_take]]at this
               have hc:=ZiH (n+2) (x.aO.take i) x.aO[i] _ s ca (by omega) (by omega);rw[VY]at hc;rw[Zk hc];simp only[au,aq];cases hm:decide (x.aO[i]∈x.aO.take i)with
               |true=>
                rw[ae,Zd,cx (by rw[hb,hm];rfl)];exact .mk rfl
               |false=>
                rw[af,hw];refine aP (x.aO.length-(i+1)) _ _ (by omega) ⟨i+1,rfl,by omega,aL _,rfl,?_⟩;rw[vj,rj,cS,tL,List.all_nil,xE,hb,hm];rfl
             .rw[aB (by omega),af,Zd]
              rw[show i=x.aO.length by omega]at cS;unfold qh;rw[cS];exact .mk rfl
           cases b9 with
           |true=>rw[ae];exact B10 true rfl
           |false=>
            rw[af,ld 8 (.slice 1 p x.aO.length) rfl];simp only[lG];rw[Wl];simp only[av,aq];rw[rH (Zo9 n x.blocks x.cO x.g s1) (.refl s1)];simp only[av,aq];exact B10 _ rfl
          cases b8 with
          |true=>rw[ae];exact B9 true rfl
          |false=>
           rw[af,ld 7 (.int .i64 x.dir) rfl];simp only[aY];rw[Za];cases hd:(!(x.dir==0))with
           |false=>rw[af];simp only[au,aq];exact B9 _ (by rw[hd];rfl)
           |true=>
            rw[ae,ld 7 (.int .i64 x.dir) rfl];simp only[aY];rw[Zk (yS x.dir)];simp only[au,aq];exact B9 _ (by rw[hd];rfl)
         cases b7 with
         |true=>rw[ae];exact B8 true rfl
         |false=>
          rw[af,ld 5 (.int .i64 x.used) rfl];simp only[aY];rw[Za];cases hd:decide (x.used>0)with
          |false=>rw[af];simp only[au,aq];exact B8 _ (by rw[hd];rfl)
          |true=>
           rw[ae,ld 4 (.int .i64 x.cc) rfl];simp only[aY];rw[Zk (yS x.cc)];simp only[au,aq];exact B8 _ (by rw[hd];rfl)
        cases hu:(x.used==0)with
        |true=>rw[ae,ld 4 (.int .i64 x.cc) rfl];simp only[aY];exact B7 _ (by rw[hu];rfl)
        |false=>rw[af];exact B7 _ (by rw[hu];rfl)
      cases b5 with
      |true=>rw[ae];exact A6 true rfl
      |false=>rw[af,ld 6 (.int .i64 x.free) rfl];simp only[aY];rw[ld 5 (.int .i64 x.used) rfl];simp only[aY];exact A6 _ rfl
     cases b4 with
     |true=>rw[ae];exact A5 true rfl
     |false=>rw[af,ld 6 (.int .i64 x.free) rfl];simp only[aY];exact A5 _ rfl
    cases b3 with
    |true=>rw[ae];exact A4 true rfl
    |false=>rw[af,ld 5 (.int .i64 x.used) rfl];simp only[aY];rw[ld 2 (.int .i64 x.cO) rfl];simp only[aY];exact A4 _ rfl
   cases b2 with
   |true=>rw[ae];exact A3 true rfl
   |false=>rw[af,ld 5 (.int .i64 x.used) rfl];simp only[aY];exact A3 _ rfl
  cases b1 with
  |true=>rw[ae];exact A2 true rfl
  |false=>
   rw[af,Wl];simp only[av,aq];rw[Zk (ZkO (n+1) x.blocks x.cO x.g s1)];simp only[au,aq];exact A2 _ rfl
 cases hc:decide (x.seq<1)with
 |true=>rw[ae];grind
 |false=>rw[af,ld 0 (.int .i64 x.seq) rfl];simp only[aY];grind
def mN (K:bV):Int->ak->List bh->bj->Option (List bh×bj)
 |_,[],acc,v=>some (acc,v)
 |k,y::r,acc,v=>bif !(y==0)then(match sH K y k v with
   |none=>none
   |some (out,v')=>mN K (k+1) r (acc++out) v')else mN K (k+1) r acc v
def Cv (v:bj) (k:Nat) (nm:aj):Bool:=bif decide (k=0)then true else(match v.aU[k-1]? with
 |none=>false
 |some x=>decide (cmpL (dp x.name) (dp nm)<0))
def vD (K:bV):Nat->ak->bj->Option bj
 |_,[],v=>some v
 |k,y::r,v=>match dN K y v with
  |some (.queue q,v1)=>bif Cv v1 k q.name then(match mN K 0 q.df [] v1 with
   |none=>none
   |some (es,v2)=>vD K (k+1) r { v2 with aU:=v2.aU++[⟨q.name,vb es⟩] })else none
  |_=>none
def sY (K:bV) (v:bj):Option bj:=bif K.sup.dir==0 then some v else(match dN K K.sup.dir v with
 |some (.dir x,v')=>vD K 0 x v'
 |_=>none)
def wC (m:Nat):bj:=⟨kM m [0,1],[],[],[],[],0⟩
def ve (K:bV):Option bj:=match qu K (wC K.m)with
 |none=>none
 |some v1=>match uD K v1 with
  |none=>none
  |some v2=>match sY K v2 with
   |none=>none
   |some v3=>bif decide ((Dr v3:Int)=v3.nodes)then some (uV v3)else none
theorem KC {K:bV} : ∀ {l:ak} {k:Int} {acc es:List bh} {v v':bj},v.W.length=(K.m+63)/64->mN K k l acc v=some (es,v')->(∀e∈acc,DT v e)->Diff acc->(∀e∈es,DT v' e)/\Diff es/\v'.W.length=(K.m+63)/64/\v'.aK=v.aK/\v'.aU=v.aU/\v'.aH=v.aH/\v'.free=v.free
 |[],_,_,_,_,_,hl,h,h1,h2=>by cases h;exact⟨h1,h2,hl,rfl,rfl,rfl,rfl⟩
 |y::r,k,acc,es,v,v',hl,h,h1,h2=>by
  unfold mN at h;cases hy:(!(y==0))with
  |false=>rw[hy,af]at h;exact KC hl h h1 h2
  |true=>
   rw[hy,ae]at h;cases ht:sH K y k v with
   |none=>rw[ht]at h;cases h
   |some q=>
    obtain⟨out,v1⟩:=q;rw[ht]at h;obtain⟨a1,a2,a3,_,a5,a6,a7,a8⟩:=RP (acc:=acc) hl ht (by simpa using h1) (by simpa using h2);obtain⟨b1,b2,b3,b4,b5,b6,b7⟩:=KC a3 h a1 a2;exact⟨b1,b2,b3,b4.trans a5,b5.trans a6,b6.trans a7,b7.trans a8⟩
theorem aa4 {a:ai} (h:kX s a cs) {sz n:Nat} (ds:ah) (hz:0<sz) (hn:cs.length=n*sz) (hd:ds.length=m*sz) (hl:n+m<=lim):
  ∃a' s',kX s' a' (cs++ds)/\Fx (aM a) s s'/\Kp s s'/\(∀b∈aM a',b∈aM a\/s.length<=b)/\∀K:ai->M β,cm sz a n ds m lim K s=K a' s':=by
 by_cases hm:m=0
 .subst hm
  have:ds=[]:=wG.1 (by omega);subst this;exact⟨a,s,by rwa [gG],.refl _ _,.refl _,λ_ h=> .inl h,λK=>rfl⟩
 .have hb:Nat.beq m 0=false:=by cases m with|zero=>exact absurd rfl hm|succ m=>rfl
  rcases h with⟨rfl,rfl⟩|⟨i,rest,rfl,hs⟩
  .have h0:n=0:=by
    rcases Gh.1 (show n*sz=0 by simpa using hn.symm)with h|h
    .exact h
    .omega
   subst h0;refine⟨some (s.length,0),s++[some (⟨false,ds⟩:bT)],.inr ⟨s.length,[],rfl,by simp⟩,Fx.pre _ (aD.new _ _),(aD.new _ _).kp,λb hb=> .inr (by rw[cj.1 hb];exact aL _),λK=>?_⟩;unfold cm;simp only[hb,gf hl,ae,af];rfl
  .have jL:i<s.length:=(dB.1 hs).1
   have ef:s.gE i=some (cs++rest):=by unfold St.gE;rw[hs]
   refine⟨some (s.length,0),s.set i none++[some (⟨false,cs++ds⟩:bT)],.inr ⟨s.length,[],rfl,by rw[jY (by simp)];simp⟩,⟨by simp,λy x hy e=>?_⟩,(Kp.set hs none).trans (aD.new _ _).kp,λb hb=> .inr (by rw[cj.1 hb];exact aL _),λK=>?_⟩
   .have hyl:=(dB.1 e).1
    have du:i≠y:=λe=>hy (by simp[aM,e])
    rw[l8 (by simp;omega),jZ du];exact e
   .unfold cm
    simp only[hb,gf hl,ae,af,ef];rw[ej,gf (by rw[bz];omega),ae,dj,<-hn,BK]
theorem Zwz {Bd:Zh} (hT:HA Bd) (n:Nat) (hK:B0 K) (nm:aj) (x:ak) (hx:x.length=12) (s0:St) (L0:al) (hW:ec K s v L z1 p1 z2 p2 z3 p3 z4 p4 hd) (xD:Fx L0 s0 s) (C6:Nw L0 s0 L) (h0:0<=K.sup.used) (h1:K.sup.used<=1792) (hs:(v.aK.length:Int)=K.sup.used) (jz:0<=v.nodes) (hnr:v.nodes+(room K.m v.W:Nat)<=5000) (hm:K.m<=3072) (hn:4020<=n)
  (R:Option bj) (Kn:ah->M ah)
  (cx:mN K 0 x [] v=none->R=none)
  (aN: ∀es w,mN K 0 x [] v=some (es,w)->∀t p z,(z=4\/p=none)->ec K t w L z1 p1 z2 p2 z3 p3 z4 p4 hd->Fx L s t->kX t p (bM es)->(∀b∈aM p,s.length<=b)->w.nodes+(room K.m w.W:Nat)<=v.nodes+(room K.m v.W:Nat)->v.nodes<=w.nodes->es.length<=50000->Ok (rD K s0 L0 R []) (Kn [.agg [.str nm,.slice 4 p es.length]] t)):
  Ok (rD K s0 L0 R []) (cY (λdA st=>
      bn st λj4 st=>
      eE j4 λh2 r=>
      bL 4 r λh3 yQ r=>
      aJ r<|
      aF .i64 st λdx st=>
      aJ st<|
      bif decide (dx<12)then
       aC (aQ dx 12)<|
      eD (ints x) (dx.toNat*1) λd6=>
      cT .i64 d6 λeV=>
      cK (λst=>
       bn st λoC st=>
      eE oC λh4 r=>
      bL 4 r λh5 Ut r=>
      aJ r<|
      aJ st<|
      dA [.agg [.str h4,.slice 4 h5 Ut],.int .i64 (ar (dx+1))]) λcd=>
      bif !(eV==0)then
       c9 (run Bd n 233 [.ptr (some (K.w,0)),.int .i64 eV,.int .i64 dx]) λds=>
      bL 4 ds λfL nn ds=>
      aJ ds<|
      da fL (nn*4) λxl=>
      cm 4 h3 yQ xl nn 2199023255552 λp1=>
      cd [.agg [.str h2,.slice 4 p1 (yQ+nn)]]
      else
       cd [.agg [.str h2,.slice 4 h3 yQ]]
      else
       Kn [.agg [.str h2,.slice 4 h3 yQ]]) n [.agg [.str nm,.slice 0 none 0],.int .i64 0] s):=by
 have C2:=hW.lt;have Fh: ∀b o,K.a=some (b,o)->b<s.length:=λb o e=>Sl.lt (e▸hW.img)
 obtain⟨G,hG⟩: ∃G,mN K 0 x [] v=G:=⟨_,rfl⟩;rw[hG]at aN cx;refine Zj _ (λq y t=>∃(i:Nat) (acc:List bh) (u:bj) (z:Nat) (p:ai),y=[.agg [.str nm,.slice z p acc.length],.int .i64 i]/\(z=4\/p=none)/\i<=12/\12-i<=q/\ec K t u L z1 p1 z2 p2 z3 p3 z4 p4 hd/\u.aK=v.aK/\u.aU=v.aU/\Fx L s t/\kX t p (bM acc)/\(∀b∈aM p,s.length<=b)/\v.nodes<=u.nodes/\u.nodes+(room K.m u.W:Nat)<=v.nodes+(room K.m v.W:Nat)/\acc.length<=4000*i/\mN K i (x.drop i) acc u=G) ?_ 12 n _ _ ⟨0,[],v,0,none,rfl,.inr rfl,by omega,by omega,hW,rfl,rfl,.refl L s,.inl ⟨rfl,rfl⟩,λ_ h=>(by cases h),Int.le_refl _,Int.le_refl _,by simp,by simpa using hG⟩ (by omega);rintro q _ t ⟨i,acc,u,z,p,rfl,hz,hi,hq,dQ,lu,tF,cF,ef,AS,Iv,Iw,vJ,dR⟩ rec aP;simp only[cJ,bP,av,Zg 4 z p _ hz,aq,Za];by_cases ax:i<12
 .have lV:x[i]? =some (x[i]'(by omega)):=bU (by omega)
  have fH:x.drop i=(x[i]'(by omega))::x.drop (i+1):=iI (by omega);rw[fH]at dR;rw[aw (show(i:Int)<12 by omega),ae,Zb (show aQ (i:Int) 12=true from Zi ax),bu,cP,hU (ZA)];simp only[aY];generalize x[i]'(by omega)=y at dR;have hw:ar ((i:Int)+1)=((i+1:Nat):Int):=Zc;have tw:((i+1:Nat):Int)=(i:Int)+1:=by omega
  rw[hw];unfold mN at dR;cases hy:(!(y==0))with
  |false=>
   rw[hy,af]at dR;rw[af];exact aP (12-(i+1)) _ _ (by omega) ⟨i+1,acc,u,4,p,rfl,.inl rfl,by omega,aL _,dQ,lu,tF,cF,ef,AS,Iv,Iw,by omega,by rw[tw];exact dR⟩
  |true=>
   rw[hy,ae]at dR;rw[ae];have oL:Fx L0 s0 t:=xD.step cF C6;refine Ok.vA (ZxE hT n hK y i dQ h0 h1 (by rw[lu];exact hs) (by omega) (by omega) hm (by omega)) ?_ ?_
   .intro t' hp
    cases ht:sH K y i u with
    |some q=>rw[ht]at hp;obtain⟨_,_,_,e,_⟩:=hp;cases e
    |none=>
     rw[ht]at hp dR;obtain⟨t2,e,nK⟩:=hp;cases e;rw[cx dR.symm];exact⟨t',rfl,oL.step nK C6⟩
   .intro ds t' hp
    cases ht:sH K y i u with
    |none=>rw[ht]at hp;obtain⟨_,e,_⟩:=hp;cases e
    |some q=>
     obtain⟨out,u1⟩:=q;rw[ht]at hp dR;obtain⟨po,zo,t2,e,Wa,iA,lQ,M4,H3,ahx,ahw,iM⟩:=hp;cases e;simp only at dR;obtain⟨_,_,_,_,a5,a6,_,_⟩:=RP (acc:=[]) dQ.set.len ht (λ_ h=>by cases h) .nil;simp only[Zg 4 zo po _ Wa,aq];have dG:Sl t' po (bM out):=by
      rcases M4 with⟨rfl,h2⟩|⟨b,rest,rfl,h2⟩
      .exact h2
      .exact⟨false,_,h2,by rw[bz];omega,by rw[dj,BK]⟩
     have pU:=iD (β:=ah) dG;rw[Zr]at pU;rw[pU];have ae3:=ef.fx lQ λb hb kJ=>by have:=C2 b kJ;have:=AS b hb;omega
     obtain⟨pa,t3,b1,b2,b3,b4,b5⟩:=aa4 (β:=ah) ae3 (sz:=4) (n:=acc.length) (m:=out.length) (lim:=2199023255552) (bM out) (by omega) (Zr _) (Zr _) (by omega);rw[b5];have nL:Fx L s t':=cF.trans lQ;obtain⟨vI,fh⟩:=iA.Nt (by rw[a6,tF];exact hW.aU) C2 Fh nL b2 AS;refine aP (12-(i+1)) _ _ (by omega) ⟨i+1,acc++out,u1,4,pa,by rw[bz],.inl rfl,by omega,aL _,vI,a5.trans lu,a6.trans tF,fh,by rw[yq];exact b1,λb hb=>?_,by omega,by omega,by rw[bz];omega,by rw[tw];exact dR⟩;rcases b4 b hb with h5|h5
     .exact AS b h5
     .have:=nL.1;omega
 .rw[aB (show ¬(i:Int)<12 by omega),af]
  rw[kz (by omega)]at dR;exact aN acc u dR.symm t p 4 (.inl rfl) dQ cF ef AS Iw Iv (by omega)
theorem ZkT {x:ZC} (h:ZD l=some x):x.name.length<=24/\mO x=true:=by
 unfold ZD at h;split at h
 .cases h
 .rename_i k t b _
  cases e:(decide (k=5)&&(decide (t<=24)&&ZI (b.drop (28+t))))with
  |false=>rw[e]at h;cases h
  |true=>
   rw[e]at h;cases e2:mO (Z1 b t)with
   |false=>rw[e2]at h;cases h
   |true=>
    rw[e2]at h;cases h;rw[aR,aR,bq]at e;refine⟨?_,e2⟩;have:=iR e.2.1;show((b.drop 28).take t).length<=24;rw[cz];omega
theorem Zq3 {x:ZC} (h:ZX l= .queue x):ZD l=some x:=by
 grind[ZX]
theorem Zvr {b:BQ} (h:dN K k v=some (b,v')):ZX (ZB K.img k.toNat)=b:=by
 grind[dN]
theorem ZxP (pn:M β) (p:ai) (m:Nat) (Kc:ai->Nat->M β):uu pn (.iface 3 (.agg [.slice 1 p m])) 3 (λd=>th d λcs=>bL 1 cs λx xn r=>aJ r<|Kc x xn)=Kc p m:=rfl
theorem Zv0 (pn:M β) (q:ZC) (Kc:aj->Int->ah->M β):uu pn (.iface 4 (.agg (ZW q))) 4 (λd=>th d λcs=>eE cs λx7 r1=>aF .i64 r1 λx8 r2=>Kc x7 x8 r2)=Kc q.name q.mask (ints q.df):=rfl
theorem Zrc {K:bV} : ∀ {l:ak} {k:Nat} {v v':bj},v.W.length=(K.m+63)/64->vD K k l v=some v'->v'.aK=v.aK/\v'.aH=v.aH/\v'.free=v.free/\v'.aU.length=v.aU.length+l.length
 |[],_,_,_,_,h=>by cases h;simp
 |y::r,k,v,v',hl,h=>by
  unfold vD at h;split at h
  .rename_i q v1 ht
   cases hn:Cv v1 k q.name with
   |false=>rw[hn]at h;cases h
   |true=>
    rw[hn,ae]at h;obtain⟨g1,g2,g3,g4,g5,g6⟩:=sV ht;split at h
    .cases h
    .rename_i es v2 hh
     obtain⟨_,_,b3,b4,b5,b6,b7⟩:=KC (by rw[(Ez ht).2,uj];exact hl) hh (λ_ h=>by cases h) .nil;obtain⟨c1,c2,c3,c4⟩:=Zrc (by exact b3) h;grind
  .cases h
theorem ba.NF {a:ai} (h:ba [] s a cs): ∀b∈aM a,∃c,s[b]? =some (some ⟨false,c⟩):=by
 rcases h.2 with⟨rfl,_⟩|⟨i,rfl,_,h3⟩
 .intro b hb;cases hb
 .intro b hb;rw[cj.1 hb];exact⟨_,h3⟩
theorem ec.kp (h:ec K s v L z1 p1 z2 p2 z3 p3 z4 p4 hd) (k:Fx L s s'):Kp s s':=by
 intro i all e;refine k.2 i _ (λhm=>?_) e;have ho: ∃c,s[i]? =some (some ⟨false,c⟩):=by
  rw[h.own]at hm;simp only[dC,fE]at hm;rcases hm with rfl|rfl|rfl|hm|hm|hm|hm
  .exact⟨_,h.cell⟩
  .exact⟨_,h.set.hd⟩
  .exact⟨_,h.set.wd⟩
  .exact h.o1.NF i hm
  .exact h.o2.NF i hm
  .exact h.o3.NF i hm
  .exact h.o4.NF i hm
 grind
theorem Zu7 (n:Nat) (hK:B0 K) (hW:Wk K s v L) (h0:0<=K.sup.used) (h1:K.sup.used<=1792) (hs:(v.aK.length:Int)=K.sup.used) (jz:0<=v.nodes) (hnr:v.nodes+(room K.m v.W:Nat)<=5000) (hm:K.m<=3072) (hh:v.aU=[]) (hn:4030<=n):
  Ok (rD K s L (sY K v) []) (run Bd n 231 [.ptr (some (K.w,0))] s):=by
 obtain⟨n,rfl⟩: ∃k,n=k+2:=⟨n-2,by omega⟩;rw[Ze,h.acB];unfold OH jn Zm tQ ck Q_ cI Zn az C_ Hf cA cQ nx Li Lb;obtain⟨R,hR⟩: ∃R,sY K v=R:=⟨_,rfl⟩;rw[hR];unfold sY at hR;simp only[gj,aq,aX];obtain⟨z1,p1,z2,p2,z3,p3,z4,p4,hd,hW⟩:=hW;rw[Zo hW.cell rfl];show Ok _ (cT .i64 (.int .i64 K.sup.dir) _ s);simp only[aY];cases CT:(K.sup.dir==0)with
 |true=>
  rw[CT,ae]at hR;rw[ae,<-hR,Zd];exact .mk ⟨s,L,rfl,hW.wk,.refl L s,.refl L s⟩
 |false=>
 rw[CT,af]at hR;rw[af,Zo hW.cell rfl];show Ok _ (cT .i64 (.int .i64 K.sup.dir) _ s);simp only[aY];refine Ok.vA (hW.take h (n+1) K.sup.dir hK.m hK.EM hK.len (by omega)) ?_ ?_
 .intro s' hp
  cases ht:dN K K.sup.dir v with
  |none=>rw[ht]at hp hR;cases hp;rw[<-hR];exact⟨s,rfl,.refl L s⟩
  |some q=>rw[ht]at hp;grind
 intro ds s1 hp;cases ht:dN K K.sup.dir v with
 |none=>rw[ht]at hp;cases hp
 |some q=>
 obtain⟨b,v1⟩:=q;rw[ht]at hp hR;obtain⟨d,s2,e2,iA,lQ,hb⟩:=hp;cases e2;obtain⟨g1,g2,g3,g4,g5,g6⟩:=sV ht;obtain⟨g7,g8⟩:=Ez ht;have Nc:=SJ hW.set.len g7;rw[<-g8]at Nc;have nL:Fx L s s1:=lQ.mono λy hy=>by rw[cj.1 hy];exact hW.wc
 simp only[BU,aq];cases b with
 |leaf x=>obtain⟨rfl,_⟩:=hb;rw[<-hR];exact .mk ⟨s1,rfl,nL⟩
 |cc x=>obtain⟨rfl,_⟩:=hb;rw[<-hR];exact .mk ⟨s1,rfl,nL⟩
 |queue x=>obtain⟨rfl,_⟩:=hb;rw[<-hR];exact .mk ⟨s1,rfl,nL⟩
 |node x=>obtain⟨p,rfl,_⟩:=hb;rw[<-hR];exact .mk ⟨s1,rfl,nL⟩
 |none=>cases hb;rw[<-hR];exact .mk ⟨s1,rfl,nL⟩
 |dir x=>
 obtain⟨px,rfl,IX,ahJ⟩:=hb;simp only at hR;rw[ZxP];rw[Za];refine Zj _ (λq y t=>∃(i:Nat) (u:bj) (Lu:al),y=[.int .i64 i]/\i<=x.length/\x.length-i<=q/\Wk K t u Lu/\Fx L s t/\Nw L s Lu/\Fz t px (ints x)/\u.aK=v.aK/\u.aU.length=i/\(∀g∈u.aU,g.name.length<=24)/\v.nodes<=u.nodes/\u.nodes+(room K.m u.W:Nat)<=v.nodes+(room K.m v.W:Nat)/\vD K i (x.drop i) u=R) ?_ x.length (n+1) _ _ ⟨0,v1,L,rfl,cn _,by omega,iA.wk,nL,.refl L s,IX,g1,by rw[g2,hh];rfl,(by rw[g2,hh];intro _ h;cases h),by rw[g5];omega,by rw[g5];omega,by simpa using hR⟩ (by omega);rintro q _ t ⟨i,u,Lu,rfl,hi,hq,dQ,fw,jA,Di,lu,tF,hun,Iv,Iw,aN⟩ rec aP;obtain⟨y1,r1,y2,r2,y3,r3,y4,r4,ud,dQ⟩:=dQ;simp only[av,aq];by_cases ax:i<x.length
 .obtain⟨i1,o1,rfl⟩:=Di.1.cD (by simp[ints];omega)
  rw[aw (show(i:Int)<(x.length:Int) by omega),ae];refine Ok.join λaI j8=>?_
  rw[aX,Zb (Zi ax),bu,Di.1.dL (ZA ax)];simp only[aY];have fH:x.drop i=x[i]::x.drop (i+1):=iI ax;rw[fH]at aN;generalize x[i]=y at aN;unfold vD at aN;refine Ok.vA (dQ.take h (n+1) y hK.m hK.EM hK.len (by omega)) ?_ ?_
  .intro s' hp
   cases kl:dN K y u with
   |none=>rw[kl]at hp aN;cases hp;rw[<-aN];exact⟨t,rfl,fw⟩
   |some q=>rw[kl]at hp;grind
  intro ds t1 hp;cases kl:dN K y u with
  |none=>rw[kl]at hp;cases hp
  |some q=>
  obtain⟨b,u1⟩:=q;rw[kl]at hp aN;obtain⟨d,s2,e2,mT,fI,hb⟩:=hp;cases e2;obtain⟨k1,k2,k3,k4,k5,k6⟩:=sV kl;obtain⟨k7,k8⟩:=Ez kl;have afv:=SJ dQ.set.len k7;rw[<-k8]at afv;have X7:Fx Lu t t1:=fI.mono λy hy=>by rw[cj.1 hy];exact dQ.wc
  have se:Fx L s t1:=fw.step X7 jA;simp only[BU,aq];cases b with
  |leaf x=>obtain⟨rfl,_⟩:=hb;rw[<-aN];exact .mk ⟨t1,rfl,se⟩
  |cc x=>obtain⟨rfl,_⟩:=hb;rw[<-aN];exact .mk ⟨t1,rfl,se⟩
  |dir x=>obtain⟨p,rfl,_⟩:=hb;rw[<-aN];exact .mk ⟨t1,rfl,se⟩
  |node x=>obtain⟨p,rfl,_⟩:=hb;rw[<-aN];exact .mk ⟨t1,rfl,se⟩
  |none=>cases hb;rw[<-aN];exact .mk ⟨t1,rfl,se⟩
  |queue qv=>
  obtain⟨rfl,vU⟩:=hb;simp only at aN;rw[Zv0];obtain⟨VN,_⟩:=ZkT (Zq3 (Zvr kl));have zj:Fz t1 (some (i1,o1)) (ints x):=Di.kp (dQ.kp X7);have C1:(ints qv.df).length=12:=by simp[ints,vU]
  rw[bF (cs:=ints qv.df) (n:=12) C1,bF (n:=14) (by simp[C1])];refine Ok.join λaS mw=>?_
  have hA: ∀t2 bb,Cv u1 i qv.name=bb->ec K t2 u1 Lu y1 r1 y2 r2 y3 r3 y4 r4 ud->Fx L s t2->Fz t2 (some (i1,o1)) (ints x)->Ok (rD K s L R []) (aS [.bool bb] t2):=by
   intro t2 bb yT vI fh V3;rw[mw];simp only[au,aq];cases bb with
   |false=>
    rw[yT,af]at aN;rw[Z7 h n rfl,<-aN];exact .mk ⟨t2,rfl,fh⟩
   |true=>
    rw[yT,ae]at aN;rw[sT h n rfl];simp only[aq];refine Ok.join λbC Bf=>?_
    rw[dq (by omega)];refine Zwz h (n+1) hK qv.name qv.df vU s L vI fh jA h0 h1 (by rw[k1,lu];exact hs) (by rw[k5];omega) (by rw[k5];omega) hm (by omega) R bC ?_ ?_
    .grind
    intro es w he t3 p z hz nH sf ef AS aeO aeN H8;rw[he]at aN;simp only at aN;obtain⟨c1,c2,c3,c4,c5,c6,c7⟩:=KC vI.set.len he (λ_ h=>by cases h) .nil;rw[Bf];simp only[cJ,bP,bc,aq];obtain⟨t4,e4,nN,A0⟩:=Zxu n es p t3 ef c2 (by omega);rw[Zk e4];simp only[aq];have Fh: ∀b o,K.a=some (b,o)->b<t2.length:=λb o e=>Sl.lt (e▸vI.img)
    have qS:w.aU=u.aU:=c5.trans k2;have hh2:qd t2 Lu ud w.aU:=by rw[c5];exact vI.aU
    obtain⟨Ff,Ya⟩:=nH.Nt hh2 vI.lt Fh sf A0 AS;have V4:Fz t4 (some (i1,o1)) (ints x):=V3.kp (vI.kp Ya);have Yb:Fx L s t4:=fh.step Ya jA;rw[Zo Ff.cell rfl];show Ok _ (dE 2 (.slice y2 r2 w.aU.length) _ t4);rw[ue 2 y2 r2 _ Ff.e2,<-Zp5 es];have dG:Sl t4 p (bM (vb es)):=by
     rcases nN with⟨rfl,h2⟩|⟨b,rest,rfl,h2⟩
     .exact h2
     .exact⟨false,_,h2,by rw[bz];omega,by rw[dj,BK]⟩
    have M7:lI Lu p:=lI.aM λb hb hm=>by have:=AS b hb;have:=vI.lt b hm;omega
    obtain⟨b,t5,t6,L6,q1,q2,q3,q4,q5,q6⟩:=Ff.agq (β:=ah) ⟨qv.name,vb es⟩ (by rw[qS,tF];omega) (z:=4) (.inl rfl) dG M7;refine Eq.mpr (congrArg (Ok _) (q1 _)) ?_;refine Eq.mpr (congrArg (Ok _) (q2 _)) ?_;rw[j8];simp only[aq];have ko:ar ((i:Int)+1)=((i+1:Nat):Int):=Zc;rw[ko];refine aP (x.length-(i+1)) _ _ (by omega) ⟨i+1,_,L6,rfl,by omega,aL _,q3.wk,Yb.step q4 jA,jA.trans Yb.1 q5,V4.kp (Ff.kp q4),(c4.trans k1).trans lu,?_,?_,?_,?_,aN⟩
    .show(w.aU++[_]).length=i+1
     rw[bz,qS,tF];rfl
    .intro g hg
     have A9:g∈w.aU++[⟨qv.name,vb es⟩]:=hg;rw[qS]at A9;rcases fE.1 A9 with A9|A9
     .exact hun g A9
     .rw[cj.1 A9];exact VN
    .show v.nodes<=w.nodes
     rw[k5]at aeN;omega
    .show w.nodes+(room K.m w.W:Nat)<=_
     rw[k5]at aeO;omega
  by_cases uM:i=0
  .subst uM
   rw[show(((0:Nat):Int)==0)=true from rfl,ae];exact hA t1 true rfl mT se zj
  .have hib:(((i:Nat):Int)==0)=false:=by rw[dY];omega
   rw[hib,af,Zo mT.cell rfl];show Ok _ (dE 2 (.slice y2 r2 u1.aU.length) _ t1);rw[ue 2 y2 r2 _ mT.e2];have Ba:u1.aU.length=i:=by rw[k2];exact tF
   have ahH:ud.length=u1.aU.length*2:=mT.aU.aU.len;obtain⟨b,rfl,xC⟩:=mT.o2.cD (by omega);have cG:ar ((i:Int)-1)=((i-1:Nat):Int):=by rw[Zc];omega
   have Vd:u1.aU[i-1]? =some u1.aU[i-1]:=bU (by omega);rw[aX,cG,Zb (Zi),bu,B4 mT.o2.sl mT.aU.aU Vd];have hgm:u1.aU[i-1].name.length<=24:=hun _ (by rw[<-k2];exact jG _);obtain⟨gg,vQ⟩: ∃gg,u1.aU[i-1]=gg:=⟨_,rfl⟩;rw[vQ]at Vd hgm⊢;simp only[wJ];refine Ok.call (Zn3 (n+1) gg.name qv.name (by omega) (by omega) (by omega) (by omega) t1) ?_;rintro _ ⟨t2,rfl,aZ⟩;refine⟨_,t2,rfl,?_⟩;simp only[av,aq];refine hA t2 _ ?_ (mT.pre aZ) (se.trans (Fx.pre _ aZ)) (zj.kp aZ.kp);unfold Cv;rw[aB uM,af,Vd]
 .rw[aB (show ¬(i:Int)<(x.length:Int) by omega),af]
  simp only[Zd];rw[kz (by omega)]at aN;rw[<-aN];exact .mk ⟨t,Lu,rfl,dQ.wk,fw,jA⟩
theorem Fx.aau (h:Fx [] s s'):aD s s':=by
 refine⟨s'.drop s.length,?_⟩;have:s'.take s.length=s:=by
  apply rk;intro i;by_cases hi:i<s.length
  .rw[List.getElem?_take_of_lt hi]
   have e:s[i]? =some s[i]:=bU hi;rw[e];exact h.2 i _ (λh=>by cases h) e
  grind
 conv=>lhs;rw[<-nu s.length s',this]
theorem Ok.XB {P:Out ah×St->Prop} {m:M ah} {H:Bool->M β} (h:Ok P (m s))
  (k1: ∀s',P (.eZ,s')->Ok Q (H true s')) (k2: ∀ds s',P (.val ds,s')->Ok Q (H false s')):Ok Q (uv m H s):=by
 obtain⟨⟨o,s'⟩,e,hp⟩:=h;unfold uv;rw[e];cases o with
 |val ds=>exact k2 ds s' hp
 |eZ=>exact k1 s' hp
theorem Zw5 {all:ah} {k:IntKind} (h:s[i]? =some (some ⟨f,all⟩)) (hd:all[p]? =some (.int k n)) (K:IntKind->Int->M β):xk i p K s=K k n s:=by
 unfold xk;rw[Zo h hd]
theorem SE {all:ah} (h:s[i]? =some (some ⟨f,all⟩)) (hd:all[p]? =some (.int .i64 n)) (K:M β):hJ i p .i64 n K s=K s:=by
 unfold hJ;rw[Zo h hd];simp
def Kept (v v':bj):Prop:=v'.aU=v.aU/\v'.aH=v.aH/\v'.free=v.free/\v'.nodes=v.nodes
theorem Kept.refl (v:bj):Kept v v:=⟨rfl,rfl,rfl,rfl⟩
theorem Kept.trans {a b c:bj} (h:Kept a b) (k:Kept b c):Kept a c:=⟨k.1.trans h.1,k.2.1.trans h.2.1,k.2.2.1.trans h.2.2.1,k.2.2.2.trans h.2.2.2⟩
theorem QM {b:BQ} (h:dN K k v=some (b,v')):Kept v v':=by
 obtain⟨_,h2,h3,h4,h5,_⟩:=sV h;exact⟨h2,h3,h4,h5⟩
theorem Zmv {K:bV} : ∀ {x:List bA} {k:Int} {v v':bj},oq K k x v=some v'->Kept v v'
 |[],_,_,_,h=>by cases h;exact .refl _
 |x::r,k,v,v',h=>by
  unfold oq at h;cases h1:rG K k x v with
  |none=>rw[h1]at h;cases h
  |some w=>
   rw[h1]at h;refine Kept.trans ?_ (Zmv h);unfold rG at h1;cases h2:decide (k>=K.sup.used)with
   |true=>
    rw[h2,ae]at h1;cases h3:nD x with
    |true=>rw[h3]at h1;cases h1;exact .refl _
    |false=>rw[h3]at h1;cases h1
   |false=>
    rw[h2,af]at h1;cases h3:uq K.sup x with
    |true=>rw[h3]at h1;cases h1;exact⟨rfl,rfl,rfl,rfl⟩
    |false=>rw[h3]at h1;cases h1
theorem ZtX (h:nP K k slot v=some v'):Kept v v':=by
 unfold nP at h;split at h
 .rename_i x v1 ht
  exact(QM ht).trans (Zmv h)
 .cases h
theorem QO {K:bV} {cM x5:Int} : ∀ {x:ak} {k:Int} {v v':bj},lg K cM x5 k x v=some v'->Kept v v'
 |[],_,_,_,h=>by cases h;exact .refl _
 |y::r,k,v,v',h=>by
  unfold lg at h;cases h1:((!(y==0))==decide (x5*16+k<cM))with
  |false=>rw[h1]at h;cases h
  |true=>
   rw[h1,ae]at h;cases h2:(!(y==0))with
   |false=>rw[h2]at h;exact QO h
   |true=>
    rw[h2,ae]at h;split at h
    .cases h
    .rename_i w hw
     exact(ZtX hw).trans (QO h)
theorem Qu {K:bV} {cM:Int} : ∀ {x:ak} {k:Int} {v v':bj},pG K cM k x v=some v'->Kept v v'
 |[],_,_,_,h=>by cases h;exact .refl _
 |y::r,k,v,v',h=>by
  unfold pG at h;cases h1:((!(y==0))==decide (k*16<cM))with
  |false=>rw[h1]at h;cases h
  |true=>
   rw[h1,ae]at h;cases h2:(y==0)with
   |true=>rw[h2]at h;exact Qu h
   |false=>
    rw[h2,af]at h;split at h
    .rename_i x v1 ht
     split at h
     .cases h
     .rename_i w hw
      exact((QM ht).trans (QO hw)).trans (Qu h)
    .cases h
theorem Zs2 (h:qu K v=some v'):Kept v v':=by
 unfold qu at h;cases h1:(K.sup.used==0)with
 |true=>rw[h1]at h;cases h;exact .refl _
 |false=>
  rw[h1,af]at h;split at h
  .rename_i x v1 ht
   exact(QM ht).trans (Qu h)
  .cases h
theorem ZmD {K:bV} : ∀ {f:Nat} {fl CK:List Bool} {k:Int} {v v':bj},qm K f fl k v=some (CK,v')->v'.aK=v.aK/\v'.aU=v.aU/\v'.aH=v.aH/\v'.nodes=v.nodes
 |0,_,_,_,_,_,h=>by cases h
 |f+1,fl,CK,k,v,v',h=>by
  unfold qm at h;cases h1:(k==0)with
  |true=>rw[h1]at h;grind
  |false=>
   rw[h1,af]at h;cases h2:decide (k<=K.sup.used)with
   |false=>rw[h2]at h;cases h
   |true=>
    rw[h2,ae]at h;split at h
    .cases h
    .rename_i x hx
     cases h3:(bif (bif !x.live then decide (x.gen<K.sup.g)else false)then !fl.getD (k-1).toNat false else false)with
     |false=>rw[h3]at h;cases h
     |true=>
      rw[h3,ae]at h;exact ZmD (v:= { v with free:=v.free++[k-1] }) h
theorem ZtY (h:uD K v=some v'):v'.aK=v.aK/\v'.aU=v.aU/\v'.aH=v.aH/\v'.nodes=v.nodes:=by
 unfold uD at h;cases h1:qm K (K.sup.used.toNat+1) (List.replicate K.sup.used.toNat false) K.sup.free v with
 |none=>rw[h1]at h;cases h
 |some q=>
  obtain⟨fl,w⟩:=q;rw[h1]at h;unfold Cp at h;simp only at h;cases h2:vv K fl w.aK with
  |false=>rw[h2]at h;cases h
  |true=>rw[h2]at h;cases h;exact ZmD h1
theorem ZqY (hl:v.W.length=(K.m+63)/64) (h:sY K v=some v'):v'.aK=v.aK/\v'.aH=v.aH/\v'.free=v.free:=by
 unfold sY at h;cases h1:(K.sup.dir==0)with
 |true=>rw[h1]at h;grind
 |false=>
  rw[h1,af]at h;split at h
  .rename_i x v1 ht
   obtain⟨g1,g2,g3,g4,g5,g6⟩:=sV ht;obtain⟨c1,c2,c3,c4⟩:=Zrc (by rw[(Ez ht).2,uj];exact hl) h;grind
  .cases h
def wy (x:eC) (v:bj):eO:=⟨x.blocks,x.cO,x.g,v.aU,v.aH,v.free⟩
def p8:eO:=⟨0,0,0,[],[],[]⟩
def oW (K:bV):Option (Option bj):=bif Z6 K.sup then(bif decide (K.sup.blocks<=((K.img.length/64:Nat):Int))then some (ve K)else some none)else none
def Xl (s:St) (m:Nat) (x:eC) (r:Option (Option bj)) (o:Out ah×St):Prop:=match r with
 |none=>∃s',o=(.val [.agg (dK p8 0 none 0 none 0 none),.ptr none,.int .i64 2],s')/\aD s s'
 |some none=>∃s',o=(.val [.agg (dK p8 0 none 0 none 0 none),.ptr none,.int .i64 31],s')/\aD s s'
 |some (some v)=>∃s' z2 p2 z3 p3 z4 p4 i j,o=(.val [.agg (dK (wy x v) z2 p2 z3 p3 z4 p4),.ptr (some (i,0)),.int .i64 0],s')/\aD s s'/\(z2=2\/p2=none)/\(z3=1\/p3=none)/\(z4=1\/p4=none)/\ny s' (wy x v) p2 p3 p4/\gm s' false i j m v.W/\s.length<=j/\i≠j
structure pz (s:St) (b:Nat) (A:List DV) (r e:DV):Prop where
 st:s[b+1]? =some (some ⟨false,A⟩)
 re:s[b+2]? =some (some ⟨false,[r]⟩)
 er:s[b+3]? =some (some ⟨false,[e]⟩)
 len:A.length=6
theorem pz.fx {b:Nat} (h:pz s b A r e) (k:Fx T s s') (hT: ∀x∈T,x<b\/b+4<=x):pz s' b A r e:=
 ⟨k.2 _ _ (by grind) h.st,k.2 _ _ (by grind) h.re,k.2 _ _ (by grind) h.er,h.len⟩
theorem pz.W2 {b:Nat} (h:pz s b A r e) (A':ah) (r' e':DV) (hl:A'.length=6): ∃s',(∀K:M β,(ee (b+1) 0 A'<|ee (b+2) 0 [r']<|ee (b+3) 0 [e'] K) s=K s')/\pz s' b A' r' e'/\Fx [b+1,b+2,b+3] s s':=by
 have h1:=(dB.1 h.st).1;have h2:=(dB.1 h.re).1;have h3:=(dB.1 h.er).1;have iC:cw A 0 A'=A':=by
  have:=rN [] A [] A' (by rw[h.len,hl]);simpa using this
 refine⟨((s.set (b+1) (some ⟨false,A'⟩)).set (b+2) (some ⟨false,[r']⟩)).set (b+3) (some ⟨false,[e']⟩),λK=>?_,⟨?_,?_,?_,hl⟩,⟨by simp,λi x hi e=>?_⟩⟩
 .rw[Lh h.st (by rw[h.len,hl];omega),iC,vu (by rw[jZ (by omega)];exact h.re) (by show 0<1;omega),vu (by rw[jZ (by omega),jZ (by omega)];exact h.er) (by show 0<1;omega)]
  rfl
 .rw[jZ (by omega),jZ (by omega),lC h1]
 .rw[jZ (by omega),lC (by simpa using h2)]
 .rw[lC (by simpa using h3)]
 grind
theorem pz.xU {b:Nat} (h:pz s b A r e):(bS (b+1) 0 6 λo=>bG (b+2) 0 λo1=>bG (b+3) 0 λo2=>ay [.agg o,o1,o2]) s=some (.val [.agg A,r,e],s):=by
 rw[kC h.st (by rw[h.len];omega),Zo h.re rfl,Zo h.er rfl,dj,dq (by rw[h.len];omega),Zd]
theorem ZlW {x:eC} (h:Z6 x=true):oG x.blocks x.cO x.g=true/\0<=x.used/\x.used<=x.cO/\0<=x.free/\x.free<=x.used:=by
 grind[Z6]
theorem Z3 {b s g:Int} (h:oG b s g=true):16<=b/\b<=3072/\1<=s/\s<=1792/\1<=g/\g<=4294967295:=by
 grind[oG]
theorem pz.bW {b:Nat} (h:pz s b (dK p8 0 none 0 none 0 none) r e) (h':pz s' b A' r' e') (k:Fx [b+1,b+2,b+3] s s') {p:ai} {es:List bh} (hs:Sl s p (bM es)):Sl s' p (bM es):=by
 cases p with
 |none=>exact hs
 |some q=>
  obtain⟨i,o⟩:=q;by_cases hi:i∈[b+1,b+2,b+3]
  .have Yr:es=[]:=by
    cases es with
    |nil=>rfl
    |cons x es=>
     exfalso;obtain⟨f,all,e1,e2,e3⟩:=hs;have hlen:(bM (x::es)).length=4+(bM es).length:=by
      rw[Zr,Zr,cH];omega
     simp only[dC,sM,oe]at hi;rcases hi with rfl|rfl|rfl
     .rw[h.st]at e1
      cases e1;have h6:(dK p8 0 none 0 none 0 none).length=6:=rfl;have ho:o=0\/o=1\/o=2:=by omega
      have e4:=congrArg (λl=>l[3-o]?) e3;rw[List.getElem?_take_of_lt (by omega),tM]at e4;rcases ho with rfl|rfl|rfl<;>cases e4
     .rw[h.re]at e1
      grind
     .rw[h.er]at e1
      grind
   subst Yr;obtain⟨f,all,e1,e2,_⟩:=hs;simp only[dC,sM,oe]at hi;rcases hi with rfl|rfl|rfl
   .rw[h.st]at e1
    cases e1;refine⟨false,_,h'.st,?_,rfl⟩;have:=h'.len;have h6:(dK p8 0 none 0 none 0 none).length=6:=rfl;omega
   .rw[h.re]at e1
    cases e1;exact⟨false,_,h'.re,e2,rfl⟩
   .rw[h.er]at e1
    cases e1;exact⟨false,_,h'.er,e2,rfl⟩
  .exact Sl.fx hs k λb' o' e=>by cases e;exact hi
theorem je.bW {s s':St} (h: ∀(p:ai) (es:List bh),Sl s p (bM es)->Sl s' p (bM es)): ∀ {ds:ah} {xs:List dr},je s ds xs->je s' ds xs
 |_,[],h1=>h1
 |_,_::_,⟨z,p,t,hz,h1,h2,h3⟩=>⟨z,p,t,hz,h1,h p _ h2,h3.bW h⟩
def aaS (K:bV) (s:St) (b:Nat) (r:Option bj) (o:Out ah×St):Prop:=match r with
 |none=>∃s',o=(.eZ,s')/\Fx [] s s'
 |some v=>∃s' ds z2 p2 z3 p3 z4 p4,o=(.val ds,s')/\Fx [b+1,b+2,b+3] s s'/\pz s' b (dK (wy K.sup v) z2 p2 z3 p3 z4 p4) (.ptr (some (K.i,0))) (.int .i64 0)/\(z2=2\/p2=none)/\(z3=1\/p3=none)/\(z4=1\/p4=none)/\ny s' (wy K.sup v) p2 p3 p4/\gm s' false K.i K.j K.m v.W
theorem Zq4 (n:Nat) (a:ai) (img:aj) (x:eC) (pc:ai) (s:St) (ha:dz s a img) (hc:Sl s pc (ints x.aO)) (hl:img.length<1000000) (cL:x.aO.length<1000) (hn:5000<=n):
  ∃K:bV,K.m=x.blocks.toNat/\K.img=img/\K.sup=x/\Ok (Xl s x.blocks.toNat x (oW K)) (run Bd n 171 [.slice 1 a img.length,.agg (dS x pc)] s):=by
 obtain⟨n,rfl⟩: ∃k,n=k+3:=⟨n-3,by omega⟩;refine⟨⟨s.length+8,s.length+7,s.length+6,x.blocks.toNat,a,img,x,pc⟩,rfl,rfl,rfl,?_⟩;obtain⟨K,hK⟩: ∃K:bV,(⟨s.length+8,s.length+7,s.length+6,x.blocks.toNat,a,img,x,pc⟩:bV)=K:=⟨_,rfl⟩;rw[hK];have kw:s.length+8=K.w:=by rw[<-hK]
 have ki:s.length+7=K.i:=by rw[<-hK]
 have kj:s.length+6=K.j:=by rw[<-hK]
 have km:K.m=x.blocks.toNat:=by rw[<-hK]
 have ka:a=K.a:=by rw[<-hK]
 have kg:img=K.img:=by rw[<-hK]
 have ks:x=K.sup:=by rw[<-hK]
 have kp:pc=K.pc:=by rw[<-hK]
 clear hK;obtain⟨R,hR⟩: ∃R,oW K=R:=⟨_,rfl⟩;rw[hR];unfold oW at hR;rw[<-ks,<-kg]at hR;rw[Ze,h.abG];unfold Kj ZZ yr bd Zm C_ jn Cw cQ ZK Lp Li wN Lb fV tS;simp only[bc];rw[cJ];unfold dS;simp only[av,bc,aq];have Bq:([.int .i64 x.seq,.int .i64 x.blocks,.int .i64 x.cO,.int .i64 x.g,.int .i64 x.cc,.int .i64 x.used,.int .i64 x.free,.int .i64 x.dir,.slice 1 pc x.aO.length]:ah)=dS x pc:=rfl;rw[Bq,Zy,Zy,Zy,Zy];have afI:([.int .i64 0,.int .i64 0,.int .i64 0,.slice 0 none 0,.slice 0 none 0,.slice 0 none 0]:ah)=dK p8 0 none 0 none 0 none:=rfl;simp only[afI];have l1: ∀c,(s++[some (c:bT)]).length=s.length+1:=λc=>by simp
 have l2: ∀c d,((s++[some (c:bT)])++[some (d:bT)]).length=s.length+2:=λc d=>by simp
 have l3: ∀c d e,(((s++[some (c:bT)])++[some (d:bT)])++[some (e:bT)]).length=s.length+3:=λc d e=>by simp
 simp only[l1,l2,l3];obtain⟨S1,Fc⟩: ∃S1,(((s++[some (⟨false,dS x pc⟩:bT)])++[some (⟨false,dK p8 0 none 0 none 0 none⟩:bT)])++[some (⟨false,[.ptr none]⟩:bT)])++[some (⟨false,[.int .i64 0]⟩:bT)]=S1:=⟨_,rfl⟩;rw[Fc];have aG:aD s S1:=by rw[<-Fc];exact((((aD.new _ _).trans (aD.new _ _)).trans (aD.new _ _)).trans (aD.new _ _))
 have MR:S1.length=s.length+4:=by rw[<-Fc];simp
 have h9:S1[s.length]? =some (some ⟨false,dS x pc⟩):=by rw[<-Fc];simp
 have Mu:pz S1 s.length (dK p8 0 none 0 none 0 none) (.ptr none) (.int .i64 0):=by
  rw[<-Fc];exact⟨by simp,by simp,by simp,rfl⟩
 clear Fc;rw[kC h9 (by show 0+9<=9;omega)];show Ok _ (aF .i64 (dS x pc) _ S1);unfold dS;simp only[av,bc,aq];rw[Bq];have hsR:=Zo8 (n+2) x pc S1 (hc.mono aG) cL (by omega);rw[Zk hsR];simp only[au,aq];obtain⟨S2,Mx⟩: ∃S2,S1++[some (⟨false,dS x pc⟩:bT)]=S2:=⟨_,rfl⟩;rw[Mx];have aZ:aD S1 S2:=by rw[<-Mx];exact aD.new _ _
 have Fy:S2.length=s.length+5:=by rw[<-Mx];simp[MR]
 have Mr:=aZ.get h9;have Uu:pz S2 s.length (dK p8 0 none 0 none 0 none) (.ptr none) (.int .i64 0):=⟨aZ.get Mu.st,aZ.get Mu.re,aZ.get Mu.er,rfl⟩;have tE:=aG.trans aZ;clear Mx aG aZ Mu h9 hsR;have AY: ∀S3,Fx [s.length+1,s.length+2,s.length+3] S2 S3->aD s S3:=λS3 k=>by
  refine Fx.aau ((Fx.pre [] tE).step k λy hy=> .inr ?_);grind
 cases mY:Z6 x with
 |false=>
  rw[mY,af]at hR;obtain⟨S3,e3,HV,U3⟩:=Uu.W2 (β:=ah) (dK p8 0 none 0 none 0 none) (.ptr none) (.int .i64 2) rfl;rw[bp,ae,e3,HV.xU,<-hR];exact .mk ⟨S3,rfl,AY S3 U3⟩
 |true=>
 rw[mY,ae]at hR;rw[bm,af];obtain⟨uK,vY,zg,xD,CV⟩:=ZlW mY;obtain⟨g1,g2,g3,g4,g5,g6⟩:=Z3 uK;refine Ok.XB (P:=aaS K S2 s.length (bif decide (x.blocks<=((img.length/64:Nat):Int))then ve K else none)) ?_ ?_ ?_
 .have Nk: ∃m:Nat,x.blocks=(m:Int):=by grind
  rw[Zo Mr (d:= .int .i64 x.blocks) rfl];simp only[aY];have hw:ar (((img.length:Nat):Int).tdiv 64)=((img.length/64:Nat):Int):=by
   rw[TQ (by omega),bu];exact Zc
  rw[hw];cases gR:decide (x.blocks<=((img.length/64:Nat):Int))with
  |false=>
   rw[Z7 h (n+1) rfl,af];exact .mk ⟨S2,rfl,.refl _ _⟩
  |true=>
  have ad8:=iR gR;rw[sT h (n+1) rfl,ae];simp only[aq];rw[kC Mr (by show 0+9<=9;omega)];show Ok _ (aF .i64 (dS x pc) _ S2);unfold dS;simp only[av,bc,aq];rw[Zo Mr (d:= .int .i64 x.blocks) rfl];simp only[aY];rw[Zy];obtain⟨S3,CO⟩: ∃S3,S2++[some (⟨false,[.int .i64 0,.int .i64 1]⟩:bT)]=S3:=⟨_,rfl⟩;have cq:aD S2 S3:=by rw[<-CO];exact aD.new _ _
  have MS:S3.length=s.length+6:=by rw[<-CO];simp[Fy]
  have afy:Sl S3 (some (S2.length,0)) (ints [0,1]):=⟨false,[.int .i64 0,.int .i64 1],by rw[<-CO];simp,aL _,rfl⟩;rw[CO];obtain⟨m,hm⟩:=Nk;obtain⟨S4,e4,fC,Yj,YJ⟩:=Ru (n+2) m [0,1] (some (S2.length,0)) S3 (by omega) afy (by show 2<1000000;omega) (by grind);have Uy:m=K.m:=by rw[km,hm];rfl
  have e4':run Bd (n+2) 177 [.int .i64 x.blocks,.slice 1 (some (S2.length,0)) 2] S3=some (.val [.ptr (some (S3.length+1,0))],S4):=by rw[hm];exact e4
  rw[rH e4' fC];simp only[gj,aq];have h94:=fC.get (cq.get Mr);rw[kC h94 (by show 1+3<=9;omega)];show Ok _ (aF .i64 (.int .i64 x.blocks::[.int .i64 x.cO,.int .i64 x.g]) _ S4);simp only[av,aq];rw[Zy];have hw8:S4.length=K.w:=by rw[Yj,MS];omega
  have pP:S3.length+1=K.i:=by rw[MS];omega
  rw[hw8,pP];have afB:gm S4 false K.i K.j K.m (kM K.m [0,1]):=by
   rw[pP]at YJ;rw[<-kj,<-MS,<-Uy];exact YJ
  obtain⟨S5,Fe⟩: ∃S5,S4++[some (⟨false,rf K (wC K.m) (dI 0 none 0) (dI 0 none 0) (dI 0 none 0) (dI 0 none 0)⟩:bT)]=S5:=⟨_,rfl⟩;have oH:([.slice 1 a img.length,.int .i64 x.seq,.int .i64 x.blocks,.int .i64 x.cO,.int .i64 x.g,.int .i64 x.cc,.int .i64 x.used,.int .i64 x.free,.int .i64 x.dir,.slice 1 pc x.aO.length,.ptr (some (K.i,0)),.slice 0 none 0,.int .i64 x.blocks,.int .i64 x.cO,.int .i64 x.g,.slice 0 none 0,.slice 0 none 0,.slice 0 none 0,.int .i64 0]:ah)=rf K (wC K.m) (dI 0 none 0) (dI 0 none 0) (dI 0 none 0) (dI 0 none 0):=by
   unfold rf;rw[<-ka,<-kg,<-ks,<-kp];rfl
  rw[oH,Fe];have ji:aD S4 S5:=by rw[<-Fe];exact aD.new _ _
  have ahs:S5.length=s.length+9:=by rw[<-Fe];simp[Yj,MS]
  have ad0:S5[K.w]? =some (some ⟨false,rf K (wC K.m) (dI 0 none 0) (dI 0 none 0) (dI 0 none 0) (dI 0 none 0)⟩):=by rw[<-Fe,<-hw8];simp
  have M5:aD s S5:=((tE.trans cq).trans fC).trans ji;have hW:ec K S5 (wC K.m) [K.w,K.i,K.j] 0 none 0 none 0 none 0 none []:=by
   refine⟨ad0,.inr rfl,.inr rfl,.inr rfl,.inr rfl,ba.nil ⟨S5,rfl⟩,ba.nil ⟨S5,rfl⟩,ba.nil ⟨S5,rfl⟩,ba.nil ⟨S5,rfl⟩,rfl,afB.pre ji,?_,?_,rfl,?_⟩
   .rw[<-ka,<-kg];exact ha.mono M5
   .rw[<-ka]
    rintro b o rfl hm;have:=Sl.lt ha;simp only[dC,sM,oe]at hm;omega
   .simp only[yk,dC,sM,oe,not_or]
    refine⟨⟨by omega,by omega⟩,by omega,not_false,.nil⟩
  have hC5:pz S5 s.length (dK p8 0 none 0 none 0 none) (.ptr none) (.int .i64 0):=Uu.fx (Fx.pre [] ((cq.trans fC).trans ji)) λy hy=>by cases hy
  have aei:Fx [] S2 S5:=Fx.pre [] ((cq.trans fC).trans ji);have XK:B0 K:=⟨by rw[<-ks,hm,Uy],by rw[<-kg,<-Uy];omega,by rw[<-kg];exact hl⟩;have iY: ∀y∈[K.w,K.i,K.j],S2.length<=y:=λy hy=>by
   simp only[dC,sM,oe]at hy;omega
  have uR: ∀t,Fx [K.w,K.i,K.j] S5 t->Fx [] S2 t:=λt k=>aei.step k λy hy=> .inr (iY y hy)
  obtain⟨W1,iA⟩: ∃W1,ve K=W1:=⟨_,rfl⟩;rw[iA];unfold ve at iA;have Uz:0<=K.sup.used:=by rw[<-ks];exact vY
  have UA:K.sup.used<=1792:=by rw[<-ks];omega
  have hKf:0<=K.sup.free:=by rw[<-ks];exact xD
  have adY:K.m<=3072:=by omega
  refine Ok.vA (Zwh (n+2) XK hW.wk (by show 0<1000;omega) (by omega)) ?_ ?_
  .intro t hp
   cases hr:qu K (wC K.m)with
   |none=>rw[hr]at hp iA;obtain⟨_,e,hf⟩:=hp;cases e;rw[<-iA];exact⟨t,rfl,uR t hf⟩
   |some v=>rw[hr]at hp;obtain⟨_,_,e,_⟩:=hp;cases e
  intro ds t1 hp;cases kf:qu K (wC K.m)with
  |none=>rw[kf]at hp;obtain⟨_,e,_⟩:=hp;cases e
  |some v1=>
  rw[kf]at hp iA;obtain⟨_,L1,e,ad1,lQ,Vr⟩:=hp;cases e;simp only at iA;simp only[aq];obtain⟨k1,k2,k3,k4⟩:=Zs2 kf;obtain⟨fm,afn⟩:=Zv1 Uz UA rfl kf;refine Ok.vA (Zx0 (n+2) ad1 Uz UA hKf fm afn k1 k3 (by omega)) ?_ ?_
  .intro t hp
   cases hr:uD K v1 with
   |none=>rw[hr]at hp iA;obtain⟨_,e,hf⟩:=hp;cases e;rw[<-iA];exact⟨t,rfl,uR t (lQ.step hf Vr)⟩
   |some v=>rw[hr]at hp;obtain⟨_,_,e,_⟩:=hp;cases e
  intro ds t2 hp;cases jM:uD K v1 with
  |none=>rw[jM]at hp;obtain⟨_,e,_⟩:=hp;cases e
  |some v2=>
  rw[jM]at hp iA;obtain⟨_,L2,e,XL,fI,aeP⟩:=hp;cases e;simp only at iA;simp only[aq];obtain⟨q1,q2,q3,q4⟩:=ZtY jM;have U8:Fx [K.w,K.i,K.j] S5 t2:=lQ.step fI Vr;have Vs:Nw [K.w,K.i,K.j] S5 L2:=Vr.trans lQ.1 aeP;have UJ:v2.W.length=(K.m+63)/64:=by obtain⟨_,_,_,_,_,_,_,_,_,hw⟩:=XL;exact hw.set.len
  have C6:v2.nodes=0:=by rw[q4,k4];rfl
  have Nc:=ZtF K.m v2.W;refine Ok.vA (Zu7 (n+2) XK XL Uz UA (by rw[q1];exact fm) (by rw[C6];exact Int.le_refl _) (by rw[C6];omega) adY (by rw[q2,k1];rfl) (by omega)) ?_ ?_
  .intro t hp
   cases hr:sY K v2 with
   |none=>rw[hr]at hp iA;obtain⟨_,e,hf⟩:=hp;cases e;rw[<-iA];exact⟨t,rfl,uR t (U8.step hf Vs)⟩
   |some v=>rw[hr]at hp;obtain⟨_,_,e,_⟩:=hp;cases e
  intro ds t3 hp;cases IJ:sY K v2 with
  |none=>rw[IJ]at hp;obtain⟨_,e,_⟩:=hp;cases e
  |some v3=>
  rw[IJ]at hp iA;obtain⟨_,L3,e,ad2,fh,aeQ⟩:=hp;cases e;simp only at iA;simp only[aq];obtain⟨w1,w2,w3⟩:=ZqY UJ IJ;have X8:Fx [K.w,K.i,K.j] S5 t3:=U8.step fh Vs;have Yt:Nw [K.w,K.i,K.j] S5 L3:=Vs.trans U8.1 aeQ;have dG:(v3.aK.length:Int)=K.sup.used:=by rw[w1,q1];exact fm
  have lR:v3.aH=[]:=by rw[w2,q3,k2];rfl
  obtain⟨y1,r1,y2,r2,y3,r3,y4,r4,hd,UK⟩:=ad2;rw[Zw5 UK.cell (k:= .i64) (n:=v3.nodes) rfl,Zo UK.cell (d:= .int .i64 v3.nodes) rfl];simp only[aY];refine Ok.call (ZxT (n+2) UK.wk (by omega) (by rw[lR];show 0<100000;omega) (by omega)) ?_;rintro _ ⟨t4,L4,rfl,ad3,sf,aeR⟩;refine⟨_,t4,rfl,?_⟩;simp only[av,aq];have U9:Fx [K.w,K.i,K.j] S5 t4:=X8.step sf Yt;have aeS:Nw [K.w,K.i,K.j] S5 L4:=Yt.trans X8.1 aeR;obtain⟨y1,r1,y2,r2,y3,r3,y4,r4,hd,nH⟩:=ad3;have Fl:(rf K (uV v3) (dI y1 r1 (uV v3).aK.length) (dI y2 r2 (uV v3).aU.length) (dI y3 r3 (uV v3).aH.length) (dI y4 r4 (uV v3).free.length))[18]? =some (.int .i64 v3.nodes):=rfl;rw[SE nH.cell Fl,SE nH.cell Fl];have UQ:((((Dr v3:Nat):Int))==v3.nodes)=decide (((Dr v3:Nat):Int)=v3.nodes):=rfl;rw[UQ];cases fj:decide (((Dr v3:Nat):Int)=v3.nodes)with
  |false=>
   rw[fj,af]at iA;rw[Z7 h (n+1) rfl,<-iA];exact .mk ⟨t4,rfl,uR t4 U9⟩
  |true=>
  rw[fj,ae]at iA;rw[sT h (n+1) rfl];simp only[aq];rw[SE nH.cell Fl,kC nH.cell (by grind)];show Ok _ (aF .i64 (.int .i64 K.sup.blocks:: .int .i64 K.sup.cO:: .int .i64 K.sup.g::dI y2 r2 (uV v3).aU.length::dI y3 r3 (uV v3).aH.length::dI y4 r4 (uV v3).free.length::[]) _ t4);unfold dI;simp only[av,Zg 2 y2 r2 _ nH.e2,Zg 1 y3 r3 _ nH.e3,Zg 1 y4 r4 _ nH.e4,aq];rw[Zo nH.cell (d:= .ptr (some (K.i,0))) rfl];simp only[Oc];have xA:apart (some (s.length+1,0)) K.w=true:=by
   show(!Nat.beq K.w (s.length+1))=true;cases hbq:Nat.beq K.w (s.length+1)with
   |false=>rfl
   |true=>have:=dy hbq;omega
  rw[Zb xA];have Mv:pz t4 s.length (dK p8 0 none 0 none 0 none) (.ptr none) (.int .i64 0):=hC5.fx U9 λy hy=>by
   have:=iY y hy;omega
  obtain⟨t5,e5,hC6,mu⟩:=Mv.W2 (β:=ah) (dK (wy K.sup (uV v3)) 2 r2 1 r3 1 r4) (.ptr (some (K.i,0))) (.int .i64 0) rfl;refine Eq.mpr (congrArg (Ok _) (e5 (ay []))) ?_;rw[Zd,<-iA];have cx: ∀y∈L4,y∉[s.length+1,s.length+2,s.length+3]:=λy hy hm=>by
   have h1:S2.length<=y:=by
    rcases aeS y hy with h2|h2
    .exact iY y h2
    omega
   simp only[dC,sM,oe]at hm;omega
  have IA:=nH.own;refine .mk ⟨t5,[],2,r2,1,r3,1,r4,rfl,((uR t4 U9).mono λy hy=>by cases hy).trans mu,hC6,.inl rfl,.inl rfl,.inl rfl,⟨⟨hd,(nH.o2.fx mu λy hy=>cx y (by rw[IA];simp[hy])).sl,je.bW (λ_ _ k=>Mv.bW hC6 mu k) nH.aU.aU⟩,(nH.o3.fx mu λy hy=>cx y (by rw[IA];simp[hy])).sl,(nH.o4.fx mu λy hy=>cx y (by rw[IA];simp[hy])).sl⟩,nH.set.fx mu (cx _ (by rw[IA];simp)) (cx _ (by rw[IA];simp))⟩
 .intro S3 hp
  cases hb:(bif decide (x.blocks<=((img.length/64:Nat):Int))then ve K else none)with
  |some v=>rw[hb]at hp;obtain⟨_,_,_,_,_,_,_,_,e,_⟩:=hp;cases e
  |none=>
   rw[hb]at hp;obtain⟨_,e,hf⟩:=hp;cases e;rw[ae];have HV:=Uu.fx hf λy hy=>by cases hy
   obtain⟨S4,e4,Mv,CW⟩:=HV.W2 (β:=ah) (dK p8 0 none 0 none 0 none) (.ptr none) (.int .i64 31) rfl;have UG:R=some none:=by
    rw[<-hR];grind
   rw[UG];refine Ok.XB (P:=λo=>o=(.val [],S4)) (by rw[e4];exact .mk rfl) ?_ ?_
   .intro S5 e;cases e
   .intro ds S5 e
    cases e;rw[af,Mv.xU];exact .mk ⟨S4,rfl,AY S4 ((hf.mono λy hy=>by cases hy).trans CW)⟩
 .intro ds S3 hp
  cases hb:(bif decide (x.blocks<=((img.length/64:Nat):Int))then ve K else none)with
  |none=>rw[hb]at hp;obtain⟨_,e,_⟩:=hp;cases e
  |some v=>
   rw[hb]at hp;obtain⟨_,_,z2,p2,z3,p3,z4,p4,e,hf,HV,gD,kL,IZ,ca,db⟩:=hp;cases e;rw[af,HV.xU];have UG:R=some (some v):=by
    rw[<-hR];grind
   rw[UG,<-km,ks];exact .mk ⟨S3,z2,p2,z3,p3,z4,p4,K.i,K.j,rfl,AY S3 hf,gD,kL,IZ,ca,db,by omega,by omega⟩
def mH (img:aj) (x:eC):bV:=⟨0,0,0,x.blocks.toNat,none,img,x,none⟩
section
variable (w i j m:Nat) (a:ai) (img:aj) (x:eC) (pc:ai)
theorem ZrI: ∀(l:List bA) (k:Int) (v:bj),oq ⟨w,i,j,m,a,img,x,pc⟩ k l v=oq ⟨0,0,0,m,none,img,x,none⟩ k l v
 |[],_,_=>rfl
 |y::r,k,v=>by
  unfold oq;rw[show rG ⟨w,i,j,m,a,img,x,pc⟩ k y v=rG ⟨0,0,0,m,none,img,x,none⟩ k y v from rfl];cases rG ⟨0,0,0,m,none,img,x,none⟩ k y v with
  |none=>rfl
  |some v'=>exact ZrI r (k+1) v'
theorem Zx3 (k slot:Int) (v:bj):nP ⟨w,i,j,m,a,img,x,pc⟩ k slot v=nP ⟨0,0,0,m,none,img,x,none⟩ k slot v:=by
 unfold nP;rw[show dN ⟨w,i,j,m,a,img,x,pc⟩ k v=dN ⟨0,0,0,m,none,img,x,none⟩ k v from rfl];cases dN ⟨0,0,0,m,none,img,x,none⟩ k v with
 |none=>rfl
 |some q=>
  obtain⟨b,v1⟩:=q;cases b<;>first|rfl|exact ZrI w i j m a img x pc _ _ _
theorem SH (cM x5:Int): ∀(l:ak) (k:Int) (v:bj),lg ⟨w,i,j,m,a,img,x,pc⟩ cM x5 k l v=lg ⟨0,0,0,m,none,img,x,none⟩ cM x5 k l v
 |[],_,_=>rfl
 |y::r,k,v=>by
  unfold lg;rw[Zx3,SH cM x5 r (k+1) v];cases nP ⟨0,0,0,m,none,img,x,none⟩ y ((x5*16+k)*7) v with
  |none=>rfl
  |some v'=>simp only[SH cM x5 r (k+1) v']
theorem SO (cM:Int): ∀(l:ak) (k:Int) (v:bj),pG ⟨w,i,j,m,a,img,x,pc⟩ cM k l v=pG ⟨0,0,0,m,none,img,x,none⟩ cM k l v
 |[],_,_=>rfl
 |y::r,k,v=>by
  unfold pG;rw[show dN ⟨w,i,j,m,a,img,x,pc⟩ y v=dN ⟨0,0,0,m,none,img,x,none⟩ y v from rfl,SO cM r (k+1) v];cases dN ⟨0,0,0,m,none,img,x,none⟩ y v with
  |none=>rfl
  |some q=>
   obtain⟨b,v1⟩:=q;cases b<;>try rfl
   rename_i z;simp only[SH];cases lg ⟨0,0,0,m,none,img,x,none⟩ cM k 0 z v1 with
   |none=>rfl
   |some v2=>simp only[SO cM r (k+1) v2]
theorem Zw0 (v:bj):qu ⟨w,i,j,m,a,img,x,pc⟩ v=qu ⟨0,0,0,m,none,img,x,none⟩ v:=by
 unfold qu;rw[show dN ⟨w,i,j,m,a,img,x,pc⟩ x.cc v=dN ⟨0,0,0,m,none,img,x,none⟩ x.cc v from rfl];cases dN ⟨0,0,0,m,none,img,x,none⟩ x.cc v with
 |none=>rfl
 |some q=>
  obtain⟨b,v1⟩:=q;cases b<;>try rfl
  simp only[SO]
theorem ZrF: ∀(f:Nat) (fl:List Bool) (k:Int) (v:bj),qm ⟨w,i,j,m,a,img,x,pc⟩ f fl k v=qm ⟨0,0,0,m,none,img,x,none⟩ f fl k v
 |0,_,_,_=>rfl
 |f+1,fl,k,v=>by
  unfold qm;cases v.aK[(k-1).toNat]? with
  |none=>rfl
  |some y=>simp only[ZrF f]
theorem ZqO: ∀(l:List bA) (fl:List Bool),vv ⟨w,i,j,m,a,img,x,pc⟩ fl l=vv ⟨0,0,0,m,none,img,x,none⟩ fl l
 |[],_=>by unfold vv;rfl
 |y::r,fl=>by
  unfold vv;rw[ZqO r];rfl
theorem ZxL (v:bj):uD ⟨w,i,j,m,a,img,x,pc⟩ v=uD ⟨0,0,0,m,none,img,x,none⟩ v:=by
 unfold uD;rw[ZrF];simp only;cases qm ⟨0,0,0,m,none,img,x,none⟩ (x.used.toNat+1) (List.replicate x.used.toNat false) x.free v with
 |none=>rfl
 |some q=>unfold Cp;simp only[ZqO]
theorem ZrY: ∀(f:Nat) (out:List bh) (todo:List nz) (v:bj),j3 ⟨w,i,j,m,a,img,x,pc⟩ f out todo v=j3 ⟨0,0,0,m,none,img,x,none⟩ f out todo v
 |0,_,_,_=>rfl
 |f+1,out,[],v=>rfl
 |f+1,out,t::r,v=>by
  unfold j3;rw[show dN ⟨w,i,j,m,a,img,x,pc⟩ t.block v=dN ⟨0,0,0,m,none,img,x,none⟩ t.block v from rfl];cases dN ⟨0,0,0,m,none,img,x,none⟩ t.block v with
  |none=>rfl
  |some q=>
   obtain⟨b,v1⟩:=q;cases b<;>try rfl
   rename_i z;simp only[ZrY f];rfl
theorem R8: ∀(l:ak) (k:Int) (acc:List bh) (v:bj),mN ⟨w,i,j,m,a,img,x,pc⟩ k l acc v=mN ⟨0,0,0,m,none,img,x,none⟩ k l acc v
 |[],_,_,_=>rfl
 |y::r,k,acc,v=>by
  unfold mN;rw[show sH ⟨w,i,j,m,a,img,x,pc⟩ y k v=sH ⟨0,0,0,m,none,img,x,none⟩ y k v from ZrY w i j m a img x pc _ _ _ _,R8 r (k+1) acc v];cases sH ⟨0,0,0,m,none,img,x,none⟩ y k v with
  |none=>rfl
  |some q=>
   obtain⟨es,v1⟩:=q;simp only[R8 r (k+1)]
theorem Zs9: ∀(l:ak) (k:Nat) (v:bj),vD ⟨w,i,j,m,a,img,x,pc⟩ k l v=vD ⟨0,0,0,m,none,img,x,none⟩ k l v
 |[],_,_=>rfl
 |y::r,k,v=>by
  unfold vD;rw[show dN ⟨w,i,j,m,a,img,x,pc⟩ y v=dN ⟨0,0,0,m,none,img,x,none⟩ y v from rfl];cases dN ⟨0,0,0,m,none,img,x,none⟩ y v with
  |none=>rfl
  |some q=>
   obtain⟨b,v1⟩:=q;cases b<;>try rfl
   rename_i z;simp only[R8];cases mN ⟨0,0,0,m,none,img,x,none⟩ 0 z.df [] v1 with
   |none=>rfl
   |some q=>
    obtain⟨es,v2⟩:=q;simp only[Zs9 r (k+1)]
theorem ZuQ (v:bj):sY ⟨w,i,j,m,a,img,x,pc⟩ v=sY ⟨0,0,0,m,none,img,x,none⟩ v:=by
 unfold sY;rw[show dN ⟨w,i,j,m,a,img,x,pc⟩ x.dir v=dN ⟨0,0,0,m,none,img,x,none⟩ x.dir v from rfl];cases dN ⟨0,0,0,m,none,img,x,none⟩ x.dir v with
 |none=>rfl
 |some q=>
  obtain⟨b,v1⟩:=q;cases b<;>try rfl
  simp only[Zs9]
theorem Zx4:ve ⟨w,i,j,m,a,img,x,pc⟩=ve ⟨0,0,0,m,none,img,x,none⟩:=by
 unfold ve;simp only[Zw0 w i j m a img x pc,ZxL w i j m a img x pc,ZuQ w i j m a img x pc]
end
theorem Zua (K:bV) (h:K.m=K.sup.blocks.toNat):oW K=oW (mH K.img K.sup):=by
 obtain⟨w,i,j,m,a,img,sup,pc⟩:=K;simp only at h;subst h;unfold oW;rw[Zx4];rfl
theorem PA (n:Nat) (a:ai) (img:aj) (x:eC) (pc:ai) (s:St) (ha:dz s a img) (hc:Sl s pc (ints x.aO)) (hl:img.length<1000000) (cL:x.aO.length<1000) (hn:5000<=n:=by omega):
  Ok (Xl s x.blocks.toNat x (oW (mH img x))) (run Bd n 171 [.slice 1 a img.length,.agg (dS x pc)] s):=by
 obtain⟨K,h1,h2,h3,h4⟩:=Zq4 n a img x pc s ha hc hl cL hn;rw[Zua K (by rw[h1,h3]),h2,h3]at h4;exact h4
end Go.Gv.F
