/- The walker's trees: what they are, no program in sight. -/
import Derived.Test.YtjcghijjmhhldaaGreatDoorGvZMb
set_option linter.all false
namespace Go.Gv.F
open Go.Gv
structure nU where
 block:Int
 me:Int
 par:eL
 top:Bool
def qz (x:lU) (n:Nat):List nU:=((List.range n).map λi=>(⟨x.kids.getD i 0,i,x.du,false⟩:nU)).reverse
theorem Zq8 (x:lU) (n:Nat):qz x (n+1)=⟨x.kids.getD n 0,n,x.du,false⟩::qz x n:=by
 simp[qz,lN,fb,List.reverse_append]
def Bm (v:bu) (e:eL) (k:Int):Bool:=match v.aR[e.slot.toNat]? with
 |none=>false
 |some x=>(x.live==true)&&((x.gen==e.gen)&&((x.block==k)&&true))
def yg (K:cg) (v:bu) (t:nU) (x:lU):Bool:=
 (bif (x.kids.length:Int)==t.me then(bif t.top then true else yB t.par x.du)else false)&&
 (bif decide (x.du.slot<K.sup.used)then Bm v x.du t.block else false)
def pV (K:cg):Nat->List eL->List nU->bu->Option (List eL×bu)
 |0,_,_,_=>none
 |_+1,out,[],v=>some (out,v)
 |f+1,out,t::r,v=>match dy K t.block v with
  |some (.node x,v')=>bif yg K v' t x then pV K f (out++[x.du]) (qz x x.kids.length++r) { v' with nodes:=v'.nodes+1 } else none
  |_=>none
def Fq:eL:=⟨0,0,0,0⟩
def tY (K:cg) (k me:Int) (v:bu):Option (List eL×bu):=pV K (K.m+1) [] [⟨k,me,Fq,true⟩] v
def room (m:Nat) (W:al):Nat:=(List.range m).countP λb=> !ey W b
theorem ZnD {P Q:Nat->Bool} : ∀ {l:al} {k:Nat},(∀b,Q b=true->P b=true)->k∈l->P k=true->Q k=false->l.countP Q+1<=l.countP P
 |[],_,_,h,_,_=>by cases h
 |a::l,k,hm,h,hp,hq=>by
  rw[List.countP_cons,List.countP_cons];rcases dR.1 h with rfl|h
  .rw[hp,hq]
   have:=List.countP_mono_left (l:=l) (p:=Q) (q:=P) λb _ hb=>hm b hb
   simp;omega
  .have:=ZnD hm h hp hq
   grind
theorem ZqE (m:Nat) (W:al):room m W<=m:=by
 unfold room;exact fF (List.countP_le_length) Do
variable {f:Bool} {e e' r r':DV} {k n slot:Int} {i lim m p sz:Nat} {s s' s0:St} {A A' all:af} {l:aj} {T:al} {v v':bu} {K:cg}
theorem K8 {W:al} (hl:W.length=(m+63)/64) (h:uN m W k=true):room m (ej m W k)+1<=room m W:=by
 unfold uN at h;rw[aZ,aZ]at h;have⟨_,hm,hi⟩:=h;have lC:=hm;unfold iY at lC;rw[aZ,bD,bD]at lC;refine ZnD (k:=k.toNat) (λb hb=>?_) (vw.2 AC) hi ?_
 .rw[ym hl]at hb
  rw[nN]at hb⊢;rw[xk]at hb;exact hb.1
 .rw[ym hl,hm]
  simp
theorem yq {b:vC} (h:dy K k v=some (b,v')):uN K.m v.W k=true/\v'.W=ej K.m v.W k:=by
 grind[dy]
def xG (v:bu) (e:eL):Prop:=0<=e.slot/\∃(x:eR) (k:Nat),v.aR[e.slot.toNat]? =some x/\x.block=(k:Int)/\ey v.W k=true
def Diff (l:List eL):Prop:=l.Pairwise λa b=>a.slot≠b.slot
theorem ZpW {x:lU} (h:lx l= .node x):rk x=true/\x.kids.length<=12:=by
 unfold lx at h;split at h
 .rename_i e;cases h;exact La e
 grind
theorem ZkK {x:lU} (h:rk x=true):0<=x.du.slot/\x.du.slot<1792:=by
 grind[rk]
theorem KD {K:cg} : ∀ {f:Nat} {acc out CM:List eL} {todo:List nU} {v v':bu},v.W.length=(K.m+63)/64->pV K f out todo v=some (CM,v')->(∀e∈acc++out,xG v e)->Diff (acc++out)->(∀e∈acc++CM,xG v' e)/\Diff (acc++CM)/\v'.W.length=(K.m+63)/64/\(∀k,ey v.W k=true->ey v'.W k=true)/\v'.aR=v.aR/\v'.bI=v.bI/\v'.dp=v.dp/\v'.free=v.free
 |0,_,_,_,_,_,_,_,h,_,_=>by cases h
 |f+1,acc,out,CM,[],v,v',hl,h,h1,h2=>by cases h;grind
 |f+1,acc,out,CM,t::r,v,v',hl,h,h1,h2=>by
  unfold pV at h;cases ht:dy K t.block v with
  |none=>rw[ht]at h;cases h
  |some q=>
   have⟨b,v1⟩:=q;rw[ht]at h;have⟨g1,g2,g3,g4,g5,g6⟩:=ZZ ht;have⟨g7,g8⟩:=yq ht;cases b with
   |leaf x=>cases h
   |de x=>cases h
   |queue x=>cases h
   |dir x=>cases h
   |none=>cases h
   |node x=>
    simp only at h;cases hf:yg K v1 t x with
    |false=>rw[hf]at h;cases h
    |true=>
     rw[hf,aa]at h;have wH: ∀k,ey v.W k=true->ey v1.W k=true:=λk hk=>by rw[g8,ym hl,hk];rfl
     have zi:v1.W.length=(K.m+63)/64:=by rw[g8,vT];exact hl
     have nn:=g7;unfold uN at nn;rw[aZ,aZ,bD]at nn;have⟨fQ,BX,hki⟩:=nn;have Qw:=(ZkK (ZpW g6.symm).1).1;unfold yg at hf;rw[aZ]at hf;have zy:Bm v1 x.du t.block=true:=by
      grind
     unfold Bm at zy;cases tI:v1.aR[x.du.slot.toNat]? with
     |none=>rw[tI]at zy;cases zy
     |some y=>
      rw[tI]at zy;simp only[aZ,and_true]at zy;have⟨hy1,hy2,hy3⟩:=zy;have hyb:y.block=(t.block.toNat:Int):=by rw[eq_of_beq hy3];omega
      have hold: ∀e∈acc++out,xG v1 e:=λe he=>by
       have⟨a1,z,k,a2,a3,a4⟩:=h1 e he;exact⟨a1,z,k,by rw[g1];exact a2,a3,wH k a4⟩
      have gB:xG v1 x.du:=⟨Qw,y,t.block.toNat,tI,hyb,by
       rw[g8,ym hl,BX];simp⟩
      have U3: ∀e∈acc++out,e.slot≠x.du.slot:=λe he heq=>by
       have⟨a1,z,k,a2,a3,a4⟩:=h1 e he;rw[heq,<-g1,tI]at a2;grind
      have key:=KD (acc:=acc) (v:= { v1 with nodes:=v1.nodes+1 }) zi h (λe he=>by
       rw[<-gX]at he;rcases nQ.1 he with he|he
       .exact hold e he
       .rw[cA.1 he];exact gB) (by
       unfold Diff;rw[<-gX,List.pairwise_append];refine⟨h2,List.pairwise_singleton _ _,λa ha b hb=>?_⟩;rw[cA.1 hb];exact U3 a ha)
      grind
variable {β:Type}
variable {K:cg} {s:St} {v:bu} {L:al} {z1 z2 z3 z4:Nat} {p1 p2 p3 p4:ah} {hd:af}
def iQ (s:St) (a:ah) (cs:af):Prop:=(a=none/\cs=[])\/∃b rest,a=some (b,0)/\s[b]? =some (some ⟨false,cs++rest⟩)
theorem iQ.fx {a:ah} {cs:af} (h:iQ s a cs) (k:Fx T s s') (n: ∀b∈aC a,b∉T):iQ s' a cs:=by
 rcases h with h1|⟨i,r,rfl,h3⟩
 .exact .inl h1
 .exact .inr ⟨i,r,rfl,k.2 i _ (n i (by simp[aC])) h3⟩
theorem iQ.lt {a:ah} {cs:af} (h:iQ s a cs): ∀b∈aC a,b<s.length:=by
 rcases h with⟨rfl,_⟩|⟨i,r,rfl,h3⟩
 .intro b hb;cases hb
 .intro b hb;rw[cA.1 hb];grind
theorem Zr5 {a:ah} {cs:af} (h:iQ s a cs) {n:Nat} (ds:af) (hz:0<sz) (hn:cs.length=n*sz) (hd:ds.length=sz) (hl:n+1<=lim:=by omega):
  ∃b s',s.length<=b/\s'[b]? =some (some ⟨false,cs++ds⟩)/\Fx (aC a) s s'/\Kp s s'/\∀K:ah->M β,(bH ds λi=>bP i 0 sz λcs'=>cB sz a n cs' 1 lim K) s=K (some (b,0)) s':=by
 rcases h with⟨rfl,rfl⟩|⟨i,rest,rfl,hs⟩
 .have⟨b,s',h1,h2,h3,h4,h5⟩:=bn.GM (β:=β) (s0:=[]) (s:=s) (a:=none) (cs:=[]) (bn.nil ⟨s,rfl⟩) ds hz hn hd hl
  rcases h2.2 with⟨e,_⟩|⟨i,e,_,h6⟩
  .cases e
  .cases e
   exact⟨b,s',h1,h6,⟨by have:=(cF.1 h6).1;omega,λi x _ e=>h4 i x e (λo e=>by cases e)⟩,h3,h5⟩
 .have kW:i<s.length:=Fd
  have j3:(s++[some (⟨false,ds⟩:aH)])[i]? =some (some (⟨false,cs++rest⟩:aH)):=by rw[lj kW];exact hs
  have cX:(s++[some (⟨false,ds⟩:aH)]).fJ i=some (cs++rest):=by grind[St.fJ]
  have hb:Nat.beq 1 0=false:=rfl;refine⟨s.length+1,(s++[some (⟨false,ds⟩:aH)]).set i none++[some (⟨false,cs++ds⟩:aH)],AC,?_,⟨by simp;omega,λy x hy e=>?_⟩,(ax.new _ _).kp.trans ((Kp.set j3 none).trans (ax.new _ _).kp),λK=>?_⟩
  .rw[iO Do];simp
  .have hyl:=(cF.1 e).1
   have cS:i≠y:=λe=>hy (by simp[aC,e])
   rw[lj (by simp;omega),cz cS,lj hyl];exact e
  .rw[Zv,ZM (f:=false) (all:=ds) Do AC,eG,dJ AC]
   unfold cB;simp only[hb,fE hl,aa,ae,cX];rw[ei,fE (by rw[cq];omega),aa,eG,<-hn,xz];simp
theorem di.Wq (h:di K s v L z1 p1 z2 p2 z3 p3 z4 p4 hd) (x:Int):
  ∃s',(∀Kc:M β,bB K.w 18 [.i x] Kc s=Kc s')/\di K s' { v with nodes:=x } L z1 p1 z2 p2 z3 p3 z4 p4 hd/\Fx [K.w] s s'/\Kp s s':=by
 have cS:=h.ne;have cH:=Fx.set s K.w (some (⟨false,mK K { v with nodes:=x } (cM z1 p1 v.aR.length) (cM z2 p2 v.bI.length) (cM z3 p3 v.dp.length) (cM z4 p4 v.free.length)⟩:aH));have lB:=cH.mono (T':=L) λy hy=>by rw[cA.1 hy];exact h.wY
 refine⟨_,λKc=>?_,⟨?_,h.e1,h.e2,h.e3,h.e4,h.o1.fx cH λb hb=>?_,h.o2.fx cH λb hb=>?_,h.o3.fx cH λb hb=>?_,h.o4.fx cH λb hb=>?_,h.bI.fx lB (Nw.refl L s),h.set.fx cH (by simpa using cS.1.symm) Fd,Sl.fx h.aM lB h.off,h.off,h.own,h.nodup⟩,cH,Kp.set h.cell _⟩
 .rw[Zs h.cell (by show 18<19;omega)]
  rfl
 .exact eJ (cF.1 h.cell).1
 all_goals simpa using Fd
def yv (t:nU):af:=[.i t.block,.i t.me,.i t.par.slot,.i t.par.gen,.i t.par.key,.i t.par.value,.bool t.top]
def j5 (l:List nU):af:=(l.map yv).flatten
theorem Ef (l:List nU):(j5 l).length=l.length*7:=by
 unfold j5;induction l with
 |nil=>rfl
 |cons e l ih=>rw[pC,zZ,cq,ih,eK];show 7+_=_;omega
theorem Znj (l m:List nU):j5 (l++m)=j5 l++j5 m:=by simp[j5]
theorem KP (x:lU) (n:Nat):(qz x n).length=n:=by unfold qz;simp
theorem Zto {Kn:af->M af} {Q:Out af×St->Prop} (n:Nat) (WO:s.length=s.length) (x:lU) (px:ah) (r:List nU) (t0:St) (tR:ah) (hx:Fz t0 px (ints x.kids)) (QC:x.kids.length<=12) (ho:iQ t0 tR (j5 r.reverse)) (hr:r.length<100000) (fA: ∀b∈aC tR,s.length<=b) (eD:s.length<=t0.length) (hn:20<=n)
  (hK: ∀t pT z,(z=7\/pT=none)->iQ t pT (j5 (qz x x.kids.length++r).reverse)->(∀b∈aC pT,s.length<=b/\(b∈aC tR\/t0.length<=b))->Fx (aC tR) t0 t->Ok Q (Kn [.slice z pT (r.length+x.kids.length)] t)) (z0:Nat) (zD:z0=7\/tR=none):
  Ok Q (dL (λgv st=>
      cj 7 st λC7 xh st=>
      az .i64 st λgM st=>
      aL st<|
      bif decide (gM<(x.kids.length:Int))then
       aF px λi6 o4=>
      aJ (bL gM x.kids.length)<|
      bc i6 (gM.toNat*1+o4) λd3=>
      dj .i64 d3 λjc=>
      bH [.i jc,.i gM,.i x.du.slot,.i x.du.gen,.i x.du.key,.i x.du.value,.bool false] λi7=>
      bP i7 0 7 λiu=>
      cB 7 C7 xh iu 1 1256584717458 λp1=>
      gv [.slice 7 p1 (xh+1),.i (aq (gM+1))]
      else
       Kn [.slice 7 C7 xh]) n [.slice z0 tR r.length,.i 0] t0):=by
 refine Zn _ (λq y t=>∃(i z:Nat) (pT:ah),y=[.slice z pT (r.length+i),.i i]/\(z=7\/pT=none)/\i<=x.kids.length/\x.kids.length-i<=q/\iQ t pT (j5 (qz x i++r).reverse)/\(∀b∈aC pT,s.length<=b/\(b∈aC tR\/t0.length<=b))/\Fx (aC tR) t0 t/\Fz t px (ints x.kids)) ?_ x.kids.length n _ _ ⟨0,z0,tR,rfl,zD,eB _,AC,ho,Fd,.refl _ _,hx⟩ AC;rintro q _ t ⟨i,z,pT,rfl,hz,hi,hq,hoT,FT,cH,wU⟩ rec aQ;simp only[ar,Zr 7 z pT _ hz,ao];by_cases aw:i<x.kids.length
 .obtain⟨i1,o1,rfl⟩:=wU.1.dP (by simp[ints];omega)
  rw[aI (AC:(i:Int)<(x.kids.length:Int)),aa,aD,Zg (Zo aw),bw,wU.1.fj (ZN aw),bm];have hl7:(j5 (qz x i++r).reverse).length=(r.length+i)*7:=by rw[Ef,List.length_reverse,cq,KP];omega
  have⟨b,t1,g1,g2,g3,g4,g5⟩:=Zr5 (β:=af) hoT (sz:=7) (n:=r.length+i) (lim:=1256584717458) (yv ⟨x.kids[i],i,x.du,false⟩) AC hl7 rfl;refine Eq.mpr (congrArg (Ok _) (g5 _)) ?_;have nz:aq ((i:Int)+1)=((i+1:Nat):Int):=Zc;rw[nz];refine aQ (x.kids.length-(i+1)) _ _ AC ⟨i+1,7,some (b,0),rfl,.inl rfl,AC,aW _,.inr ⟨b,[],rfl,?_⟩,?_,?_,wU.kp g4⟩
  .rw[g2,gE,Zq8,qN,List.reverse_cons,Znj]
   have:x.kids.getD i 0=x.kids[i]:=by rw[gF,dt aw];rfl
   rw[this];simp[j5]
  .intro y hy
   rw[cA.1 hy];have:=cH.1;omega
  .exact cH.step g3 λy hy=>(FT y hy).2
 .rw[aK (AC:¬(i:Int)<(x.kids.length:Int)),ae]
  have:i=x.kids.length:=AC
  subst this;grind
theorem Zrv {Bd:Ze} (h:xK Bd) (n:Nat) (hn:8<=n) (a b:eL) (st:St):
  Ok (λo=>∃z s',o=(.val [.i z],s')/\ax st s'/\decide (z<0)=yB a b) (run Bd n 159 [.agg (qd a),.agg (qd b)] st):=by
 refine(Pv h n hn a b st).mono ?_;rintro _ ⟨z,s',rfl,hp,e⟩;grind
variable {Q:Out β×St->Prop}
theorem Ok.join {f:af->M β} {g:(af->M β)->M β} (h: ∀jk,jk=f->Ok Q (g jk s)):Ok Q (dU f g s):=by rw[Zi];exact h f rfl
theorem ZsO (pn:M β) (x:lU) (px:ah) (Kc:Int->Int->Int->Int->ah->Nat->M β):oK pn (.iface 6 (.agg (wZ x 1 px))) 6 (λd=>nZ d λbM=>az .i64 bM λx8 r=>az .i64 r λx9 r=>az .i64 r λdr r=>az .i64 r λfa r=>cj 1 r λgD kE r=>aL r<|Kc x8 x9 dr fa gD kE)=Kc x.du.slot x.du.gen x.du.key x.du.value px x.kids.length:=rfl
def Dt (K:cg) (s:St) (v:bu) (L:al) (z1:Nat) (p1:ah) (z2:Nat) (p2:ah) (z3:Nat) (p3:ah) (z4:Nat) (p4:ah) (hd:af) (R:Option (List eL×bu)) (o:Out af×St):Prop:=match R with
 |none=>∃s',o=(.dM,s')/\Fx L s s'
 |some (out,v')=>∃p z s',o=(.val [.slice z p out.length],s')/\(z=4\/p=none)/\di K s' v' L z1 p1 z2 p2 z3 p3 z4 p4 hd/\Fx L s s'/\iQ s' p (eY out)/\(∀b∈aC p,s.length<=b)/\v'.nodes+(room K.m v'.W:Nat)<=v.nodes+(room K.m v.W:Nat)/\v.nodes<=v'.nodes/\out.length<=4000
theorem di.GB (h:di K s v L z1 p1 z2 p2 z3 p3 z4 p4 hd) (h0:mS s0 L hd v.bI) (hl: ∀x∈L,x<s0.length) (ha: ∀b o,K.a=some (b,o)->b<s0.length) (k0:Fx L s0 s) (k:Fx T s s') (hT: ∀x∈T,s0.length<=x):di K s' v L z1 p1 z2 p2 z3 p3 z4 p4 hd/\Fx L s0 s':=by
 have hf:Fx L s0 s':=k0.step k λx hx=> .inr (hT x hx)
 exact⟨h.gU k Fd (λb o e hm=>by have:=ha b o e;have:=hT b hm;omega) (h0.fx hf (Nw.refl L s0)),hf⟩
theorem Ztu {Bd:Ze} (h:HA Bd) (n:Nat) (hK:vK K) (k me:Int) (hW:di K s v L z1 p1 z2 p2 z3 p3 z4 p4 hd) (h0:0<=K.sup.used) (h1:K.sup.used<=1792) (hs:(v.aR.length:Int)=K.sup.used) (jC:0<=v.nodes) (hnr:v.nodes+(room K.m v.W:Nat)<=5000) (hm:K.m<=3072) (hn:4010<=n):
  Ok (Dt K s v L z1 p1 z2 p2 z3 p3 z4 p4 hd (tY K k me v)) (run Bd n 233 [.ptr (some (K.w,0)),.i k,.i me] s):=by
 obtain⟨n,rfl⟩: ∃k,n=k+2:=⟨n-2,AC⟩;rw[Zb,h.SH];unfold HQ uD ZoI oC sM aB C_ Zl bQ Zw N_ sY aX cP Lb Li tY;simp only[bF,ar,ao];rw[Zv];have wJ:=hW.lt;have y6: ∀b o,K.a=some (b,o)->b<s.length:=λb o e=>Sl.lt (e▸hW.aM)
 have jY:=ax.new s (some (⟨false,[DV.int .i64 k,.i me,.i 0,.i 0,.i 0,.i 0,.bool true]⟩:aH));have wx:(s++[some (⟨false,[DV.int .i64 k,.i me,.i 0,.i 0,.i 0,.i 0,.bool true]⟩:aH)])[s.length]? =some (some ⟨false,j5 [⟨k,me,Fq,true⟩]⟩):=by simp;rfl
 have yY:=hW.pre jY;generalize s++[some (⟨false,[DV.int .i64 k,.i me,.i 0,.i 0,.i 0,.i 0,.bool true]⟩:aH)]=s0 at jY wx yY;have⟨R,hR⟩: ∃R,pV K (K.m+1) [] [⟨k,me,Fq,true⟩] v=R:=⟨_,rfl⟩;rw[hR,Zi];have hrm:=ZqE K.m v.W;refine Zn _ (λq y t=>∃(f:Nat) (out:List eL) (todo:List nU) (u:bu) (zo:Nat) (po:ah) (zt:Nat) (pt:ah),y=[.slice zo po out.length,.slice zt pt todo.length]/\(zo=4\/po=none)/\(zt=7\/pt=none)/\room K.m u.W<=q/\room K.m u.W<f/\di K t u L z1 p1 z2 p2 z3 p3 z4 p4 hd/\u.aR=v.aR/\u.bI=v.bI/\Fx L s t/\iQ t po (eY out)/\iQ t pt (j5 todo.reverse)/\(∀b∈aC po,s.length<=b)/\(∀b∈aC pt,s.length<=b)/\(∀b∈aC po,b∉aC pt)/\v.nodes<=u.nodes/\u.nodes+(room K.m u.W:Nat)<=v.nodes+(room K.m v.W:Nat)/\out.length+room K.m u.W<=3072/\todo.length+12*room K.m u.W<=40000/\pV K f out todo u=R) ?_ (room K.m v.W) (n+1) _ _ ⟨K.m+1,[],[⟨k,me,Fq,true⟩],v,0,none,7,some (s.length,0),rfl,.inr rfl,.inl rfl,aW _,AC,yY,rfl,rfl,Fx.pre L jY,.inl ⟨rfl,rfl⟩,.inr ⟨s.length,[],rfl,by rw[gE];exact wx⟩,λ_ h=>(by cases h),λb hb=>by rw[cA.1 hb];exact aW _,λ_ h=>(by cases h),Int.le_refl _,Int.le_refl _,by simp;omega,by simp;omega,hR⟩ AC;rintro q _ t ⟨f,out,todo,u,zo,po,zt,pt,rfl,N9,hzt,hrq,hrf,cW,kY,oo,cH,Ga,hot,uR,FU,rH,B6,Ca,dY,wR,aO⟩ rec aQ;rw[Zr 4 zo po _ N9,Zr 7 zt pt _ hzt,ao];obtain⟨f,rfl⟩: ∃k,f=k+1:=⟨f-1,AC⟩;cases todo with
 |nil=>
  rw[show decide ((([]:List nU).length:Int)>0)=false from rfl,ae];simp only[bd,ao];unfold pV at aO;rw[Zh,<-aO];exact .mk ⟨po,4,t,rfl,.inl rfl,cW,cH,Ga,uR,Ca,B6,AC⟩
 |cons e r=>
  unfold pV at aO;rw[aI (Fd:(((e::r).length:Nat):Int)>0),aa,Zi];rcases hot with⟨_,hx⟩|⟨bt,rest,rfl,PH⟩
  .exfalso
   have:=congrArg List.length hx;rw[Ef]at this;simp at this
  have cD:aq ((((e::r).length:Nat):Int)-1)=(r.length:Int):=by
   have e3:((((e::r).length:Nat):Int)-1)=(r.length:Int):=Do
   have h9:r.length<100000:=AC
   rw[e3];exact Zc
  rw[cD,bw,aD,Zg (Zo Do)];have y7:j5 (e::r).reverse=j5 r.reverse++yv e:=by
   rw[List.reverse_cons,Znj];simp[j5]
  have BZ: ∀Kc:af->M af,bP bt (r.length*7+0) 7 Kc t=Kc (yv e) t:=λKc=>by
   rw[dK,ZM PH (by rw[cq,Ef,List.length_reverse,eK];omega),y7,show r.length*7=(j5 r.reverse).length by rw[Ef,List.length_reverse],gX,List.drop_left];rfl
  rw[BZ];unfold yv;simp only[ar,aA,ao];rw[Zg (by rw[aZ,bD,bD];simp;omega)];refine Ok.qb (cW.take h (n+1) e.block hK.m hK.yD hK.len AC) ?_ ?_
  .intro s' hp
   cases ht:dy K e.block u with
   |none=>rw[ht]at hp aO;cases hp;rw[<-aO];exact⟨t,rfl,cH⟩
   |some q=>rw[ht]at hp;have⟨d,s2,e,_⟩:=hp;cases e
  intro ds t1 hp;cases ht:dy K e.block u with
  |none=>rw[ht]at hp;cases hp
  |some q=>
   have⟨b,u1⟩:=q;rw[ht]at hp aO;have⟨d,s2,e2,fU,oW,hb⟩:=hp;cases e2;have⟨g1,g2,g3,g4,g5,g6⟩:=ZZ ht;have⟨g7,g8⟩:=yq ht;have Gf:=K8 cW.set.len g7;rw[<-g8]at Gf;have ku:Fx L s t1:=cH.trans (oW.mono λy hy=>by rw[cA.1 hy];exact cW.qB);rw[vF,ao];cases b with
   |leaf x=>obtain⟨rfl,_⟩:=hb;rw[<-aO];exact .mk ⟨t1,rfl,ku⟩
   |de x=>obtain⟨rfl,_⟩:=hb;rw[<-aO];exact .mk ⟨t1,rfl,ku⟩
   |queue x=>obtain⟨rfl,_⟩:=hb;rw[<-aO];exact .mk ⟨t1,rfl,ku⟩
   |dir x=>obtain⟨p,rfl,_⟩:=hb;rw[<-aO];exact .mk ⟨t1,rfl,ku⟩
   |none=>cases hb;rw[<-aO];exact .mk ⟨t1,rfl,ku⟩
   |node x=>
    obtain⟨px,rfl,Cx,hxr,QC⟩:=hb;simp only at aO;rw[ZsO];have Qw:=ZkK hxr;have oZ: ∀t',Fx L s t'->yg K u1 e x=false->Ok (Dt K s v L z1 p1 z2 p2 z3 p3 z4 p4 hd R) (some (.dM,t')):=λt' BR hf=>by
     rw[hf,ae]at aO;rw[<-aO];exact .mk ⟨t',rfl,BR⟩
    have⟨c1,fW⟩: ∃c1,(bif (x.kids.length:Int)==e.me then(bif e.top then true else yB e.par x.du)else false)=c1:=⟨_,rfl⟩;have⟨c2,jB⟩: ∃c2,(bif decide (x.du.slot<K.sup.used)then Bm u1 x.du e.block else false)=c2:=⟨_,rfl⟩;have Nc:yg K u1 e x=(c1&&c2):=by unfold yg;rw[fW,jB]
    refine Ok.join λbp Nu=>?_
    have hA: ∀t2,di K t2 u1 L z1 p1 z2 p2 z3 p3 z4 p4 hd->Fx L s t2->iQ t2 po (eY out)->iQ t2 (some (bt,0)) (j5 r.reverse)->Fz t2 px (ints x.kids)->Ok (Dt K s v L z1 p1 z2 p2 z3 p3 z4 p4 hd R) (bp [.bool c1] t2):=by
     intro t2 jT fX Vu Vy V1;rw[Nu];simp only[aA,ao];cases c1 with
     |false=>
      rw[ZS h n rfl];exact oZ t2 fX (by rw[Nc];rfl)
     |true=>
     rw[nW h n rfl,ao,aD,Zf jT.cell rfl,bm];refine Ok.join λbR Nv=>?_
     have hB:Ok (Dt K s v L z1 p1 z2 p2 z3 p3 z4 p4 hd R) (bR [.bool c2] t2):=by
      rw[Nv];simp only[aA,ao];cases c2 with
      |false=>
       rw[ZS h n rfl];exact oZ t2 fX (by rw[Nc];rfl)
      |true=>
      rw[nW h n rfl];rw[Nc,Bool.and_true,aa]at aO;simp only[ao,aD];rw[Zf jT.cell rfl,bm];have tL:aq (u1.nodes+1)=u1.nodes+1:=Zc (by rw[g5];omega) (by rw[g5];omega);rw[tL,ei];have⟨t3,e3,qf,fo,Vd⟩:=jT.Wq (β:=af) (u1.nodes+1);rw[e3];have mB:K.w∈L:=cW.wY;have PV:Fx L s t3:=fX.trans (fo.mono λy hy=>by rw[cA.1 hy];exact mB);have fA: ∀b,s.length<=b->b∉[K.w]:=λb hb hm=>by rw[cA.1 hm]at hb;have:=wJ _ mB;omega
      have Vv:=Vu.fx fo λb hb=>fA b (uR b hb)
      have Qi:=Vy.fx fo λb hb=>fA b (FU b hb)
      have V2:=V1.kp Vd;have⟨bo,t4,q1,q2,q3,q4,q5⟩:=Zr5 (β:=af) Vv (sz:=4) (n:=out.length) (lim:=2199023255552) (qd x.du) AC (pM _) rfl;refine Eq.mpr (congrArg (Ok _) (q5 _)) ?_;have hh0:mS s L hd u1.bI:=by rw[g2,oo];exact hW.bI
      have⟨kt,zc⟩:=qf.GB hh0 wJ y6 PV q3 uR;have Vz:=Qi.fx q3 λb hb hm=>rH b hm hb
      have V3:=V2.kp q4;have wQ:s.length<=t4.length:=zc.1;rw[Zi];refine Zto (s:=s) (n+1) rfl x px r t4 (some (bt,0)) V3 QC Vz (by simp at wR;omega) FU wQ AC (Kn:=λds=>cj 7 ds λOO OP st=>aL st<|cj 4 [.slice 4 (some (bo,0)) (out.length+1),.slice 7 OO OP] λw9 xb st=>cj 7 st λOM ON st=>aL st<|rec [.slice 4 w9 xb,.slice 7 OM ON]) ?_ 7 (.inl rfl);intro t5 pT z hz hT FT FY;rw[Zr 7 z pT _ hz,bd,ao];have PF:bo∉aC (some (bt,0)):=λhm=>by
       have:=iQ.lt Qi bo hm;omega
      have zx:=PV.1;have⟨yZ,U8⟩:=kt.GB hh0 wJ y6 zc FY FU;have WZ:bo<t4.length:=(cF.1 q2).1;refine aQ (room K.m u1.W) _ _ AC ⟨f,out++[x.du],qz x x.kids.length++r, { u1 with nodes:=u1.nodes+1 },4,some (bo,0),7,pT,?_,.inl rfl,.inl rfl,aW _,(AC:room K.m u1.W<f),yZ,by show u1.aR=_;rw[g1,kY],by show u1.bI=_;rw[g2,oo],U8,.inr ⟨bo,[],rfl,?_⟩,hT,λb hb=>?_,λb hb=>(FT b hb).1,λb hb hm=>?_,?_,?_,?_,?_,aO⟩
      .simp[KP,oz]
      .rw[gE,ZnL]
       have:=FY.2 bo _ PF q2;simpa [eY]using this
      .rw[cA.1 hb];omega
      .rw[cA.1 hb]at hm
       rcases(FT bo hm).2 with h5|h5
       .exact PF h5
       .omega
      .show v.nodes<=u1.nodes+1
       rw[g5];omega
      .show u1.nodes+1+_<=_
       rw[g5];show u.nodes+1+(room K.m u1.W:Nat)<=_;omega
      .show(out++[x.du]).length+room K.m u1.W<=_
       simp;omega
      .show(qz x x.kids.length++r).length+12*room K.m u1.W<=_
       rw[cq,KP];simp at wR;omega
     cases aw:decide (x.du.slot<K.sup.used)with
     |false=>
      rw[aw,ae]at jB;rw[ae,jB];exact hB
     |true=>
      rw[aw,aa]at jB;have zk:=oA aw;rw[aa,aD,Zf jT.cell rfl];show Ok _ (bJ 3 (.slice z1 p1 u1.aR.length) _ t2);rw[Zu 3 z1 p1 _ jT.e1];have Gn:u1.aR.length=v.aR.length:=by rw[g1,kY]
      have⟨ks,hks⟩: ∃ks:Nat,x.du.slot=ks:=⟨x.du.slot.toNat,AC⟩;have wI:ks<u1.aR.length:=by rw[Gn];omega
      obtain⟨bs,rfl,uT⟩:=jT.o1.dP (by rw[pP];omega);have mC:u1.aR[ks]? =some u1.aR[ks]:=dt wI;unfold Bm at jB;rw[hks,bw,mC]at jB;rw[aD,hks,Zg (Zo wI),bw,D5 uT mC];unfold iZ;simp only[aA,ar,ao];simp only at jB;rw[jB];exact hB
    have hjL:K.j∈L:=cW.qB;have hnj: ∀b,s.length<=b->b∉[K.j]:=λb hb hm=>by rw[cA.1 hm]at hb;have:=wJ _ hjL;omega
    have NI:=Ga.fx oW λb hb=>hnj b (uR b hb)
    have NK:iQ t1 (some (bt,0)) (j5 r.reverse):= .inr ⟨bt,yv e++rest,rfl,by
     rw[<-gX,<-y7];exact oW.2 bt _ (hnj bt (FU bt (by simp[aC]))) PH⟩
    cases wB:((x.kids.length:Int)==e.me)with
    |false=>
     rw[wB,ae]at fW;rw[ae,fW];exact hA t1 fU ku NI NK Cx
    |true=>
     rw[wB,aa]at fW;rw[aa];refine Ok.join λic P2=>?_
     cases htp:e.top with
     |true=>
      rw[htp,aa]at fW;rw[aa,P2];simp only[aA,ao];rw[fW];exact hA t1 fU ku NI NK Cx
     |false=>
      rw[htp,ae]at fW;rw[ae];refine Ok.call (Zrv h.V8 (n+1) AC e.par x.du t1) ?_;rintro _ ⟨z,t2,rfl,bC,e2⟩;refine⟨_,t2,rfl,?_⟩;rw[P2];simp only[ar,aA,ao];rw[e2,fW];exact hA t2 (fU.pre bC) (ku.trans (Fx.pre L bC)) (NI.fx (Fx.pre [] bC) λ_ _ h=>by cases h) (NK.fx (Fx.pre [] bC) λ_ _ h=>by cases h) (Cx.pre bC)
def e4 (e:eL):E4:=(e.slot,e.gen,e.key,e.value)
def un4 (x:E4):eL:=⟨x.1,x.2.1,x.2.2.1,x.2.2.2⟩
theorem Go.Gv.Pq: ∀(l:List eL),Go.Gv.tg (eY l)=some (l.map e4)
 |[]=>rfl
 |e::l=>by
  show(match Go.Gv.tg (eY l)with|some l=>some ((e.slot,e.gen,e.key,e.value)::l)|none=>none)=_;rw[Go.Gv.Pq l];rfl
theorem ZkO: ∀(l:List E4),jz l=eY (l.map un4)
 |[]=>rfl
 |x::l=>by
  show nh x++jz l=_;rw[ZkO l];rfl
def tV (l:List eL):List eL:=(ig (l.map e4)).map un4
theorem Znt (l:List eL):(tV l).length=l.length:=by simp[tV,dE,KV]
theorem ZsG {x y:E4} (h:x.1≠y.1):(eF x y||eF y x)=true:=by
 rw[kb,yl,yl];omega
theorem Zjm: ∀ {l:List eL},Diff l->wa (l.map e4)=true
 |[],_=>rfl
 |e::l,.cons h1 h2=>by
  show((l.map e4).all (λy=>eF (e4 e) y||eF y (e4 e))&&wa (l.map e4))=true;rw[Zjm h2,Bool.and_true,sD];intro y hy;obtain⟨z,hz,rfl⟩:=ox.1 hy;exact ZsG (h1 z hz)
variable {Bd:Ze} [h:HA Bd]
theorem Ztw (n:Nat) (l:List eL) (p:ah) (st:St) (hs:iQ st p (eY l)) (hd:Diff l) (hl:l.length<=1000000):
  ∃s',run Bd (n+1) 232 [.slice 4 p l.length,.func 159 [] []] st=some (.val [],s')/\iQ s' p (eY (tV l))/\Fx (aC p) st s':=by
 rw[Zb,h.SG];unfold AT;rcases hs with⟨rfl,hx⟩|⟨b,rest,rfl,hb⟩
 .have h0:l.length=0:=by
   have:=congrArg List.length hx;rw[pM,List.length_nil]at this;omega
  have h1:l=[]:=List.length_eq_zero_iff.1 h0;subst h1;exact⟨st,rfl,.inl ⟨rfl,rfl⟩,.refl _ _⟩
 .have cX:st.fJ b=some (eY l++rest):=by grind[St.fJ]
  simp only[cX];rw[fE (by rw[cq,pM];omega),aa,eG,<-pM,xz,Go.Gv.Pq];simp only[Zjm hd,fE hl,Bool.and_self,aa];have tI:jz (ig (l.map e4))=eY (tV l):=ZkO _;rw[tI];have iN:=rb [] (eY l) rest (eY (tV l)) (by rw[pM,pM,Znt]);rw[mN,mN]at iN;refine⟨_,rfl,.inr ⟨b,rest,rfl,?_⟩,Fx.set st b _⟩;rw[eJ (cF.1 hb).1];grind
def cN (x:db) (p:ah):af:=[.i x.seq,.i x.blocks,.i x.ef,.i x.g,.i x.de,.i x.used,.i x.free,.i x.dir,.slice 1 p x.bg.length]
def jE (x:db) (k:Int):Bool:=bif decide (k>=2)then decide (k<x.blocks)else false
def lZ (x:db):Bool:=(List.range x.bg.length).all λi=>jE x (x.bg.getD i 0)&& !decide (x.bg.getD i 0∈x.bg.take i)
def lV (x:db):Bool:=
 !(decide (x.seq<1)||(decide (x.seq>4611686018427387904)||(!kq x.blocks x.ef x.g||(decide (x.used<0)||(decide (x.used>x.ef)||(decide (x.free<0)||decide (x.free>x.used)))))))&&
 (!((bif x.used==0 then !(x.de==0)else false)||((bif decide (x.used>0)then !jE x x.de else false)||((bif !(x.dir==0)then !jE x x.dir else false)|| !((x.bg.length:Int)==sP x.blocks x.ef x.g))))&&lZ x)
theorem Zlh (n:Nat) (x:db) (p:ah) (b:Nat) (k:Int) (st:St) (hb:st[b]? =some (some ⟨false,cN x p⟩)):
  run Bd (n+1) 221 [.i k,.ptr (some (b,0))] st=some (.val [.bool (jE x k)],st):=by
 rw[Zb,h.Sw];unfold Ih ck aB Zl Lb jE
 try dsimp only
 rw[ar,bF,ao,Zi,aD];cases decide (k>=2)with
 |false=>rfl
 |true=>
  rw[aa,aa,Zf hb (d:= .i x.blocks) rfl];rfl
theorem Ib (n:Nat) (x:db) (p:ah) (st:St) (hs:Sl st p (ints x.bg)) (hl:x.bg.length<1000) (hn:x.bg.length+10<=n:=by omega):
  run Bd n 197 [.agg (cN x p)] st=some (.val [.bool (lV x)],st++[some ⟨false,cN x p⟩]):=by
 obtain⟨n,rfl⟩: ∃k,n=k+3:=⟨n-3,AC⟩;rw[Zb,h.Sf];unfold Jw ZQ Zl aB Q_ bY Zw bA oH bQ Lb Li gj p6 lV
 try dsimp only
 have hb:(st++[some (⟨false,cN x p⟩:aH)])[st.length]? =some (some ⟨false,cN x p⟩):=Do
 have ib:=hs.mono (ax.new st (some (⟨false,cN x p⟩:aH)));have FL:=λk=>Zlh (n+1) x p st.length k _ hb
 have ld: ∀(k:Nat) (d:DV),(cN x p)[k]? =some d->∀Kc:DV->M af,bc st.length k Kc (st++[some (⟨false,cN x p⟩:aH)])=Kc d (st++[some (⟨false,cN x p⟩:aH)]):=λk d e Kc=>Zf hb e Kc
 have Oh: ∀Kc:af->M af,bP st.length 1 3 Kc (st++[some (⟨false,cN x p⟩:aH)])=Kc [.i x.blocks,.i x.ef,.i x.g] (st++[some (⟨false,cN x p⟩:aH)]):=λKc=>by
  rw[ZM hb (by show 1+3<=9;omega)];rfl
 show bW [.agg (cN x p)] _ st=_;rw[cU];unfold cN;simp only[ar,bd,ao];rw[Zv];change _=some (Out.val _,st++[some (⟨false,cN x p⟩:aH)]);have tr:([.i x.seq,.i x.blocks,.i x.ef,.i x.g,.i x.de,.i x.used,.i x.free,.i x.dir,.slice 1 p x.bg.length]:af)=cN x p:=rfl;rw[tr];generalize (st++[some (⟨false,cN x p⟩:aH)])=s1 at hb ib FL ld Oh⊢;rw[ld 0 (.i x.seq) rfl,bm];refine ok_eq ?_;have⟨F1,hF1⟩: ∃F1,(decide (x.seq<1)||(decide (x.seq>4611686018427387904)||(!kq x.blocks x.ef x.g||(decide (x.used<0)||(decide (x.used>x.ef)||(decide (x.free<0)||decide (x.free>x.used)))))))=F1:=⟨_,rfl⟩;have⟨F2,hF2⟩: ∃F2,((bif x.used==0 then !(x.de==0)else false)||((bif decide (x.used>0)then !jE x x.de else false)||((bif !(x.dir==0)then !jE x x.dir else false)|| !((x.bg.length:Int)==sP x.blocks x.ef x.g))))=F2:=⟨_,rfl⟩;rw[hF1,hF2];refine Ok.join λav h1=>?_
 have A1: ∀b,(decide (x.seq<1)||decide (x.seq>4611686018427387904))=b->Ok (λp=>p=(Out.val [DV.bool (!F1&&(!F2&&lZ x))],s1)) (av [.bool b] s1):=by
  intro b1 e1;rw[h1];simp only[aA,ao];refine Ok.join λaG h2=>?_
  have A2: ∀b,(b1|| !kq x.blocks x.ef x.g)=b->Ok (λp=>p=(Out.val [DV.bool (!F1&&(!F2&&lZ x))],s1)) (aG [.bool b] s1):=by
   intro b2 e2;rw[h2];simp only[aA,ao];refine Ok.join λbp h3=>?_
   have A3: ∀b,(b2||decide (x.used<0))=b->Ok (λp=>p=(Out.val [DV.bool (!F1&&(!F2&&lZ x))],s1)) (bp [.bool b] s1):=by
    intro b3 e3;rw[h3];simp only[aA,ao];refine Ok.join λbR h4=>?_
    have A4: ∀b,(b3||decide (x.used>x.ef))=b->Ok (λp=>p=(Out.val [DV.bool (!F1&&(!F2&&lZ x))],s1)) (bR [.bool b] s1):=by
     intro b4 e4;rw[h4];simp only[aA,ao];refine Ok.join λdC h5=>?_
     have A5: ∀b,(b4||decide (x.free<0))=b->Ok (λp=>p=(Out.val [DV.bool (!F1&&(!F2&&lZ x))],s1)) (dC [.bool b] s1):=by
      intro b5 e5;rw[h5];simp only[aA,ao];refine Ok.join λic h6=>?_
      have A6: ∀b,(b5||decide (x.free>x.used))=b->Ok (λp=>p=(Out.val [DV.bool (!F1&&(!F2&&lZ x))],s1)) (ic [.bool b] s1):=by
       intro b6 e6;rw[h6];simp only[aA,ao];have hb6:F1=b6:=by rw[<-hF1,<-e6,<-e5,<-e4,<-e3,<-e2,<-e1];grind
       cases b6 with
       |true=>rw[aa,Zh,hb6];exact .mk rfl
       |false=>
        rw[ae,hb6,cy,ez,ld 5 (.i x.used) rfl,bm];refine Ok.join λpe h7=>?_
        have B7: ∀b,(bif x.used==0 then !(x.de==0)else false)=b->Ok (λp=>p=(Out.val [DV.bool (!F2&&lZ x)],s1)) (pe [.bool b] s1):=by
         intro b7 e7;rw[h7];simp only[aA,ao];refine Ok.join λGz h8=>?_
         have B8: ∀b,(b7||(bif decide (x.used>0)then !jE x x.de else false))=b->Ok (λp=>p=(Out.val [DV.bool (!F2&&lZ x)],s1)) (Gz [.bool b] s1):=by
          intro b8 e8;rw[h8];simp only[aA,ao];refine Ok.join λGA h9=>?_
          have B9: ∀b,(b8||(bif !(x.dir==0)then !jE x x.dir else false))=b->Ok (λp=>p=(Out.val [DV.bool (!F2&&lZ x)],s1)) (GA [.bool b] s1):=by
           intro b9 e9;rw[h9];simp only[aA,ao];refine Ok.join λGy FF=>?_
           have B10: ∀b,(b9|| !((x.bg.length:Int)==sP x.blocks x.ef x.g))=b->Ok (λp=>p=(Out.val [DV.bool (!F2&&lZ x)],s1)) (Gy [.bool b] s1):=by
            intro Fh rB;rw[FF];simp only[aA,ao];have PD:F2=Fh:=by rw[<-hF2,<-rB,<-e9,<-e8,<-e7];simp only[Bool.or_assoc]
            cases Fh with
            |true=>rw[aa,Zh,PD];exact .mk rfl
            |false=>
             rw[ae,PD,cy,ez,ld 8 (.slice 1 p x.bg.length) rfl,eH,Zi];refine Zn _ (λq y s=>∃i:Nat,y=[.i i]/\i<=x.bg.length/\x.bg.length-i<=q/\s=s1/\((List.range i).all λi=>jE x (x.bg.getD i 0)&& !decide (x.bg.getD i 0∈x.bg.take i))=true) ?_ x.bg.length (n+2) _ _ ⟨0,rfl,AC,AC,rfl,rfl⟩ AC;rintro q _ s ⟨i,rfl,hi,hq,rfl,gq⟩ rec aQ;simp only[ar,ao];by_cases aw:i<x.bg.length
             .obtain⟨i1,o1,rfl⟩:=ib.dP (by simp[ints];omega)
              rw[aI AC,aa,aD,Zg (Zo aw),bw,ib.fj (ZN aw),bm];have hw:aq ((i:Int)+1)=((i+1:Nat):Int):=Zc;have rM:x.bg.getD i 0=x.bg[i]:=by rw[gF,dt aw];rfl
              have dq:(jE x x.bg[i]&& !decide (x.bg[i]∈x.bg.take i))=false->lZ x=false:=λe=>List.all_eq_false.2 ⟨i,vw.2 aw,by rw[rM,e];decide⟩
              rw[Zj (FL x.bg[i])];simp only[aA,ao,Zi];cases hb:jE x x.bg[i]with
              |false=>
               rw[cy,aa,aa,Zh,dq (by rw[hb];rfl)];exact .mk rfl
              |true=>
               rw[bU,ae,ld 8 (.slice 1 (some (i1,o1)) x.bg.length) rfl,eH,Zg (by rw[aZ,bD,bD];omega)];have N2:(x.bg.take i).length=i:=by rw[dh];omega
               have bx:Sl s (some (i1,o1)) (ints (x.bg.take i)):=by
                have:=Sl.js ib i;rwa [show(ints x.bg).take i=ints (x.bg.take i) by unfold ints;rw[List.map_take]]at this
               have hc:=Zhm (n+2) (x.bg.take i) x.bg[i] _ s bx AC AC;rw[N2]at hc;rw[Zj hc,aA,ao];cases hm:decide (x.bg[i]∈x.bg.take i)with
               |true=>
                rw[aa,Zh,dq (by rw[hb,hm];rfl)];exact .mk rfl
               |false=>
                rw[ae,hw];refine aQ (x.bg.length-(i+1)) _ _ AC ⟨i+1,rfl,AC,aW _,rfl,?_⟩;rw[lN,uf,gq,vu,List.all_nil,rM,hb,hm];rfl
             .rw[aK AC,ae,Zh]
              rw[show i=x.bg.length by omega]at gq;unfold lZ;rw[gq];exact .mk rfl
           cases b9 with
           |true=>rw[aa];exact B10 true rfl
           |false=>
            rw[ae,ld 8 (.slice 1 p x.bg.length) rfl,eH,Oh];simp only[ar,ao];rw[sL (Zii n x.blocks x.ef x.g s1) (.refl s1),ar,ao];exact B10 _ rfl
          cases b8 with
          |true=>rw[aa];exact B9 true rfl
          |false=>
           rw[ae,ld 7 (.i x.dir) rfl,bm,Zi];cases hd:(!(x.dir==0))with
           |false=>rw[ae];simp only[aA,ao];exact B9 _ (by rw[hd];rfl)
           |true=>
            rw[aa,ld 7 (.i x.dir) rfl,bm,Zj (FL x.dir),aA,ao];exact B9 _ (by rw[hd];rfl)
         cases b7 with
         |true=>rw[aa];exact B8 true rfl
         |false=>
          rw[ae,ld 5 (.i x.used) rfl,bm,Zi];cases hd:decide (x.used>0)with
          |false=>rw[ae];simp only[aA,ao];exact B8 _ (by rw[hd];rfl)
          |true=>
           rw[aa,ld 4 (.i x.de) rfl,bm,Zj (FL x.de),aA,ao];exact B8 _ (by rw[hd];rfl)
        cases hu:(x.used==0)with
        |true=>rw[aa,ld 4 (.i x.de) rfl,bm];exact B7 _ (by rw[hu];rfl)
        |false=>rw[ae];exact B7 _ (by rw[hu];rfl)
      cases b5 with
      |true=>rw[aa];exact A6 true rfl
      |false=>rw[ae,ld 6 (.i x.free) rfl,bm,ld 5 (.i x.used) rfl,bm];exact A6 _ rfl
     cases b4 with
     |true=>rw[aa];exact A5 true rfl
     |false=>rw[ae,ld 6 (.i x.free) rfl,bm];exact A5 _ rfl
    cases b3 with
    |true=>rw[aa];exact A4 true rfl
    |false=>rw[ae,ld 5 (.i x.used) rfl,bm,ld 2 (.i x.ef) rfl,bm];exact A4 _ rfl
   cases b2 with
   |true=>rw[aa];exact A3 true rfl
   |false=>rw[ae,ld 5 (.i x.used) rfl,bm];exact A3 _ rfl
  cases b1 with
  |true=>rw[aa];exact A2 true rfl
  |false=>
   rw[ae,Oh];simp only[ar,ao];rw[Zj (Iy (n+1) x.blocks x.ef x.g s1),aA,ao];exact A2 _ rfl
 cases hc:decide (x.seq<1)with
 |true=>rw[aa];grind
 |false=>rw[ae,ld 0 (.i x.seq) rfl,bm];grind
def mV (K:cg):Int->ak->List eL->bu->Option (List eL×bu)
 |_,[],acc,v=>some (acc,v)
 |k,y::r,acc,v=>bif !(y==0)then(match tY K y k v with
   |none=>none
   |some (out,v')=>mV K (k+1) r (acc++out) v')else mV K (k+1) r acc v
def Fe (v:bu) (k:Nat) (nm:aj):Bool:=bif decide (k=0)then true else(match v.bI[k-1]? with
 |none=>false
 |some x=>decide (cmpL (fZ x.name) (fZ nm)<0))
def th (K:cg):Nat->ak->bu->Option bu
 |_,[],v=>some v
 |k,y::r,v=>match dy K y v with
  |some (.queue q,v1)=>bif Fe v1 k q.name then(match mV K 0 q.ia [] v1 with
   |none=>none
   |some (es,v2)=>th K (k+1) r { v2 with bI:=v2.bI++[⟨q.name,tV es⟩] })else none
  |_=>none
def pU (K:cg) (v:bu):Option bu:=bif K.sup.dir==0 then some v else(match dy K K.sup.dir v with
 |some (.dir x,v')=>th K 0 x v'
 |_=>none)
def xi (m:Nat):bu:=⟨nH m [0,1],[],[],[],[],0⟩
def ua (K:cg):Option bu:=match oJ K (xi K.m)with
 |none=>none
 |some v1=>match rF K v1 with
  |none=>none
  |some v2=>match pU K v2 with
   |none=>none
   |some v3=>bif decide ((CF v3:Int)=v3.nodes)then some (qA v3)else none
theorem D1 {K:cg} : ∀ {l:ak} {k:Int} {acc es:List eL} {v v':bu},v.W.length=(K.m+63)/64->mV K k l acc v=some (es,v')->(∀e∈acc,xG v e)->Diff acc->(∀e∈es,xG v' e)/\Diff es/\v'.W.length=(K.m+63)/64/\v'.aR=v.aR/\v'.bI=v.bI/\v'.dp=v.dp/\v'.free=v.free
 |[],_,_,_,_,_,hl,h,h1,h2=>by cases h;grind
 |y::r,k,acc,es,v,v',hl,h,h1,h2=>by
  unfold mV at h;cases hy:(!(y==0))with
  |false=>rw[hy,ae]at h;exact D1 hl h h1 h2
  |true=>
   rw[hy,aa]at h;cases ht:tY K y k v with
   |none=>rw[ht]at h;cases h
   |some q=>
    have⟨out,v1⟩:=q;rw[ht]at h;have⟨a1,a2,a3,_,a5,a6,a7,a8⟩:=KD (acc:=acc) hl ht (by simpa using h1) (by simpa using h2);have⟨b1,b2,b3,b4,b5,b6,b7⟩:=D1 a3 h a1 a2;grind
theorem Rn {a:ah} {cs:af} (h:iQ s a cs) {n:Nat} (ds:af) (hz:0<sz) (hn:cs.length=n*sz) (hd:ds.length=m*sz) (hl:n+m<=lim):
  ∃a' s',iQ s' a' (cs++ds)/\Fx (aC a) s s'/\Kp s s'/\(∀b∈aC a',b∈aC a\/s.length<=b)/\∀K:ah->M β,cB sz a n ds m lim K s=K a' s':=by
 by_cases hm:m=0
 .subst hm
  have:ds=[]:=Fd
  subst this;exact⟨a,s,by rwa [gE],.refl _ _,.refl _,λ_ h=> .inl h,λK=>rfl⟩
 .have hb:Nat.beq m 0=false:=by cases m with|zero=>exact absurd rfl hm|succ m=>rfl
  rcases h with⟨rfl,rfl⟩|⟨i,rest,rfl,hs⟩
  .have h0:n=0:=by
    rcases Ab.1 (show n*sz=0 by simpa using hn.symm)with h|h
    .exact h
    .omega
   subst h0;refine⟨some (s.length,0),s++[some (⟨false,ds⟩:aH)],.inr Do,Fx.pre _ (ax.new _ _),(ax.new _ _).kp,λb hb=> .inr (by rw[cA.1 hb];exact aW _),λK=>?_⟩;unfold cB;rw[hb,fE hl,aa,ae];rfl
  .have cX:s.fJ i=some (cs++rest):=by grind[St.fJ]
   refine⟨some (s.length,0),s.set i none++[some (⟨false,cs++ds⟩:aH)],.inr Do,⟨Do,λy x hy e=>?_⟩,(Kp.set hs none).trans (ax.new _ _).kp,λb hb=> .inr (by rw[cA.1 hb];exact aW _),λK=>?_⟩
   .have hyl:=(cF.1 e).1
    have cS:i≠y:=λe=>hy (by simp[aC,e])
    rw[lj (by simp;omega),cz cS];exact e
   .unfold cB
    simp only[hb,fE hl,aa,ae,cX];rw[ei,fE (by rw[cq];omega),aa,eG,<-hn,xz]
theorem Zs9 {Bd:Ze} (hT:HA Bd) (n:Nat) (hK:vK K) (nm:aj) (x:ak) (hx:x.length=12) (s0:St) (L0:al) (hW:di K s v L z1 p1 z2 p2 z3 p3 z4 p4 hd) (BO:Fx L0 s0 s) (zl:Nw L0 s0 L) (h0:0<=K.sup.used) (h1:K.sup.used<=1792) (hs:(v.aR.length:Int)=K.sup.used) (jC:0<=v.nodes) (hnr:v.nodes+(room K.m v.W:Nat)<=5000) (hm:K.m<=3072) (hn:4020<=n)
  (R:Option bu) (Kn:af->M af)
  (dq:mV K 0 x [] v=none->R=none)
  (aO: ∀es w,mV K 0 x [] v=some (es,w)->∀t p z,(z=4\/p=none)->di K t w L z1 p1 z2 p2 z3 p3 z4 p4 hd->Fx L s t->iQ t p (eY es)->(∀b∈aC p,s.length<=b)->w.nodes+(room K.m w.W:Nat)<=v.nodes+(room K.m v.W:Nat)->v.nodes<=w.nodes->es.length<=50000->Ok (mT K s0 L0 R []) (Kn [.agg [.str nm,.slice 4 p es.length]] t)):
  Ok (mT K s0 L0 R []) (dL (λgv st=>
      bW st λmc st=>
      gY mc λh2 r=>
      cj 4 r λh3 tn r=>
      aL r<|
      az .i64 st λdr st=>
      aL st<|
      bif decide (dr<12)then
       aJ (bL dr 12)<|
      fe (ints x) (dr.toNat*1) λd6=>
      dj .i64 d6 λfa=>
      dU (λst=>
       bW st λwo st=>
      gY wo λh4 r=>
      cj 4 r λh5 MQ r=>
      aL r<|
      aL st<|
      gv [.agg [.str h4,.slice 4 h5 MQ],.i (aq (dr+1))]) λdC=>
      bif !(fa==0)then
       cK (run Bd n 233 [.ptr (some (K.w,0)),.i fa,.i dr]) λds=>
      cj 4 ds λgD kE ds=>
      aL ds<|
      gJ gD (kE*4) λMF=>
      cB 4 h3 tn MF kE 2199023255552 λp1=>
      dC [.agg [.str h2,.slice 4 p1 (tn+kE)]]
      else
       dC [.agg [.str h2,.slice 4 h3 tn]]
      else
       Kn [.agg [.str h2,.slice 4 h3 tn]]) n [.agg [.str nm,.slice 0 none 0],.i 0] s):=by
 have wJ:=hW.lt;have y6: ∀b o,K.a=some (b,o)->b<s.length:=λb o e=>Sl.lt (e▸hW.aM)
 have⟨G,hG⟩: ∃G,mV K 0 x [] v=G:=⟨_,rfl⟩;rw[hG]at aO dq;refine Zn _ (λq y t=>∃(i:Nat) (acc:List eL) (u:bu) (z:Nat) (p:ah),y=[.agg [.str nm,.slice z p acc.length],.i i]/\(z=4\/p=none)/\i<=12/\12-i<=q/\di K t u L z1 p1 z2 p2 z3 p3 z4 p4 hd/\u.aR=v.aR/\u.bI=v.bI/\Fx L s t/\iQ t p (eY acc)/\(∀b∈aC p,s.length<=b)/\v.nodes<=u.nodes/\u.nodes+(room K.m u.W:Nat)<=v.nodes+(room K.m v.W:Nat)/\acc.length<=4000*i/\mV K i (x.drop i) acc u=G) ?_ 12 n _ _ ⟨0,[],v,0,none,rfl,.inr rfl,AC,AC,hW,rfl,rfl,.refl L s,.inl ⟨rfl,rfl⟩,λ_ h=>(by cases h),Int.le_refl _,Int.le_refl _,Do,by simpa using hG⟩ AC;rintro q _ t ⟨i,acc,u,z,p,rfl,hz,hi,hq,cW,kY,oo,cH,cX,uS,B6,Ca,tq,gA⟩ rec aQ;simp only[cU,fL,ar,Zr 4 z p _ hz,ao,Zi];by_cases aw:i<12
 .have jU:x.drop i=(x[i]' AC)::x.drop (i+1):=il AC
  rw[jU]at gA;rw[aI (AC:(i:Int)<12),aa,Zg (show bL (i:Int) 12=true from Zo aw),bw,cL,lq (ZN),bm];generalize x[i]' AC=y at gA;have hw:aq ((i:Int)+1)=((i+1:Nat):Int):=Zc;have oi:((i+1:Nat):Int)=(i:Int)+1:=AC
  rw[hw];unfold mV at gA;cases hy:(!(y==0))with
  |false=>
   rw[hy,ae]at gA;rw[ae];exact aQ (12-(i+1)) _ _ AC ⟨i+1,acc,u,4,p,rfl,.inl rfl,AC,aW _,cW,kY,oo,cH,cX,uS,B6,Ca,AC,by rw[oi];exact gA⟩
  |true=>
   rw[hy,aa]at gA;rw[aa];have mo:Fx L0 s0 t:=BO.step cH zl;refine Ok.qb (Ztu hT n hK y i cW h0 h1 (by rw[kY];exact hs) AC AC hm AC) ?_ ?_
   .intro t' hp
    cases ht:tY K y i u with
    |some q=>rw[ht]at hp;have⟨_,_,_,e,_⟩:=hp;cases e
    |none=>
     rw[ht]at hp gA;have⟨t2,e,BP⟩:=hp;cases e;rw[dq gA.symm];exact⟨t',rfl,mo.step BP zl⟩
   .intro ds t' hp
    cases ht:tY K y i u with
    |none=>rw[ht]at hp;have⟨_,e,_⟩:=hp;cases e
    |some q=>
     have⟨out,u1⟩:=q;rw[ht]at hp gA;have⟨po,zo,t2,e,N9,fU,oW,Ga,uR,Xe,Xd,dY⟩:=hp;cases e;simp only at gA;have⟨_,_,_,_,a5,a6,_,_⟩:=KD (acc:=[]) cW.set.len ht (λ_ h=>by cases h) .nil;rw[Zr 4 zo po _ N9,ao];have eD:Sl t' po (eY out):=by
      rcases Ga with⟨rfl,h2⟩|⟨b,rest,rfl,h2⟩
      .exact h2
      .exact⟨false,_,h2,by rw[cq];omega,by rw[eG,xz]⟩
     have dG:=kA (β:=af) eD;rw[pM]at dG;rw[dG];have Vx:=cX.fx oW λb hb B4=>by have:=wJ b B4;have:=uS b hb;omega
     have⟨pa,t3,b1,b2,b3,b4,b5⟩:=Rn (β:=af) Vx (sz:=4) (n:=acc.length) (m:=out.length) (lim:=2199023255552) (eY out) AC (pM _) (pM _) AC;rw[b5];have ku:Fx L s t':=cH.trans oW;have⟨qf,fo⟩:=fU.GB (by rw[a6,oo];exact hW.bI) wJ y6 ku b2 uS;refine aQ (12-(i+1)) _ _ AC ⟨i+1,acc++out,u1,4,pa,by rw[cq],.inl rfl,AC,aW _,qf,a5.trans kY,a6.trans oo,fo,by rw[ZnL];exact b1,λb hb=>?_,AC,AC,by rw[cq];omega,by rw[oi];exact gA⟩;rcases b4 b hb with h5|h5
     .exact uS b h5
     .have:=ku.1;omega
 .rw[aK (AC:¬(i:Int)<12),ae]
  rw[sE AC]at gA;exact aO acc u gA.symm t p 4 (.inl rfl) cW cH cX uS Ca B6 AC
theorem Zn7 {x:ri} (h:vN l=some x):x.name.length<=24/\yA x=true:=by
 unfold vN at h;split at h
 .cases h
 .rename_i k t b _
  cases e:(decide (k=5)&&(decide (t<=24)&&ZV (b.drop (28+t))))with
  |false=>rw[e]at h;cases h
  |true=>
   rw[e]at h;cases e2:yA (yj b t)with
   |false=>rw[e2]at h;cases h
   |true=>
    rw[e2]at h;cases h;rw[aZ,aZ,bD]at e;refine⟨?_,e2⟩;have:=oA e.2.1;show((b.drop 28).take t).length<=24;rw[dh];omega
theorem ZpD {x:ri} (h:lx l= .queue x):vN l=some x:=by
 grind[lx]
theorem Zr0 {b:vC} (h:dy K k v=some (b,v')):lx (mY K.aM k.toNat)=b:=by
 grind[dy]
theorem Ztg (pn:M β) (p:ah) (m:Nat) (Kc:ah->Nat->M β):oK pn (.iface 3 (.agg [.slice 1 p m])) 3 (λd=>nZ d λcs=>cj 1 cs λx xn r=>aL r<|Kc x xn)=Kc p m:=rfl
theorem Zsd (pn:M β) (q:ri) (Kc:aj->Int->af->M β):oK pn (.iface 4 (.agg (sW q))) 4 (λd=>nZ d λcs=>gY cs λx7 r1=>az .i64 r1 λx8 r2=>Kc x7 x8 r2)=Kc q.name q.mask (ints q.ia):=rfl
theorem ZoT {K:cg} : ∀ {l:ak} {k:Nat} {v v':bu},v.W.length=(K.m+63)/64->th K k l v=some v'->v'.aR=v.aR/\v'.dp=v.dp/\v'.free=v.free/\v'.bI.length=v.bI.length+l.length
 |[],_,_,_,_,h=>by cases h;simp
 |y::r,k,v,v',hl,h=>by
  unfold th at h;split at h
  .rename_i q v1 ht
   cases hn:Fe v1 k q.name with
   |false=>rw[hn]at h;cases h
   |true=>
    rw[hn,aa]at h;have⟨g1,g2,g3,g4,g5,g6⟩:=ZZ ht;split at h
    .cases h
    .rename_i es v2 hh
     have⟨_,_,b3,b4,b5,b6,b7⟩:=D1 (by rw[(yq ht).2,vT];exact hl) hh (λ_ h=>by cases h) .nil;have⟨c1,c2,c3,c4⟩:=ZoT (by exact b3) h;grind
  .cases h
theorem bn.GK {a:ah} {cs:af} (h:bn [] s a cs): ∀b∈aC a,∃c,s[b]? =some (some ⟨false,c⟩):=by
 rcases h.2 with⟨rfl,_⟩|⟨i,rfl,_,h3⟩
 .intro b hb;cases hb
 .intro b hb;rw[cA.1 hb];exact⟨_,h3⟩
theorem di.kp (h:di K s v L z1 p1 z2 p2 z3 p3 z4 p4 hd) (k:Fx L s s'):Kp s s':=by
 intro i all e;refine k.2 i _ (λhm=>?_) e;have ho: ∃c,s[i]? =some (some ⟨false,c⟩):=by
  rw[h.own]at hm;simp only[dR,nQ]at hm;rcases hm with rfl|rfl|rfl|hm|hm|hm|hm
  .exact⟨_,h.cell⟩
  .exact⟨_,h.set.hd⟩
  .exact⟨_,h.set.wd⟩
  .exact h.o1.GK i hm
  .exact h.o2.GK i hm
  .exact h.o3.GK i hm
  .exact h.o4.GK i hm
 grind
theorem Zsl (n:Nat) (hK:vK K) (hW:Wk K s v L) (h0:0<=K.sup.used) (h1:K.sup.used<=1792) (hs:(v.aR.length:Int)=K.sup.used) (jC:0<=v.nodes) (hnr:v.nodes+(room K.m v.W:Nat)<=5000) (hm:K.m<=3072) (hh:v.bI=[]) (hn:4030<=n):
  Ok (mT K s L (pU K v) []) (run Bd n 231 [.ptr (some (K.w,0))] s):=by
 obtain⟨n,rfl⟩: ∃k,n=k+2:=⟨n-2,AC⟩;rw[Zb,h.SF];unfold Ho ck Zl oC bG Q_ bY Zw aB C_ EZ bQ aX cP Li Lb kf
 try dsimp only
 have⟨R,hR⟩: ∃R,pU K v=R:=⟨_,rfl⟩;rw[hR];unfold pU at hR;simp only[bF,ao,aD];have⟨z1,p1,z2,p2,z3,p3,z4,p4,hd,hW⟩:=hW;rw[Zf hW.cell rfl];show Ok _ (dj .i64 (.i K.sup.dir) _ s);rw[bm];cases rI:(K.sup.dir==0)with
 |true=>
  rw[rI,aa]at hR;rw[aa,<-hR,Zh];exact .mk ⟨s,L,rfl,hW.wk,.refl L s,.refl L s⟩
 |false=>
 rw[rI,ae]at hR;rw[ae,Zf hW.cell rfl];show Ok _ (dj .i64 (.i K.sup.dir) _ s);rw[bm];refine Ok.qb (hW.take h (n+1) K.sup.dir hK.m hK.yD hK.len AC) ?_ ?_
 .intro s' hp
  cases ht:dy K K.sup.dir v with
  |none=>rw[ht]at hp hR;cases hp;rw[<-hR];exact⟨s,rfl,.refl L s⟩
  |some q=>rw[ht]at hp;grind
 intro ds s1 hp;cases ht:dy K K.sup.dir v with
 |none=>rw[ht]at hp;cases hp
 |some q=>
 have⟨b,v1⟩:=q;rw[ht]at hp hR;have⟨d,s2,e2,fU,oW,hb⟩:=hp;cases e2;have⟨g1,g2,g3,g4,g5,g6⟩:=ZZ ht;have⟨g7,g8⟩:=yq ht;have Gf:=K8 hW.set.len g7;rw[<-g8]at Gf;have ku:Fx L s s1:=oW.mono λy hy=>by rw[cA.1 hy];exact hW.qB
 rw[vF,ao];cases b with
 |leaf x=>obtain⟨rfl,_⟩:=hb;rw[<-hR];exact .mk ⟨s1,rfl,ku⟩
 |de x=>obtain⟨rfl,_⟩:=hb;rw[<-hR];exact .mk ⟨s1,rfl,ku⟩
 |queue x=>obtain⟨rfl,_⟩:=hb;rw[<-hR];exact .mk ⟨s1,rfl,ku⟩
 |node x=>obtain⟨p,rfl,_⟩:=hb;rw[<-hR];exact .mk ⟨s1,rfl,ku⟩
 |none=>cases hb;rw[<-hR];exact .mk ⟨s1,rfl,ku⟩
 |dir x=>
 obtain⟨px,rfl,Cx,Xm⟩:=hb;simp only at hR;rw[Ztg,Zi];refine Zn _ (λq y t=>∃(i:Nat) (u:bu) (Lu:al),y=[.i i]/\i<=x.length/\x.length-i<=q/\Wk K t u Lu/\Fx L s t/\Nw L s Lu/\Fz t px (ints x)/\u.aR=v.aR/\u.bI.length=i/\(∀g∈u.bI,g.name.length<=24)/\v.nodes<=u.nodes/\u.nodes+(room K.m u.W:Nat)<=v.nodes+(room K.m v.W:Nat)/\th K i (x.drop i) u=R) ?_ x.length (n+1) _ _ ⟨0,v1,L,rfl,eB _,AC,fU.wk,ku,.refl L s,Cx,g1,by rw[g2,hh];rfl,(by rw[g2,hh];intro _ h;cases h),by rw[g5];omega,by rw[g5];omega,by simpa using hR⟩ AC;rintro q _ t ⟨i,u,Lu,rfl,hi,hq,cW,gK,gS,wU,kY,oo,hun,B6,Ca,aO⟩ rec aQ;have⟨y1,r1,y2,r2,y3,r3,y4,r4,ud,cW⟩:=cW;rw[ar,ao];by_cases aw:i<x.length
 .obtain⟨i1,o1,rfl⟩:=wU.1.dP (by simp[ints];omega)
  rw[aI (AC:(i:Int)<(x.length:Int)),aa];refine Ok.join λaG Nt=>?_
  rw[aD,Zg (Zo aw),bw,wU.1.fj (ZN aw),bm];have jU:x.drop i=x[i]::x.drop (i+1):=il aw;rw[jU]at aO;generalize x[i]=y at aO;unfold th at aO;refine Ok.qb (cW.take h (n+1) y hK.m hK.yD hK.len AC) ?_ ?_
  .intro s' hp
   cases iC:dy K y u with
   |none=>rw[iC]at hp aO;cases hp;rw[<-aO];exact⟨t,rfl,gK⟩
   |some q=>rw[iC]at hp;grind
  intro ds t1 hp;cases iC:dy K y u with
  |none=>rw[iC]at hp;cases hp
  |some q=>
  have⟨b,u1⟩:=q;rw[iC]at hp aO;have⟨d,s2,e2,jT,fX,hb⟩:=hp;cases e2;have⟨k1,k2,k3,k4,k5,k6⟩:=ZZ iC;have⟨k7,k8⟩:=yq iC;have VG:=K8 cW.set.len k7;rw[<-k8]at VG;have PT:Fx Lu t t1:=fX.mono λy hy=>by rw[cA.1 hy];exact cW.qB
  have np:Fx L s t1:=gK.step PT gS;rw[vF,ao];cases b with
  |leaf x=>obtain⟨rfl,_⟩:=hb;rw[<-aO];exact .mk ⟨t1,rfl,np⟩
  |de x=>obtain⟨rfl,_⟩:=hb;rw[<-aO];exact .mk ⟨t1,rfl,np⟩
  |dir x=>obtain⟨p,rfl,_⟩:=hb;rw[<-aO];exact .mk ⟨t1,rfl,np⟩
  |node x=>obtain⟨p,rfl,_⟩:=hb;rw[<-aO];exact .mk ⟨t1,rfl,np⟩
  |none=>cases hb;rw[<-aO];exact .mk ⟨t1,rfl,np⟩
  |queue qv=>
  obtain⟨rfl,Ql⟩:=hb;simp only at aO;rw[Zsd];have⟨hqn,_⟩:=Zn7 (ZpD (Zr0 iC));have N5:Fz t1 (some (i1,o1)) (ints x):=wU.kp (cW.kp PT);have P3:(ints qv.ia).length=12:=by simp[ints,Ql]
  rw[bV (cs:=ints qv.ia) (n:=12) P3,bV (n:=14) (by simp[P3])];refine Ok.join λbp Nu=>?_
  have hA: ∀t2 bb,Fe u1 i qv.name=bb->di K t2 u1 Lu y1 r1 y2 r2 y3 r3 y4 r4 ud->Fx L s t2->Fz t2 (some (i1,o1)) (ints x)->Ok (mT K s L R []) (bp [.bool bb] t2):=by
   intro t2 bb hbb qf fo N6;rw[Nu];simp only[aA,ao];cases bb with
   |false=>
    rw[hbb,ae]at aO;rw[ZS h n rfl,<-aO];exact .mk ⟨t2,rfl,fo⟩
   |true=>
    rw[hbb,aa]at aO;rw[nW h n rfl,ao];refine Ok.join λbR Nv=>?_
    rw[dJ AC];refine Zs9 h (n+1) hK qv.name qv.ia Ql s L qf fo gS h0 h1 (by rw[k1,kY];exact hs) (by rw[k5];omega) (by rw[k5];omega) hm AC R bR ?_ ?_
    .grind
    intro es w he t3 p z hz kt zc cX uS Vl Vk FW;rw[he]at aO;simp only at aO;have⟨c1,c2,c3,c4,c5,c6,c7⟩:=D1 qf.set.len he (λ_ h=>by cases h) .nil;rw[Nv];simp only[cU,fL,bd,ao];have⟨t4,e4,zn,FY⟩:=Ztw n es p t3 cX c2 AC;rw[Zj e4,ao];have y6: ∀b o,K.a=some (b,o)->b<t2.length:=λb o e=>Sl.lt (e▸qf.aM)
    have tL:w.bI=u.bI:=c5.trans k2;have hh2:mS t2 Lu ud w.bI:=by rw[c5];exact qf.bI
    have⟨yZ,PW⟩:=kt.GB hh2 qf.lt y6 zc FY uS;have N7:Fz t4 (some (i1,o1)) (ints x):=N6.kp (qf.kp PW);have PX:Fx L s t4:=fo.step PW gS;rw[Zf yZ.cell rfl];show Ok _ (bJ 2 (.slice y2 r2 w.bI.length) _ t4);rw[Zu 2 y2 r2 _ yZ.e2,<-Znt es];have eD:Sl t4 p (eY (tV es)):=by
     rcases zn with⟨rfl,h2⟩|⟨b,rest,rfl,h2⟩
     .exact h2
     .exact⟨false,_,h2,by rw[cq];omega,by rw[eG,xz]⟩
    have Gc:dF Lu p:=dF.aC λb hb hm=>by have:=uS b hb;have:=qf.lt b hm;omega
    have⟨b,t5,t6,L6,q1,q2,q3,q4,q5,q6⟩:=yZ.Wo (β:=af) ⟨qv.name,tV es⟩ (by rw[tL,oo];omega) (z:=4) (.inl rfl) eD Gc;refine Eq.mpr (congrArg (Ok _) (q1 _)) ?_;refine Eq.mpr (congrArg (Ok _) (q2 _)) ?_;rw[Nt];simp only[ao];have nz:aq ((i:Int)+1)=((i+1:Nat):Int):=Zc;rw[nz];refine aQ (x.length-(i+1)) _ _ AC ⟨i+1,_,L6,rfl,AC,aW _,q3.wk,PX.step q4 gS,gS.trans PX.1 q5,N7.kp (yZ.kp q4),(c4.trans k1).trans kY,?_,?_,?_,?_,aO⟩
    .show(w.bI++[_]).length=i+1
     rw[cq,tL,oo];rfl
    .intro g hg
     have uY:g∈w.bI++[⟨qv.name,tV es⟩]:=hg;rw[tL]at uY;rcases nQ.1 uY with uY|uY
     .exact hun g uY
     .rw[cA.1 uY];exact hqn
    .show v.nodes<=w.nodes
     rw[k5]at Vk;omega
    .show w.nodes+(room K.m w.W:Nat)<=_
     rw[k5]at Vl;omega
  by_cases oX:i=0
  .subst oX
   rw[show(((0:Nat):Int)==0)=true from rfl,aa];exact hA t1 true rfl jT np N5
  .have hib:((i:Int)==0)=false:=by rw[iG];omega
   rw[hib,ae,Zf jT.cell rfl];show Ok _ (bJ 2 (.slice y2 r2 u1.bI.length) _ t1);rw[Zu 2 y2 r2 _ jT.e2];have hhl:u1.bI.length=i:=by rw[k2];exact oo
   have Xl:ud.length=u1.bI.length*2:=jT.bI.bI.len;obtain⟨b,rfl,uT⟩:=jT.o2.dP AC;have cD:aq ((i:Int)-1)=((i-1:Nat):Int):=by rw[Zc];omega
   have Nl:u1.bI[i-1]? =some u1.bI[i-1]:=dt AC;rw[aD,cD,Zg (Zo),bw,Zr2 jT.o2.sl jT.bI.bI Nl];have hgm:u1.bI[i-1].name.length<=24:=hun _ (by rw[<-k2];exact nP _);have⟨gg,FZ⟩: ∃gg,u1.bI[i-1]=gg:=⟨_,rfl⟩;rw[FZ]at Nl hgm⊢;rw[Rf];refine Ok.cv (Zmh (n+1) gg.name qv.name AC AC AC AC t1) λt2 bC=>?_
   rw[ar,ao];refine hA t2 _ ?_ (jT.pre bC) (np.trans (Fx.pre _ bC)) (N5.kp bC.kp);unfold Fe;rw[aK oX,ae,Nl]
 .rw[aK (AC:¬(i:Int)<(x.length:Int)),ae]
  simp only[Zh];rw[sE AC]at aO;rw[<-aO];exact .mk ⟨t,Lu,rfl,cW.wk,gK,gS⟩
theorem Fx.GX (h:Fx [] s s'):ax s s':=by
 refine⟨s'.drop s.length,?_⟩;have:s'.take s.length=s:=by
  apply xo;intro i;by_cases hi:i<s.length
  .rw[List.getElem?_take_of_lt hi]
   have e:s[i]? =some s[i]:=dt hi;rw[e];exact h.2 i _ (λh=>by cases h) e
  grind
 conv=>lhs;rw[<-List.take_append_drop s.length s',this]
theorem Ok.Pm {P:Out af×St->Prop} {m:M af} {H:Bool->M β} (h:Ok P (m s))
  (k1: ∀s',P (.dM,s')->Ok Q (H true s')) (k2: ∀ds s',P (.val ds,s')->Ok Q (H false s')):Ok Q (oL m H s):=by
 have⟨⟨o,s'⟩,e,hp⟩:=h;unfold oL;rw[e];cases o with
 |val ds=>exact k2 ds s' hp
 |dM=>exact k1 s' hp
theorem ZsE {k:IntKind} (h:s[i]? =some (some ⟨f,all⟩)) (hd:all[p]? =some (.int k n)) (K:IntKind->Int->M β):rr i p K s=K k n s:=by
 unfold rr;rw[Zf h hd]
theorem K3 (h:s[i]? =some (some ⟨f,all⟩)) (hd:all[p]? =some (.i n)) (K:M β):fK i p .i64 n K s=K s:=by
 unfold fK;rw[Zf h hd];simp
def Kept (v v':bu):Prop:=v'.bI=v.bI/\v'.dp=v.dp/\v'.free=v.free/\v'.nodes=v.nodes
theorem Kept.refl (v:bu):Kept v v:=⟨rfl,rfl,rfl,rfl⟩
theorem Kept.trans {a b c:bu} (h:Kept a b) (k:Kept b c):Kept a c:=⟨k.1.trans h.1,k.2.1.trans h.2.1,k.2.2.1.trans h.2.2.1,k.2.2.2.trans h.2.2.2⟩
theorem Kf {b:vC} (h:dy K k v=some (b,v')):Kept v v':=by
 have⟨_,h2,h3,h4,h5,_⟩:=ZZ h;exact⟨h2,h3,h4,h5⟩
theorem ZkQ {K:cg} : ∀ {x:List eR} {k:Int} {v v':bu},lX K k x v=some v'->Kept v v'
 |[],_,_,_,h=>by cases h;exact .refl _
 |x::r,k,v,v',h=>by
  unfold lX at h;cases h1:nX K k x v with
  |none=>rw[h1]at h;cases h
  |some w=>
   rw[h1]at h;refine Kept.trans ?_ (ZkQ h);unfold nX at h1;cases h2:decide (k>=K.sup.used)with
   |true=>
    rw[h2,aa]at h1;cases h3:Bh x with
    |true=>rw[h3]at h1;cases h1;exact .refl _
    |false=>rw[h3]at h1;cases h1
   |false=>
    rw[h2,ae]at h1;cases h3:yr K.sup x with
    |true=>rw[h3]at h1;cases h1;exact⟨rfl,rfl,rfl,rfl⟩
    |false=>rw[h3]at h1;cases h1
theorem ZqG (h:kZ K k slot v=some v'):Kept v v':=by
 unfold kZ at h;split at h
 .rename_i x v1 ht
  exact(Kf ht).trans (ZkQ h)
 .cases h
theorem J4 {K:cg} {dc x5:Int} : ∀ {x:ak} {k:Int} {v v':bu},jP K dc x5 k x v=some v'->Kept v v'
 |[],_,_,_,h=>by cases h;exact .refl _
 |y::r,k,v,v',h=>by
  unfold jP at h;cases h1:((!(y==0))==decide (x5*16+k<dc))with
  |false=>rw[h1]at h;cases h
  |true=>
   rw[h1,aa]at h;cases h2:(!(y==0))with
   |false=>rw[h2]at h;exact J4 h
   |true=>
    rw[h2,aa]at h;split at h
    .cases h
    .rename_i w hw
     exact(ZqG hw).trans (J4 h)
theorem JM {K:cg} {dc:Int} : ∀ {x:ak} {k:Int} {v v':bu},nb K dc k x v=some v'->Kept v v'
 |[],_,_,_,h=>by cases h;exact .refl _
 |y::r,k,v,v',h=>by
  unfold nb at h;cases h1:((!(y==0))==decide (k*16<dc))with
  |false=>rw[h1]at h;cases h
  |true=>
   rw[h1,aa]at h;cases h2:(y==0)with
   |true=>rw[h2]at h;exact JM h
   |false=>
    rw[h2,ae]at h;split at h
    .rename_i x v1 ht
     split at h
     .cases h
     .rename_i w hw
      exact((Kf ht).trans (J4 hw)).trans (JM h)
    .cases h
theorem ZpI (h:oJ K v=some v'):Kept v v':=by
 unfold oJ at h;cases h1:(K.sup.used==0)with
 |true=>rw[h1]at h;cases h;exact .refl _
 |false=>
  rw[h1,ae]at h;split at h
  .rename_i x v1 ht
   exact(Kf ht).trans (JM h)
  .cases h
theorem ZkY {K:cg} : ∀ {f:Nat} {fl fl':List Bool} {k:Int} {v v':bu},p5 K f fl k v=some (fl',v')->v'.aR=v.aR/\v'.bI=v.bI/\v'.dp=v.dp/\v'.nodes=v.nodes
 |0,_,_,_,_,_,h=>by cases h
 |f+1,fl,fl',k,v,v',h=>by
  unfold p5 at h;cases h1:(k==0)with
  |true=>rw[h1]at h;grind
  |false=>
   rw[h1,ae]at h;cases h2:decide (k<=K.sup.used)with
   |false=>rw[h2]at h;cases h
   |true=>
    rw[h2,aa]at h;split at h
    .cases h
    .rename_i x hx
     cases h3:(bif (bif !x.live then decide (x.gen<K.sup.g)else false)then !fl.getD (k-1).toNat false else false)with
     |false=>rw[h3]at h;cases h
     |true=>
      rw[h3,aa]at h;exact ZkY (v:= { v with free:=v.free++[k-1] }) h
theorem Zrc (h:rF K v=some v'):v'.aR=v.aR/\v'.bI=v.bI/\v'.dp=v.dp/\v'.nodes=v.nodes:=by
 unfold rF at h;cases h1:p5 K (K.sup.used.toNat+1) (List.replicate K.sup.used.toNat false) K.sup.free v with
 |none=>rw[h1]at h;cases h
 |some q=>
  have⟨fl,w⟩:=q;rw[h1]at h;unfold yp at h;simp only at h;cases h2:sZ K fl w.aR with
  |false=>rw[h2]at h;cases h
  |true=>rw[h2]at h;cases h;exact ZkY h1
theorem Zoh (hl:v.W.length=(K.m+63)/64) (h:pU K v=some v'):v'.aR=v.aR/\v'.dp=v.dp/\v'.free=v.free:=by
 unfold pU at h;cases h1:(K.sup.dir==0)with
 |true=>rw[h1]at h;grind
 |false=>
  rw[h1,ae]at h;split at h
  .rename_i x v1 ht
   have⟨g1,g2,g3,g4,g5,g6⟩:=ZZ ht;have⟨c1,c2,c3,c4⟩:=ZoT (by rw[(yq ht).2,vT];exact hl) h;grind
  .cases h
def CY (x:db) (v:bu):Ds:=⟨x.blocks,x.ef,x.g,v.bI,v.dp,v.free⟩
def ot:Ds:=⟨0,0,0,[],[],[]⟩
def mJ (K:cg):Option (Option bu):=bif lV K.sup then(bif decide (K.sup.blocks<=((K.aM.length/64:Nat):Int))then some (ua K)else some none)else none
def OZ (s:St) (m:Nat) (x:db) (r:Option (Option bu)) (o:Out af×St):Prop:=match r with
 |none=>∃s',o=(.val [.agg (jH ot 0 none 0 none 0 none),.ptr none,.i 2],s')/\ax s s'
 |some none=>∃s',o=(.val [.agg (jH ot 0 none 0 none 0 none),.ptr none,.i 31],s')/\ax s s'
 |some (some v)=>∃s' z2 p2 z3 p3 z4 p4 i j,o=(.val [.agg (jH (CY x v) z2 p2 z3 p3 z4 p4),.ptr (some (i,0)),.i 0],s')/\ax s s'/\(z2=2\/p2=none)/\(z3=1\/p3=none)/\(z4=1\/p4=none)/\StR s' (CY x v) p2 p3 p4/\dT s' false i j m v.W/\s.length<=j/\i≠j
structure ll (s:St) (b:Nat) (A:List DV) (r e:DV):Prop where
 st:s[b+1]? =some (some ⟨false,A⟩)
 re:s[b+2]? =some (some ⟨false,[r]⟩)
 er:s[b+3]? =some (some ⟨false,[e]⟩)
 len:A.length=6
theorem ll.fx {b:Nat} (h:ll s b A r e) (k:Fx T s s') (hT: ∀x∈T,x<b\/b+4<=x):ll s' b A r e:=
 ⟨k.2 _ _ Fd h.st,k.2 _ _ Fd h.re,k.2 _ _ Fd h.er,h.len⟩
theorem ll.OJ {b:Nat} (h:ll s b A r e) (A':af) (r' e':DV) (hl:A'.length=6): ∃s',(∀K:M β,(bB (b+1) 0 A'<|bB (b+2) 0 [r']<|bB (b+3) 0 [e'] K) s=K s')/\ll s' b A' r' e'/\Fx [b+1,b+2,b+3] s s':=by
 have h1:=(cF.1 h.st).1;have h2:=(cF.1 h.re).1;have h3:=(cF.1 h.er).1;have iN:cT A 0 A'=A':=by
  have:=rb [] A [] A' (by rw[h.len,hl]);simpa using this
 refine⟨((s.set (b+1) (some ⟨false,A'⟩)).set (b+2) (some ⟨false,[r']⟩)).set (b+3) (some ⟨false,[e']⟩),λK=>?_,⟨?_,?_,?_,hl⟩,⟨Do,λi x hi e=>?_⟩⟩
 .rw[AX h.st (by rw[h.len,hl];omega),iN,Zs (by rw[cz AC];exact h.re) (by show 0<1;omega),Zs (by rw[cz AC,cz AC];exact h.er) (by show 0<1;omega)]
  rfl
 .rw[cz AC,cz AC,eJ h1]
 .rw[cz AC,eJ (by simpa using h2)]
 .rw[eJ (by simpa using h3)]
 grind
theorem ll.rY {b:Nat} (h:ll s b A r e):(bP (b+1) 0 6 λo=>bc (b+2) 0 λo1=>bc (b+3) 0 λo2=>au [.agg o,o1,o2]) s=some (.val [.agg A,r,e],s):=by
 rw[ZM h.st (by rw[h.len];omega),Zf h.re rfl,Zf h.er rfl,eG,dJ (by rw[h.len];omega),Zh]
theorem Zjz {x:db} (h:lV x=true):kq x.blocks x.ef x.g=true/\0<=x.used/\x.used<=x.ef/\0<=x.free/\x.free<=x.used:=by
 grind[lV]
theorem uu {b s g:Int} (h:kq b s g=true):16<=b/\b<=3072/\1<=s/\s<=1792/\1<=g/\g<=4294967295:=by
 grind[kq]
theorem ll.oP {b:Nat} (h:ll s b (jH ot 0 none 0 none 0 none) r e) (h':ll s' b A' r' e') (k:Fx [b+1,b+2,b+3] s s') {p:ah} {es:List eL} (hs:Sl s p (eY es)):Sl s' p (eY es):=by
 cases p with
 |none=>exact hs
 |some q=>
  have⟨i,o⟩:=q;by_cases hi:i∈[b+1,b+2,b+3]
  .have Qc:es=[]:=by
    cases es with
    |nil=>rfl
    |cons x es=>
     exfalso;have⟨f,all,e1,e2,e3⟩:=hs;have hlen:(eY (x::es)).length=4+(eY es).length:=by
      rw[pM,pM,eK];omega
     simp only[dR,xw,qP]at hi;rcases hi with rfl|rfl|rfl
     .rw[h.st]at e1
      cases e1;have h6:(jH ot 0 none 0 none 0 none).length=6:=rfl;have ho:o=0\/o=1\/o=2:=AC
      have e4:=congrArg (λl=>l[3-o]?) e3;rw[List.getElem?_take_of_lt AC,xq]at e4;rcases ho with rfl|rfl|rfl<;>cases e4
     .rw[h.re]at e1
      grind
     .rw[h.er]at e1
      grind
   subst Qc;have⟨f,all,e1,e2,_⟩:=hs;simp only[dR,xw,qP]at hi;rcases hi with rfl|rfl|rfl
   .rw[h.st]at e1
    cases e1;refine⟨false,_,h'.st,?_,rfl⟩;have:=h'.len;have h6:(jH ot 0 none 0 none 0 none).length=6:=rfl;omega
   .rw[h.re]at e1
    cases e1;exact⟨false,_,h'.re,e2,rfl⟩
   .rw[h.er]at e1
    cases e1;exact⟨false,_,h'.er,e2,rfl⟩
  .exact Sl.fx hs k λb' o' e=>by cases e;exact hi
theorem oD.oP {s s':St} (h: ∀(p:ah) (es:List eL),Sl s p (eY es)->Sl s' p (eY es)): ∀ {ds:af} {xs:List kJ},oD s ds xs->oD s' ds xs
 |_,[],h1=>h1
 |_,_::_,⟨z,p,t,hz,h1,h2,h3⟩=>⟨z,p,t,hz,h1,h p _ h2,h3.oP h⟩
def Rc (K:cg) (s:St) (b:Nat) (r:Option bu) (o:Out af×St):Prop:=match r with
 |none=>∃s',o=(.dM,s')/\Fx [] s s'
 |some v=>∃s' ds z2 p2 z3 p3 z4 p4,o=(.val ds,s')/\Fx [b+1,b+2,b+3] s s'/\ll s' b (jH (CY K.sup v) z2 p2 z3 p3 z4 p4) (.ptr (some (K.i,0))) (.i 0)/\(z2=2\/p2=none)/\(z3=1\/p3=none)/\(z4=1\/p4=none)/\StR s' (CY K.sup v) p2 p3 p4/\dT s' false K.i K.j K.m v.W
theorem ZoK (n:Nat) (a:ah) (aM:aj) (x:db) (pc:ah) (s:St) (ha:cC s a aM) (hc:Sl s pc (ints x.bg)) (hl:aM.length<1000000) (eu:x.bg.length<1000) (hn:5000<=n):
  ∃K:cg,K.m=x.blocks.toNat/\K.aM=aM/\K.sup=x/\Ok (OZ s x.blocks.toNat x (mJ K)) (run Bd n 171 [.slice 1 a aM.length,.agg (cN x pc)] s):=by
 obtain⟨n,rfl⟩: ∃k,n=k+3:=⟨n-3,AC⟩;refine⟨⟨s.length+8,s.length+7,s.length+6,x.blocks.toNat,a,aM,x,pc⟩,rfl,rfl,rfl,?_⟩;have⟨K,hK⟩: ∃K:cg,(⟨s.length+8,s.length+7,s.length+6,x.blocks.toNat,a,aM,x,pc⟩:cg)=K:=⟨_,rfl⟩;rw[hK];have kw:s.length+8=K.w:=by rw[<-hK]
 have ki:s.length+7=K.i:=by rw[<-hK]
 have kj:s.length+6=K.j:=by rw[<-hK]
 have km:K.m=x.blocks.toNat:=by rw[<-hK]
 have ka:a=K.a:=by rw[<-hK]
 have kg:aM=K.aM:=by rw[<-hK]
 have ks:x=K.sup:=by rw[<-hK]
 have kp:pc=K.pc:=by rw[<-hK]
 clear hK;have⟨R,hR⟩: ∃R,mJ K=R:=⟨_,rfl⟩;rw[hR];unfold mJ at hR;rw[<-ks,<-kg]at hR;rw[Zb,h.RY];unfold DR ZQ ZA bA Zl C_ ck oH aX Zls Lp Li ZO Lb gH lu
 try dsimp only
 rw[bd,cU];unfold cN;simp only[ar,bd,ao];have zz:([.i x.seq,.i x.blocks,.i x.ef,.i x.g,.i x.de,.i x.used,.i x.free,.i x.dir,.slice 1 pc x.bg.length]:af)=cN x pc:=rfl;rw[zz,Zv,Zv,Zv,Zv];have VX:([.i 0,.i 0,.i 0,.slice 0 none 0,.slice 0 none 0,.slice 0 none 0]:af)=jH ot 0 none 0 none 0 none:=rfl;rw[VX];have l1: ∀c,(s++[some (c:aH)]).length=s.length+1:=λc=>by simp
 have l2: ∀c d,((s++[some (c:aH)])++[some (d:aH)]).length=s.length+2:=λc d=>by simp
 have l3: ∀c d e,(((s++[some (c:aH)])++[some (d:aH)])++[some (e:aH)]).length=s.length+3:=λc d e=>by simp
 rw[l1,l2,l3];have⟨S1,yX⟩: ∃S1,(((s++[some (⟨false,cN x pc⟩:aH)])++[some (⟨false,jH ot 0 none 0 none 0 none⟩:aH)])++[some (⟨false,[.ptr none]⟩:aH)])++[some (⟨false,[.i 0]⟩:aH)]=S1:=⟨_,rfl⟩;rw[yX];have bj:ax s S1:=by rw[<-yX];exact((((ax.new _ _).trans (ax.new _ _)).trans (ax.new _ _)).trans (ax.new _ _))
 have F6:S1.length=s.length+4:=by rw[<-yX];simp
 have h9:S1[s.length]? =some (some ⟨false,cN x pc⟩):=by rw[<-yX];simp
 have FI:ll S1 s.length (jH ot 0 none 0 none 0 none) (.ptr none) (.i 0):=by
  rw[<-yX];exact⟨Do,Do,Do,rfl⟩
 clear yX;rw[ZM h9 (by show 0+9<=9;omega)];show Ok _ (az .i64 (cN x pc) _ S1);unfold cN;simp only[ar,bd,ao];rw[zz];have hsR:=Ib (n+2) x pc S1 (hc.mono bj) eu;rw[Zj hsR,aA,ao];have⟨S2,FM⟩: ∃S2,S1++[some (⟨false,cN x pc⟩:aH)]=S2:=⟨_,rfl⟩;rw[FM];have bC:ax S1 S2:=by rw[<-FM];exact ax.new _ _
 have zj:S2.length=s.length+5:=by rw[<-FM];simp[F6]
 have FH:=bC.get h9;have MS:ll S2 s.length (jH ot 0 none 0 none 0 none) (.ptr none) (.i 0):=⟨bC.get FI.st,bC.get FI.re,bC.get FI.er,rfl⟩;have Qj:=bj.trans bC;clear FM bj bC FI h9 hsR;have wC: ∀S3,Fx [s.length+1,s.length+2,s.length+3] S2 S3->ax s S3:=λS3 k=>by
  refine Fx.GX ((Fx.pre [] Qj).step k λy hy=> .inr ?_);grind
 cases tJ:lV x with
 |false=>
  rw[tJ,ae]at hR;have⟨S3,e3,BF,hf3⟩:=MS.OJ (β:=af) (jH ot 0 none 0 none 0 none) (.ptr none) (.i 2) rfl;rw[cy,aa,e3,BF.rY,<-hR];exact .mk ⟨S3,rfl,wC S3 hf3⟩
 |true=>
 rw[tJ,aa]at hR;rw[bU,ae];have⟨Nk,hu0,zB,BO,hf1⟩:=Zjz tJ;have⟨g1,g2,g3,g4,g5,g6⟩:=uu Nk;refine Ok.Pm (P:=Rc K S2 s.length (bif decide (x.blocks<=((aM.length/64:Nat):Int))then ua K else none)) ?_ ?_ ?_
 .have zC: ∃m:Nat,x.blocks=(m:Int):=Fd
  rw[Zf FH (d:= .i x.blocks) rfl,bm];have hw:aq ((aM.length:Int).tdiv 64)=((aM.length/64:Nat):Int):=by
   rw[L5 AC,bw];exact Zc
  rw[hw];cases gr:decide (x.blocks<=((aM.length/64:Nat):Int))with
  |false=>
   rw[ZS h (n+1) rfl,ae];exact .mk ⟨S2,rfl,.refl _ _⟩
  |true=>
  have UX:=oA gr;rw[nW h (n+1) rfl,aa,ao,ZM FH (by show 0+9<=9;omega)];show Ok _ (az .i64 (cN x pc) _ S2);unfold cN;simp only[ar,bd,ao];rw[Zf FH (d:= .i x.blocks) rfl,bm,Zv];have⟨S3,FN⟩: ∃S3,S2++[some (⟨false,[.i 0,.i 1]⟩:aH)]=S3:=⟨_,rfl⟩;have eC:ax S2 S3:=by rw[<-FN];exact ax.new _ _
  have F7:S3.length=s.length+6:=by rw[<-FN];simp[zj]
  have VM:Sl S3 (some (S2.length,0)) (ints [0,1]):=⟨false,[.i 0,.i 1],by rw[<-FN];simp,aW _,rfl⟩;rw[FN];have⟨m,hm⟩:=zC;have⟨S4,e4,fI,P5,Cq⟩:=xS (n+2) m [0,1] (some (S2.length,0)) S3 AC VM (by show 2<1000000;omega) Fd;have MW:m=K.m:=by rw[km,hm];rfl
  have e4':run Bd (n+2) 177 [.i x.blocks,.slice 1 (some (S2.length,0)) 2] S3=some (.val [.ptr (some (S3.length+1,0))],S4):=by rw[hm];exact e4
  rw[sL e4' fI,bF,ao];have h94:=fI.get (eC.get FH);rw[ZM h94 (by show 1+3<=9;omega)];show Ok _ (az .i64 (.i x.blocks::[.i x.ef,.i x.g]) _ S4);simp only[ar,ao];rw[Zv];have Cv:S4.length=K.w:=by rw[P5,F7];omega
  have rN:S3.length+1=K.i:=by rw[F7];omega
  rw[Cv,rN];have VQ:dT S4 false K.i K.j K.m (nH K.m [0,1]):=by
   rw[rN]at Cq;rw[<-kj,<-F7,<-MW];exact Cq
  have⟨S5,FO⟩: ∃S5,S4++[some (⟨false,mK K (xi K.m) (cM 0 none 0) (cM 0 none 0) (cM 0 none 0) (cM 0 none 0)⟩:aH)]=S5:=⟨_,rfl⟩;have tr:([.slice 1 a aM.length,.i x.seq,.i x.blocks,.i x.ef,.i x.g,.i x.de,.i x.used,.i x.free,.i x.dir,.slice 1 pc x.bg.length,.ptr (some (K.i,0)),.slice 0 none 0,.i x.blocks,.i x.ef,.i x.g,.slice 0 none 0,.slice 0 none 0,.slice 0 none 0,.i 0]:af)=mK K (xi K.m) (cM 0 none 0) (cM 0 none 0) (cM 0 none 0) (cM 0 none 0):=by
   unfold mK;rw[<-ka,<-kg,<-ks,<-kp];rfl
  rw[tr,FO];have iA:ax S4 S5:=by rw[<-FO];exact ax.new _ _
  have Xa:S5.length=s.length+9:=by rw[<-FO];simp[P5,F7]
  have UR:S5[K.w]? =some (some ⟨false,mK K (xi K.m) (cM 0 none 0) (cM 0 none 0) (cM 0 none 0) (cM 0 none 0)⟩):=by rw[<-FO,<-Cv];simp
  have hpA:ax s S5:=((Qj.trans eC).trans fI).trans iA;have hW:di K S5 (xi K.m) [K.w,K.i,K.j] 0 none 0 none 0 none 0 none []:=by
   refine⟨UR,.inr rfl,.inr rfl,.inr rfl,.inr rfl,bn.nil ⟨S5,rfl⟩,bn.nil ⟨S5,rfl⟩,bn.nil ⟨S5,rfl⟩,bn.nil ⟨S5,rfl⟩,rfl,VQ.pre iA,?_,?_,rfl,?_⟩
   .rw[<-ka,<-kg];exact ha.mono hpA
   .rw[<-ka]
    rintro b o rfl hm;have:=Sl.lt ha;simp only[dR,xw,qP]at hm;omega
   .simp only[List.nodup_cons,dR,xw,qP,not_or]
    refine⟨⟨AC,AC⟩,AC,not_false,.nil⟩
  have hC5:ll S5 s.length (jH ot 0 none 0 none 0 none) (.ptr none) (.i 0):=MS.fx (Fx.pre [] ((eC.trans fI).trans iA)) λy hy=>by cases hy
  have U5:Fx [] S2 S5:=Fx.pre [] ((eC.trans fI).trans iA);have Py:vK K:=⟨by rw[<-ks,hm,MW],by rw[<-kg,<-MW];omega,by rw[<-kg];exact hl⟩;have gB: ∀y∈[K.w,K.i,K.j],S2.length<=y:=λy hy=>by
   simp only[dR,xw,qP]at hy;omega
  have oZ: ∀t,Fx [K.w,K.i,K.j] S5 t->Fx [] S2 t:=λt k=>U5.step k λy hy=> .inr (gB y hy)
  have⟨W1,fU⟩: ∃W1,ua K=W1:=⟨_,rfl⟩;rw[fU];unfold ua at fU;have MX:0<=K.sup.used:=by rw[<-ks];exact hu0
  have MY:K.sup.used<=1792:=by rw[<-ks];omega
  have hKf:0<=K.sup.free:=by rw[<-ks];exact BO
  have UQ:K.m<=3072:=AC
  refine Ok.qb (ZsD (n+2) Py hW.wk (by show 0<1000;omega) AC) ?_ ?_
  .intro t hp
   cases hr:oJ K (xi K.m)with
   |none=>rw[hr]at hp fU;have⟨_,e,hf⟩:=hp;cases e;rw[<-fU];exact⟨t,rfl,oZ t hf⟩
   |some v=>rw[hr]at hp;have⟨_,_,e,_⟩:=hp;cases e
  intro ds t1 hp;cases gu:oJ K (xi K.m)with
  |none=>rw[gu]at hp;have⟨_,e,_⟩:=hp;cases e
  |some v1=>
  rw[gu]at hp fU;have⟨_,L1,e,US,oW,NF⟩:=hp;cases e;simp only at fU;rw[ao];have⟨k1,k2,k3,k4⟩:=ZpI gu;have⟨ib,VD⟩:=ZrY MX MY rfl gu;refine Ok.qb (Ztt (n+2) US MX MY hKf ib VD k1 k3 AC) ?_ ?_
  .intro t hp
   cases hr:rF K v1 with
   |none=>rw[hr]at hp fU;have⟨_,e,hf⟩:=hp;cases e;rw[<-fU];exact⟨t,rfl,oZ t (oW.step hf NF)⟩
   |some v=>rw[hr]at hp;have⟨_,_,e,_⟩:=hp;cases e
  intro ds t2 hp;cases j1:rF K v1 with
  |none=>rw[j1]at hp;have⟨_,e,_⟩:=hp;cases e
  |some v2=>
  rw[j1]at hp fU;have⟨_,L2,e,PA,fX,Vm⟩:=hp;cases e;simp only at fU;rw[ao];have⟨q1,q2,q3,q4⟩:=Zrc j1;have Ng:Fx [K.w,K.i,K.j] S5 t2:=oW.step fX NF;have NG:Nw [K.w,K.i,K.j] S5 L2:=NF.trans oW.1 Vm;have qg:v2.W.length=(K.m+63)/64:=by have⟨_,_,_,_,_,_,_,_,_,hw⟩:=PA;exact hw.set.len
  have zl:v2.nodes=0:=by rw[q4,k4];rfl
  have Gf:=ZqE K.m v2.W;refine Ok.qb (Zsl (n+2) Py PA MX MY (by rw[q1];exact ib) (by rw[zl];exact Int.le_refl _) (by rw[zl];omega) UQ (by rw[q2,k1];rfl) AC) ?_ ?_
  .intro t hp
   cases hr:pU K v2 with
   |none=>rw[hr]at hp fU;have⟨_,e,hf⟩:=hp;cases e;rw[<-fU];exact⟨t,rfl,oZ t (Ng.step hf NG)⟩
   |some v=>rw[hr]at hp;have⟨_,_,e,_⟩:=hp;cases e
  intro ds t3 hp;cases Cm:pU K v2 with
  |none=>rw[Cm]at hp;have⟨_,e,_⟩:=hp;cases e
  |some v3=>
  rw[Cm]at hp fU;have⟨_,L3,e,UT,fo,Vn⟩:=hp;cases e;simp only at fU;rw[ao];have⟨w1,w2,w3⟩:=Zoh qg Cm;have PU:Fx [K.w,K.i,K.j] S5 t3:=Ng.step fo NG;have Qd:Nw [K.w,K.i,K.j] S5 L3:=NG.trans Ng.1 Vn;have eD:(v3.aR.length:Int)=K.sup.used:=by rw[w1,q1];exact ib
  have zd:v3.dp=[]:=by rw[w2,q3,k2];rfl
  have⟨y1,r1,y2,r2,y3,r3,y4,r4,hd,M2⟩:=UT;rw[ZsE M2.cell (k:= .i64) (n:=v3.nodes) rfl,Zf M2.cell (d:= .i v3.nodes) rfl,bm];refine Ok.call (Ztz (n+2) M2.wk AC (by rw[zd];show 0<100000;omega) AC) ?_;rintro _ ⟨t4,L4,rfl,UU,zc,Vo⟩;refine⟨_,t4,rfl,?_⟩;rw[ar,ao];have Nh:Fx [K.w,K.i,K.j] S5 t4:=PU.step zc Qd;have Vp:Nw [K.w,K.i,K.j] S5 L4:=Qd.trans PU.1 Vo;have⟨y1,r1,y2,r2,y3,r3,y4,r4,hd,kt⟩:=UU;have jj:(mK K (qA v3) (cM y1 r1 (qA v3).aR.length) (cM y2 r2 (qA v3).bI.length) (cM y3 r3 (qA v3).dp.length) (cM y4 r4 (qA v3).free.length))[18]? =some (.i v3.nodes):=rfl;rw[K3 kt.cell jj,K3 kt.cell jj];have rH:(((CF v3:Int))==v3.nodes)=decide ((CF v3:Int)=v3.nodes):=rfl;rw[rH];cases nr:decide ((CF v3:Int)=v3.nodes)with
  |false=>
   rw[nr,ae]at fU;rw[ZS h (n+1) rfl,<-fU];exact .mk ⟨t4,rfl,oZ t4 Nh⟩
  |true=>
  rw[nr,aa]at fU;rw[nW h (n+1) rfl,ao,K3 kt.cell jj,ZM kt.cell Fd];show Ok _ (az .i64 (.i K.sup.blocks:: .i K.sup.ef:: .i K.sup.g::cM y2 r2 (qA v3).bI.length::cM y3 r3 (qA v3).dp.length::cM y4 r4 (qA v3).free.length::[]) _ t4);unfold cM;simp only[ar,Zr 2 y2 r2 _ kt.e2,Zr 1 y3 r3 _ kt.e3,Zr 1 y4 r4 _ kt.e4,ao];rw[Zf kt.cell (d:= .ptr (some (K.i,0))) rfl,Dl];have uQ:apart (some (s.length+1,0)) K.w=true:=by
   show(!Nat.beq K.w (s.length+1))=true;cases hbq:Nat.beq K.w (s.length+1)with
   |false=>rfl
   |true=>have:=cO hbq;omega
  rw[Zg uQ];have FJ:ll t4 s.length (jH ot 0 none 0 none 0 none) (.ptr none) (.i 0):=hC5.fx Nh λy hy=>by
   have:=gB y hy;omega
  have⟨t5,e5,hC6,za⟩:=FJ.OJ (β:=af) (jH (CY K.sup (qA v3)) 2 r2 1 r3 1 r4) (.ptr (some (K.i,0))) (.i 0) rfl;refine Eq.mpr (congrArg (Ok _) (e5 (au []))) ?_;rw[Zh,<-fU];have dq: ∀y∈L4,y∉[s.length+1,s.length+2,s.length+3]:=λy hy hm=>by
   have h1:S2.length<=y:=by
    rcases Vp y hy with h2|h2
    .exact gB y h2
    omega
   simp only[dR,xw,qP]at hm;omega
  have Cd:=kt.own;refine .mk ⟨t5,[],2,r2,1,r3,1,r4,rfl,((oZ t4 Nh).mono λy hy=>by cases hy).trans za,hC6,.inl rfl,.inl rfl,.inl rfl,⟨⟨hd,(kt.o2.fx za λy hy=>dq y (by rw[Cd];simp[hy])).sl,oD.oP (λ_ _ k=>FJ.oP hC6 za k) kt.bI.bI⟩,(kt.o3.fx za λy hy=>dq y (by rw[Cd];simp[hy])).sl,(kt.o4.fx za λy hy=>dq y (by rw[Cd];simp[hy])).sl⟩,kt.set.fx za (dq _ (by rw[Cd];simp)) (dq _ (by rw[Cd];simp))⟩
 .intro S3 hp
  cases hb:(bif decide (x.blocks<=((aM.length/64:Nat):Int))then ua K else none)with
  |some v=>rw[hb]at hp;have⟨_,_,_,_,_,_,_,_,e,_⟩:=hp;cases e
  |none=>
   rw[hb]at hp;have⟨_,e,hf⟩:=hp;cases e;rw[aa];have BF:=MS.fx hf λy hy=>by cases hy
   have⟨S4,e4,FJ,hf4⟩:=BF.OJ (β:=af) (jH ot 0 none 0 none 0 none) (.ptr none) (.i 31) rfl;have M0:R=some none:=by
    rw[<-hR];grind
   rw[M0];refine Ok.Pm (P:=λo=>o=(.val [],S4)) (by rw[e4];exact .mk rfl) ?_ ?_
   .intro S5 e;cases e
   .intro ds S5 e
    cases e;rw[ae,FJ.rY];exact .mk ⟨S4,rfl,wC S4 ((hf.mono λy hy=>by cases hy).trans hf4)⟩
 .intro ds S3 hp
  cases hb:(bif decide (x.blocks<=((aM.length/64:Nat):Int))then ua K else none)with
  |none=>rw[hb]at hp;have⟨_,e,_⟩:=hp;cases e
  |some v=>
   rw[hb]at hp;have⟨_,_,z2,p2,z3,p3,z4,p4,e,hf,BF,mD,Cy,Cz,bx,bN⟩:=hp;cases e;rw[ae,BF.rY];have M0:R=some (some v):=by
    rw[<-hR];grind
   rw[M0,<-km,ks];exact .mk ⟨S3,z2,p2,z3,p3,z4,p4,K.i,K.j,rfl,wC S3 hf,mD,Cy,Cz,bx,bN,AC,AC⟩
def pq (aM:aj) (x:db):cg:=⟨0,0,0,x.blocks.toNat,none,aM,x,none⟩
section
variable (w i j m:Nat) (a:ah) (aM:aj) (x:db) (pc:ah)
theorem Zpe: ∀(l:List eR) (k:Int) (v:bu),lX ⟨w,i,j,m,a,aM,x,pc⟩ k l v=lX ⟨0,0,0,m,none,aM,x,none⟩ k l v
 |[],_,_=>rfl
 |y::r,k,v=>by
  unfold lX;rw[show nX ⟨w,i,j,m,a,aM,x,pc⟩ k y v=nX ⟨0,0,0,m,none,aM,x,none⟩ k y v from rfl];cases nX ⟨0,0,0,m,none,aM,x,none⟩ k y v with
  |none=>rfl
  |some v'=>exact Zpe r (k+1) v'
theorem ZtK (k slot:Int) (v:bu):kZ ⟨w,i,j,m,a,aM,x,pc⟩ k slot v=kZ ⟨0,0,0,m,none,aM,x,none⟩ k slot v:=by
 unfold kZ;rw[show dy ⟨w,i,j,m,a,aM,x,pc⟩ k v=dy ⟨0,0,0,m,none,aM,x,none⟩ k v from rfl];cases dy ⟨0,0,0,m,none,aM,x,none⟩ k v with
 |none=>rfl
 |some q=>
  have⟨b,v1⟩:=q;cases b<;>first|rfl|exact Zpe w i j m a aM x pc _ _ _
theorem Ln (dc x5:Int): ∀(l:ak) (k:Int) (v:bu),jP ⟨w,i,j,m,a,aM,x,pc⟩ dc x5 k l v=jP ⟨0,0,0,m,none,aM,x,none⟩ dc x5 k l v
 |[],_,_=>rfl
 |y::r,k,v=>by
  unfold jP;rw[ZtK,Ln dc x5 r (k+1) v];cases kZ ⟨0,0,0,m,none,aM,x,none⟩ y ((x5*16+k)*7) v with
  |none=>rfl
  |some v'=>simp only[Ln dc x5 r (k+1) v']
theorem K1 (dc:Int): ∀(l:ak) (k:Int) (v:bu),nb ⟨w,i,j,m,a,aM,x,pc⟩ dc k l v=nb ⟨0,0,0,m,none,aM,x,none⟩ dc k l v
 |[],_,_=>rfl
 |y::r,k,v=>by
  unfold nb;rw[show dy ⟨w,i,j,m,a,aM,x,pc⟩ y v=dy ⟨0,0,0,m,none,aM,x,none⟩ y v from rfl,K1 dc r (k+1) v];cases dy ⟨0,0,0,m,none,aM,x,none⟩ y v with
  |none=>rfl
  |some q=>
   have⟨b,v1⟩:=q;cases b<;>try rfl
   rename_i z;simp only[Ln];cases jP ⟨0,0,0,m,none,aM,x,none⟩ dc k 0 z v1 with
   |none=>rfl
   |some v2=>simp only[K1 dc r (k+1) v2]
theorem ZsN (v:bu):oJ ⟨w,i,j,m,a,aM,x,pc⟩ v=oJ ⟨0,0,0,m,none,aM,x,none⟩ v:=by
 unfold oJ;rw[show dy ⟨w,i,j,m,a,aM,x,pc⟩ x.de v=dy ⟨0,0,0,m,none,aM,x,none⟩ x.de v from rfl];simp[K1]
theorem Zo9: ∀(f:Nat) (fl:List Bool) (k:Int) (v:bu),p5 ⟨w,i,j,m,a,aM,x,pc⟩ f fl k v=p5 ⟨0,0,0,m,none,aM,x,none⟩ f fl k v
 |0,_,_,_=>rfl
 |f+1,fl,k,v=>by
  unfold p5;cases v.aR[(k-1).toNat]? with
  |none=>rfl
  |some y=>simp only[Zo9 f]
theorem Zoi: ∀(l:List eR) (fl:List Bool),sZ ⟨w,i,j,m,a,aM,x,pc⟩ fl l=sZ ⟨0,0,0,m,none,aM,x,none⟩ fl l
 |[],_=>by unfold sZ;rfl
 |y::r,fl=>by
  unfold sZ;rw[Zoi r];rfl
theorem Ztp (v:bu):rF ⟨w,i,j,m,a,aM,x,pc⟩ v=rF ⟨0,0,0,m,none,aM,x,none⟩ v:=by
 simp[rF,Zo9,yp,Zoi]
theorem ZoC: ∀(f:Nat) (out:List eL) (todo:List nU) (v:bu),pV ⟨w,i,j,m,a,aM,x,pc⟩ f out todo v=pV ⟨0,0,0,m,none,aM,x,none⟩ f out todo v
 |0,_,_,_=>rfl
 |f+1,out,[],v=>rfl
 |f+1,out,t::r,v=>by
  unfold pV;rw[show dy ⟨w,i,j,m,a,aM,x,pc⟩ t.block v=dy ⟨0,0,0,m,none,aM,x,none⟩ t.block v from rfl];cases dy ⟨0,0,0,m,none,aM,x,none⟩ t.block v with
  |none=>rfl
  |some q=>
   have⟨b,v1⟩:=q;cases b<;>try rfl
   rename_i z;simp only[ZoC f];rfl
theorem KY: ∀(l:ak) (k:Int) (acc:List eL) (v:bu),mV ⟨w,i,j,m,a,aM,x,pc⟩ k l acc v=mV ⟨0,0,0,m,none,aM,x,none⟩ k l acc v
 |[],_,_,_=>rfl
 |y::r,k,acc,v=>by
  unfold mV;rw[show tY ⟨w,i,j,m,a,aM,x,pc⟩ y k v=tY ⟨0,0,0,m,none,aM,x,none⟩ y k v from ZoC w i j m a aM x pc _ _ _ _,KY r (k+1) acc v];cases tY ⟨0,0,0,m,none,aM,x,none⟩ y k v with
  |none=>rfl
  |some q=>
   have⟨es,v1⟩:=q;simp only[KY r (k+1)]
theorem Zqj: ∀(l:ak) (k:Nat) (v:bu),th ⟨w,i,j,m,a,aM,x,pc⟩ k l v=th ⟨0,0,0,m,none,aM,x,none⟩ k l v
 |[],_,_=>rfl
 |y::r,k,v=>by
  unfold th;rw[show dy ⟨w,i,j,m,a,aM,x,pc⟩ y v=dy ⟨0,0,0,m,none,aM,x,none⟩ y v from rfl];cases dy ⟨0,0,0,m,none,aM,x,none⟩ y v with
  |none=>rfl
  |some q=>
   have⟨b,v1⟩:=q;cases b<;>try rfl
   rename_i z;simp only[KY];cases mV ⟨0,0,0,m,none,aM,x,none⟩ 0 z.ia [] v1 with
   |none=>rfl
   |some q=>
    have⟨es,v2⟩:=q;simp only[Zqj r (k+1)]
theorem Zsn (v:bu):pU ⟨w,i,j,m,a,aM,x,pc⟩ v=pU ⟨0,0,0,m,none,aM,x,none⟩ v:=by
 unfold pU;rw[show dy ⟨w,i,j,m,a,aM,x,pc⟩ x.dir v=dy ⟨0,0,0,m,none,aM,x,none⟩ x.dir v from rfl];simp[Zqj]
theorem Ztm:ua ⟨w,i,j,m,a,aM,x,pc⟩=ua ⟨0,0,0,m,none,aM,x,none⟩:=by
 unfold ua;simp only[ZsN w i j m a aM x pc,Ztp w i j m a aM x pc,Zsn w i j m a aM x pc]
end
theorem Zq4 (K:cg) (h:K.m=K.sup.blocks.toNat):mJ K=mJ (pq K.aM K.sup):=by
 have⟨w,i,j,m,a,aM,sup,pc⟩:=K;simp only at h;subst h;unfold mJ;rw[Ztm];rfl
theorem Zjw (n:Nat) (a:ah) (aM:aj) (x:db) (pc:ah) (s:St) (ha:cC s a aM) (hc:Sl s pc (ints x.bg)) (hl:aM.length<1000000) (eu:x.bg.length<1000) (hn:5000<=n:=by omega):
  Ok (OZ s x.blocks.toNat x (mJ (pq aM x))) (run Bd n 171 [.slice 1 a aM.length,.agg (cN x pc)] s):=by
 have⟨K,h1,h2,h3,h4⟩:=ZoK n a aM x pc s ha hc hl eu hn;rw[Zq4 K (by rw[h1,h3]),h2,h3]at h4;exact h4
end Go.Gv.F
