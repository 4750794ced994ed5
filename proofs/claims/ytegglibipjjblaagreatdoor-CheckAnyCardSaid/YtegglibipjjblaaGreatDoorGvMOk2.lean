/- What a walk that is whole has shown: the state may be. No program in sight. -/
import Derived.Test.YtegglibipjjblaaGreatDoorGvMOk
set_option linter.all false
namespace Go.Gv.F
open Go.Gv
def Zq6 (x y:E4):ft (CW x) (CW y)=fL x y:=by
 rw[lC,DF];unfold ft CW;simp only;split
 .rw[bu]
  omega
 grind
def ZuZ: ∀ {l:List bh},Diff l->(l.map e4).Pairwise Ap
 |[],_=> .nil
 |e::l,.cons h1 h2=>by
  refine .cons (λy hy=>?_) (ZuZ h2);obtain⟨z,hz,rfl⟩:=pK.1 hy;have:=U1 (x:=e4 e) (y:=e4 z) (h1 z hz);rw[lT]at this;exact this
variable {es l m:List bh} {v v':aS}
def ZrV (h:Diff es):DA (lz es):=by
 intro i a b ha hb;have hs:=SB (ZuZ h);unfold lz at ha hb;rw[th]at ha hb;cases hx:(jB (es.map e4))[i]? with
 |none=>rw[hx]at ha;cases ha
 |some x=>
  cases hy:(jB (es.map e4))[i+1]? with
  |none=>rw[hy]at hb;cases hb
  |some y=>
   rw[hx]at ha;rw[hy]at hb;cases ha;cases hb;rw[Zq6];obtain⟨h1,e1⟩:=ef.1 hx;obtain⟨h2,e2⟩:=ef.1 hy;have:=(Ll.1 hs) i (i+1) h1 h2 (by omega);rw[e1,e2]at this;exact this
def lj (v:aS):List bh:=(v.aM.map (·.cj)).flatten
structure Fg (K:bL) (v:aS):Prop where
 ok: ∀e∈lj v,uC v e
 diff:Diff (lj v)
 live: ∀e∈lj v,zC K v.aG e
 cJ:v.nodes=((lj v).length:Nat)
 nm: ∀h∈v.aM,(qJ h.name=true/\DA h.cj)/\h.name.length<=24
 ord:M0 v.aM
 wl:v.W.length=(K.m+63)/64
def uC.mono {e:bh} (h:uC v e) (hs:v'.aG=v.aG) (hw: ∀k,di v.W k=true->di v'.W k=true):uC v' e:=by
 obtain⟨a,x,k,b,c,d⟩:=h;exact⟨a,x,k,by rw[hs];exact b,c,hw k d⟩
def Diff.perm (h:Diff l) (p:m.Perm l):Diff m:=(p.pairwise_iff λh e=>h e.symm).2 h
def ZxY {K:bL} {k:Int} {b:xr} (hl:v.W.length=(K.m+63)/64) (h:dN K k v=some (b,v')): ∀x,di v.W x=true->di v'.W x=true:=λx hx=>by
 rw[(xM h).2,qM hl,hx];rfl
def Zrz {K:bL} : ∀ {l:ak} {k:Nat} {v v':aS},Fg K v->v.aM.length=k->tM K k l v=some v'->Fg K v'/\WS K.m v v'
 |[],_,_,_,hd,_,h=>by cases h;exact⟨hd,.refl _ _⟩
 |y::r,k,v,v',hd,hk,h=>by
  unfold tM at h;split at h
  .rename_i q v1 ht
   cases hn:Aa v1 k q.name with
   |false=>rw[hn]at h;cases h
   |true=>
    rw[hn,ae]at h;obtain⟨g1,g2,g3,g4,g5,g6⟩:=Z3 ht;have pw:v1.W.length=(K.m+63)/64:=by rw[(xM ht).2,oM];exact hd.wl
    split at h
    .cases h
    .rename_i es v2 hh
     obtain⟨_,b2,b3,b4,b5,b6,b7⟩:=Ip pw hh (λ_ h=>by cases h) .nil;obtain⟨c1,c2,c3,c4,c5⟩:=Tm pw hh (λ_ h=>by cases h);obtain⟨d1,d2⟩:=c5 (lj v) (λe he=>by
      rw[gz]at he;exact(hd.ok e he).mono g1 (ZxY hd.wl ht)) (by rw[gz];exact hd.diff)
     obtain⟨OL,hq⟩:=RQ (ZmP (TR ht));unfold mO at hq;rw[aY]at hq;have ab4:v2.aM=v.aM:=b5.trans g2;have Av:lj { v2 with aM:=v2.aM++[⟨q.name,lz es⟩] } =lj v++lz es:=by
      unfold lj;grind
     have OF:(lj v++lz es).Perm (lj v++es):=(Zo5 es).append_left _;have iA:Fg K { v2 with aM:=v2.aM++[⟨q.name,lz es⟩] } :=by
      refine⟨λe he=>?_,?_,λe he=>?_,?_,λg hg=>?_,λi a b ha hb=>?_,b3⟩
      .rw[Av]at he
       exact d1 e (OF.mem_iff.1 he)
      .rw[Av]
       exact d2.perm OF
      .rw[Av]at he
       show zC K v2.aG e;rcases gx.1 he with he|he
       .rw[c4,g1];exact hd.live e he
       .rw[c4];exact c1 e ((Zo5 es).mem_iff.1 he)
      .rw[Av,bB,UH]
       show v2.nodes=_;have:=hd.cJ;rw[Be]at c2;omega
      .have oo:g∈v2.aM++[⟨q.name,lz es⟩]:=hg
       rcases gx.1 oo with oo|oo
       .rw[ab4]at oo;exact hd.nm g oo
       .rw[cB.1 oo];exact⟨⟨hq.1,ZrV b2⟩,OL⟩
      .have tP:(v2.aM++[⟨q.name,lz es⟩])[i]? =some a:=ha
       have dR:(v2.aM++[⟨q.name,lz es⟩])[i+1]? =some b:=hb;rw[ab4]at tP dR;by_cases hi:i+1<v.aM.length
       .rw[na (by omega)]at tP
        rw[na hi]at dR;exact hd.ord i a b tP dR
       .have hl:=(ef.1 dR).1
        rw[bB,iK]at hl;have vq:i+1=v.aM.length:=by omega
        rw[na (by omega)]at tP;rw[lE (by omega),vq,Bi]at dR;simp only[kW,fT]at dR;subst dR;unfold Aa at hn;rw[aF (by omega),af,g2,show k-1=i by omega,tP]at hn;grind
     obtain⟨e1,e2⟩:=Zrz (k:=k+1) iA (by grind) h;exact⟨e1,(MQ ht).trans (c3.trans ((WS.same rfl).trans e2))⟩
  .cases h
structure PV (K:bL) (fl:List Bool) (v:aS):Prop where
 len:fl.length=v.aG.length
 iff: ∀i,i<fl.length->(fl.getD i false=true↔(i:Int)∈v.free)
 nodup:v.free.Nodup
 all: ∀k∈v.free,0<=k/\k<(v.aG.length:Int)/\∃y,v.aG[k.toNat]? =some y/\y.live=false/\y.gen<K.sup.g
def Zri {K:bL} : ∀ {f:Nat} {fl qW:List Bool} {k:Int} {v v':aS},(∀x∈v.aG,ZK x=true)->(v.aG.length:Int)=K.sup.used->0<=k->PV K fl v->nl K f fl k v=some (qW,v')->PV K qW v'
 |0,_,_,_,_,_,_,_,_,_,h=>by cases h
 |f+1,fl,qW,k,v,v',hr,hu,h0,hf,h=>by
  unfold nl at h;cases h1:(k==0)with
  |true=>rw[h1]at h;cases h;exact hf
  |false=>
   have lM:k≠0:=by simpa using h1
   rw[h1,af]at h;cases h2:decide (k<=K.sup.used)with
   |false=>rw[h2]at h;cases h
   |true=>
    have JM:=mI h2;rw[h2,ae]at h;split at h
    .cases h
    .rename_i x hx
     cases h3:(bif (bif !x.live then decide (x.gen<K.sup.g)else false)then !fl.getD (k-1).toNat false else false)with
     |false=>rw[h3]at h;cases h
     |true=>
      rw[h3,ae]at h;obtain⟨p,hp⟩: ∃p:Nat,k-1=p:=⟨(k-1).toNat,by omega⟩;rw[hp,bp]at h hx h3;cases eN:x.live with
      |true=>rw[eN]at h3;cases h3
      |false=>
       cases yw:decide (x.gen<K.sup.g)with
       |false=>rw[eN,yw]at h3;cases h3
       |true=>
        rw[eN,yw]at h3;simp only[bn,ae,lD]at h3;have vz:=hr x (ur hx);have ym:0<=x.block:=by
         unfold ZK at vz;rw[eN,af,aY,aY]at vz;have:=vz.2.1;unfold lg at this;grind
        have hlen:=hf.len;refine Zri (v:= { v with free:=v.free++[((p:Nat):Int)] }) hr hu ym ⟨by rw[nR];exact hf.len,λi hi=>?_,?_,λq hq=>?_⟩ h
        .rw[nR]at hi
         show _↔_∈v.free++[((p:Nat):Int)];rw[gx,cB,<-hf.iff i hi,dW];by_cases hip:i=p
         .grind
         grind
        .show(v.free++[((p:Nat):Int)]).Nodup
         rw[rO];refine⟨hf.nodup,(by simp),λa ha b hb e=>?_⟩;rw[cB.1 hb]at e;subst e;have:=(hf.iff p (by omega)).2 ha;rw[this]at h3;cases h3
        .have sL:q∈v.free++[((p:Nat):Int)]:=hq
         rcases gx.1 sL with sL|sL
         .exact hf.all q sL
         grind
def Zrb {K:bL} : ∀ {l:List bw} {fl:List Bool},qO K fl l=true->∀(i:Nat) (y:bw),l[i]? =some y->y.live=true\/y.gen=K.sup.g\/fl.getD i false=true
 |[],_,_,i,y,h=>by simp at h
 |x::r,fl,h,i,y,hy=>by
  unfold qO at h;rw[aY]at h;cases i with
  |zero=>
   grind[DS]
  |succ i=>
   have:=Zrb h.2 i y (by simpa using hy);rw[dW,Bc,tk]at this;rw[dW];exact this
def Zwa {α:Type} [DecidableEq α]: ∀ {l m:List α},l.Nodup->(∀x∈l,x∈m)->m.length<=l.length->∀x∈m,x∈l
 |[],m,_,_,hl,x,hx=>by
  have:m=[]:=zp.1 (by simpa using hl);rw[this]at hx;cases hx
 |a::l,m,hn,hs,hl,x,hx=>by
  rw[zu]at hn;have ha:=hs a (by simp);have hle:=List.length_erase_of_mem ha;by_cases e:x=a
  .rw[e];simp
  .have Ex:x∈m.erase a:=(List.mem_erase_of_ne e).2 hx
   have:=Zwa (m:=m.erase a) hn.2 (by grind) (by rw[hle];grind) x Ex;simp[this]
end Go.Gv.F
