/- What a walk that is whole has shown: the state may be. No program in sight. -/
import Derived.Test.YtegglibipjjblaaGreatDoorGvMOk
set_option linter.all false
namespace Go.Gv.F
open Go.Gv
theorem Zri (x y:E4):fu (C0 x) (C0 y)=fL x y:=by
 rw[lE,DN];unfold fu C0;simp only;split
 .rw[br]
  omega
 grind
theorem ZuQ: ∀ {l:List bh},Diff l->(l.map e4).Pairwise Ap
 |[],_=> .nil
 |e::l,.cons h1 h2=>by
  refine .cons (λy hy=>?_) (ZuQ h2);obtain⟨z,hz,rfl⟩:=pK.1 hy;have:=Vl (x:=e4 e) (y:=e4 z) (h1 z hz);rw[lV]at this;exact this
variable {es l m:List bh} {v v':aS}
theorem ZrE (h:Diff es):DI (lB es):=by
 intro i a b ha hb;have hs:=SL (ZuQ h);unfold lB at ha hb;rw[rQ]at ha hb;cases hx:(jC (es.map e4))[i]? with
 |none=>rw[hx]at ha;cases ha
 |some x=>
  cases hy:(jC (es.map e4))[i+1]? with
  |none=>rw[hy]at hb;cases hb
  |some y=>
   rw[hx]at ha;rw[hy]at hb;cases ha;cases hb;rw[Zri];have⟨h1,e1⟩:=ef.1 hx;have⟨h2,e2⟩:=ef.1 hy;have:=(Lt.1 hs) i (i+1) h1 h2 (by omega);rw[e1,e2]at this;exact this
def lq (v:aS):List bh:=(v.aM.map (·.cj)).flatten
structure Fm (K:bL) (v:aS):Prop where
 ok: ∀e∈lq v,uE v e
 diff:Diff (lq v)
 live: ∀e∈lq v,zG K v.aG e
 cJ:v.nodes=((lq v).length:Nat)
 nm: ∀h∈v.aM,(qI h.name=true/\DI h.cj)/\h.name.length<=24
 ord:M4 v.aM
 wl:v.W.length=(K.m+63)/64
theorem uE.mono {e:bh} (h:uE v e) (hs:v'.aG=v.aG) (hw: ∀k,di v.W k=true->di v'.W k=true):uE v' e:=by
 have⟨a,x,k,b,c,d⟩:=h;exact⟨a,x,k,by rw[hs];exact b,c,hw k d⟩
theorem Diff.perm (h:Diff l) (p:m.Perm l):Diff m:=(p.pairwise_iff λh e=>h e.symm).2 h
theorem Zye {K:bL} {k:Int} {b:xr} (hl:v.W.length=(K.m+63)/64) (h:dO K k v=some (b,v')): ∀x,di v.W x=true->di v'.W x=true:=λx hx=>by
 rw[(xK h).2,qP hl,hx];rfl
theorem Zq1 {K:bL} : ∀ {l:ak} {k:Nat} {v v':aS},Fm K v->v.aM.length=k->tP K k l v=some v'->Fm K v'/\WS K.m v v'
 |[],_,_,_,hd,_,h=>by cases h;exact⟨hd,.refl _ _⟩
 |y::r,k,v,v',hd,hk,h=>by
  unfold tP at h;split at h
  .rename_i q v1 ht
   cases hn:Ad v1 k q.name with
   |false=>rw[hn]at h;cases h
   |true=>
    rw[hn,ae]at h;have⟨g1,g2,g3,g4,g5,g6⟩:=Z2 ht;have pw:v1.W.length=(K.m+63)/64:=by rw[(xK ht).2,oM];exact hd.wl
    split at h
    .cases h
    .rename_i es v2 hh
     have⟨_,b2,b3,b4,b5,b6,b7⟩:=It pw hh (λ_ h=>by cases h) .nil;have⟨c1,c2,c3,c4,c5⟩:=Tx pw hh (λ_ h=>by cases h);have⟨d1,d2⟩:=c5 (lq v) (λe he=>by
      rw[gz]at he;exact(hd.ok e he).mono g1 (Zye hd.wl ht)) (by rw[gz];exact hd.diff)
     have⟨OV,hq⟩:=RO (Zmb (UG ht));unfold mQ at hq;rw[aY]at hq;have ach:v2.aM=v.aM:=b5.trans g2;have Ay:lq { v2 with aM:=v2.aM++[⟨q.name,lB es⟩] } =lq v++lB es:=by
      unfold lq;grind
     have OR:(lq v++lB es).Perm (lq v++es):=(ZoR es).append_left _;have iA:Fm K { v2 with aM:=v2.aM++[⟨q.name,lB es⟩] } :=by
      refine⟨λe he=>?_,?_,λe he=>?_,?_,λg hg=>?_,λi a b ha hb=>?_,b3⟩
      .rw[Ay]at he
       exact d1 e (OR.mem_iff.1 he)
      .rw[Ay]
       exact d2.perm OR
      .rw[Ay]at he
       show zG K v2.aG e;rcases gx.1 he with he|he
       .rw[c4,g1];exact hd.live e he
       .rw[c4];exact c1 e ((ZoR es).mem_iff.1 he)
      .rw[Ay,bB,UC]
       show v2.nodes=_;have:=hd.cJ;rw[Bh]at c2;omega
      .have oo:g∈v2.aM++[⟨q.name,lB es⟩]:=hg
       rcases gx.1 oo with oo|oo
       .rw[ach]at oo;exact hd.nm g oo
       .rw[cB.1 oo];exact⟨⟨hq.1,ZrE b2⟩,OV⟩
      .have tS:(v2.aM++[⟨q.name,lB es⟩])[i]? =some a:=ha
       have dR:(v2.aM++[⟨q.name,lB es⟩])[i+1]? =some b:=hb;rw[ach]at tS dR;by_cases hi:i+1<v.aM.length
       .rw[mH (by omega)]at tS
        rw[mH hi]at dR;exact hd.ord i a b tS dR
       .have hl:=(ef.1 dR).1
        rw[bB,iK]at hl;have vt:i+1=v.aM.length:=by omega
        rw[mH (by omega)]at tS;rw[kX (by omega),vt,Bk]at dR;simp only[kY,fT]at dR;subst dR;unfold Ad at hn;rw[aF (by omega),af,g2,show k-1=i by omega,tS]at hn;grind
     have⟨e1,e2⟩:=Zq1 (k:=k+1) iA (by grind) h;exact⟨e1,(Nb ht).trans (c3.trans ((WS.same rfl).trans e2))⟩
  .cases h
structure Qa (K:bL) (fl:List Bool) (v:aS):Prop where
 len:fl.length=v.aG.length
 iff: ∀i,i<fl.length->(fl.getD i false=true↔(i:Int)∈v.free)
 nodup:v.free.Nodup
 all: ∀k∈v.free,0<=k/\k<(v.aG.length:Int)/\∃y,v.aG[k.toNat]? =some y/\y.live=false/\y.gen<K.sup.g
theorem ZqQ {K:bL} : ∀ {f:Nat} {fl qX:List Bool} {k:Int} {v v':aS},(∀x∈v.aG,ZK x=true)->(v.aG.length:Int)=K.sup.used->0<=k->Qa K fl v->nk K f fl k v=some (qX,v')->Qa K qX v'
 |0,_,_,_,_,_,_,_,_,_,h=>by cases h
 |f+1,fl,qX,k,v,v',hr,hu,h0,hf,h=>by
  unfold nk at h;cases h1:(k==0)with
  |true=>rw[h1]at h;cases h;exact hf
  |false=>
   have lO:k≠0:=by simpa using h1
   rw[h1,af]at h;cases h2:decide (k<=K.sup.used)with
   |false=>rw[h2]at h;cases h
   |true=>
    have JR:=mK h2;rw[h2,ae]at h;split at h
    .cases h
    .rename_i x hx
     cases h3:(bif (bif !x.live then decide (x.gen<K.sup.g)else false)then !fl.getD (k-1).toNat false else false)with
     |false=>rw[h3]at h;cases h
     |true=>
      rw[h3,ae]at h;have⟨p,hp⟩: ∃p:Nat,k-1=p:=⟨(k-1).toNat,by omega⟩;rw[hp,bp]at h hx h3;cases eN:x.live with
      |true=>rw[eN]at h3;cases h3
      |false=>
       cases yx:decide (x.gen<K.sup.g)with
       |false=>rw[eN,yx]at h3;cases h3
       |true=>
        rw[eN,yx]at h3;simp only[bn,ae,lF]at h3;have vB:=hr x (uw hx);have yo:0<=x.block:=by
         unfold ZK at vB;rw[eN,af,aY,aY]at vB;have:=vB.2.1;unfold ll at this;grind
        have hlen:=hf.len;refine ZqQ (v:= { v with free:=v.free++[(p:Int)] }) hr hu yo ⟨by rw[nR];exact hf.len,λi hi=>?_,?_,λq hq=>?_⟩ h
        .rw[nR]at hi
         show _↔_∈v.free++[(p:Int)];rw[gx,cB,<-hf.iff i hi,dW];by_cases hip:i=p
         .grind
         grind
        .show(v.free++[(p:Int)]).Nodup
         rw[rR];refine⟨hf.nodup,(by simp),λa ha b hb e=>?_⟩;rw[cB.1 hb]at e;subst e;have:=(hf.iff p (by omega)).2 ha;rw[this]at h3;cases h3
        .have sP:q∈v.free++[(p:Int)]:=hq
         rcases gx.1 sP with sP|sP
         .exact hf.all q sP
         grind
theorem Zq2 {K:bL} : ∀ {l:List bw} {fl:List Bool},qR K fl l=true->∀(i:Nat) (y:bw),l[i]? =some y->y.live=true\/y.gen=K.sup.g\/fl.getD i false=true
 |[],_,_,i,y,h=>by simp at h
 |x::r,fl,h,i,y,hy=>by
  unfold qR at h;rw[aY]at h;cases i with
  |zero=>
   grind[DO]
  |succ i=>
   have:=Zq2 h.2 i y (by simpa using hy);rw[dW,Bg,tm]at this;rw[dW];exact this
theorem Zw1 {α:Type} [DecidableEq α]: ∀ {l m:List α},l.Nodup->(∀x∈l,x∈m)->m.length<=l.length->∀x∈m,x∈l
 |[],m,_,_,hl,x,hx=>by
  have:m=[]:=zu.1 (by simpa using hl);rw[this]at hx;cases hx
 |a::l,m,hn,hs,hl,x,hx=>by
  rw[zA]at hn;have ha:=hs a (by simp);have hle:=List.length_erase_of_mem ha;by_cases e:x=a
  .rw[e];simp
  .have EC:x∈m.erase a:=(List.mem_erase_of_ne e).2 hx
   have:=Zw1 (m:=m.erase a) hn.2 (by grind) (by rw[hle];grind) x EC;simp[this]
end Go.Gv.F
