/- What a walk that is whole has shown: the state may be. No program in sight. -/
import Derived.Test.YtegglibipjjblaaGreatDoorGvMOk
set_option linter.all false
namespace Go.Gv.F
open Go.Gv
theorem Zro (x y:E4):eX (Dt x) (Dt y)=fY x y:=by
 rw[nL,D7];unfold eX Dt;simp only;split
 .rw[bq]
  omega
 grind
theorem Zvh: ∀ {l:List aP},Diff l->(l.map e4).Pairwise Ap
 |[],_=> .nil
 |e::l,.cons h1 h2=>by
  refine .cons (λy hy=>?_) (Zvh h2);obtain⟨z,hz,rfl⟩:=jK.1 hy;have:=VU (x:=e4 e) (y:=e4 z) (h1 z hz);rw[mB]at this;exact this
variable {es l m:List aP} {v v':aI}
theorem ZrX (h:Diff es):B0 (kK es):=by
 intro i a b ha hb;have hs:=Tl (Zvh h);unfold kK at ha hb;rw[nf]at ha hb;cases hx:(kb (es.map e4))[i]?
 .rw[hx]at ha;cases ha
 .rename_i x;cases hy:(kb (es.map e4))[i+1]?
  .rw[hy]at hb;cases hb
  .rename_i y;rw[hx]at ha;rw[hy]at hb;cases ha;cases hb;rw[Zro];have⟨h1,e1⟩:=eE.1 hx;have⟨h2,e2⟩:=eE.1 hy;have:=(HZ.1 hs) i (i+1) h1 h2 AC;rw[e1,e2]at this;exact this
def me (v:aI):List aP:=(v.aD.map (·.bz)).flatten
structure FN (K:bu) (v:aI):Prop where
 ok: ∀e∈me v,vM v e
 diff:Diff (me v)
 live: ∀e∈me v,Af K v.ay e
 cnt:v.nodes=((me v).length:Nat)
 nm: ∀h∈v.aD,(pH h.name=true/\B0 h.bz)/\h.name.length<=24
 ord:Ji v.aD
 wl:v.W.length=(K.m+63)/64
theorem vM.mono {e:aP} (h:vM v e) (hs:v'.ay=v.ay) (hw: ∀k,cD v.W k=true->cD v'.W k=true):vM v' e:=by
 have⟨a,x,k,b,c,d⟩:=h;exact⟨a,x,k,by rw[hs];exact b,c,hw k d⟩
theorem Diff.perm (h:Diff l) (p:m.Perm l):Diff m:=(p.pairwise_iff λh e=>h e.symm).2 h
theorem ZzR {K:bu} {k:Int} {b:xa} (hl:v.W.length=(K.m+63)/64) (h:dC K k v=some (b,v')): ∀x,cD v.W x=true->cD v'.W x=true:=λx hx=>by
 rw[(yB h).2,oz hl,hx];rfl
theorem Zrh {K:bu} : ∀ {l:ak} {k:Nat} {v v':aI},FN K v->v.aD.length=k->oD K k l v=some v'->FN K v'/\WS K.m v v'
 |[],_,_,_,hd,_,h=>by cases h;exact⟨hd,.refl _ _⟩
 |y::r,k,v,v',hd,hk,h=>by
  unfold oD at h;split at h
  .rename_i q v1 ht
   cases hn:v8 v1 k q.name
   .rw[hn]at h;cases h
   .rw[hn,ae]at h;have⟨g1,g2,g3,g4,g5,g6⟩:=Z4 ht;have nz:v1.W.length=(K.m+63)/64:=by rw[(yB ht).2,np];exact hd.wl
    split at h
    .cases h
    .rename_i es v2 hh
     have⟨_,b2,b3,b4,b5,b6,b7⟩:=IJ nz hh (λ_ h=>by cases h) .nil;have⟨c1,c2,c3,c4,c5⟩:=Tn nz hh (λ_ h=>by cases h);have⟨d1,d2⟩:=c5 (me v) (λe he=>by
      rw[fP]at he;exact(hd.ok e he).mono g1 (ZzR hd.wl ht)) (by rw[fP];exact hd.diff)
     have⟨PL,hq⟩:=SH (Zmi (Vw ht));unfold mL at hq;rw[aS]at hq;have adW:v2.aD=v.aD:=b5.trans g2;have AX:me { v2 with aD:=v2.aD++[⟨q.name,kK es⟩] } =me v++kK es:=by
      unfold me;grind
     have PH:(me v++kK es).Perm (me v++es):=(Zpd es).append_left _;have iY:FN K { v2 with aD:=v2.aD++[⟨q.name,kK es⟩] } :=by
      refine⟨λe he=>?_,?_,λe he=>?_,?_,λg hg=>?_,λi a b ha hb=>?_,b3⟩
      .rw[AX]at he
       exact d1 e (PH.mem_iff.1 he)
      .rw[AX]
       exact d2.perm PH
      .rw[AX]at he
       show Af K v2.ay e;rcases ga.1 he with he|he
       .rw[c4,g1];exact hd.live e he
       .rw[c4];exact c1 e ((Zpd es).mem_iff.1 he)
      .rw[AX,ba,UW]
       show v2.nodes=_;have:=hd.cnt;rw[Aa]at c2;omega
      .have pR:g∈v2.aD++[⟨q.name,kK es⟩]:=hg
       rcases ga.1 pR with pR|pR
       .rw[adW]at pR;exact hd.nm g pR
       .rw[cH.1 pR];exact⟨⟨hq.1,ZrX b2⟩,PL⟩
      .have vj:(v2.aD++[⟨q.name,kK es⟩])[i]? =some a:=ha
       have dq:(v2.aD++[⟨q.name,kK es⟩])[i+1]? =some b:=hb;rw[adW]at vj dq;by_cases hi:i+1<v.aD.length
       .rw[nc AC]at vj
        rw[nc hi]at dq;exact hd.ord i a b vj dq
       .have hl:=(eE.1 dq).1
        rw[ba,iS]at hl;have wC:i+1=v.aD.length:=AC
        rw[nc AC]at vj;rw[kO AC,wC,yg]at dq;simp only[ly,gf]at dq;subst dq;unfold v8 at hn;rw[aU,g2,show k-1=i by omega,vj]at hn;grind
     have⟨e1,e2⟩:=Zrh (k:=k+1) iY Fd h;exact⟨e1,(NW ht).trans (c3.trans ((WS.same rfl).trans e2))⟩
  .cases h
structure QM (K:bu) (fl:List Bool) (v:aI):Prop where
 len:fl.length=v.ay.length
 iff: ∀i,i<fl.length->(fl.getD i false=true↔(i:Int)∈v.free)
 nodup:v.free.Nodup
 all: ∀k∈v.free,0<=k/\k<(v.ay.length:Int)/\∃y,v.ay[k.toNat]? =some y/\y.live=false/\y.gen<K.sup.g
theorem ZrG {K:bu} : ∀ {f:Nat} {fl mh:List Bool} {k:Int} {v v':aI},(∀x∈v.ay,ZK x=true)->(v.ay.length:Int)=K.sup.used->0<=k->QM K fl v->jZ K f fl k v=some (mh,v')->QM K mh v'
 |0,_,_,_,_,_,_,_,_,_,h=>by cases h
 |f+1,fl,mh,k,v,v',hr,hu,h0,hf,h=>by
  unfold jZ at h;cases h1:(k==0)
  .have mV:k≠0:=by simpa using h1
   rw[h1,af]at h;cases h2:decide (k<=K.sup.used)
   .rw[h2]at h;cases h
   .have Kh:=ng h2;rw[h2,ae]at h;split at h
    .cases h
    .rename_i x hx
     cases h3:(bif (bif !x.live then decide (x.gen<K.sup.g)else false)then !fl.getD (k-1).toNat false else false)
     .rw[h3]at h;cases h
     .rw[h3,ae]at h;have⟨p,hp⟩: ∃p:Nat,k-1=p:=⟨(k-1).toNat,AC⟩;rw[hp,bn]at h hx h3;cases eQ:x.live
      .cases Hm:decide (x.gen<K.sup.g)
       .rw[eQ,Hm]at h3;cases h3
       .rw[eQ,Hm]at h3;simp only[bD,ae,kN]at h3;have zy:=hr x (qc hx);have yX:0<=x.block:=by
         unfold ZK at zy;rw[eQ,af,aS,aS]at zy;have:=zy.2.1;unfold kR at this;grind
        have hlen:=hf.len;refine ZrG (v:= { v with free:=v.free++[(p:Int)] }) hr hu yX ⟨by rw[lz];exact hf.len,λi hi=>?_,?_,λq hq=>?_⟩ h
        .rw[lz]at hi
         show _↔_∈v.free++[(p:Int)];rw[ga,cH,<-hf.iff i hi,cz];by_cases hip:i=p
         .grind
         grind
        .show(v.free++[(p:Int)]).Nodup
         rw[jU];refine⟨hf.nodup,Do,λa ha b hb e=>?_⟩;rw[cH.1 hb]at e;subst e;have:=(hf.iff p AC).2 ha;rw[this]at h3;cases h3
        .have ug:q∈v.free++[(p:Int)]:=hq
         rcases ga.1 ug with ug|ug
         .exact hf.all q ug
         grind
      .rw[eQ]at h3;cases h3
  .rw[h1]at h;cases h;exact hf
theorem Zrn {K:bu} : ∀ {l:List aX} {fl:List Bool},nj K fl l=true->∀(i:Nat) (y:aX),l[i]? =some y->y.live=true\/y.gen=K.sup.g\/fl.getD i false=true
 |[],_,_,i,y,h=>by simp at h
 |x::r,fl,h,i,y,hy=>by
  unfold nj at h;rw[aS]at h;cases i with
  |zero=>
   grind[vV]
  |succ i=>
   have:=Zrn h.2 i y (by simpa using hy);rw[cz,w4,tm]at this;rw[cz];exact this
theorem Zyc {α:Type} [DecidableEq α]: ∀ {l m:List α},l.Nodup->(∀x∈l,x∈m)->m.length<=l.length->∀x∈m,x∈l
 |[],m,_,_,hl,x,hx=>by
  have:m=[]:=z8.1 (by simpa using hl);rw[this]at hx;cases hx
 |a::l,m,hn,hs,hl,x,hx=>by
  rw[qQ]at hn;have ha:=hs a Do;have hle:=List.length_erase_of_mem ha;by_cases e:x=a
  .rw[e];simp
  .have HG:x∈m.erase a:=(List.mem_erase_of_ne e).2 hx
   have:=Zyc (m:=m.erase a) hn.2 Fd (by rw[hle];grind) x HG;simp[this]
