/- What a walk that is whole has shown: in sum. No program in sight. -/
import Derived.Test.YtegglibipjjblaaGreatDoorGvMOk2
set_option linter.all false
namespace Go.Gv.F
open Go.Gv
theorem ZvV {l:aj} {x:ak} (h:ZA l= .dir x):x.length<=16:=by
 unfold ZA at h;split at h
 .cases h
 .split at h
  .cases h
  .split at h
   .cases h
   .split at h
    .cases h
    .split at h
     .rename_i y hy
      cases h;unfold kl at hy;split at hy
      .cases hy
      .rename_i k t b _
       cases e:(decide (k=6)&&(decide (t<=16)&&ZB (b.drop (2*t))))
       .rw[e]at hy;cases hy
       .rw[e]at hy;cases e2:Al (dO b t)
        .rw[e2]at hy;cases hy
        .rw[e2]at hy;cases hy;rw[aS,aS]at e;have:=ng e.2.1;rw[pG];exact this
     .cases h
theorem VK {m:Nat} : ∀(ks:ak) {W:al},W.length=(m+63)/64->(∀k,cD W k=true->k<m)->(∀k,cD W k=true->cD (ks.foldl (bA m) W) k=true)/\(∀k,cD (ks.foldl (bA m) W) k=true->k<m)
 |[],W,_,h=>⟨λ_ h=>h,h⟩
 |a::ks,W,hl,h=>by
  rw[zZ];have h1: ∀k,cD (bA m W a) k=true->k<m:=λk hk=>by
   rw[oz hl,mB]at hk;rcases hk with hk|hk
   .exact h k hk
   .rw[aS]at hk
    grind[fe]
  have⟨a1,a2⟩:=VK ks (W:=bA m W a) (by rw[np];exact hl) h1;exact⟨λk hk=>a1 k (by rw[oz hl,hk];rfl),a2⟩
theorem ZyQ (n k:Nat):cD (List.replicate n 0) k=false:=by
 unfold cD;rw[cz,Fy];split
 .unfold eN;simp
 .unfold eN;simp
structure ZBp (K:bu) (v:aI):Prop where
 may:lY (na K.sup v)
 len:v.W.length=(K.m+63)/64
 lt: ∀w∈v.W,w<18446744073709551616
 top: ∀k,cD v.W k=true->k<K.m
 in0:cD v.W 0=true
 in1:cD v.W 1=true
 nm: ∀h∈v.aD,h.name.length<=24
theorem Zy0 {K:bu} (hK:ZP K.sup=true) (hm:K.sup.blocks=(K.m:Int)) {v:aI} (h:om K=some v):ZBp K v:=by
 have⟨A0,sO,zB,wz,CP⟩:=Tj hK;have⟨g1,g2,g3,g4,g5,g6⟩:=ZM A0;unfold om at h;cases hp:lD K (lj K.m)with
 |none=>rw[hp]at h;cases h
 |some v1=>
 rw[hp]at h;simp only at h;cases ec:oa K v1 with
 |none=>rw[ec]at h;cases h
 |some v2=>
 rw[ec]at h;simp only at h;cases hq:nS K v2 with
 |none=>rw[hq]at h;cases h
 |some v3=>
 rw[hq]at h;simp only at h;cases hl:decide ((vB v3:Int)=v3.nodes)with
 |false=>rw[hl]at h;cases h
 |true=>
 rw[hl,ae]at h;have Kr:=ng hl;have hv:v=sR v3:=(DB h).symm;have⟨k1,k2,k3,k4⟩:=Znq hp;have⟨fW,jG⟩:=ZrP sO AC rfl hp;have⟨ws1,so1⟩:=Zyf hp;have wJ:=so1 (λ_ h=>by cases h);have⟨q1,q2,q3,q4⟩:=ZoI ec;have hFW:v2.W=v1.W/\∃fl,QM K fl v2/\nj K fl v2.ay=true:=by
  unfold oa at ec;cases hg:jZ K (K.sup.used.toNat+1) (List.replicate K.sup.used.toNat false) K.sup.free v1
  .rw[hg]at ec;cases ec
  .rename_i q;have⟨fl,w⟩:=q;rw[hg]at ec;unfold xm at ec;simp only at ec;cases xP:nj K fl w.ay
   .rw[xP]at ec;cases ec
   .rw[xP]at ec;cases ec;have hW: ∀ {f:Nat} {fl mh:List Bool} {k:Int} {v v':aI},jZ K f fl k v=some (mh,v')->v'.W=v.W:=by
     intro f;induction f with
     |zero=>intro fl mh k v v' h;cases h
     |succ f ih=>
      intro fl mh k v v' h;unfold jZ at h;cases e1:(k==0)
      .rw[e1,af]at h;cases e2:decide (k<=K.sup.used)
       .rw[e2]at h;cases h
       .rw[e2,ae]at h;split at h
        .cases h
        .rename_i x hx
         cases e3:(bif (bif !x.live then decide (x.gen<K.sup.g)else false)then !fl.getD (k-1).toNat false else false)
         .rw[e3]at h;cases h
         .rw[e3,ae]at h;grind
      .rw[e1]at h;cases h;rfl
    refine⟨hW hg,fl,ZrG jG fW wz ⟨?_,λi hi=>?_,?_,λk hk=>?_⟩ hg,xP⟩
    .rw[pw];omega
    .rw[k3,cz,Fy]
     constructor
     .grind
     .intro e;cases e
    .rw[k3];exact List.nodup_nil
    .rw[k3]at hk;cases hk
 have⟨ml,fl,OY,sJ⟩:=hFW;have ws2:WS K.m v1 v2:=WS.same ml;have G3:(lj K.m).W.length=(K.m+63)/64:=by
  show(gD K.m [0,1]).length=_;unfold gD;rw[(ZG K.m _ _).1,pw]
 have ait:=VK (m:=K.m) [0,1] (W:=List.replicate ((K.m+63)/64) 0) pw (λk hk=>by rw[ZyQ]at hk;cases hk);have air:cD (lj K.m).W 0=true/\cD (lj K.m).W 1=true:=by
  have e:(lj K.m).W=bA K.m (bA K.m (List.replicate ((K.m+63)/64) 0) 0) 1:=rfl;have Hu:fe K.m 0=true:=by unfold fe;rw[aS,bq,bq];omega
  have fS:fe K.m 1=true:=by unfold fe;rw[aS,bq,bq];omega
  rw[e];constructor
  .rw[oz (by rw[np];grind),oz pw,Hu]
   simp
  .rw[oz (by rw[np];grind),fS]
   simp
 have AQ:v2.W.length=(K.m+63)/64:=by
  have⟨ks,e⟩:=ws1.trans ws2;rw[e,(ZG K.m _ _).1];exact G3
 have PQ:v2.ay=v1.ay:=q1;have jE:FN K v2:=by
  have hh:v2.aD=[]:=by rw[q2,k1];rfl
  have he:me v2=[]:=by unfold me;rw[hh];rfl
  refine⟨Fd,by rw[he];exact .nil,Fd,by rw[he,q4,k4];rfl,Fd,λi a b h=>(by rw[hh]at h;simp at h),AQ⟩
 have hQ:FN K v3/\WS K.m v2 v3/\v3.aD.length<=16/\v3.ay=v2.ay/\v3.gens=v2.gens/\v3.free=v2.free:=by
  have⟨x1,x2,x3⟩:=ZmH AQ hq;unfold nS at hq;cases J6:(K.sup.dir==0)
  .rw[J6,af]at hq;split at hq
   .rename_i x w ht
    have⟨y1,y2,y3,y4,y5,y6⟩:=Z4 ht;have mq:w.W.length=(K.m+63)/64:=by rw[(yB ht).2,np];exact AQ
    have hh:v2.aD=[]:=by rw[q2,k1];rfl
    have hdw:FN K w:=by
     have CU:w.aD=[]:=by rw[y2,hh]
     have he:me w=[]:=by unfold me;rw[CU];rfl
     refine⟨Fd,by rw[he];exact .nil,Fd,by rw[he,y5,q4,k4];rfl,Fd,λi a b h=>(by rw[CU]at h;simp at h),mq⟩
    have⟨z1,z2⟩:=Zrh hdw (by rw[y2,hh];rfl) hq;have⟨_,_,_,u4⟩:=Wb mq hq;refine⟨z1,(NW ht).trans z2,?_,x1,x2,x3⟩;rw[u4,y2,hh];have:=ZvV (Vw ht);simpa using this
   .cases hq
  .rw[J6]at hq;cases hq;refine⟨jE,.refl _ _,?_,rfl,rfl,rfl⟩;rw[q2,k1];exact cN _
 have⟨Ey,ws3,sB,xs,xg,xf⟩:=hQ;have YK:v3.gens=[]:=by rw[xg,q3,k2];rfl
 have qH:v3.ay=v1.ay:=xs.trans PQ;have EX:v.gens=v1.ay.map (·.gen):=by rw[hv];show v3.gens++_=_;rw[YK,qH];rfl
 have PW:v.free=v2.free:=by rw[hv];exact xf
 have K5:v.aD=v3.aD:=by rw[hv];rfl
 have PV:v.W=v3.W:=by rw[hv];rfl
 have⟨ks,zm⟩:=(ws1.trans ws2).trans ws3;have dy:=VK ks G3 ait.2;have AX:Zp (na K.sup v)=me v3:=by unfold Zp na me;rw[K5]
 have Hl: ∀(i:Nat) (y:aX),v1.ay[i]? =some y->(na K.sup v).gens.getD i 0=y.gen:=λi y e=>by
  show v.gens.getD i 0=_;rw[EX,cz,nf,e];rfl
 have kV:(na K.sup v).gens.length=v1.ay.length:=by show v.gens.length=_;rw[EX,mC]
 have hL: ∀e∈me v3,Af K v1.ay e:=λe he=>by have:=Ey.live e he;rwa [qH]at this
 have aiO: ∀k∈v2.free,0<=k/\k<(v1.ay.length:Int)/\∃y,v1.ay[k.toNat]? =some y/\y.live=false/\y.gen<K.sup.g:=λk hk=>by have:=OY.all k hk;rwa [PQ]at this
 have aj7:((me v3).map (·.slot)).Nodup:=by
  unfold List.Nodup;rw[FF];exact Ey.diff
 refine⟨⟨A0,?_,?_,λg hg=>?_,?_,?_,λk hk=>?_,λe he=>?_,λk hk=>?_,λw hw=>?_,λi hi hn=>?_⟩,?_,?_,?_,?_,?_,λg hg=>(Ey.nm g (by rw[<-K5];exact hg)).2⟩
 .rw[kV];show _<=K.sup.cW;omega
 .show v.aD.length<=16;rw[K5];exact sB
 .have pR:g∈v.aD:=hg
  rw[K5]at pR;exact(Ey.nm g pR).1
 .show Ji v.aD;rw[K5];exact Ey.ord
 .rw[AX]
  show(_++v.free).Nodup;rw[PW,jU];refine⟨aj7,OY.nodup,λa ha b hb e=>?_⟩;subst e;obtain⟨en,tW,rfl⟩:=jK.1 ha;have⟨_,_,y,E8,Ld,_⟩:=hL en tW;grind
 .rw[AX]at hk
  have oK:k∈(me v3).map (·.slot)++v.free:=hk;rw[PW]at oK;rw[kV];rcases ga.1 oK with oK|oK
  .obtain⟨en,tW,rfl⟩:=jK.1 oK
   have⟨a1,a2,_⟩:=hL en tW;omega
  grind
 .rw[AX]at he
  have⟨a1,a2,y,E8,Ld,HH⟩:=hL e he;unfold ix;rw[Hl _ y E8];exact HH
 .have oK:k∈v.free:=hk
  rw[PW]at oK;have⟨a1,a2,y,E8,Ld,HH⟩:=aiO k oK;unfold ix;rw[Hl _ y E8];exact HH
 .have ui:w∈v.gens:=hw
  rw[EX]at ui;obtain⟨y,hy,rfl⟩:=jK.1 ui;have:=wJ y hy;unfold nk at this;rw[aS]at this;have h1:=this.1;cases hd:decide (y.gen>=1)
  .rw[hd]at h1;cases h1
  .rw[hd,ae]at h1;exact⟨ng hd,ng h1⟩
 .rw[kV]at hi
  have YT:v1.ay[i]? =some v1.ay[i]:=cc hi;generalize v1.ay[i]=y at YT;unfold ix;rw[bn,Hl i y YT];show K.sup.g<=y.gen;rw[AX]at hn;have Kz:(i:Int)∉(me v3).map (·.slot)++v.free:=hn;rw[PW,ga,not_or]at Kz;have xP:=Zrn sJ i y (by rw[PQ];exact YT);rcases xP with xP|xP|xP
  .exfalso
   have eJ:(((me v3).map (·.slot)).map (·.toNat)).Nodup:=by
    unfold List.Nodup;rw[uF,FF];refine List.Pairwise.imp_of_mem (R:=λa b:aP=>a.slot≠b.slot) ?_ Ey.diff;intro a b ha hb fL e;have h1:=(hL a ha).1;have h2:=(hL b hb).1;grind
   have Yn:((List.range v1.ay.length).filter λj=>(v1.ay.getD j gQ).live).length=vB v3:=by
    unfold vB;rw[qH];have key: ∀(l:List aX),((List.range l.length).filter λj=>(l.getD j gQ).live).length=(l.filter (·.live)).length:=by
     intro l;induction l with
     |nil=>rfl
     |cons a l ih=>
      rw[cQ,List.range_succ_eq_map,List.filter_cons,List.filter_cons,List.filter_map];have e1:((λj=>((a::l).getD j gQ).live)∘Nat.succ)=λj=>(l.getD j gQ).live:=rfl
      rw[e1];have e2:((a::l).getD 0 gQ).live=a.live:=rfl;rw[e2];cases a.live
      .grind
      .grind
    exact key v1.ay
   have vw: ∀x∈((me v3).map (·.slot)).map (·.toNat),x∈(List.range v1.ay.length).filter λj=>(v1.ay.getD j gQ).live:=λx hx=>by
    rw[uF]at hx;obtain⟨en,tW,rfl⟩:=jK.1 hx;have⟨a1,a2,z,kD,iN,_⟩:=hL en tW;rw[FD,uG];grind
   have hlen:((List.range v1.ay.length).filter λj=>(v1.ay.getD j gQ).live).length<=(((me v3).map (·.slot)).map (·.toNat)).length:=by
    rw[Yn,mC,mC];have:=Ey.cnt;omega
   have:=Zyc eJ vw hlen i (by
    rw[FD,uG];grind)
   rw[uF]at this;have⟨en,tW,e⟩:=jK.1 this;refine Kz.1 (jK.2 ⟨en,tW,?_⟩);have h1:=(hL en tW).1;simp only[Function.comp]at e;omega
  .omega
  .exfalso
   have dZ:=OY.len;rw[PQ]at dZ;exact Kz.2 ((OY.iff i AC).1 xP)
 .rw[PV,zm,(ZG K.m _ _).1];exact G3
 .rw[PV,zm]
  refine(ZG K.m _ _).2 ?_;show ∀w∈gD K.m [0,1],_;refine(ZG K.m _ _).2 λw hw=>?_
  rw[List.eq_of_mem_replicate hw];decide
 .rw[PV,zm];exact dy.2
 .rw[PV,zm];exact dy.1 0 air.1
 grind
