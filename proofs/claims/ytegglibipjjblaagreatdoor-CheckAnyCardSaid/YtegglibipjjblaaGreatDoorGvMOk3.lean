/- What a walk that is whole has shown: in sum. No program in sight. -/
import Derived.Test.YtegglibipjjblaaGreatDoorGvMOk2
set_option linter.all false
namespace Go.Gv.F
open Go.Gv
theorem Zvb {l:aj} {x:ak} (h:ZV l= .dir x):x.length<=16:=by
 unfold ZV at h;split at h
 .cases h
 .split at h
  .cases h
  .split at h
   .cases h
   .split at h
    .cases h
    .split at h
     .rename_i y hy
      cases h;unfold lj at hy;split at hy
      .cases hy
      .rename_i k t b _
       cases e:(decide (k=6)&&(decide (t<=16)&&ZE (b.drop (2*t))))with
       |false=>rw[e]at hy;cases hy
       |true=>
        rw[e]at hy;cases e2:DE (dU b t)with
        |false=>rw[e2]at hy;cases hy
        |true=>
         rw[e2]at hy;cases hy;rw[aY,aY]at e;have:=mK e.2.1;rw[nW];exact this
     .cases h
theorem UY {m:Nat} : ∀(ks:ak) {W:al},W.length=(m+63)/64->(∀k,di W k=true->k<m)->(∀k,di W k=true->di (ks.foldl (bK m) W) k=true)/\(∀k,di (ks.foldl (bK m) W) k=true->k<m)
 |[],W,_,h=>⟨λ_ h=>h,h⟩
 |a::ks,W,hl,h=>by
  rw[Bf];have h1: ∀k,di (bK m W a) k=true->k<m:=λk hk=>by
   rw[qP hl,lV]at hk;rcases hk with hk|hk
   .exact h k hk
   .rw[aY]at hk
    grind[fE]
  have⟨a1,a2⟩:=UY ks (W:=bK m W a) (by rw[oM];exact hl) h1;exact⟨λk hk=>a1 k (by rw[qP hl,hk];rfl),a2⟩
theorem Zyk (n k:Nat):di (List.replicate n 0) k=false:=by
 unfold di;rw[dW,Lm];split
 .unfold eE;simp
 .unfold eE;simp
structure Zz8 (K:bL) (v:aS):Prop where
 may:sa (fh K.sup v)
 len:v.W.length=(K.m+63)/64
 lt: ∀w∈v.W,w<18446744073709551616
 top: ∀k,di v.W k=true->k<K.m
 in0:di v.W 0=true
 in1:di v.W 1=true
 nm: ∀h∈v.aM,h.name.length<=24
theorem ZxL {K:bL} (hK:ZU K.sup=true) (hm:K.sup.blocks=(K.m:Int)) {v:aS} (h:tf K=some v):Zz8 K v:=by
 have⟨AA,uj,vD,vo,Co⟩:=SE hK;have⟨g1,g2,g3,g4,g5,g6⟩:=Z4 AA;unfold tf at h;cases hp:oa K (qo K.m)with
 |none=>rw[hp]at h;cases h
 |some v1=>
 rw[hp]at h;simp only at h;cases dS:sE K v1 with
 |none=>rw[dS]at h;cases h
 |some v2=>
 rw[dS]at h;simp only at h;cases hq:qM K v2 with
 |none=>rw[hq]at h;cases h
 |some v3=>
 rw[hq]at h;simp only at h;cases hl:decide ((yN v3:Int)=v3.nodes)with
 |false=>rw[hl]at h;cases h
 |true=>
 rw[hl,ae]at h;have aks:=mK hl;have hv:v=um v3:=(HJ h).symm;have⟨k1,k2,k3,k4⟩:=ZnE hp;have⟨eX,j3⟩:=ZqR uj (by omega) rfl hp;have⟨ws1,so1⟩:=Zxa hp;have vC:=so1 (λ_ h=>by cases h);have⟨q1,q2,q3,q4⟩:=ZoU dS;have hFW:v2.W=v1.W/\∃fl,Qa K fl v2/\qR K fl v2.aG=true:=by
  unfold sE at dS;cases hg:nk K (K.sup.used.toNat+1) (List.replicate K.sup.used.toNat false) K.sup.free v1 with
  |none=>rw[hg]at dS;cases dS
  |some q=>
   have⟨fl,w⟩:=q;rw[hg]at dS;unfold BO at dS;simp only at dS;cases wS:qR K fl w.aG with
   |false=>rw[wS]at dS;cases dS
   |true=>
    rw[wS]at dS;cases dS;have hW: ∀ {f:Nat} {fl qX:List Bool} {k:Int} {v v':aS},nk K f fl k v=some (qX,v')->v'.W=v.W:=by
     intro f;induction f with
     |zero=>intro fl qX k v v' h;cases h
     |succ f ih=>
      intro fl qX k v v' h;unfold nk at h;cases e1:(k==0)with
      |true=>rw[e1]at h;cases h;rfl
      |false=>
       rw[e1,af]at h;cases e2:decide (k<=K.sup.used)with
       |false=>rw[e2]at h;cases h
       |true=>
        rw[e2,ae]at h;split at h
        .cases h
        .rename_i x hx
         cases e3:(bif (bif !x.live then decide (x.gen<K.sup.g)else false)then !fl.getD (k-1).toNat false else false)with
         |false=>rw[e3]at h;cases h
         |true=>rw[e3,ae]at h;grind
    refine⟨hW hg,fl,ZqQ j3 eX vo ⟨?_,λi hi=>?_,?_,λk hk=>?_⟩ hg,wS⟩
    .rw[oF];omega
    .rw[k3,dW,Lm]
     constructor
     .grind
     .intro e;cases e
    .rw[k3];exact List.nodup_nil
    .rw[k3]at hk;cases hk
 have⟨mj,fl,N8,vA⟩:=hFW;have ws2:WS K.m v1 v2:=WS.same mj;have Gu:(qo K.m).W.length=(K.m+63)/64:=by
  show(jd K.m [0,1]).length=_;unfold jd;rw[(ZF K.m _ _).1,oF]
 have ag3:=UY (m:=K.m) [0,1] (W:=List.replicate ((K.m+63)/64) 0) oF (λk hk=>by rw[Zyk]at hk;cases hk);have ag1:di (qo K.m).W 0=true/\di (qo K.m).W 1=true:=by
  have e:(qo K.m).W=bK K.m (bK K.m (List.replicate ((K.m+63)/64) 0) 0) 1:=rfl;have GY:fE K.m 0=true:=by unfold fE;rw[aY,br,br];omega
  have mo:fE K.m 1=true:=by unfold fE;rw[aY,br,br];omega
  rw[e];constructor
  .rw[qP (by rw[oM];grind),qP oF,GY]
   simp
  .rw[qP (by rw[oM];grind),mo]
   simp
 have Ar:v2.W.length=(K.m+63)/64:=by
  have⟨ks,e⟩:=ws1.trans ws2;rw[e,(ZF K.m _ _).1];exact Gu
 have O0:v2.aG=v1.aG:=q1;have jb:Fm K v2:=by
  have hh:v2.aM=[]:=by rw[q2,k1];rfl
  have he:lq v2=[]:=by unfold lq;rw[hh];rfl
  refine⟨by grind,by rw[he];exact .nil,by grind,by rw[he,q4,k4];rfl,by grind,λi a b h=>(by rw[hh]at h;simp at h),Ar⟩
 have hQ:Fm K v3/\WS K.m v2 v3/\v3.aM.length<=16/\v3.aG=v2.aG/\v3.aK=v2.aK/\v3.free=v2.free:=by
  have⟨x1,x2,x3⟩:=Zmp Ar hq;unfold qM at hq;cases aby:(K.sup.dir==0)with
  |true=>
   rw[aby]at hq;cases hq;refine⟨jb,.refl _ _,?_,rfl,rfl,rfl⟩;rw[q2,k1];exact cz _
  |false=>
   rw[aby,af]at hq;split at hq
   .rename_i x w ht
    have⟨y1,y2,y3,y4,y5,y6⟩:=Z2 ht;have ox:w.W.length=(K.m+63)/64:=by rw[(xK ht).2,oM];exact Ar
    have hh:v2.aM=[]:=by rw[q2,k1];rfl
    have hdw:Fm K w:=by
     have Cs:w.aM=[]:=by rw[y2,hh]
     have he:lq w=[]:=by unfold lq;rw[Cs];rfl
     refine⟨by grind,by rw[he];exact .nil,by grind,by rw[he,y5,q4,k4];rfl,by grind,λi a b h=>(by rw[Cs]at h;simp at h),ox⟩
    have⟨z1,z2⟩:=Zq1 hdw (by rw[y2,hh];rfl) hq;have⟨_,_,_,u4⟩:=U1 ox hq;refine⟨z1,(Nb ht).trans z2,?_,x1,x2,x3⟩;rw[u4,y2,hh];have:=Zvb (UG ht);simpa using this
   .cases hq
 have⟨Ec,ws3,ub,xs,xg,xf⟩:=hQ;have ahp:v3.aK=[]:=by rw[xg,q3,k2];rfl
 have pA:v3.aG=v1.aG:=xs.trans O0;have EB:v.aK=v1.aG.map (·.gen):=by rw[hv];show v3.aK++_=_;rw[ahp,pA];rfl
 have O6:v.free=v2.free:=by rw[hv];exact xf
 have Kx:v.aM=v3.aM:=by rw[hv];rfl
 have O5:v.W=v3.W:=by rw[hv];rfl
 have⟨ks,yz⟩:=(ws1.trans ws2).trans ws3;have dh:=UY ks Gu ag3.2;have Ay:Zq (fh K.sup v)=lq v3:=by unfold Zq fh lq;rw[Kx]
 have Xy: ∀(i:Nat) (y:bw),v1.aG[i]? =some y->(fh K.sup v).aK.getD i 0=y.gen:=λi y e=>by
  show v.aK.getD i 0=_;rw[EB,dW,rQ,e];rfl
 have jm:(fh K.sup v).aK.length=v1.aG.length:=by show v.aK.length=_;rw[EB,lG]
 have hL: ∀e∈lq v3,zG K v1.aG e:=λe he=>by have:=Ec.live e he;rwa [pA]at this
 have ahm: ∀k∈v2.free,0<=k/\k<(v1.aG.length:Int)/\∃y,v1.aG[k.toNat]? =some y/\y.live=false/\y.gen<K.sup.g:=λk hk=>by have:=N8.all k hk;rwa [O0]at this
 have aiI:((lq v3).map (·.slot)).Nodup:=by
  unfold List.Nodup;rw[HE];exact Ec.diff
 refine⟨⟨AA,?_,?_,λg hg=>?_,?_,?_,λk hk=>?_,λe he=>?_,λk hk=>?_,λw hw=>?_,λi hi hn=>?_⟩,?_,?_,?_,?_,?_,λg hg=>(Ec.nm g (by rw[<-Kx];exact hg)).2⟩
 .rw[jm];show _<=K.sup.de;omega
 .show v.aM.length<=16;rw[Kx];exact ub
 .have oo:g∈v.aM:=hg
  rw[Kx]at oo;exact(Ec.nm g oo).1
 .show M4 v.aM;rw[Kx];exact Ec.ord
 .rw[Ay]
  show(_++v.free).Nodup;rw[O6,rR];refine⟨aiI,N8.nodup,λa ha b hb e=>?_⟩;subst e;obtain⟨en,vm,rfl⟩:=pK.1 ha;have⟨_,_,y,EG,KC,_⟩:=hL en vm;grind
 .rw[Ay]at hk
  have nC:k∈(lq v3).map (·.slot)++v.free:=hk;rw[O6]at nC;rw[jm];rcases gx.1 nC with nC|nC
  .obtain⟨en,vm,rfl⟩:=pK.1 nC
   have⟨a1,a2,_⟩:=hL en vm;omega
  grind
 .rw[Ay]at he
  have⟨a1,a2,y,EG,KC,Hg⟩:=hL e he;unfold iz;rw[Xy _ y EG];exact Hg
 .have nC:k∈v.free:=hk
  rw[O6]at nC;have⟨a1,a2,y,EG,KC,Hg⟩:=ahm k nC;unfold iz;rw[Xy _ y EG];exact Hg
 .have sR:w∈v.aK:=hw
  rw[EB]at sR;obtain⟨y,hy,rfl⟩:=pK.1 sR;have:=vC y hy;unfold oR at this;rw[aY]at this;have h1:=this.1;cases hd:decide (y.gen>=1)with
  |false=>rw[hd]at h1;cases h1
  |true=>rw[hd,ae]at h1;exact⟨mK hd,mK h1⟩
 .rw[jm]at hi
  have XH:v1.aG[i]? =some v1.aG[i]:=cq hi;generalize v1.aG[i]=y at XH;unfold iz;rw[bp,Xy i y XH];show K.sup.g<=y.gen;rw[Ay]at hn;have J3:(i:Int)∉(lq v3).map (·.slot)++v.free:=hn;rw[O6,gx,not_or]at J3;have wS:=Zq2 vA i y (by rw[O0];exact XH);rcases wS with wS|wS|wS
  .exfalso
   have jo:(((lq v3).map (·.slot)).map (·.toNat)).Nodup:=by
    unfold List.Nodup;rw[zw,HE];refine List.Pairwise.imp_of_mem (R:=λa b:bh=>a.slot≠b.slot) ?_ Ec.diff;intro a b ha hb fV e;have h1:=(hL a ha).1;have h2:=(hL b hb).1;grind
   have ahb:((List.range v1.aG.length).filter λj=>(v1.aG.getD j gT).live).length=yN v3:=by
    unfold yN;rw[pA];have key: ∀(l:List bw),((List.range l.length).filter λj=>(l.getD j gT).live).length=(l.filter (·.live)).length:=by
     intro l;induction l with
     |nil=>rfl
     |cons a l ih=>
      rw[cO,List.range_succ_eq_map,List.filter_cons,List.filter_cons,List.filter_map];have e1:((λj=>((a::l).getD j gT).live)∘Nat.succ)=λj=>(l.getD j gT).live:=rfl
      rw[e1];have e2:((a::l).getD 0 gT).live=a.live:=rfl;rw[e2];cases a.live with
      |true=>grind
      |false=>grind
    exact key v1.aG
   have wU: ∀x∈((lq v3).map (·.slot)).map (·.toNat),x∈(List.range v1.aG.length).filter λj=>(v1.aG.getD j gT).live:=λx hx=>by
    rw[zw]at hx;obtain⟨en,vm,rfl⟩:=pK.1 hx;have⟨a1,a2,z,kQ,gS,_⟩:=hL en vm;rw[Fb,ux];grind
   have hlen:((List.range v1.aG.length).filter λj=>(v1.aG.getD j gT).live).length<=(((lq v3).map (·.slot)).map (·.toNat)).length:=by
    rw[ahb,lG,lG];have:=Ec.cJ;omega
   have:=Zw1 jo wU hlen i (by
    rw[Fb,ux];grind)
   rw[zw]at this;have⟨en,vm,e⟩:=pK.1 this;refine J3.1 (pK.2 ⟨en,vm,?_⟩);have h1:=(hL en vm).1;simp only[Function.comp]at e;omega
  .omega
  .exfalso
   have ep:=N8.len;rw[O0]at ep;exact J3.2 ((N8.iff i (by omega)).1 wS)
 .rw[O5,yz,(ZF K.m _ _).1];exact Gu
 .rw[O5,yz]
  refine(ZF K.m _ _).2 ?_;show ∀w∈jd K.m [0,1],_;refine(ZF K.m _ _).2 λw hw=>?_
  rw[List.eq_of_mem_replicate hw];decide
 .rw[O5,yz];exact dh.2
 .rw[O5,yz];exact dh.1 0 ag1.1
 grind
end Go.Gv.F
