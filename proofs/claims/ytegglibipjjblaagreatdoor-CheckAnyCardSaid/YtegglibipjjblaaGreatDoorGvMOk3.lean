/- What a walk that is whole has shown: in sum. No program in sight. -/
import Derived.Test.YtegglibipjjblaaGreatDoorGvMOk2
set_option linter.all false
namespace Go.Gv.F
open Go.Gv
def Zvb {l:aj} {x:ak} (h:ZY l= .dir x):x.length<=16:=by
 unfold ZY at h;split at h
 .cases h
 .split at h
  .cases h
  .split at h
   .cases h
   .split at h
    .cases h
    .split at h
     .rename_i y hy
      cases h;unfold lh at hy;split at hy
      .cases hy
      .rename_i k t b _
       cases e:(decide (k=6)&&(decide (t<=16)&&ZE (b.drop (2*t))))with
       |false=>rw[e]at hy;cases hy
       |true=>
        rw[e]at hy;cases e2:Dz (dU b t)with
        |false=>rw[e2]at hy;cases hy
        |true=>
         rw[e2]at hy;cases hy;rw[aY,aY]at e;have:=mI e.2.1;rw[nW];exact this
     .cases h
def UX {m:Nat} : ∀(ks:ak) {W:al},W.length=(m+63)/64->(∀k,di W k=true->k<m)->(∀k,di W k=true->di (ks.foldl (bK m) W) k=true)/\(∀k,di (ks.foldl (bK m) W) k=true->k<m)
 |[],W,_,h=>⟨λ_ h=>h,h⟩
 |a::ks,W,hl,h=>by
  rw[Bb];have h1: ∀k,di (bK m W a) k=true->k<m:=λk hk=>by
   rw[qM hl,lT]at hk;rcases hk with hk|hk
   .exact h k hk
   .rw[aY]at hk
    grind[fE]
  obtain⟨a1,a2⟩:=UX ks (W:=bK m W a) (by rw[oM];exact hl) h1;exact⟨λk hk=>a1 k (by rw[qM hl,hk];rfl),a2⟩
def Zyh (n k:Nat):di (List.replicate n 0) k=false:=by
 unfold di;rw[dW,Le];split
 .unfold eE;simp
 .unfold eE;simp
structure ZAo (K:bL) (v:aS):Prop where
 may:rY (fh K.sup v)
 len:v.W.length=(K.m+63)/64
 lt: ∀w∈v.W,w<18446744073709551616
 top: ∀k,di v.W k=true->k<K.m
 in0:di v.W 0=true
 in1:di v.W 1=true
 nm: ∀h∈v.aM,h.name.length<=24
def Zx5 {K:bL} (hK:ZU K.sup=true) (hm:K.sup.blocks=(K.m:Int)) {v:aS} (h:sZ K=some v):ZAo K v:=by
 obtain⟨Ax,ug,vB,vm,Cl⟩:=Sm hK;obtain⟨g1,g2,g3,g4,g5,g6⟩:=Z4 Ax;unfold sZ at h;cases hp:nY K (qm K.m)with
 |none=>rw[hp]at h;cases h
 |some v1=>
 rw[hp]at h;simp only at h;cases dS:sB K v1 with
 |none=>rw[dS]at h;cases h
 |some v2=>
 rw[dS]at h;simp only at h;cases hq:qL K v2 with
 |none=>rw[hq]at h;cases h
 |some v3=>
 rw[hq]at h;simp only at h;cases hl:decide (((yM v3:Nat):Int)=v3.nodes)with
 |false=>rw[hl]at h;cases h
 |true=>
 rw[hl,ae]at h;have akf:=mI hl;have hv:v=ui v3:=(HE h).symm;obtain⟨k1,k2,k3,k4⟩:=ZnI hp;obtain⟨eX,j1⟩:=ZqM ug (by omega) rfl hp;obtain⟨ws1,so1⟩:=Zwm hp;have vA:=so1 (λ_ h=>by cases h);obtain⟨q1,q2,q3,q4⟩:=Zps dS;have hFW:v2.W=v1.W/\∃fl,PV K fl v2/\qO K fl v2.aG=true:=by
  unfold sB at dS;cases hg:nl K (K.sup.used.toNat+1) (List.replicate K.sup.used.toNat false) K.sup.free v1 with
  |none=>rw[hg]at dS;cases dS
  |some q=>
   obtain⟨fl,w⟩:=q;rw[hg]at dS;unfold BG at dS;simp only at dS;cases wS:qO K fl w.aG with
   |false=>rw[wS]at dS;cases dS
   |true=>
    rw[wS]at dS;cases dS;have hW: ∀ {f:Nat} {fl qW:List Bool} {k:Int} {v v':aS},nl K f fl k v=some (qW,v')->v'.W=v.W:=by
     intro f;induction f with
     |zero=>intro fl qW k v v' h;cases h
     |succ f ih=>
      intro fl qW k v v' h;unfold nl at h;cases e1:(k==0)with
      |true=>rw[e1]at h;cases h;rfl
      |false=>
       rw[e1,af]at h;cases e2:decide (k<=K.sup.used)with
       |false=>rw[e2]at h;cases h
       |true=>
        rw[e2,ae]at h;split at h
        .cases h
        .rename_i x hx
         cases e3:(bif (bif !x.live then decide (x.gen<K.sup.g)else false)then !fl.getD (k-1).toNat false else false)with
         |false=>rw[e3]at h;cases h
         |true=>rw[e3,ae]at h;grind
    refine⟨hW hg,fl,Zri j1 eX vm ⟨?_,λi hi=>?_,?_,λk hk=>?_⟩ hg,wS⟩
    .rw[oF];omega
    .rw[k3,dW,Le]
     constructor
     .grind
     .intro e;cases e
    .rw[k3];exact List.nodup_nil
    .rw[k3]at hk;cases hk
 obtain⟨mg,fl,NY,vy⟩:=hFW;have ws2:WS K.m v1 v2:=WS.same mg;have Gm:(qm K.m).W.length=(K.m+63)/64:=by
  show(jd K.m [0,1]).length=_;unfold jd;rw[(ZF K.m _ _).1,oF]
 have agQ:=UX (m:=K.m) [0,1] (W:=List.replicate ((K.m+63)/64) 0) oF (λk hk=>by rw[Zyh]at hk;cases hk);have agO:di (qm K.m).W 0=true/\di (qm K.m).W 1=true:=by
  have e:(qm K.m).W=bK K.m (bK K.m (List.replicate ((K.m+63)/64) 0) 0) 1:=rfl;have GP:fE K.m 0=true:=by unfold fE;rw[aY,bu,bu];omega
  have mn:fE K.m 1=true:=by unfold fE;rw[aY,bu,bu];omega
  rw[e];constructor
  .rw[qM (by rw[oM];grind),qM oF,GP]
   simp
  .rw[qM (by rw[oM];grind),mn]
   simp
 have An:v2.W.length=(K.m+63)/64:=by
  obtain⟨ks,e⟩:=ws1.trans ws2;rw[e,(ZF K.m _ _).1];exact Gm
 have OQ:v2.aG=v1.aG:=q1;have jb:Fg K v2:=by
  have hh:v2.aM=[]:=by rw[q2,k1];rfl
  have he:lj v2=[]:=by unfold lj;rw[hh];rfl
  refine⟨by grind,by rw[he];exact .nil,by grind,by rw[he,q4,k4];rfl,by grind,λi a b h=>(by rw[hh]at h;simp at h),An⟩
 have hQ:Fg K v3/\WS K.m v2 v3/\v3.aM.length<=16/\v3.aG=v2.aG/\v3.aK=v2.aK/\v3.free=v2.free:=by
  obtain⟨x1,x2,x3⟩:=ZmG An hq;unfold qL at hq;cases abl:(K.sup.dir==0)with
  |true=>
   rw[abl]at hq;cases hq;refine⟨jb,.refl _ _,?_,rfl,rfl,rfl⟩;rw[q2,k1];exact cz _
  |false=>
   rw[abl,af]at hq;split at hq
   .rename_i x w ht
    obtain⟨y1,y2,y3,y4,y5,y6⟩:=Z3 ht;have ox:w.W.length=(K.m+63)/64:=by rw[(xM ht).2,oM];exact An
    have hh:v2.aM=[]:=by rw[q2,k1];rfl
    have hdw:Fg K w:=by
     have Cp:w.aM=[]:=by rw[y2,hh]
     have he:lj w=[]:=by unfold lj;rw[Cp];rfl
     refine⟨by grind,by rw[he];exact .nil,by grind,by rw[he,y5,q4,k4];rfl,by grind,λi a b h=>(by rw[Cp]at h;simp at h),ox⟩
    obtain⟨z1,z2⟩:=Zrz hdw (by rw[y2,hh];rfl) hq;obtain⟨_,_,_,u4⟩:=UW ox hq;refine⟨z1,(MQ ht).trans z2,?_,x1,x2,x3⟩;rw[u4,y2,hh];have:=Zvb (TR ht);simpa using this
   .cases hq
 obtain⟨D7,ws3,tY,xs,xg,xf⟩:=hQ;have ahc:v3.aK=[]:=by rw[xg,q3,k2];rfl
 have pA:v3.aG=v1.aG:=xs.trans OQ;have Ew:v.aK=v1.aG.map (·.gen):=by rw[hv];show v3.aK++_=_;rw[ahc,pA];rfl
 have OW:v.free=v2.free:=by rw[hv];exact xf
 have Kq:v.aM=v3.aM:=by rw[hv];rfl
 have OV:v.W=v3.W:=by rw[hv];rfl
 obtain⟨ks,yy⟩:=(ws1.trans ws2).trans ws3;have dh:=UX ks Gm agQ.2;have Av:Zq (fh K.sup v)=lj v3:=by unfold Zq fh lj;rw[Kq]
 have Xo: ∀(i:Nat) (y:bw),v1.aG[i]? =some y->(fh K.sup v).aK.getD i 0=y.gen:=λi y e=>by
  show v.aK.getD i 0=_;rw[Ew,dW,th,e];rfl
 have jm:(fh K.sup v).aK.length=v1.aG.length:=by show v.aK.length=_;rw[Ew,nQ]
 have hL: ∀e∈lj v3,zC K v1.aG e:=λe he=>by have:=D7.live e he;rwa [pA]at this
 have ag9: ∀k∈v2.free,0<=k/\k<(v1.aG.length:Int)/\∃y,v1.aG[k.toNat]? =some y/\y.live=false/\y.gen<K.sup.g:=λk hk=>by have:=NY.all k hk;rwa [OQ]at this
 have aiv:((lj v3).map (·.slot)).Nodup:=by
  unfold List.Nodup;rw[Hy];exact D7.diff
 refine⟨⟨Ax,?_,?_,λg hg=>?_,?_,?_,λk hk=>?_,λe he=>?_,λk hk=>?_,λw hw=>?_,λi hi hn=>?_⟩,?_,?_,?_,?_,?_,λg hg=>(D7.nm g (by rw[<-Kq];exact hg)).2⟩
 .rw[jm];show _<=K.sup.de;omega
 .show v.aM.length<=16;rw[Kq];exact tY
 .have oo:g∈v.aM:=hg
  rw[Kq]at oo;exact(D7.nm g oo).1
 .show M0 v.aM;rw[Kq];exact D7.ord
 .rw[Av]
  show(_++v.free).Nodup;rw[OW,rO];refine⟨aiv,NY.nodup,λa ha b hb e=>?_⟩;subst e;obtain⟨en,vk,rfl⟩:=pK.1 ha;obtain⟨_,_,y,EB,Kw,_⟩:=hL en vk;grind
 .rw[Av]at hk
  have nB:k∈(lj v3).map (·.slot)++v.free:=hk;rw[OW]at nB;rw[jm];rcases gx.1 nB with nB|nB
  .obtain⟨en,vk,rfl⟩:=pK.1 nB
   obtain⟨a1,a2,_⟩:=hL en vk;omega
  grind
 .rw[Av]at he
  obtain⟨a1,a2,y,EB,Kw,Ha⟩:=hL e he;unfold iz;rw[Xo _ y EB];exact Ha
 .have nB:k∈v.free:=hk
  rw[OW]at nB;obtain⟨a1,a2,y,EB,Kw,Ha⟩:=ag9 k nB;unfold iz;rw[Xo _ y EB];exact Ha
 .have sO:w∈v.aK:=hw
  rw[Ew]at sO;obtain⟨y,hy,rfl⟩:=pK.1 sO;have:=vA y hy;unfold oP at this;rw[aY]at this;have h1:=this.1;cases hd:decide (y.gen>=1)with
  |false=>rw[hd]at h1;cases h1
  |true=>rw[hd,ae]at h1;exact⟨mI hd,mI h1⟩
 .rw[jm]at hi
  have Xx:v1.aG[i]? =some v1.aG[i]:=cq hi;generalize v1.aG[i]=y at Xx;unfold iz;rw[bp,Xo i y Xx];show K.sup.g<=y.gen;rw[Av]at hn;have JX:(i:Int)∉(lj v3).map (·.slot)++v.free:=hn;rw[OW,gx,not_or]at JX;have wS:=Zrb vy i y (by rw[OQ];exact Xx);rcases wS with wS|wS|wS
  .exfalso
   have jo:(((lj v3).map (·.slot)).map (·.toNat)).Nodup:=by
    unfold List.Nodup;rw[Bf,Hy];refine List.Pairwise.imp_of_mem (R:=λa b:bh=>a.slot≠b.slot) ?_ D7.diff;intro a b ha hb fV e;have h1:=(hL a ha).1;have h2:=(hL b hb).1;grind
   have agY:((List.range v1.aG.length).filter λj=>(v1.aG.getD j gT).live).length=yM v3:=by
    unfold yM;rw[pA];have key: ∀(l:List bw),((List.range l.length).filter λj=>(l.getD j gT).live).length=(l.filter (·.live)).length:=by
     intro l;induction l with
     |nil=>rfl
     |cons a l ih=>
      rw[cO,List.range_succ_eq_map,List.filter_cons,List.filter_cons,List.filter_map];have e1:((λj=>((a::l).getD j gT).live)∘Nat.succ)=λj=>(l.getD j gT).live:=rfl
      rw[e1];have e2:((a::l).getD 0 gT).live=a.live:=rfl;rw[e2];cases a.live with
      |true=>grind
      |false=>grind
    exact key v1.aG
   have wU: ∀x∈((lj v3).map (·.slot)).map (·.toNat),x∈(List.range v1.aG.length).filter λj=>(v1.aG.getD j gT).live:=λx hx=>by
    rw[Bf]at hx;obtain⟨en,vk,rfl⟩:=pK.1 hx;obtain⟨a1,a2,z,kP,gS,_⟩:=hL en vk;rw[EX,uu];grind
   have hlen:((List.range v1.aG.length).filter λj=>(v1.aG.getD j gT).live).length<=(((lj v3).map (·.slot)).map (·.toNat)).length:=by
    rw[agY,nQ,nQ];have:=D7.cJ;omega
   have:=Zwa jo wU hlen i (by
    rw[EX,uu];grind)
   rw[Bf]at this;obtain⟨en,vk,e⟩:=pK.1 this;refine JX.1 (pK.2 ⟨en,vk,?_⟩);have h1:=(hL en vk).1;simp only[Function.comp]at e;omega
  .omega
  .exfalso
   have ep:=NY.len;rw[OQ]at ep;exact JX.2 ((NY.iff i (by omega)).1 wS)
 .rw[OV,yy,(ZF K.m _ _).1];exact Gm
 .rw[OV,yy]
  refine(ZF K.m _ _).2 ?_;show ∀w∈jd K.m [0,1],_;refine(ZF K.m _ _).2 λw hw=>?_
  rw[List.eq_of_mem_replicate hw];decide
 .rw[OV,yy];exact dh.2
 .rw[OV,yy];exact dh.1 0 agO.1
 grind
end Go.Gv.F
