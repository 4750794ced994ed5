/- What a walk that is whole has shown: in sum. No program in sight. -/
import Derived.Test.YtegglibipjjblaaGreatDoorGvMOk2
set_option linter.all false
namespace Go.Gv.F
open Go.Gv
theorem Zwn {l:aj} {x:ak} (h:ZX l= .dir x):x.length<=16:=by
 unfold ZX at h;split at h
 .cases h
 .split at h
  .cases h
  .split at h
   .cases h
   .split at h
    .cases h
    .split at h
     .rename_i y hy
      cases h;unfold lG at hy;split at hy
      .cases hy
      .rename_i k t b _
       cases e:(decide (k=6)&&(decide (t<=16)&&ZD (b.drop (2*t))))with
       |false=>rw[e]at hy;cases hy
       |true=>
        rw[e]at hy;cases e2:D8 (dZ b t)with
        |false=>rw[e2]at hy;cases hy
        |true=>
         rw[e2]at hy;cases hy;rw[aY,aY]at e;have:=mW e.2.1;rw[om];exact this
     .cases h
theorem VF {m:Nat} : ∀(ks:ak) {W:al},W.length=(m+63)/64->(∀k,du W k=true->k<m)->(∀k,du W k=true->du (ks.foldl (bN m) W) k=true)/\(∀k,du (ks.foldl (bN m) W) k=true->k<m)
 |[],W,_,h=>⟨λ_ h=>h,h⟩
 |a::ks,W,hl,h=>by
  rw[BF];have h1: ∀k,du (bN m W a) k=true->k<m:=λk hk=>by
   rw[rD hl,mm]at hk;rcases hk with hk|hk
   .exact h k hk
   .rw[aY]at hk
    grind[fN]
  have⟨a1,a2⟩:=VF ks (W:=bN m W a) (by rw[pC];exact hl) h1;exact⟨λk hk=>a1 k (by rw[rD hl,hk];rfl),a2⟩
theorem ZyN (n k:Nat):du (List.replicate n 0) k=false:=by
 unfold du;rw[ef,L7];split
 .unfold eI;simp
 .unfold eI;simp
structure ZAC (K:bP) (v:aR):Prop where
 may:sL (fw K.sup v)
 len:v.W.length=(K.m+63)/64
 lt: ∀w∈v.W,w<18446744073709551616
 top: ∀k,du v.W k=true->k<K.m
 in0:du v.W 0=true
 in1:du v.W 1=true
 nm: ∀h∈v.aK,h.name.length<=24
theorem Zyz {K:bP} (hK:ZT K.sup=true) (hm:K.sup.blocks=(K.m:Int)) {v:aR} (h:tQ K=some v):ZAC K v:=by
 have⟨AZ,uR,wc,vQ,C0⟩:=TV hK;have⟨g1,g2,g3,g4,g5,g6⟩:=ZR AZ;unfold tQ at h;cases hp:oy K (qT K.m)with
 |none=>rw[hp]at h;cases h
 |some v1=>
 rw[hp]at h;simp only at h;cases dW:tm K v1 with
 |none=>rw[dW]at h;cases h
 |some v2=>
 rw[dW]at h;simp only at h;cases hq:rz K v2 with
 |none=>rw[hq]at h;cases h
 |some v3=>
 rw[hq]at h;simp only at h;cases hl:decide ((zy v3:Int)=v3.nodes)with
 |false=>rw[hl]at h;cases h
 |true=>
 rw[hl,ae]at h;have aln:=mW hl;have hv:v=uT v3:=(Ih h).symm;have⟨k1,k2,k3,k4⟩:=ZnQ hp;have⟨eY,ke⟩:=Zrt uR AC rfl hp;have⟨ws1,so1⟩:=Zxf hp;have wb:=so1 (λ_ h=>by cases h);have⟨q1,q2,q3,q4⟩:=ZoS dW;have hFW:v2.W=v1.W/\∃fl,QN K fl v2/\rI K fl v2.aG=true:=by
  unfold tm at dW;cases hg:nF K (K.sup.used.toNat+1) (List.replicate K.sup.used.toNat false) K.sup.free v1 with
  |none=>rw[hg]at dW;cases dW
  |some q=>
   have⟨fl,w⟩:=q;rw[hg]at dW;unfold Cg at dW;simp only at dW;cases xp:rI K fl w.aG with
   |false=>rw[xp]at dW;cases dW
   |true=>
    rw[xp]at dW;cases dW;have hW: ∀ {f:Nat} {fl rS:List Bool} {k:Int} {v v':aR},nF K f fl k v=some (rS,v')->v'.W=v.W:=by
     intro f;induction f with
     |zero=>intro fl rS k v v' h;cases h
     |succ f ih=>
      intro fl rS k v v' h;unfold nF at h;cases e1:(k==0)with
      |true=>rw[e1]at h;cases h;rfl
      |false=>
       rw[e1,af]at h;cases e2:decide (k<=K.sup.used)with
       |false=>rw[e2]at h;cases h
       |true=>
        rw[e2,ae]at h;split at h
        .cases h
        .rename_i x hx
         cases e3:(bif (bif !x.live then decide (x.gen<K.sup.g)else false)then !fl.getD (k-1).toNat false else false)with
         |false=>rw[e3]at h;cases h
         |true=>rw[e3,ae]at h;grind
    refine⟨hW hg,fl,Zrk ke eY vQ ⟨?_,λi hi=>?_,?_,λk hk=>?_⟩ hg,xp⟩
    .rw[oV];omega
    .rw[k3,ef,L7]
     constructor
     .grind
     .intro e;cases e
    .rw[k3];exact List.nodup_nil
    .rw[k3]at hk;cases hk
 have⟨mF,fl,OS,wa⟩:=hFW;have ws2:WS K.m v1 v2:=WS.same mF;have G4:(qT K.m).W.length=(K.m+63)/64:=by
  show(jl K.m [0,1]).length=_;unfold jl;rw[(ZE K.m _ _).1,oV]
 have ahU:=VF (m:=K.m) [0,1] (W:=List.replicate ((K.m+63)/64) 0) oV (λk hk=>by rw[ZyN]at hk;cases hk);have ahS:du (qT K.m).W 0=true/\du (qT K.m).W 1=true:=by
  have e:(qT K.m).W=bN K.m (bN K.m (List.replicate ((K.m+63)/64) 0) 0) 1:=rfl;have Hs:fN K.m 0=true:=by unfold fN;rw[aY,bn,bn];omega
  have mL:fN K.m 1=true:=by unfold fN;rw[aY,bn,bn];omega
  rw[e];constructor
  .rw[rD (by rw[pC];grind),rD oV,Hs]
   simp
  .rw[rD (by rw[pC];grind),mL]
   simp
 have AS:v2.W.length=(K.m+63)/64:=by
  have⟨ks,e⟩:=ws1.trans ws2;rw[e,(ZE K.m _ _).1];exact G4
 have PF:v2.aG=v1.aG:=q1;have ji:FX K v2:=by
  have hh:v2.aK=[]:=by rw[q2,k1];rfl
  have he:lI v2=[]:=by unfold lI;rw[hh];rfl
  refine⟨Fd,by rw[he];exact .nil,Fd,by rw[he,q4,k4];rfl,Fd,λi a b h=>(by rw[hh]at h;simp at h),AS⟩
 have hQ:FX K v3/\WS K.m v2 v3/\v3.aK.length<=16/\v3.aG=v2.aG/\v3.aF=v2.aF/\v3.free=v2.free:=by
  have⟨x1,x2,x3⟩:=Zmc AS hq;unfold rz at hq;cases acf:(K.sup.dir==0)with
  |true=>
   rw[acf]at hq;cases hq;refine⟨ji,.refl _ _,?_,rfl,rfl,rfl⟩;rw[q2,k1];exact cB _
  |false=>
   rw[acf,af]at hq;split at hq
   .rename_i x w ht
    have⟨y1,y2,y3,y4,y5,y6⟩:=Z4 ht;have oM:w.W.length=(K.m+63)/64:=by rw[(yl ht).2,pC];exact AS
    have hh:v2.aK=[]:=by rw[q2,k1];rfl
    have hdw:FX K w:=by
     have C4:w.aK=[]:=by rw[y2,hh]
     have he:lI w=[]:=by unfold lI;rw[C4];rfl
     refine⟨Fd,by rw[he];exact .nil,Fd,by rw[he,y5,q4,k4];rfl,Fd,λi a b h=>(by rw[C4]at h;simp at h),oM⟩
    have⟨z1,z2⟩:=Zrz hdw (by rw[y2,hh];rfl) hq;have⟨_,_,_,u4⟩:=V4 oM hq;refine⟨z1,(NK ht).trans z2,?_,x1,x2,x3⟩;rw[u4,y2,hh];have:=Zwn (Vw ht);simpa using this
   .cases hq
 have⟨EH,ws3,uK,xs,xg,xf⟩:=hQ;have aih:v3.aF=[]:=by rw[xg,q3,k2];rfl
 have pY:v3.aG=v1.aG:=xs.trans PF;have Fi:v.aF=v1.aG.map (·.gen):=by rw[hv];show v3.aF++_=_;rw[aih,pY];rfl
 have PM:v.free=v2.free:=by rw[hv];exact xf
 have K9:v.aK=v3.aK:=by rw[hv];rfl
 have PL:v.W=v3.W:=by rw[hv];rfl
 have⟨ks,yZ⟩:=(ws1.trans ws2).trans ws3;have dp:=VF ks G4 ahU.2;have AX:Zr (fw K.sup v)=lI v3:=by unfold Zr fw lI;rw[K9]
 have Yg: ∀(i:Nat) (y:bB),v1.aG[i]? =some y->(fw K.sup v).aF.getD i 0=y.gen:=λi y e=>by
  show v.aF.getD i 0=_;rw[Fi,ef,sC,e];rfl
 have jx:(fw K.sup v).aF.length=v1.aG.length:=by show v.aF.length=_;rw[Fi,lB]
 have hL: ∀e∈lI v3,Ac K v1.aG e:=λe he=>by have:=EH.live e he;rwa [pY]at this
 have aid: ∀k∈v2.free,0<=k/\k<(v1.aG.length:Int)/\∃y,v1.aG[k.toNat]? =some y/\y.live=false/\y.gen<K.sup.g:=λk hk=>by have:=OS.all k hk;rwa [PF]at this
 have ajz:((lI v3).map (·.slot)).Nodup:=by
  unfold List.Nodup;rw[Ia];exact EH.diff
 refine⟨⟨AZ,?_,?_,λg hg=>?_,?_,?_,λk hk=>?_,λe he=>?_,λk hk=>?_,λw hw=>?_,λi hi hn=>?_⟩,?_,?_,?_,?_,?_,λg hg=>(EH.nm g (by rw[<-K9];exact hg)).2⟩
 .rw[jx];show _<=K.sup.dc;omega
 .show v.aK.length<=16;rw[K9];exact uK
 .have oF:g∈v.aK:=hg
  rw[K9]at oF;exact(EH.nm g oF).1
 .show NO v.aK;rw[K9];exact EH.ord
 .rw[AX]
  show(_++v.free).Nodup;rw[PM,sE];refine⟨ajz,OS.nodup,λa ha b hb e=>?_⟩;subst e;obtain⟨en,vO,rfl⟩:=oW.1 ha;have⟨_,_,y,Fo,Lf,_⟩:=hL en vO;grind
 .rw[AX]at hk
  have nM:k∈(lI v3).map (·.slot)++v.free:=hk;rw[PM]at nM;rw[jx];rcases gI.1 nM with nM|nM
  .obtain⟨en,vO,rfl⟩:=oW.1 nM
   have⟨a1,a2,_⟩:=hL en vO;omega
  grind
 .rw[AX]at he
  have⟨a1,a2,y,Fo,Lf,HK⟩:=hL e he;unfold iK;rw[Yg _ y Fo];exact HK
 .have nM:k∈v.free:=hk
  rw[PM]at nM;have⟨a1,a2,y,Fo,Lf,HK⟩:=aid k nM;unfold iK;rw[Yg _ y Fo];exact HK
 .have tF:w∈v.aF:=hw
  rw[Fi]at tF;obtain⟨y,hy,rfl⟩:=oW.1 tF;have:=wb y hy;unfold pF at this;rw[aY]at this;have h1:=this.1;cases hd:decide (y.gen>=1)with
  |false=>rw[hd]at h1;cases h1
  |true=>rw[hd,ae]at h1;exact⟨mW hd,mW h1⟩
 .rw[jx]at hi
  have Yp:v1.aG[i]? =some v1.aG[i]:=cu hi;generalize v1.aG[i]=y at Yp;unfold iK;rw[br,Yg i y Yp];show K.sup.g<=y.gen;rw[AX]at hn;have KI:(i:Int)∉(lI v3).map (·.slot)++v.free:=hn;rw[PM,gI,not_or]at KI;have xp:=Zri wa i y (by rw[PF];exact Yp);rcases xp with xp|xp|xp
  .exfalso
   have jz:(((lI v3).map (·.slot)).map (·.toNat)).Nodup:=by
    unfold List.Nodup;rw[zX,Ia];refine List.Pairwise.imp_of_mem (R:=λa b:bm=>a.slot≠b.slot) ?_ EH.diff;intro a b ha hb gf e;have h1:=(hL a ha).1;have h2:=(hL b hb).1;grind
   have ah2:((List.range v1.aG.length).filter λj=>(v1.aG.getD j gZ).live).length=zy v3:=by
    unfold zy;rw[pY];have key: ∀(l:List bB),((List.range l.length).filter λj=>(l.getD j gZ).live).length=(l.filter (·.live)).length:=by
     intro l;induction l with
     |nil=>rfl
     |cons a l ih=>
      rw[cQ,List.range_succ_eq_map,List.filter_cons,List.filter_cons,List.filter_map];have e1:((λj=>((a::l).getD j gZ).live)∘Nat.succ)=λj=>(l.getD j gZ).live:=rfl
      rw[e1];have e2:((a::l).getD 0 gZ).live=a.live:=rfl;rw[e2];cases a.live with
      |true=>grind
      |false=>grind
    exact key v1.aG
   have xr: ∀x∈((lI v3).map (·.slot)).map (·.toNat),x∈(List.range v1.aG.length).filter λj=>(v1.aG.getD j gZ).live:=λx hx=>by
    rw[zX]at hx;obtain⟨en,vO,rfl⟩:=oW.1 hx;have⟨a1,a2,z,jA,gp,_⟩:=hL en vO;rw[FN,uY];grind
   have hlen:((List.range v1.aG.length).filter λj=>(v1.aG.getD j gZ).live).length<=(((lI v3).map (·.slot)).map (·.toNat)).length:=by
    rw[ah2,lB,lB];have:=EH.cH;omega
   have:=Zxo jz xr hlen i (by
    rw[FN,uY];grind)
   rw[zX]at this;have⟨en,vO,e⟩:=oW.1 this;refine KI.1 (oW.2 ⟨en,vO,?_⟩);have h1:=(hL en vO).1;simp only[Function.comp]at e;omega
  .omega
  .exfalso
   have eE:=OS.len;rw[PF]at eE;exact KI.2 ((OS.iff i AC).1 xp)
 .rw[PL,yZ,(ZE K.m _ _).1];exact G4
 .rw[PL,yZ]
  refine(ZE K.m _ _).2 ?_;show ∀w∈jl K.m [0,1],_;refine(ZE K.m _ _).2 λw hw=>?_
  rw[List.eq_of_mem_replicate hw];decide
 .rw[PL,yZ];exact dp.2
 .rw[PL,yZ];exact dp.1 0 ahS.1
 grind
end Go.Gv.F
