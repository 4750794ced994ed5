/- What a walk that is whole has shown: the state may be. No program in sight. -/
import Derived.Test.YtegglibipjjblaaGreatDoorGvMOk
set_option linter.all false
namespace Go.Gv.F
open Go.Gv
theorem Zrw (x y:E4):fD (Dy x) (Dy y)=fT x y:=by
 rw[lS,Ef];unfold fD Dy;simp only;split
 .rw[bn]
  omega
 grind
theorem Zvd: ∀ {l:List bm},Diff l->(l.map e4).Pairwise Ap
 |[],_=> .nil
 |e::l,.cons h1 h2=>by
  refine .cons (λy hy=>?_) (Zvd h2);obtain⟨z,hz,rfl⟩:=oW.1 hy;have:=VD (x:=e4 e) (y:=e4 z) (h1 z hz);rw[mm]at this;exact this
variable {es l m:List bm} {v v':aR}
theorem Zsm (h:Diff es):Eb (lQ es):=by
 intro i a b ha hb;have hs:=Tf (Zvd h);unfold lQ at ha hb;rw[sC]at ha hb;cases hx:(jQ (es.map e4))[i]? with
 |none=>rw[hx]at ha;cases ha
 |some x=>
  cases hy:(jQ (es.map e4))[i+1]? with
  |none=>rw[hy]at hb;cases hb
  |some y=>
   rw[hx]at ha;rw[hy]at hb;cases ha;cases hb;rw[Zrw];have⟨h1,e1⟩:=eB.1 hx;have⟨h2,e2⟩:=eB.1 hy;have:=(Mc.1 hs) i (i+1) h1 h2 AC;rw[e1,e2]at this;exact this
def lI (v:aR):List bm:=(v.aK.map (·.cg)).flatten
structure FX (K:bP) (v:aR):Prop where
 ok: ∀e∈lI v,vg v e
 diff:Diff (lI v)
 live: ∀e∈lI v,Ac K v.aG e
 cH:v.nodes=((lI v).length:Nat)
 nm: ∀h∈v.aK,(rF h.name=true/\Eb h.cg)/\h.name.length<=24
 ord:NO v.aK
 wl:v.W.length=(K.m+63)/64
theorem vg.mono {e:bm} (h:vg v e) (hs:v'.aG=v.aG) (hw: ∀k,du v.W k=true->du v'.W k=true):vg v' e:=by
 have⟨a,x,k,b,c,d⟩:=h;exact⟨a,x,k,by rw[hs];exact b,c,hw k d⟩
theorem Diff.perm (h:Diff l) (p:m.Perm l):Diff m:=(p.pairwise_iff λh e=>h e.symm).2 h
theorem Zy2 {K:bP} {k:Int} {b:xW} (hl:v.W.length=(K.m+63)/64) (h:dT K k v=some (b,v')): ∀x,du v.W x=true->du v'.W x=true:=λx hx=>by
 rw[(yl h).2,rD hl,hx];rfl
theorem Zrz {K:bP} : ∀ {l:ak} {k:Nat} {v v':aR},FX K v->v.aK.length=k->uy K k l v=some v'->FX K v'/\WS K.m v v'
 |[],_,_,_,hd,_,h=>by cases h;exact⟨hd,.refl _ _⟩
 |y::r,k,v,v',hd,hk,h=>by
  unfold uy at h;split at h
  .rename_i q v1 ht
   cases hn:AD v1 k q.name with
   |false=>rw[hn]at h;cases h
   |true=>
    rw[hn,ae]at h;have⟨g1,g2,g3,g4,g5,g6⟩:=Z4 ht;have nn:v1.W.length=(K.m+63)/64:=by rw[(yl ht).2,pC];exact hd.wl
    split at h
    .cases h
    .rename_i es v2 hh
     have⟨_,b2,b3,b4,b5,b6,b7⟩:=I4 nn hh (λ_ h=>by cases h) .nil;have⟨c1,c2,c3,c4,c5⟩:=T6 nn hh (λ_ h=>by cases h);have⟨d1,d2⟩:=c5 (lI v) (λe he=>by
      rw[gM]at he;exact(hd.ok e he).mono g1 (Zy2 hd.wl ht)) (by rw[gM];exact hd.diff)
     have⟨PB,hq⟩:=SY (Zm6 (Vw ht));unfold na at hq;rw[aY]at hq;have ac0:v2.aK=v.aK:=b5.trans g2;have AX:lI { v2 with aK:=v2.aK++[⟨q.name,lQ es⟩] } =lI v++lQ es:=by
      unfold lI;grind
     have Px:(lI v++lQ es).Perm (lI v++es):=(Zpf es).append_left _;have iL:FX K { v2 with aK:=v2.aK++[⟨q.name,lQ es⟩] } :=by
      refine⟨λe he=>?_,?_,λe he=>?_,?_,λg hg=>?_,λi a b ha hb=>?_,b3⟩
      .rw[AX]at he
       exact d1 e (Px.mem_iff.1 he)
      .rw[AX]
       exact d2.perm Px
      .rw[AX]at he
       show Ac K v2.aG e;rcases gI.1 he with he|he
       .rw[c4,g1];exact hd.live e he
       .rw[c4];exact c1 e ((Zpf es).mem_iff.1 he)
      .rw[AX,bz,Vj]
       show v2.nodes=_;have:=hd.cH;rw[xS]at c2;omega
      .have oF:g∈v2.aK++[⟨q.name,lQ es⟩]:=hg
       rcases gI.1 oF with oF|oF
       .rw[ac0]at oF;exact hd.nm g oF
       .rw[cE.1 oF];exact⟨⟨hq.1,Zsm b2⟩,PB⟩
      .have uB:(v2.aK++[⟨q.name,lQ es⟩])[i]? =some a:=ha
       have dV:(v2.aK++[⟨q.name,lQ es⟩])[i+1]? =some b:=hb;rw[ac0]at uB dV;by_cases hi:i+1<v.aK.length
       .rw[mn AC]at uB
        rw[mn hi]at dV;exact hd.ord i a b uB dV
       .have hl:=(eB.1 dV).1
        rw[bz,iS]at hl;have vT:i+1=v.aK.length:=AC
        rw[mn AC]at uB;rw[kL AC,vT,BK]at dV;simp only[lz,fZ]at dV;subst dV;unfold AD at hn;rw[aZ,g2,show k-1=i by omega,uB]at hn;grind
     have⟨e1,e2⟩:=Zrz (k:=k+1) iL Fd h;exact⟨e1,(NK ht).trans (c3.trans ((WS.same rfl).trans e2))⟩
  .cases h
structure QN (K:bP) (fl:List Bool) (v:aR):Prop where
 len:fl.length=v.aG.length
 iff: ∀i,i<fl.length->(fl.getD i false=true↔(i:Int)∈v.free)
 nodup:v.free.Nodup
 all: ∀k∈v.free,0<=k/\k<(v.aG.length:Int)/\∃y,v.aG[k.toNat]? =some y/\y.live=false/\y.gen<K.sup.g
theorem Zrk {K:bP} : ∀ {f:Nat} {fl rS:List Bool} {k:Int} {v v':aR},(∀x∈v.aG,ZN x=true)->(v.aG.length:Int)=K.sup.used->0<=k->QN K fl v->nF K f fl k v=some (rS,v')->QN K rS v'
 |0,_,_,_,_,_,_,_,_,_,h=>by cases h
 |f+1,fl,rS,k,v,v',hr,hu,h0,hf,h=>by
  unfold nF at h;cases h1:(k==0)with
  |true=>rw[h1]at h;cases h;exact hf
  |false=>
   have mg:k≠0:=by simpa using h1
   rw[h1,af]at h;cases h2:decide (k<=K.sup.used)with
   |false=>rw[h2]at h;cases h
   |true=>
    have Kx:=mW h2;rw[h2,ae]at h;split at h
    .cases h
    .rename_i x hx
     cases h3:(bif (bif !x.live then decide (x.gen<K.sup.g)else false)then !fl.getD (k-1).toNat false else false)with
     |false=>rw[h3]at h;cases h
     |true=>
      rw[h3,ae]at h;have⟨p,hp⟩: ∃p:Nat,k-1=p:=⟨(k-1).toNat,AC⟩;rw[hp,br]at h hx h3;cases eX:x.live with
      |true=>rw[eX]at h3;cases h3
      |false=>
       cases yX:decide (x.gen<K.sup.g)with
       |false=>rw[eX,yX]at h3;cases h3
       |true=>
        rw[eX,yX]at h3;simp only[bp,ae,lT]at h3;have tD:=hr x (sD hx);have yR:0<=x.block:=by
         unfold ZN at tD;rw[eX,af,aY,aY]at tD;have:=tD.2.1;unfold lF at this;grind
        have hlen:=hf.len;refine Zrk (v:= { v with free:=v.free++[(p:Int)] }) hr hu yR ⟨by rw[lU];exact hf.len,λi hi=>?_,?_,λq hq=>?_⟩ h
        .rw[lU]at hi
         show _↔_∈v.free++[(p:Int)];rw[gI,cE,<-hf.iff i hi,ef];by_cases hip:i=p
         .grind
         grind
        .show(v.free++[(p:Int)]).Nodup
         rw[sE];refine⟨hf.nodup,Do,λa ha b hb e=>?_⟩;rw[cE.1 hb]at e;subst e;have:=(hf.iff p AC).2 ha;rw[this]at h3;cases h3
        .have tC:q∈v.free++[(p:Int)]:=hq
         rcases gI.1 tC with tC|tC
         .exact hf.all q tC
         grind
theorem Zri {K:bP} : ∀ {l:List bB} {fl:List Bool},rI K fl l=true->∀(i:Nat) (y:bB),l[i]? =some y->y.live=true\/y.gen=K.sup.g\/fl.getD i false=true
 |[],_,_,i,y,h=>by simp at h
 |x::r,fl,h,i,y,hy=>by
  unfold rI at h;rw[aY]at h;cases i with
  |zero=>
   grind[Eh]
  |succ i=>
   have:=Zri h.2 i y (by simpa using hy);rw[ef,BG,tX]at this;rw[ef];exact this
theorem Zxo {α:Type} [DecidableEq α]: ∀ {l m:List α},l.Nodup->(∀x∈l,x∈m)->m.length<=l.length->∀x∈m,x∈l
 |[],m,_,_,hl,x,hx=>by
  have:m=[]:=zW.1 (by simpa using hl);rw[this]at hx;cases hx
 |a::l,m,hn,hs,hl,x,hx=>by
  rw[zY]at hn;have ha:=hs a Do;have hle:=List.length_erase_of_mem ha;by_cases e:x=a
  .rw[e];simp
  .have Fj:x∈m.erase a:=(List.mem_erase_of_ne e).2 hx
   have:=Zxo (m:=m.erase a) hn.2 Fd (by rw[hle];grind) x Fj;simp[this]
end Go.Gv.F
