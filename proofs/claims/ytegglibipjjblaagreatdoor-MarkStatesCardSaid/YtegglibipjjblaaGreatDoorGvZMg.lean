/- Charts that were made are right. No program in sight. -/
import Derived.Test.YtegglibipjjblaaGreatDoorGvZMf
import Derived.Test.YtegglibipjjblaaGreatDoorGvZMe
import Derived.Test.YtegglibipjjblaaGreatDoorGvZMh
namespace Go.Gv.F
open Go.Gv
theorem ZxR {W V:List Nat} (hl:W.length=V.length) (hw: ∀w∈W,w<18446744073709551616) (hv: ∀w∈V,w<18446744073709551616) (h: ∀b,dI W b=dI V b):W=V:=by
 refine List.ext_getElem hl fun i h1 h2=>Ew fun j=>?_
 have a1:=hw _ (gC h1);have a2:=hv _ (gC h2);rcases eJ j 64 with hj|hj
 ·have:=h (64*i+j)
  unfold dI at this;rw[show(64*i+j)/64=i by omega,show(64*i+j)%64=j by omega,bM,bM,ba h1,ba h2,sw,sw]at this;exact this
 ·rw[KB (j5 a1 (pU (n:=2) (i:=64) (by decide) hj)),KB (j5 a2 (pU (n:=2) (i:=64) (by decide) hj))]
theorem Ip {m:Nat} : ∀(ks:List Int) {W:List Nat},W.length=(m+63)/64->∀b:Nat,dI (ks.foldl (c9 m) W) b=true↔dI W b=true\/((b:Int)∈ks/\b<m)
 |[],W,_,b=>by simp
 |a::ks,W,hl,b=>by
  rw[y8,Ip ks (by rw[sv];exact hl) b,vD hl,jt,aH,bx,cd];unfold gV;rw[aH,bx,bx];constructor
  ·rintro((h|⟨⟨h1,h2⟩,h3⟩)|⟨h1,h2⟩)
   ·exact .inl h
   ·exact .inr ⟨.inl (by omega),by omega⟩
   ·exact .inr ⟨.inr h1,h2⟩
  ·rintro(h|⟨h1|h1,h2⟩)
   ·exact .inl (.inl h)
   ·exact .inl (.inr ⟨⟨by omega,by omega⟩,by omega⟩)
   ·exact .inr ⟨h1,h2⟩
theorem OH {m:Nat} (l:List Int) (b:Nat):dI (oJ m l) b=true↔(b:Int)∈l/\b<m:=by
 unfold oJ;rw[Ip l (by simp) b,ZvT];simp
theorem ZxH {W:List Nat} {b:Nat} (h:dI W b=true):b<64*W.length:=by
 rcases eJ b (64*W.length)with h1|h1
 ·exact h1
 ·unfold dI at h
  rw[bM,dL (by omega)]at h;unfold dG at h;simp at h
theorem ZxZ {W:List Nat} {k:Int} :k∈lh W↔ ∃b:Nat,k=(b:Int)/\dI W b=true:=by
 rw[Zrr];constructor
 ·intro h
  obtain⟨b,hb,rfl⟩:=dE.1 h;exact⟨b,rfl,(xc.1 hb).2⟩
 ·rintro⟨b,rfl,hb⟩
  exact dE.2 ⟨b,xc.2 ⟨jd.2 (ZxH hb),hb⟩,rfl⟩
theorem Zu3 {W:List Nat} {n:Nat} (h: ∀b,dI W b=true↔b<n):lh W=Zs 0 n:=by
 rw[Zrr];unfold Zs;have hle:n<=64*W.length:=by
  rcases eJ (64*W.length) n with h1|h1
  ·have:=ZxH ((h (64*W.length)).2 h1)
   omega
  ·exact h1
 have e2:64*W.length=n+(64*W.length-n):=by omega
 rw[e2,List.range_add,w8,List.filter_eq_self.2 fun k hk=>(h k).2 (jd.1 hk),Ky.2 fun k hk=>?_,dZ]
 ·refine vd fun k _=>?_
  rw[dy]
 ·obtain⟨j,_,rfl⟩:=dE.1 hk
  intro hc;have:=(h (n+j)).1 hc;omega
def rl (b:List UInt8) (k:Nat):Bool:=dG (b.getD (k/8) 0).toNat (k%8)
theorem ZyR {b:List UInt8} {k j:Nat} (h:k/8<b.length):rl (sJ b k) j=(rl b j||decide (j=k)):=by
 unfold rl sJ;rw[sw,sw,bM];by_cases hq:k/8=j/8
 ·rw[<-hq,fV h]
  simp only[sg];have aj:(b.getD (k/8) 0).toNat|||2^(k%8)<256:=Ey (n:=8) (UInt8.toNat_lt _) (Ez (by decide) (by omega));rw[UInt8.toNat_ofNat_of_lt' aj,vh,Nat.testBit_two_pow];congr 1;exact decide_eq_decide.2 ⟨fun e=>by omega,fun e=>by omega⟩
 ·rw[ec hq,<-bM,ao (show j≠k from fun e=>hq (by rw[e])),yY]
theorem NP (p:Nat): ∀(l:List Int) (b:List UInt8),b.length=48->∀j,j<384->rl (pZ p b l) j=(rl b j||decide (((384*p+j:Nat):Int)∈l))
 |[],b,_,j,_=>by
  show rl b j=_;simp
 |x::r,b,hb,j,hj=>by
  unfold pZ;cases hx:tO p x with
  |false=>
   rw[cond_false,NP p r b hb j hj];unfold tO at hx;rw[Bool.and_eq_false_iff,j6,j6]at hx;have bp:((384*p+j:Nat):Int)≠x:=by omega
   congr 1;exact decide_eq_decide.2 ⟨fun h=>oP _ h,fun h=>(cd.1 h).resolve_left bp⟩
  |true=>
   unfold tO at hx;rw[aH,bx,bx]at hx;rw[cond_true,NP p r _ (by rw[Hv];exact hb) j hj,ZyR (by omega),Bool.or_assoc];congr 1;by_cases hjx:j=(x-((384*p:Nat):Int)).toNat
   ·have:((384*p+j:Nat):Int)=x:=by omega
    rw[ah hjx,tC];exact(ah (by rw[this];exact nT)).symm
   ·have:((384*p+j:Nat):Int)≠x:=by omega
    rw[ao hjx,pQ];exact decide_eq_decide.2 ⟨fun h=>oP _ h,fun h=>(cd.1 h).resolve_left this⟩
theorem Zxi (n j:Nat):rl (List.replicate n 0) j=false:=by
 unfold rl;rw[bM,y9];unfold dG;split<;>simp
theorem Zz0 {c:ZJ} {i:Nat} (h:i<384):sS c (c.no*384+i)=rl c.cO i:=by
 unfold sS rl;rw[ah (show(c.no*384+i)/384=c.no by omega),cI,show(c.no*384+i)%384=i by omega,show(c.no*384+i)%8=i%8 by omega]
theorem Zts {p i:Nat} {l:List Int} (h:i<384):sS (gf p l) (p*384+i)=decide (((384*p+i:Nat):Int)∈l):=by
 have:=Zz0 (c:=gf p l) h;rw[show(gf p l).no=p from rfl]at this;rw[this];show rl (pZ p (List.replicate 48 0) l) i=_;rw[NP p l _ (by simp) i h,Zxi,pQ]
theorem Zra {c:ZJ} {k:Int} :k∈fO c 384↔ ∃i,i<384/\k=((c.no*384+i:Nat):Int)/\sS c (c.no*384+i)=true:=by
 unfold fO;constructor
 ·intro h
  obtain⟨i,hi,rfl⟩:=dE.1 h;have:=xc.1 hi;exact⟨i,jd.1 this.1,rfl,this.2⟩
 ·rintro⟨i,hi,rfl,hh⟩
  exact dE.2 ⟨i,xc.2 ⟨jd.2 hi,hh⟩,rfl⟩
theorem Zul {p:Nat} {l:List Int} {b:Nat} :(b:Int)∈fO (gf p l) 384↔(b:Int)∈l/\b/384=p:=by
 rw[Zra,show(gf p l).no=p from rfl];constructor
 ·rintro⟨i,hi,e,hh⟩
  rw[Zts hi,bx]at hh;have:b=384*p+i:=by omega
  rw[this];exact⟨hh,by omega⟩
 ·rintro⟨h1,h2⟩
  refine⟨b%384,Nat.mod_lt _ (by decide),by omega,?_⟩;rw[Zts (Nat.mod_lt _ (by decide)),bx,show 384*p+b%384=b by omega];exact h1
theorem Zxm {m p:Nat} {l:List Int} (h: ∀k∈l,k<(m:Int)):DY m (gf p l)=false:=by
 unfold DY;by_cases h0:0<(fO (gf p l) 384).length
 ·rw[ah h0,cond_true]
  refine ao fun hc=>?_
  have bp:fO (gf p l) 384≠[]:=fun e=>by rw[e]at h0;simp at h0
  have hm:(fO (gf p l) 384).getLastD 0∈fO (gf p l) 384:=by
   rw[List.getLastD_eq_getLast?,List.getLast?_eq_some_getLast bp];exact List.getLast_mem bp
  obtain⟨i,_,e,_⟩:=Zra.1 hm;rw[e]at hm hc;have:=h _ (Zul.1 hm).1;omega
 ·rw[ao h0]
  rfl
theorem Zrm {m:Nat} {l:List Int} (h: ∀k∈l,k<(m:Int)): ∀(c i:Nat) (W:List Nat),W.length=(m+63)/64->(∀w∈W,w<18446744073709551616)->
  ∃F,Ad m i ((List.range' i c).map fun p=>gf p l) W=some F/\F.length=(m+63)/64/\(∀w∈F,w<18446744073709551616)/\∀b,dI F b=true↔dI W b=true\/((b:Int)∈l/\384*i<=b/\b<384*(i+c))
 |0,i,W,hl,hw=>⟨W,rfl,hl,hw,fun b=>⟨.inl,fun h=>h.elim id fun h=>by omega⟩⟩
 |c+1,i,W,hl,hw=>by
  obtain⟨q1,q2⟩:=sq m (fO (gf i l) 384) W;obtain⟨F,f1,f2,f3,f4⟩:=Zrm h c (i+1) ((fO (gf i l) 384).foldl (c9 m) W) (by rw[q1];exact hl) (q2 hw);refine⟨F,?_,f2,f3,fun b=>?_⟩
  ·rw[Bs,gK]
   unfold Ad;rw[show(gf i l).no=i from rfl,ah rfl,Zxm h];exact f1
  ·rw[f4 b,Ip _ hl b,Zul]
   constructor
   ·rintro((h1|⟨⟨h1,h2⟩,h3⟩)|⟨h1,h2,h3⟩)
    ·exact .inl h1
    ·exact .inr ⟨h1,by omega,by omega⟩
    ·exact .inr ⟨h1,by omega,by omega⟩
   ·rintro(h1|⟨h1,h2,h3⟩)
    ·exact .inl (.inl h1)
    ·by_cases hb:b/384=i
     ·exact .inl (.inr ⟨⟨h1,hb⟩,by have:=h _ h1;omega⟩)
     ·exact .inr ⟨h1,by omega,by omega⟩
theorem Znj {used:List Int} {B:List UInt8} : ∀(c i:Nat) (m:bd),i+c<=8->2<=m.next->Fin B (jf used c i m)->∀t,t<c->gU B (m.next+t)=su (gf (i+t) used)
 |0,_,_,_,_,_,t,ht=>by omega
 |c+1,i,m,hi,h2,hF,t,ht=>by
  obtain⟨m2,dH⟩: ∃m2,eD m (su (gf i used))=m2:=⟨_,rfl⟩;have e:jf used (c+1) i m=jf used c (i+1) m2:=by rw[<-dH];rfl
  have hn:m2.next=m.next+1:=by rw[<-dH];rfl
  rw[e]at hF;cases t with
  |zero=>
   have oq:=hF.back (Ex.jf used c (i+1) m2);rw[<-dH]at oq;rw[dC,dC];exact oq.put (ZoY (by show i<8;omega) (by show(pZ i (List.replicate 48 0) used).length=48;rw[HJ];simp)).1 h2
  |succ t=>
   have:=Znj c (i+1) m2 (by omega) (by omega) hF t (by omega);rw[hn]at this;rw[show m.next+(t+1)=m.next+1+t by omega,show i+(t+1)=i+1+t by omega];exact this
theorem ZoL {img:List UInt8} {m N:Nat} {W:List Nat} {used:List Int} (hW: ∀b,dI W b=true->b<N): ∀(c i:Nat),N+i+c<=m->(∀t,t<c->i+t<8/\gU img (N+i+t)=su (gf (i+t) used))->
  vT img m W (Zs (N+i) c)=some ((List.range' i c).map fun p=>gf p used)
 |0,i,_,_=>rfl
 |c+1,i,hm,h=>by
  have e:Zs (N+i) (c+1)=((N+i:Nat):Int)::Zs (N+(i+1)) c:=by
   unfold Zs;rw[List.range_succ_eq_map,gK,xb];congr 1;refine vd fun k _=>?_
   show((N+i+(k+1):Nat):Int)=((N+(i+1)+k:Nat):Int);omega
  obtain⟨h8,hl⟩:=h 0 (by omega);rw[dC]at hl h8;rw[e];unfold vT;rw[aY,Ui,hl,(ZoY (by show i+0<8;omega) (by show(pZ (i+0) (List.replicate 48 0) used).length=48;rw[HJ];simp)).2];simp only;have fM:dI W (N+i)=false:=by
   cases hh:dI W (N+i)with
   |false=>rfl
   |true=>have:=hW _ hh;omega
  rw[fM,rY,cond_false,ZoL hW c (i+1) (by omega) fun t ht=>by
   have:=h (t+1) (by omega);rw[show N+i+(t+1)=N+(i+1)+t by omega,show i+(t+1)=i+1+t by omega]at this;exact this]
  rw[Bs,gK];rfl
theorem ZvA {x:cK} (hm:jx x) {bG:Int} {B:List UInt8} (hP:ZxD x bG B) {W:List Nat} (hW:Mem x.blocks.toNat W (fun b=>b<(cV x).2.next)):zU B (cZ x bG) W=true:=by
 obtain⟨g1,g2,_⟩:=sr hm.xS;have wE:=hP.room;have uL:Ex (fP x) (iw x).2:=Ex.ml _ _;have mD:Ex (iw x).2 (cV x).2:=Ex.gX x.gens x.free _;have l0:=uL.le;have l1:=mD.le;have m02:(fP x).next=2:=rfl;have Wb:jb x=(x.blocks.toNat+383)/384:=rfl;have nv:=Znj (used:=jJ x) (B:=B) (jb x) 0 (cV x).2 (by omega) (by omega) hP.fin;obtain⟨N,hN⟩: ∃N,(cV x).2.next=N:=⟨_,rfl⟩;rw[hN]at nv wE hW l1;have kV:(cZ x bG).aG=Zs N (jb x):=by rw[<-hN];rfl
 have im:jJ x=Zs 0 (N+jb x):=by rw[<-hN];rfl
 have jU:(cZ x bG).blocks.toNat=x.blocks.toNat:=rfl;have fN: ∀(k:Int) (a n:Nat),k∈Zs a n↔(a:Int)<=k/\k<((a+n:Nat):Int):=fun k a n=>by
  unfold Zs;rw[dE];constructor
  ·rintro⟨i,hi,rfl⟩
   have:=jd.1 hi;omega
  ·rintro⟨h1,h2⟩
   exact⟨(k-a).toNat,jd.2 (by omega),by omega⟩
 have Tx:=ZoL (img:=B) (m:=x.blocks.toNat) (N:=N) (W:=W) (used:=jJ x) (fun b hb=>(hW.iff b).1 hb) (jb x) 0 (by omega) (fun t ht=>⟨by omega,by
  have:=nv t ht;rw[dC];exact this⟩)
 rw[dC]at Tx;have h0:(oJ x.blocks.toNat []).length=(x.blocks.toNat+63)/64:=by unfold oJ;simp
 have h00: ∀w∈oJ x.blocks.toNat [],w<18446744073709551616:=fun w hw=>by
  unfold oJ at hw;rw[List.foldl_nil,List.mem_replicate]at hw;omega
 obtain⟨F,f1,f2,f3,f4⟩:=Zrm (m:=x.blocks.toNat) (l:=jJ x) (fun k hk=>by rw[im,fN]at hk;omega) (jb x) 0 (oJ x.blocks.toNat []) h0 h00;obtain⟨q1,q2⟩:=sq x.blocks.toNat (lh (oJ x.blocks.toNat (Zs N (jb x)))) W;have hup:nM (x.blocks.toNat:Int) 384=((jb x:Nat):Int):=by
  unfold nM;rw[Zd (x:=(x.blocks.toNat:Int)+384) (by omega) (by omega),Zd (x:=(x.blocks.toNat:Int)+384-1) (by omega) (by omega),show((x.blocks.toNat:Int)+384-1)=((x.blocks.toNat+383:Nat):Int) by omega,show(((x.blocks.toNat+383:Nat):Int).tdiv 384)=(((x.blocks.toNat+383)/384:Nat):Int)from rfl,Wb];exact Zd (by omega) (by omega)
 unfold zU;rw[jU,kV,Tx];simp only;unfold Az;rw[lV,List.length_range',hup,ah rfl,cond_true,f1];refine ah (ZxR (by rw[f2,q1,hW.len]) f3 (q2 hW.lt) fun b=>?_);rw[mN,f4 b,Ip _ hW.len b,OH,hW.iff b,ZxZ,im,fN];constructor
 ·rintro(⟨h1,_⟩|⟨h1,h2,h3⟩)
  ·cases h1
  ·by_cases hb:b<N
   ·exact .inl hb
   ·exact .inr ⟨⟨b,rfl,(OH _ _).2 ⟨(fN _ _ _).2 (by omega),by omega⟩⟩,by omega⟩
 ·rintro(h1|⟨⟨b',e,h1⟩,h2⟩)
  ·exact .inr ⟨by omega,by omega,by omega⟩
  ·have h3:=((fN _ _ _).1 ((OH _ _).1 h1).1)
   have:b'=b:=by omega
   subst this;exact .inr ⟨by omega,by omega,by omega⟩
end Go.Gv.F
