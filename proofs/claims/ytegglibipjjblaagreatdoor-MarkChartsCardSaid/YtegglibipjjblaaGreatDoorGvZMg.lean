/- Charts that were made are right. No program in sight. -/
import Derived.Test.YtegglibipjjblaaGreatDoorGvZMf
import Derived.Test.YtegglibipjjblaaGreatDoorGvZMe
import Derived.Test.YtegglibipjjblaaGreatDoorGvZMh
namespace Go.Gv.F
open Go.Gv
theorem I9 {W V:List Nat} (hl:W.length=V.length) (hw: ∀w∈W,w<18446744073709551616) (hv: ∀w∈V,w<18446744073709551616) (h: ∀b,cR W b=cR V b):W=V:=by
 refine List.ext_getElem hl fun i h1 h2=>B6 fun j=>?_
 have a1:=hw _ (fK h1);have a2:=hv _ (fK h2);rcases eM j 64 with hj|hj
 ·have:=h (64*i+j)
  unfold cR at this;rw[show(64*i+j)/64=i by omega,show(64*i+j)%64=j by omega,bJ,bJ,ba h1,ba h2,qB,qB]at this;exact this
 ·rw[Cb (jH a1 (oh (n:=2) (i:=64) (by decide) hj)),Cb (jH a2 (oh (n:=2) (i:=64) (by decide) hj))]
theorem AG {m:Nat} : ∀(ks:List Int) {W:List Nat},W.length=(m+63)/64->∀b:Nat,cR (ks.foldl (da m) W) b=true↔cR W b=true\/((b:Int)∈ks/\b<m)
 |[],W,_,b=>by simp
 |a::ks,W,hl,b=>by
  rw[zR,AG ks (by rw[sV];exact hl) b,wv hl,jD,aH,bc,bX];unfold gG;rw[aH,bc,bc];constructor
  ·rintro((h|⟨⟨h1,h2⟩,h3⟩)|⟨h1,h2⟩)
   ·exact .inl h
   ·exact .inr ⟨.inl (by omega),by omega⟩
   ·exact .inr ⟨.inr h1,h2⟩
  ·rintro(h|⟨h1|h1,h2⟩)
   ·exact .inl (.inl h)
   ·exact .inl (.inr ⟨⟨by omega,by omega⟩,by omega⟩)
   ·exact .inr ⟨h1,h2⟩
theorem uJ {m:Nat} (l:List Int) (b:Nat):cR (gm m l) b=true↔(b:Int)∈l/\b<m:=by
 unfold gm;rw[AG l (by simp) b,Zw3];simp
theorem ZBi {W:List Nat} {b:Nat} (h:cR W b=true):b<64*W.length:=by
 rcases eM b (64*W.length)with h1|h1
 ·exact h1
 ·unfold cR at h
  rw[bJ,dT (by omega)]at h;unfold dM at h;simp at h
theorem qC {W:List Nat} {k:Int} :k∈eI W↔ ∃b:Nat,k=(b:Int)/\cR W b=true:=by
 rw[Zsf];constructor
 ·intro h
  obtain⟨b,hb,rfl⟩:=dP.1 h;exact⟨b,rfl,(xU.1 hb).2⟩
 ·rintro⟨b,rfl,hb⟩
  exact dP.2 ⟨b,xU.2 ⟨jE.2 (ZBi hb),hb⟩,rfl⟩
def oz (b:List UInt8) (k:Nat):Bool:=dM (b.getD (k/8) 0).toNat (k%8)
theorem Zzt {b:List UInt8} {k j:Nat} (h:k/8<b.length):oz (ta b k) j=(oz b j||decide (j=k)):=by
 unfold oz ta;rw[qB,qB,bJ];by_cases hq:k/8=j/8
 ·rw[<-hq,fJ h]
  simp only[sO];have aj:(b.getD (k/8) 0).toNat|||2^(k%8)<256:=FB (n:=8) (UInt8.toNat_lt _) (FC (by decide) (by omega));rw[UInt8.toNat_ofNat_of_lt' aj,vV,Nat.testBit_two_pow];congr 1;exact FE.2 ⟨fun e=>by omega,fun e=>by omega⟩
 ·rw[eu hq,<-bJ,ao (show j≠k from fun e=>hq (by rw[e])),zM]
theorem OU (p:Nat): ∀(l:List Int) (b:List UInt8),b.length=48->∀j,j<384->oz (nr p b l) j=(oz b j||decide (((384*p+j:Nat):Int)∈l))
 |[],b,_,j,_=>by
  show oz b j=_;simp
 |x::r,b,hb,j,hj=>by
  unfold nr;cases hx:uG p x with
  |false=>
   rw[cond_false,OU p r b hb j hj];unfold uG at hx;rw[Bool.and_eq_false_iff,j3,j3]at hx;have bn:((384*p+j:Nat):Int)≠x:=by omega
   congr 1;exact FE.2 ⟨fun h=>lT _ h,fun h=>(bX.1 h).resolve_left bn⟩
  |true=>
   unfold uG at hx;rw[aH,bc,bc]at hx;rw[cond_true,OU p r _ (by rw[Ix];exact hb) j hj,Zzt (by omega),Bool.or_assoc];congr 1;by_cases hjx:j=(x-((384*p:Nat):Int)).toNat
   ·have:((384*p+j:Nat):Int)=x:=by omega
    rw[ah hjx,ui];exact(ah (by rw[this];exact jZ)).symm
   ·have:((384*p+j:Nat):Int)≠x:=by omega
    rw[ao hjx,ql];exact FE.2 ⟨fun h=>lT _ h,fun h=>(bX.1 h).resolve_left this⟩
theorem Zyx (n j:Nat):oz (List.replicate n 0) j=false:=by
 unfold oz;rw[bJ,zS];unfold dM;split<;>simp
theorem PO {c:ZA} {i:Nat} (h:i<384):sc c (c.no*384+i)=oz c.bT i:=by
 unfold sc oz;rw[ah (show(c.no*384+i)/384=c.no by omega),cI,show(c.no*384+i)%384=i by omega,show(c.no*384+i)%8=i%8 by omega]
theorem Px {p i:Nat} {l:List Int} (h:i<384):sc (dX p l) (p*384+i)=decide (((384*p+i:Nat):Int)∈l):=by
 have:=PO (c:=dX p l) h;rw[show(dX p l).no=p from rfl]at this;rw[this];show oz (nr p (List.replicate 48 0) l) i=_;rw[OU p l _ (by simp) i h,Zyx,ql]
theorem Ja {c:ZA} {k:Int} :k∈dz c 384↔ ∃i,i<384/\k=((c.no*384+i:Nat):Int)/\sc c (c.no*384+i)=true:=by
 unfold dz;constructor
 ·intro h
  obtain⟨i,hi,rfl⟩:=dP.1 h;have:=xU.1 hi;exact⟨i,jE.1 this.1,rfl,this.2⟩
 ·rintro⟨i,hi,rfl,hh⟩
  exact dP.2 ⟨i,xU.2 ⟨jE.2 hi,hh⟩,rfl⟩
theorem Ztw {p:Nat} {l:List Int} {b:Nat} :(b:Int)∈dz (dX p l) 384↔(b:Int)∈l/\b/384=p:=by
 rw[Ja,show(dX p l).no=p from rfl];constructor
 ·rintro⟨i,hi,e,hh⟩
  rw[Px hi,bc]at hh;have:b=384*p+i:=by omega
  rw[this];exact⟨hh,by omega⟩
 ·rintro⟨h1,h2⟩
  refine⟨b%384,Nat.mod_lt _ (by decide),by omega,?_⟩;rw[Px (Nat.mod_lt _ (by decide)),bc,show 384*p+b%384=b by omega];exact h1
theorem Zyf {m p:Nat} {l:List Int} (h: ∀k∈l,k<(m:Int)):xI m (dX p l)=false:=by
 unfold xI;by_cases h0:0<(dz (dX p l) 384).length
 ·rw[ah h0,cond_true]
  refine ao fun hc=>?_
  have bn:dz (dX p l) 384≠[]:=fun e=>by rw[e]at h0;simp at h0
  have hm:(dz (dX p l) 384).getLastD 0∈dz (dX p l) 384:=by
   rw[List.getLastD_eq_getLast?,List.getLast?_eq_some_getLast bn];exact List.getLast_mem bn
  obtain⟨i,_,e,_⟩:=Ja.1 hm;rw[e]at hm hc;have:=h _ (Ztw.1 hm).1;omega
 ·rw[ao h0]
  rfl
theorem OS {m:Nat} {l:List Int} (h: ∀k∈l,k<(m:Int)): ∀(c i:Nat) (W:List Nat),W.length=(m+63)/64->(∀w∈W,w<18446744073709551616)->
  ∃F,wx m i ((List.range' i c).map fun p=>dX p l) W=some F/\F.length=(m+63)/64/\(∀w∈F,w<18446744073709551616)/\∀b,cR F b=true↔cR W b=true\/((b:Int)∈l/\384*i<=b/\b<384*(i+c))
 |0,i,W,hl,hw=>⟨W,rfl,hl,hw,fun b=>⟨.inl,fun h=>h.elim id fun h=>by omega⟩⟩
 |c+1,i,W,hl,hw=>by
  obtain⟨q1,q2⟩:=Z8 m (dz (dX i l) 384) W;obtain⟨F,f1,f2,f3,f4⟩:=OS h c (i+1) ((dz (dX i l) 384).foldl (da m) W) (by rw[q1];exact hl) (q2 hw);refine⟨F,?_,f2,f3,fun b=>?_⟩
  ·rw[B2,gM]
   unfold wx;rw[show(dX i l).no=i from rfl,ah rfl,Zyf h];exact f1
  ·rw[f4 b,AG _ hl b,Ztw]
   constructor
   ·rintro((h1|⟨⟨h1,h2⟩,h3⟩)|⟨h1,h2,h3⟩)
    ·exact .inl h1
    ·exact .inr ⟨h1,by omega,by omega⟩
    ·exact .inr ⟨h1,by omega,by omega⟩
   ·rintro(h1|⟨h1,h2,h3⟩)
    ·exact .inl (.inl h1)
    ·by_cases hb:b/384=i
     ·exact .inl (.inr ⟨⟨h1,hb⟩,by have:=h _ h1;omega⟩)
     ·exact .inr ⟨h1,by omega,by omega⟩
theorem ZnJ {used:List Int} {B:List UInt8} : ∀(c i:Nat) (m:bp),i+c<=8->2<=m.next->Fin B (iZ used c i m)->∀t,t<c->dR B (m.next+t)=mD (dX (i+t) used)
 |0,_,_,_,_,_,t,ht=>by omega
 |c+1,i,m,hi,h2,hF,t,ht=>by
  obtain⟨m2,dr⟩: ∃m2,eJ m (mD (dX i used))=m2:=⟨_,rfl⟩;have e:iZ used (c+1) i m=iZ used c (i+1) m2:=by rw[<-dr];rfl
  have hn:m2.next=m.next+1:=by rw[<-dr];rfl
  rw[e]at hF;cases t with
  |zero=>
   have oE:=hF.back (Ex.iZ used c (i+1) m2);rw[<-dr]at oE;rw[dG,dG];exact oE.put (OE (by show i<8;omega) (by show(nr i (List.replicate 48 0) used).length=48;rw[yh];simp)).1 h2
  |succ t=>
   have:=ZnJ c (i+1) m2 (by omega) (by omega) hF t (by omega);rw[hn]at this;rw[show m.next+(t+1)=m.next+1+t by omega,show i+(t+1)=i+1+t by omega];exact this
theorem Zpn {img:List UInt8} {m N:Nat} {W:List Nat} {used:List Int} (hW: ∀b,cR W b=true->b<N): ∀(c i:Nat),N+i+c<=m->(∀t,t<c->i+t<8/\dR img (N+i+t)=mD (dX (i+t) used))->
  pL img m W (Zt (N+i) c)=some ((List.range' i c).map fun p=>dX p used)
 |0,i,_,_=>rfl
 |c+1,i,hm,h=>by
  have e:Zt (N+i) (c+1)=((N+i:Nat):Int)::Zt (N+(i+1)) c:=by
   unfold Zt;rw[List.range_succ_eq_map,gM,xT];congr 1;refine xS fun k _=>?_
   show((N+i+(k+1):Nat):Int)=((N+(i+1)+k:Nat):Int);omega
  obtain⟨h8,hl⟩:=h 0 (by omega);rw[dG]at hl h8;rw[e];unfold pL;rw[aX,Ta,hl,(OE (by show i+0<8;omega) (by show(nr (i+0) (List.replicate 48 0) used).length=48;rw[yh];simp)).2];simp only;have fq:cR W (N+i)=false:=by
   cases hh:cR W (N+i)with
   |false=>rfl
   |true=>have:=hW _ hh;omega
  rw[fq,rE,cond_false,Zpn hW c (i+1) (by omega) fun t ht=>by
   have:=h (t+1) (by omega);rw[show N+i+(t+1)=N+(i+1)+t by omega,show i+(t+1)=i+1+t by omega]at this;exact this]
  rw[B2,gM];rfl
theorem Zww {x:cT} (hm:jK x) {epoch:Int} {B:List UInt8} (hP:Zyi x epoch B) {W:List Nat} (hW:Mem x.blocks.toNat W (fun b=>b<(dY x).2.next)):rY B (cM x epoch) W=true:=by
 obtain⟨g1,g2,_⟩:=rM hm.yD;have vv:=hP.room;have vA:Ex (gf x) (iH x).2:=Ex.mI _ _;have mQ:Ex (iH x).2 (dY x).2:=Ex.ix x.gens x.free _;have l0:=vA.le;have l1:=mQ.le;have m02:(gf x).next=2:=rfl;have Vb:gH x=(x.blocks.toNat+383)/384:=rfl;have pP:=ZnJ (used:=jX x) (B:=B) (gH x) 0 (dY x).2 (by omega) (by omega) hP.fin;obtain⟨N,hN⟩: ∃N,(dY x).2.next=N:=⟨_,rfl⟩;rw[hN]at pP vv hW l1;have lE:(cM x epoch).az=Zt N (gH x):=by rw[<-hN];rfl
 have iE:jX x=Zt 0 (N+gH x):=by rw[<-hN];rfl
 have iC:(cM x epoch).blocks.toNat=x.blocks.toNat:=rfl;have dy: ∀(k:Int) (a n:Nat),k∈Zt a n↔(a:Int)<=k/\k<((a+n:Nat):Int):=fun k a n=>by
  unfold Zt;rw[dP];constructor
  ·rintro⟨i,hi,rfl⟩
   have:=jE.1 hi;omega
  ·rintro⟨h1,h2⟩
   exact⟨(k-a).toNat,jE.2 (by omega),by omega⟩
 have KN:=Zpn (img:=B) (m:=x.blocks.toNat) (N:=N) (W:=W) (used:=jX x) (fun b hb=>(hW.iff b).1 hb) (gH x) 0 (by omega) (fun t ht=>⟨by omega,by
  have:=pP t ht;rw[dG];exact this⟩)
 rw[dG]at KN;have h0:(gm x.blocks.toNat []).length=(x.blocks.toNat+63)/64:=by unfold gm;simp
 have Ke: ∀w∈gm x.blocks.toNat [],w<18446744073709551616:=fun w hw=>by
  unfold gm at hw;rw[List.foldl_nil,List.mem_replicate]at hw;omega
 obtain⟨F,f1,f2,f3,f4⟩:=OS (m:=x.blocks.toNat) (l:=jX x) (fun k hk=>by rw[iE,dy]at hk;omega) (gH x) 0 (gm x.blocks.toNat []) h0 Ke;obtain⟨q1,q2⟩:=Z8 x.blocks.toNat (eI (gm x.blocks.toNat (Zt N (gH x)))) W;have hup:lN (x.blocks.toNat:Int) 384=((gH x:Nat):Int):=by
  unfold lN;rw[Zb (x:=(x.blocks.toNat:Int)+384) (by omega) (by omega),Zb (x:=(x.blocks.toNat:Int)+384-1) (by omega) (by omega),show((x.blocks.toNat:Int)+384-1)=((x.blocks.toNat+383:Nat):Int) by omega,show(((x.blocks.toNat+383:Nat):Int).tdiv 384)=(((x.blocks.toNat+383)/384:Nat):Int)from rfl,Vb];exact Zb (by omega) (by omega)
 unfold rY;rw[iC,lE,KN];simp only;unfold uV;rw[lS,List.length_range',hup,ah rfl,cond_true,f1];refine ah (I9 (by rw[f2,q1,hW.len]) f3 (q2 hW.lt) fun b=>?_);rw[jY,f4 b,AG _ hW.len b,uJ,hW.iff b,qC,iE,dy];constructor
 ·rintro(⟨h1,_⟩|⟨h1,h2,h3⟩)
  ·cases h1
  ·by_cases hb:b<N
   ·exact .inl hb
   ·exact .inr ⟨⟨b,rfl,(uJ _ _).2 ⟨(dy _ _ _).2 (by omega),by omega⟩⟩,by omega⟩
 ·rintro(h1|⟨⟨b',e,h1⟩,h2⟩)
  ·exact .inr ⟨by omega,by omega,by omega⟩
  ·have h3:=((dy _ _ _).1 ((uJ _ _).1 h1).1)
   have:b'=b:=by omega
   subst this;exact .inr ⟨by omega,by omega,by omega⟩
end Go.Gv.F
namespace Go.Gv.F
open Go.Gv
variable {β:Type}
theorem aY.Uk {s0 s:St} {a:Option (Nat×Nat)} {cs:List DV} (h:aY s0 s a cs) {sz n m lim:Nat} {ds:List DV} (hz:0<sz) (hn:cs.length=n*sz) (hd:ds.length=m*sz) (hl:n+m<=lim):
  ∃p s',aY s0 s' p (cs++ds)/\∀K:Option (Nat×Nat)->M β,M.app sz a n ds m lim K s=K p s':=by
 rcases vU m with rfl|hm
 ·rw[nf]at hd
  rw[pd.1 hd,ez];exact⟨a,s,h,fun K=>rfl⟩
 ·exact h.app hz hn hm hl
def l9 (l:List Int):Prop:=l.Pairwise (· < ·)
theorem l9.nodup {l:List Int} (h:l9 l):l.Nodup:=h.imp fun h e=>by omega
theorem Ow: ∀ {l m:List Int},l9 l->l9 m->(∀k,k∈l↔k∈m)->l=m
 |[],[],_,_,_=>rfl
 |[],b::m,_,_,h=>by cases(h b).2 jZ
 |a::l,[],_,_,h=>by cases(h a).1 jZ
 |a::l,b::m,hl,hm,h=>by
  have h1:=B0.1 hl;have h2:=B0.1 hm;have e:a=b:=by
   rcases bX.1 ((h a).1 jZ)with e|e
   ·exact e
   ·rcases bX.1 ((h b).2 jZ)with e'|e'
    ·exact e'.symm
    ·have:=h1.1 b e';have:=h2.1 a e;omega
  subst e;rw[Ow h1.2 h2.2 fun k=>⟨fun hk=>?_,fun hk=>?_⟩]
  ·rcases bX.1 ((h k).1 (lT _ hk))with e|e
   ·have:=h1.1 k hk;omega
   ·exact e
  ·rcases bX.1 ((h k).2 (lT _ hk))with e|e
   ·have:=h2.1 k hk;omega
   ·exact e
theorem ZsG {l:List Int} {k:Nat} {a:Int} (hr:l9 l) (h1: ∀j (x:Int),k<=j->l[j]? =some x->a<x) (h2: ∀j (x:Int),j<k->l[j]? =some x->x<a):l9 (l.take k++[a]++l.drop k)/\∀b,b∈l.take k++[a]++l.drop k↔b∈l\/b=a:=by
 have eR:l=l.take k++l.drop k:=(lj _ _).symm;have ht: ∀x∈l.take k,x<a:=fun x hx=>by
  obtain⟨j,hj⟩:=zV.1 hx;rw[lg]at hj;split at hj
  ·exact h2 j x (by assumption) hj
  ·cases hj
 have hd: ∀x∈l.drop k,a<x:=fun x hx=>by
  obtain⟨j,hj⟩:=zV.1 hx;rw[lR]at hj;exact h1 (k+j) x (by omega) hj
 refine⟨?_,fun b=>?_⟩
 ·unfold l9 at hr⊢
  rw[eR,List.pairwise_append]at hr;rw[dD,List.pairwise_append];refine⟨hr.1,B0.2 ⟨hd,hr.2.1⟩,fun x hx y hy=>?_⟩;rcases bX.1 hy with rfl|hy
  ·exact ht x hx
  ·have:=ht x hx;have:=hd y hy;omega
 ·conv=>rhs;rw[eR]
  simp only[cW,bK];constructor
  ·rintro((h|h)|h)
   ·exact .inl (.inl h)
   ·exact .inr h
   ·exact .inl (.inr h)
  ·rintro((h|h)|h)
   ·exact .inl (.inl h)
   ·exact .inr h
   ·exact .inl (.inr h)
def FF (st:St) (l:List Int) (m a:Int) (o:Out (List DV)×St):Prop:=∃(p:Option (Nat×Nat)) (r:List Int) (s':St),o=(.val [.slice 1 p r.length],s')/\ar st s'/\Sl s' p (ints r)/\l9 r/\∀k,k∈r↔k∈l\/(k=a/\0<=a/\a<m)
theorem Zmb {Bd:Za} (h:HU Bd) (n:Nat) (l:List Int) (z:Nat) (p:Option (Nat×Nat)) (m a:Int) (st:St) (hz:z=1\/p=none) (hs:Sl st p (ints l)) (hr:l9 l) (hl:l.length<100000) (hn:l.length+10<=n):
  Ok (FF st l m a) (run Bd n 205 [.slice z p l.length,.int .i64 m,.int .i64 a] st):=by
 obtain⟨n,rfl⟩: ∃k,n=k+1:=⟨n-1,by omega⟩;rw[Zf,h.eq];unfold HX;simp only[Zm 1 z p _ hz,al,ae,ni];have stay:(a∈l\/¬(0<=a/\a<m))->Ok (FF st l m a) ((M.gR st.length [DV.slice 1 p l.length]:M (List DV)) st):=fun hc=>by
  rw[ZE];have hp:ar st (ZV st.length st):=ZH (.refl st);refine .mk ⟨p,l,_,rfl,hp,hs.mono hp,hr,fun k=>⟨.inl,fun hk=>hk.elim id fun hk=>?_⟩⟩;rcases hc with hc|hc
  ·rw[hk.1];exact hc
  ·exact absurd hk.2 hc
 have ri:(ints l).length=l.length:=by simp[ints]
 rw[Zc];have body:(0<=a/\a<m)->∀b,b=decide (a∈l)->Ok (FF st l m a) ((bif b then(M.gR st.length [DV.slice 1 p l.length]:M (List DV))else
   M.join (fun aax=>J.i .i64 aax fun k aay=>D.nil aay<|
     M.ak (decide (0<=k)&&decide (k<=(l.length:Int)))<|
     M.rd p (k.toNat*1) fun cs=>
     M.app 1 none 0 cs k.toNat 8796093022208 fun p2=>
     M.new [.int .i64 a] fun i=>
     M.load i 0 1 fun bw=>
     M.app 1 p2 (0+k.toNat) bw 1 8796093022208 fun p1=>
     M.ak (decide (0<=k)&&decide (k<=(l.length:Int)))<|
     M.rd (cy true p (k.toNat*1)) ((l.length-k.toNat)*1) fun cU=>
     M.app 1 p1 (0+k.toNat+1) cU (l.length-k.toNat) 8796093022208 fun p2=>
     M.gR st.length [.slice 1 p2 (0+k.toNat+1+(l.length-k.toNat))]) fun aU=>
    M.loop (fun aK st=>
     J.i .i64 st fun k1 st=>
     D.nil st<|
     M.join (fun st=>J.b st fun b3 st=>D.nil st<|
      bif b3 then
       aK [.int .i64 (af (k1-1))]
      else
       aU [.int .i64 k1]) fun bu=>
     bif decide (k1>0)then
      M.nn p fun i1 o=>
      M.ak (av (af (k1-1)) l.length)<|
      M.au i1 (((af (k1-1)).toNat)*1+o) fun d=>
      D.int .i64 d fun x=>
      bu [.bool (decide (x>a))]
     else
      bu [.bool false]) n [.int .i64 (l.length:Int)]) st):=by
  intro pY b hb;cases b with
  |true=>
   rw[cond_true];exact stay (.inl (lY hb.symm))
  |false=>
  have vp:a∉l:=uv hb.symm;rw[cond_false];refine Ok.join fun aU DW=>?_
  refine Zl _ (fun q y t=>∃k:Nat,y=[.int .i64 (k:Int)]/\k<=l.length/\k<=q/\t=st/\∀j (x:Int),k<=j->l[j]? =some x->a<x) ?_ l.length n _ _ ⟨l.length,rfl,ay _,ay _,rfl,fun j x hj hx=>by rw[dT hj]at hx;cases hx⟩ (by omega);rintro q y t ⟨k,rfl,hk,hq,rfl,dc⟩ rec aD;simp only[al,ae];have out:(∀j (x:Int),j<k->l[j]? =some x->x<a)->Ok (FF t l m a) (aU [DV.int .i64 (k:Int)] t):=fun pW=>by
   subst DW;simp only[al,ae,aX];rw[Zd (by rw[aH,bc,bc];omega)];have h1:=hs.kt k;have Kf:((ints l).take k).length=k*1:=by rw[bW,ri];omega
   have e1: ∀K:List DV->M (List DV),M.rd p (k*1) K t=K ((ints l).take k) t:=fun K=>by
    have:=qg h1 K
    rwa [Kf]at this
   rw[e1];obtain⟨r1,s1,vr,he1⟩:=(aY.nil (ar.refl t)).Uk (β:=List DV) (sz:=1) (n:=0) (m:=k) (lim:=8796093022208) (ds:=(ints l).take k) (by omega) rfl Kf (by omega);rw[he1];rw[fe]at vr;obtain⟨r2,s2,cK,wU⟩:=vr.push (β:=List DV) (sz:=1) (n:=0+k) (lim:=8796093022208) [.int .i64 a] (by omega) (by rw[Kf];omega) rfl (by omega);rw[wU];rw[Zd (by rw[aH,bc,bc];omega)];have h2:=(hs.mono cK.1).cy (k:=k) (by omega);have h2l:((ints l).drop k).length=(l.length-k)*1:=by rw[dt,ri];omega
   have e2: ∀K:List DV->M (List DV),M.rd (cy true p (k*1)) ((l.length-k)*1) K s2=K ((ints l).drop k) s2:=fun K=>by
    rw[di k];have:=qg h2 K
    rwa [h2l]at this
   rw[e2];obtain⟨r3,s3,nN,he3⟩:=cK.Uk (β:=List DV) (sz:=1) (n:=0+k+1) (m:=l.length-k) (lim:=8796093022208) (ds:=(ints l).drop k) (by omega) (by rw[bg,Kf,rG];omega) h2l (by omega);rw[he3,ZE];obtain⟨c1,c2⟩:=ZsG hr dc pW;have fq:(ints l).take k++[DV.int .i64 a]++(ints l).drop k=ints (l.take k++[a]++l.drop k):=by
    simp[ints,List.map_take,List.map_drop]
   rw[fq]at nN;have yR:(l.take k++[a]++l.drop k).length=0+k+1+(l.length-k):=by
    simp only[bg,bW,dt,rG];omega
   refine .mk ⟨r3,_,_,by rw[yR],ZH nN.1,nN.sl.jc _,c1,fun b=>?_⟩;rw[c2];exact⟨fun hb=>hb.imp id fun e=>⟨e,pY⟩,fun hb=>hb.imp id fun e=>e.1⟩
  rw[Zc];by_cases hk0:k=0
  ·rw[ao (show ¬(k:Int)>0 by omega),cond_false]
   simp only[ai,ae,cond_false];exact out fun j x hj=>by omega
  ·obtain⟨i1,o1,rfl⟩:=hs.ck (by rw[ri];omega)
   have ig:k-1<l.length:=by omega
   have cJ:(ints l)[k-1]? =some (.int .i64 l[k-1]):=Zu ig;have sg:l[k-1]? =some l[k-1]:=ba ig;have dy:l[k-1]∈l:=fK ig;rw[ah (show(k:Int)>0 by omega),cond_true,aV,Zb (by omega) (by omega),show(k:Int)-1=((k-1:Nat):Int) by omega,Zd (Zk ig)];simp only[aX];rw[hs.cP cJ];simp only[aM,ai,ae];generalize l[k-1]=w at cJ sg dy;by_cases hw:w>a
   ·rw[ah hw,cond_true]
    refine aD (k-1) _ _ (by omega) ⟨k-1,rfl,by omega,ay _,rfl,fun j x hj hx=>?_⟩;by_cases rj:j=k-1
    ·rw[rj,sg]at hx
     cases hx;exact hw
    ·exact dc j x (by omega) hx
   ·rw[ao hw,cond_false]
    have bn:w≠a:=fun e=>vp (by rw[<-e];exact dy)
    refine out fun j x hj hx=>?_
    by_cases rj:j=k-1
    ·rw[rj,sg]at hx
     cases hx;omega
    ·have oH:=(cd.1 hx)
     obtain⟨si,w4⟩:=oH;obtain⟨gX,hk3⟩:=cd.1 sg;have:=List.pairwise_iff_getElem.1 hr j (k-1) si gX (by omega);rw[w4,hk3]at this;omega
 by_cases ha0:a<0
 ·rw[ah ha0,cond_true]
  simp only[ai,ae];rw[Zc,cond_true];simp only[ai,ae];rw[cond_true];exact stay (.inr (by omega))
 ·rw[ao ha0,cond_false]
  simp only[ai,ae];rw[Zc];by_cases ham:a>=m
  ·rw[ah ham,cond_true]
   simp only[ai,ae];rw[cond_true];exact stay (.inr (by omega))
  ·rw[ao ham,cond_false]
   refine Ok.call (H4 h.BO n 1 l a p st (.inl rfl) hs (by omega) (by omega)) ?_;rintro _ rfl;refine⟨_,st,rfl,?_⟩;simp only[ai,ae];exact body ⟨by omega,by omega⟩ _ rfl
theorem ZvD {Bd:Za} (h:OC Bd) (n:Nat) (l:List Int) (z:Nat) (p:Option (Nat×Nat)) (m:Int) (st:St) (hz:z=1\/p=none) (hs:Sl st p (ints l)) (hl:l.length<100000) (hn:l.length+12<=n):
  Ok (fun o=>∃(q:Option (Nat×Nat)) (r:List Int) (s':St),o=(.val [.slice 1 q r.length],s')/\ar st s'/\Sl s' q (ints r)/\l9 r/\∀k,k∈r↔k∈l/\0<=k/\k<m) (run Bd n 176 [.int .i64 m,.slice z p l.length] st):=by
 obtain⟨n,rfl⟩: ∃k,n=k+1:=⟨n-1,by omega⟩;rw[Zf,h.eq];unfold IE;simp only[Zm 1 z p _ hz,al,ae,ni];refine Ok.join fun aq DU=>?_
 refine Zl _ (fun q y t=>∃(i:Nat) (r:List Int) (z':Nat) (p':Option (Nat×Nat)),y=[.slice z' p' r.length,.int .i64 (i:Int)]/\(z'=1\/p'=none)/\i<=l.length/\l.length-i<=q/\ar st t/\Sl t p' (ints r)/\l9 r/\r.length<=i/\∀k,k∈r↔k∈l.take i/\0<=k/\k<m) ?_ l.length n _ _ ⟨0,[],0,none,rfl,.inr rfl,bH _,by omega,.refl _,Sl.nil _,.nil,ay _,fun k=>by simp⟩ (by omega);rintro q y t ⟨i,r,z',p',rfl,xx,hi,hq,hp,hr,xk,xl,dy⟩ rec aD;simp only[Zm 1 z' p' _ xx,al,ae];by_cases aj:i<l.length
 ·obtain⟨i1,o1,rfl⟩:=hs.ck (by simp[ints];omega)
  have cJ:(ints l)[i]? =some (.int .i64 l[i]):=Zu aj;have fj:l.take (i+1)=l.take i++[l[i]]:=jG aj;rw[ah (show(i:Int)<(l.length:Int) by omega),cond_true,aV,Zd (Zk aj)];simp only[aX];rw[(hs.mono hp).cP cJ];simp only[aM];generalize l[i]=w at cJ fj;refine Ok.call (Zmb h.Ts n r 1 p' m w t (.inl rfl) hr xk (by omega) (by omega)) ?_;rintro _ ⟨p2,r2,s2,rfl,bd,se,jz,dr⟩;refine⟨_,s2,rfl,?_⟩;simp only[bh,al,ae];rw[Zb (by omega) (by omega)];refine aD (l.length-(i+1)) _ _ (by omega) ⟨i+1,r2,1,p2,rfl,.inl rfl,by omega,ay _,hp.trans bd,se,jz,?_,fun k=>?_⟩
  ·
   have:r2.length<=(w::r).length:=Pz jz.nodup fun k hk=>by
    rcases(dr k).1 hk with h|h
    ·exact lT _ h
    ·rw[h.1];exact jZ
   rw[dF]at this;omega
  ·rw[dr,dy,fj,cW,bK]
   constructor
   ·rintro(⟨h1,h2⟩|⟨h1,h2⟩)
    ·exact⟨.inl h1,h2⟩
    ·exact⟨.inr h1,by omega⟩
   ·rintro⟨h1|h1,h2⟩
    ·exact .inl ⟨h1,h2⟩
    ·exact .inr ⟨h1,by omega⟩
 ·rw[ao (show ¬(i:Int)<(l.length:Int) by omega),cond_false,DU]
  simp only[bh,ae,ZE];rw[cA (by omega)]at dy;have cn:ar st (ZV st.length t):=ZH hp;refine .mk ⟨p',r,_,rfl,cn,hr.jc _,xk,dy⟩
end Go.Gv.F
namespace Go.Gv.F
open Go.Gv
variable {β:Type}
def tk (l:List UInt8):List UInt8:=bR (lB (l.drop 4)) 4++l.drop 4
theorem ZxU {l:List UInt8} (h:4<=l.length):(tk l).length=l.length:=by
 unfold tk;rw[bg,Zq,dt];omega
theorem aY.wr {s0 s:St} {i:Nat} {l:List UInt8} (h:aY s0 s (some (i,0)) (bj l)) (hl:0<l.length) {k:Nat} (hk:k<=l.length) (t:List UInt8):
  ∃s',aY s0 s' (some (i,0)) (bj (jA l k t))/\s'.length=s.length/\∀K:M β,M.wr (some (i,k)) (bj (t.take (l.length-k))) K s=K s':=by
 rcases h.2 with⟨e,_⟩|⟨j,e,hj,hs⟩
 ·cases e
 ·cases e
  have de:s.fH i=some (bj l):=by unfold St.fH;rw[hs]
  refine⟨s.set i (some ⟨false,bj (jA l k t)⟩),⟨uF h.1 hj _,.inr ⟨i,rfl,hj,fJ (cd.1 hs).1⟩⟩,by simp,fun K=>?_⟩;show M.store i k _ K s=_;unfold M.store;rw[de];simp only;rw[gx (by rw[Zr,Zr,bW];omega),cond_true,P7 t hk]
theorem Zqy {Bd:Za} (h:Nb Bd) (n:Nat) (p:Option (Nat×Nat)) (l:List UInt8) (st:St) (hs:dp st p l) (hl:4<=l.length) (kh:l.length<100000) (hn:l.length+40<=n):
  Ok (fun o=>∃q s',o=(.val [.slice 1 q l.length],s')/\ar st s'/\pz s' q (tk l)) (run Bd n 207 [.slice 1 p l.length] st):=by
 obtain⟨n,rfl⟩: ∃k,n=k+1:=⟨n-1,by omega⟩;rw[Zf,h.eq];unfold HD;simp only[bh,ae,ni,Zw];have aI:ar st (st++[some ⟨false,[]⟩]):= .new _ _;have ga:=hs.mono aI;have e1: ∀K:List DV->M (List DV),M.rd p (l.length*1) K (st++[some ⟨false,[]⟩])=K (bj l) (st++[some ⟨false,[]⟩]):=fun K=>by
  have:=qg (show Sl _ p (bj l)from ga) K
  rwa [Zr,<-di l.length]at this
 rw[e1];have Ea:aY st (st++[some (⟨false,[]⟩:bq)]) (some (st.length,0)) []:=⟨aI,.inr ⟨st.length,rfl,ay _,by simp⟩⟩;obtain⟨q,s2,ho,he⟩:=Ea.app (β:=List DV) (sz:=1) (n:=0) (m:=l.length) (lim:=70368744177664) (ds:=bj l) (by omega) rfl (by omega) (by omega);rw[he];rw[fe]at ho;rw[Zd (ah (by omega))];have h4:=(hs.mono ho.1).cy (k:=4) hl;have VD:=ZmT h.Tp n (cy true p 4) (l.drop 4) s2 h4 (by rw[dt];omega) (by rw[dt];omega);rw[dt]at VD;refine Ok.call VD ?_;rintro _ rfl;refine⟨_,s2,rfl,?_⟩;have dq:=Jx (l.drop 4);simp only[al,ae];have hw:IntKind.wrap .u64 ((lB (l.drop 4):Nat):Int)=((lB (l.drop 4):Nat):Int):=IntWalk.u64_in _ (by omega);rw[hw];refine Ok.call (ZO h.jV n (lB (l.drop 4)) 4 (by omega) s2 (by omega) (by omega)) ?_;rintro _ ⟨s3,rfl,cn⟩;refine⟨_,s3,rfl,?_⟩;simp only[bU,ae];have nN:=ho.mono cn;obtain⟨i,rfl⟩: ∃i,q=some (i,0):=by
  rcases nN.2 with⟨_,e⟩|⟨i,e,_⟩
  ·have:=congrArg List.length e
   rw[Zr,uk]at this;omega
  ·exact⟨i,e⟩
 obtain⟨s4,tL,_,he4⟩:=nN.wr (β:=List DV) (by omega) (k:=0) (bH _) (bR (lB (l.drop 4)) 4);rw[dj,rX];rw[qy]at he4;rw[he4,ZE];have pX:jA l 0 (bR (lB (l.drop 4)) 4)=tk l:=by
  unfold jA tk;rw[xV,fe,qy,cA (by rw[Zq];omega),Zq,dj]
 rw[pX]at tL;exact .mk ⟨_,_,rfl,ZH tL.1,tL.fz⟩
structure nv where
 line:Int
 bT:Int
 w:UInt8
 again:Bool
def Df (x:nv):List DV:=[.int .i64 x.line,.int .i64 x.bT,.int .u8 x.w.toNat,.bool x.again]
def qD (l:List nv):List DV:=(l.map Df).flatten
theorem Zwn (l:List nv):(qD l).length=l.length*4:=by
 unfold qD;induction l with
 |nil=>rfl
 |cons x l ih=>rw[gM,mo,bg,ih,dF];show 4+_=_;omega
theorem Zoa: ∀ {l:List nv} {j:Nat} {x:nv},l[j]? =some x->∀k,k<4->(qD l)[j*4+k]? =(Df x)[k]?
 |[],_,_,h,_,_=>by cases h
 |y::l,0,x,h,k,hk=>by
  cases h;show(Df y++qD l)[0*4+k]? =_;rw[nf,dj,iL (by show k<4;exact hk)]
 |y::l,j+1,x,h,k,hk=>by
  show(Df y++qD l)[(j+1)*4+k]? =_;rw[gU (by show 4<=_;omega)];show(qD l)[(j+1)*4+k-4]? =_;rw[show(j+1)*4+k-4=j*4+k by omega];exact Zoa (by simpa using h) k hk
def qJ (x:nv) (n:Nat):Nat:=(x.line%((n/64:Nat):Int)).toNat
def rS (B:List UInt8) (x:nv):List UInt8:=
 (fun B1:List UInt8=>bif x.again then jA B1 (64*qJ x B.length) (tk ((B1.drop (64*qJ x B.length)).take 64))else B1) (B.set (64*qJ x B.length+(x.bT%64).toNat) x.w)
theorem OF (x:nv) {n:Nat} (h:64<=n):qJ x n<n/64:=by
 unfold qJ;have h1:=Int.emod_lt_of_pos x.line (show(0:Int)<((n/64:Nat):Int) by omega);have h2:=Int.emod_nonneg x.line (show((n/64:Nat):Int)≠0 by omega);omega
theorem Zp9 {B:List UInt8} (x:nv) (h:64<=B.length):(rS B x).length=B.length:=by
 have:=OF x h;unfold rS;simp only;cases x.again with
 |false=>rw[cond_false,hU]
 |true=>rw[cond_true,JF _ (by rw[hU];omega),hU]
def tg (B:List UInt8) (l:List nv):List UInt8:=l.foldl rS B
theorem Ov: ∀(l:List nv) {B:List UInt8},64<=B.length->(tg B l).length=B.length
 |[],_,_=>rfl
 |x::l,B,h=>by
  show(tg (rS B x) l).length=_;rw[Ov l (by rw[Zp9 x h];exact h),Zp9 x h]
structure SpR (l:List nv):Prop where
 line: ∀x∈l, -9223372036854775808<=x.line/\x.line<=9223372036854775807
 bT: ∀x∈l, -9223372036854775808<=x.bT/\x.bT<=9223372036854775807
theorem ZzL (l:List UInt8) (k:Nat) (b:UInt8) (h:k<l.length):bC (bj l) k [.int .u8 b.toNat]=bj (l.set k b):=by
 have e:l=l.take k++([l[k]]++l.drop (k+1)):=by simp
 have hl:(bj (l.take k)).length=k:=by rw[Zr,bW];omega
 have:=qF (bj (l.take k)) (bj [l[k]]) (bj (l.drop (k+1))) [.int .u8 b.toNat] (by rw[Zr];rfl);rw[hl,<-yi,<-yi,<-e]at this;rw[this,List.set_eq_take_append_cons_drop,aG h,yi];rfl
theorem aY.st1 {s0 s:St} {i:Nat} {l:List UInt8} (h:aY s0 s (some (i,0)) (bj l)) {k:Nat} (hk:k<l.length) (b:UInt8):
  ∃s',aY s0 s' (some (i,0)) (bj (l.set k b))/\s'.length=s.length/\∀K:M β,M.store i k [.int .u8 b.toNat] K s=K s':=by
 rcases h.2 with⟨e,_⟩|⟨j,e,hj,hs⟩
 ·cases e
 ·cases e
  have de:s.fH i=some (bj l):=by unfold St.fH;rw[hs]
  refine⟨s.set i (some ⟨false,bj (l.set k b)⟩),⟨uF h.1 hj _,.inr ⟨i,rfl,hj,fJ (cd.1 hs).1⟩⟩,by simp,fun K=>?_⟩;unfold M.store;rw[de];simp only;rw[gx (by rw[Zr];show k+1<=_;omega),cond_true,ZzL l k b hk]
theorem ZpR {Bd:Za} (h:MU Bd) (n:Nat) (pb:Option (Nat×Nat)) (B:List UInt8) (ps:Option (Nat×Nat)) (z:Nat) (l:List nv) (st:St) (hb:dp st pb B) (hz:z=4\/ps=none) (hs:Sl st ps (qD l)) (hr:SpR l) (hB:64<=B.length) (Ko:B.length<1000000) (hl:l.length<100000) (hn:l.length+300<=n):
  Ok (fun o=>∃q s',o=(.val [.slice 1 q B.length],s')/\ar st s'/\pz s' q (tg B l)) (run Bd n 180 [.slice 1 pb B.length,.slice z ps l.length] st):=by
 obtain⟨n,rfl⟩: ∃k,n=k+1:=⟨n-1,by omega⟩;rw[Zf,h.eq];unfold Hl;simp only[bh,Zm 4 z ps _ hz,ae,ni,Zw];have aI:ar st (st++[some ⟨false,[]⟩]):= .new _ _;have e1: ∀K:List DV->M (List DV),M.rd pb (B.length*1) K (st++[some ⟨false,[]⟩])=K (bj B) (st++[some ⟨false,[]⟩]):=fun K=>by
  have:=qg (show Sl _ pb (bj B)from hb.mono aI) K
  rwa [Zr,<-di B.length]at this
 rw[e1];have Ea:aY st (st++[some (⟨false,[]⟩:bq)]) (some (st.length,0)) []:=⟨aI,.inr ⟨st.length,rfl,ay _,by simp⟩⟩;obtain⟨q,s2,ho,he⟩:=Ea.app (β:=List DV) (sz:=1) (n:=0) (m:=B.length) (lim:=70368744177664) (ds:=bj B) (by omega) rfl (by omega) (by omega);rw[he];rw[fe]at ho;obtain⟨i,rfl⟩: ∃i,q=some (i,0):=by
  rcases ho.2 with⟨_,e⟩|⟨i,e,_⟩
  ·have:=congrArg List.length e
   rw[Zr,uk]at this;omega
  ·exact⟨i,e⟩
 rw[dj];refine Ok.join fun aq DU=>?_
 refine Zl _ (fun c y t=>∃k:Nat,y=[.int .i64 (k:Int)]/\k<=l.length/\l.length-k<=c/\aY st t (some (i,0)) (bj (tg B (l.take k)))) ?_ l.length n _ _ ⟨0,rfl,bH _,by omega,by rw[xV];exact ho⟩ (by omega);rintro c y t ⟨k,rfl,hk,hq,ho⟩ rec aD;simp only[al,ae];by_cases aj:k<l.length
 ·obtain⟨i1,o1,rfl⟩:=hs.ck (by rw[Zwn];omega)
  have hx:l[k]? =some l[k]:=ba aj;have dy:l[k]∈l:=fK aj;have fj:l.take (k+1)=l.take k++[l[k]]:=jG aj;generalize l[k]=x at hx dy fj;have u9:=fun j hj=>Zoa hx j hj
  obtain⟨B1,Kl⟩: ∃B1,tg B (l.take k)=B1:=⟨_,rfl⟩;have Dw:B1.length=B.length:=by rw[<-Kl];exact Ov _ hB
  have WY:tg B (l.take (k+1))=rS B1 x:=by
   rw[fj];unfold tg at Kl⊢;rw[List.foldl_append,Kl];rfl
  rw[Kl]at ho;have bB:=hs.mono ho.1;have ld: ∀(j:Nat) (d:DV) (K:DV->M (List DV)) (t:St),Sl t (some (i1,o1)) (qD l)->j<4->(Df x)[j]? =some d->M.au i1 (k*4+o1+j) K t=K d t:=fun j d K t bB hj hd=>by
   have:=bB.get (β:=List DV) (j:=k*4+j) (d:=d) (by rw[u9 j hj];exact hd) K;rw[show k*4+o1+j=k*4+j+o1 by omega];exact this
  have hm:=OF x (n:=B.length) hB;have xo:=hr.line x dy;have xm:=hr.bT x dy;have hlq:0<B.length/64:=by omega
  rw[ah (show(k:Int)<(l.length:Int) by omega),cond_true,aV,Zd (Zk aj)];simp only[aX];have ld0: ∀(K:DV->M (List DV)),M.au i1 (k*4+o1) K t=K (.int .i64 x.line) t:=fun K=>ld 0 _ K t bB (by omega) rfl
  rw[ld0];simp only[aM];have ediv:af (((B.length:Nat):Int).tdiv 64)=((B.length/64:Nat):Int):=by
   rw[show((B.length:Nat):Int).tdiv 64=((B.length/64:Nat):Int)from rfl];exact Zb (by omega) (by omega)
  rw[ediv];obtain⟨n,rfl⟩: ∃k,n=k+1:=⟨n-1,by omega⟩;have em:x.line%((B.length/64:Nat):Int)=((qJ x B.length:Nat):Int):=by
   unfold qJ;rw[Int.toNat_of_nonneg (Int.emod_nonneg _ (by omega))]
  rw[Zi (Cs h.zz n x.line (B.length/64) hlq (by omega) xo t),em];simp only[al,ae];rw[aV,Zd (Zk aj),ld 1 _ _ t bB (by omega) rfl];simp only[aM];obtain⟨oc,K2⟩: ∃oc:Nat,(x.bT%64).toNat=oc:=⟨_,rfl⟩;have abp:=Int.emod_lt_of_pos x.bT (show(0:Int)<64 by omega);have Sm:=Int.emod_nonneg x.bT (show(64:Int)≠0 by omega);have eo:x.bT%((64:Nat):Int)=(oc:Int):=by show x.bT%64=_;omega
  rw[show(DV.int .i64 64)=DV.int .i64 ((64:Nat):Int)from rfl,Zi (Cs h.zz n x.bT 64 (by omega) (by omega) xm t),eo];simp only[al,ae];rw[aV,Zd (Zk aj),ld 2 _ _ t bB (by omega) rfl];simp only[aM];obtain⟨a,ha⟩: ∃a,qJ x B.length=a:=⟨_,rfl⟩;rw[ha]at hm⊢;rw[Zb (x:=64*(a:Int)) (by omega) (by omega),Zb (x:=64*(a:Int)+(oc:Int)) (by omega) (by omega),Zb (x:=64*(a:Int)+64) (by omega) (by omega),show(64*(a:Int)+(oc:Int))=((64*a+oc:Nat):Int) by omega,show(64*(a:Int)+64)=((64*a+64:Nat):Int) by omega,show(64*(a:Int))=((64*a:Nat):Int) by omega,aV,Zd (Zk (show 64*a+oc<B.length by omega))];simp only[aX,di,dG];obtain⟨t2,cK,_,wU⟩:=ho.st1 (β:=List DV) (k:=64*a+oc) (by omega) x.w;rw[wU];have y9:=hs.mono cK.1;rw[aV,Zd (Zk aj),ld 3 _ _ t2 y9 (by omega) rfl];simp only[vW];rw[Zc];have cg:(B1.set (64*a+oc) x.w).length=B.length:=by rw[hU,Dw]
  have eR:rS B1 x=(bif x.again then jA (B1.set (64*a+oc) x.w) (64*a) (tk (((B1.set (64*a+oc) x.w).drop (64*a)).take 64))else B1.set (64*a+oc) x.w):=by
   unfold rS;rw[Dw,ha,K2]
  have go: ∀(t3:St),aY st t3 (some (i,0)) (bj (rS B1 x))->Ok (fun o=>∃q s',o=(.val [.slice 1 q B.length],s')/\ar st s'/\pz s' q (tg B l)) (rec [DV.int .i64 (af ((k:Int)+1))] t3):=fun t3 nN=>by
   rw[Zb (by omega) (by omega)];exact aD (l.length-(k+1)) _ _ (by omega) ⟨k+1,rfl,by omega,ay _,by rw[WY];exact nN⟩
  cases fP:x.again with
  |false=>
   rw[fP,cond_false]at eR;rw[cond_false];simp only[ae];exact go t2 (by rw[eR];exact cK)
  |true=>
   rw[fP,cond_true]at eR;rw[cond_true];obtain⟨C,hC⟩: ∃C,B1.set (64*a+oc) x.w=C:=⟨_,rfl⟩;rw[hC]at cK eR cg;rw[Zd (by rw[aH,bc,bc];omega),Zd (by rw[aH,bc,bc];omega),Zd (by rw[aH,bc,bc];omega),Zd (by rw[aH,bc,bc];omega)];rw[show 64*a+64-64*a=64 by omega];have kK:dp t2 (cy true (some (i,0)) (64*a)) ((C.drop (64*a)).take 64):=(dp.cy (l:=C) cK.sl (by omega)).kt 64;have iC:((C.drop (64*a)).take 64).length=64:=by rw[bW,dt];omega
   have fP:=Zqy h.q75 (n+1) (cy true (some (i,0)) (64*a)) ((C.drop (64*a)).take 64) t2 kK (by omega) (by omega) (by omega);rw[iC]at fP;refine Ok.fW fP ?_;rintro _ ⟨q4,s4,rfl,gA,yK⟩;refine⟨_,s4,rfl,?_⟩;simp only[bh,ae];have u5:(tk ((C.drop (64*a)).take 64)).length=64:=by rw[ZxU (by omega),iC]
   have e4: ∀K:List DV->M (List DV),M.rd q4 (min 64 64) K s4=K (bj (tk ((C.drop (64*a)).take 64))) s4:=fun K=>by
    have:=qg (show Sl _ q4 (bj _)from yK.1) K
    rwa [Zr,u5]at this
   rw[e4];obtain⟨t5,BI,_,he5⟩:=(cK.mono gA).wr (β:=List DV) (by omega) (k:=64*a) (by omega) (tk ((C.drop (64*a)).take 64));rw[cA (by omega)]at he5;show Ok _ (M.wr (some (i,64*a+0)) _ _ s4);rw[dG,he5];exact go t5 (by rw[eR];exact BI)
 ·rw[ao (show ¬(k:Int)<(l.length:Int) by omega),cond_false,DU]
  simp only[ae,ZE];rw[cA (by omega)]at ho;exact .mk ⟨_,_,rfl,ZH ho.1,ho.fz⟩
end Go.Gv.F
namespace Go.Gv.F
open Go.Gv
variable {β:Type}
def xB (img:List UInt8) (k:Int):Option (List UInt8):=if k<0\/((img.length/64:Nat):Int)<=k then none else some (dR img k.toNat)
theorem ZsW {Bd:Za} (h:Nt Bd) (n:Nat) (img:List UInt8) (k:Int) (st:St) (hl:img.length<1000000):
  Ok (fun o=>∃s',ar st s'/\match xB img k with
   |none=>o=(.val [.slice 0 none 0,.bool false],s')
   |some l=>∃p,o=(.val [.slice 1 p 64,.bool true],s')/\pz s' p l/\l.length=64) (run Bd (n+1) 208 [.str img,.int .i64 k] st):=by
 rw[Zf,h.eq];unfold HA;simp only[bU,al,ae,ni];rw[Zc];have ediv:af (((img.length:Nat):Int).tdiv 64)=((img.length/64:Nat):Int):=by
  rw[show((img.length:Nat):Int).tdiv 64=((img.length/64:Nat):Int)from rfl];exact Zb (by omega) (by omega)
 unfold xB;by_cases h0:k<0
 ·rw[ah h0,cond_true,aG (.inl h0)]
  simp only[ai,ae];rw[cond_true,ZE];exact .mk ⟨_,ZH (.refl st),rfl⟩
 ·rw[ao h0,cond_false,ediv]
  simp only[ai,ae];by_cases h1:k>=((img.length/64:Nat):Int)
  ·rw[ah h1,cond_true,aG (.inr h1),ZE]
   exact .mk ⟨_,ZH (.refl st),rfl⟩
  ·rw[ao h1,cond_false,ax (by omega)]
   obtain⟨a,rfl⟩: ∃a:Nat,k=(a:Int):=⟨k.toNat,by omega⟩;rw[Zb (x:=64*(a:Int)) (by omega) (by omega),Zb (x:=64*(a:Int)+64) (by omega) (by omega),show(64*(a:Int)+64)=((64*a+64:Nat):Int) by omega,show(64*(a:Int))=((64*a:Nat):Int) by omega];simp only[aX];rw[Zd (by rw[aH,bc,bc];omega),Zd (by rw[aH,bc,bc];omega)];have Sc:(img.take (64*a+64)).drop (64*a)=dR img a:=by
    unfold dR;rw[List.drop_take,show 64*a+64-64*a=64 by omega]
   have KT:(dR img a).length=64:=by
    unfold dR;rw[bW,dt];omega
   rw[Sc,Zw,ZE];have ho:aY st (st++[some (⟨false,bj (dR img a)⟩:bq)]) (some (st.length,0)) (bj (dR img a)):=⟨.new _ _,.inr ⟨st.length,rfl,ay _,by simp⟩⟩;exact .mk ⟨_,ZH ho.1,_,by rw[KT];rfl,ho.fz,KT⟩
def Ch (m:Int) (l cs r:List Int):Prop:=l9 r/\∀k,k∈r↔k∈l\/(k∈cs/\0<=k/\k<m)
def Po (img:List UInt8) (x:eU) (l:List Int):Prop:=(∀c∈x.az,c∉l)/\∃r,Ch x.blocks l x.az r/\∀i c,x.az[i]? =some c->xB img c=some (mD (dX i r))
theorem Zoz {Bd:Za} (h:MQ Bd) (n:Nat) (img:List UInt8) (x:eU) (pc:Option (Nat×Nat)) (l:List Int) (p:Option (Nat×Nat)) (st:St) (hc:Sl st pc (ints x.az)) (hs:Sl st p (ints l)) (hr:l9 l) (hl:l.length<50000) (hx: ∀k∈l,0<=k/\k<1000000) (hm:x.blocks<1000000) (dq:x.az.length<1000) (ri:img.length<1000000) (hn:l.length+x.az.length+1000<=n):
  Ok (fun o=>∃b s',o=(.val [.bool b],s')/\ar st s'/\(b=true↔Po img x l)) (run Bd n 178 [.str img,.agg (dI x pc),.slice 1 p l.length] st):=by
 obtain⟨n,rfl⟩: ∃k,n=k+1:=⟨n-1,by omega⟩;rw[Zf,h.eq];unfold Gq;simp only[bU];rw[ll];unfold dI;simp only[al,bh,ae];refine Ok.join fun aq DU=>?_
 refine Zl _ (fun q y t=>∃(i:Nat) (r:List Int) (p':Option (Nat×Nat)),y=[.slice 1 p' r.length,.int .i64 (i:Int)]/\i<=x.az.length/\x.az.length-i<=q/\ar st t/\Sl t p' (ints r)/\l9 r/\r.length<=l.length+i/\(∀c∈x.az.take i,c∉l)/\∀k,k∈r↔k∈l\/(k∈x.az.take i/\0<=k/\k<x.blocks)) ?_ x.az.length n _ _ ⟨0,l,p,rfl,bH _,by omega,.refl _,hs,hr,by omega,fun c hc=>by simp at hc,fun k=>by simp⟩ (by omega);rintro q y t ⟨i,r,p',rfl,hi,hq,hp,hf,xk,xl,bz,dy⟩ rec aD;simp only[bh,al,ae];by_cases aj:i<x.az.length
 ·obtain⟨i1,o1,rfl⟩:=hc.ck (by simp[ints];omega)
  have cJ:(ints x.az)[i]? =some (.int .i64 x.az[i]):=Zu aj;have sg:x.az[i]? =some x.az[i]:=ba aj;have fj:x.az.take (i+1)=x.az.take i++[x.az[i]]:=jG aj;have hmc:x.az[i]∈x.az:=fK aj;rw[ah (show(i:Int)<(x.az.length:Int) by omega),cond_true,aV,Zd (Zk aj)];simp only[aX];rw[(hc.mono hp).cP cJ];simp only[aM];generalize x.az[i]=w at cJ sg fj hmc;refine Ok.call (H4 h.BO n 1 l w p t (.inl rfl) (hs.mono hp) (by omega) (by omega)) ?_;rintro _ rfl;refine⟨_,t,rfl,?_⟩;simp only[ai,ae];by_cases hw:w∈l
  ·rw[ah hw,cond_true,Ze]
   refine .mk ⟨false,t,rfl,hp,⟨fun e=>(by cases e),fun hP=>absurd hw (hP.1 w hmc)⟩⟩
  ·rw[ao hw,cond_false,aV,Zd (Zk aj),(hc.mono hp).cP cJ]
   simp only[aM];refine Ok.call (Zmb h.Ts n r 1 p' x.blocks w t (.inl rfl) hf xk (by omega) (by omega)) ?_;rintro _ ⟨p2,r2,s2,rfl,bd,se,jz,dr⟩;refine⟨_,s2,rfl,?_⟩;simp only[bh,ae];rw[Zb (by omega) (by omega)];refine aD (x.az.length-(i+1)) _ _ (by omega) ⟨i+1,r2,p2,rfl,by omega,ay _,hp.trans bd,se,jz,?_,fun c hc=>?_,fun k=>?_⟩
   ·have:r2.length<=(w::r).length:=Pz jz.nodup fun k hk=>by
     rcases(dr k).1 hk with h|h
     ·exact lT _ h
     ·rw[h.1];exact jZ
    rw[dF]at this;omega
   ·rw[fj]at hc
    rcases cW.1 hc with hc|hc
    ·exact bz c hc
    ·rw[bK.1 hc];exact hw
   ·rw[dr,dy,fj,cW,bK]
    constructor
    ·rintro((h1|⟨h1,h2⟩)|⟨h1,h2⟩)
     ·exact .inl h1
     ·exact .inr ⟨.inl h1,h2⟩
     ·exact .inr ⟨.inr h1,by omega⟩
    ·rintro(h1|⟨h1|h1,h2⟩)
     ·exact .inl (.inl h1)
     ·exact .inl (.inr ⟨h1,h2⟩)
     ·exact .inr ⟨h1,by omega⟩
 ·rw[ao (show ¬(i:Int)<(x.az.length:Int) by omega),cond_false,DU]
  rw[cA (by omega)]at bz dy;have hW:Ch x.blocks l x.az r:=⟨xk,dy⟩;have Yx: ∀r',Ch x.blocks l x.az r'->r'=r:=fun r' h'=>Ow h'.1 xk fun k=>by rw[h'.2,dy]
  have xo: ∀k∈r,0<=k/\k<1000000:=fun k hk=>by
   rcases(dy k).1 hk with h1|h1
   ·exact hx k h1
   ·omega
  simp only[bh,ae];refine Ok.join fun aC tI=>?_
  refine Zl _ (fun q y u=>∃j:Nat,y=[.int .i64 (j:Int)]/\j<=x.az.length/\x.az.length-j<=q/\ar st u/\Sl u p' (ints r)/\∀i c,i<j->x.az[i]? =some c->xB img c=some (mD (dX i r))) ?_ x.az.length n _ _ ⟨0,rfl,bH _,by omega,hp,hf,fun i c hi=>by omega⟩ (by omega);rintro q2 y2 u ⟨j,rfl,hj,tQ,Ee,eD,ca⟩ dO nO;simp only[al,ae];have u7: ∀(c:Int) (u':St),x.az[j]? =some c->xB img c≠some (mD (dX j r))->ar st u'->Ok (fun o=>∃b s',o=(.val [.bool b],s')/\ar st s'/\(b=true↔Po img x l)) ((M.ret [.bool false]:M (List DV)) u'):=fun c u' hcj bn X8=>by
   rw[Ze];refine .mk ⟨false,u',rfl,X8,⟨fun e=>(by cases e),?_⟩⟩;rintro⟨_,r',h1,h2⟩;rw[Yx r' h1]at h2;exact absurd (h2 j c hcj) bn
  by_cases jP:j<x.az.length
  ·obtain⟨i1,o1,rfl⟩:=hc.ck (by simp[ints];omega)
   have cJ:(ints x.az)[j]? =some (.int .i64 x.az[j]):=Zu jP;have sg:x.az[j]? =some x.az[j]:=ba jP;rw[ah (show(j:Int)<(x.az.length:Int) by omega),cond_true,aV,Zd (Zk jP)];simp only[aX];rw[(hc.mono Ee).cP cJ];simp only[aM];generalize x.az[j]=w at cJ sg;obtain⟨n,rfl⟩: ∃k,n=k+1:=⟨n-1,by omega⟩;refine Ok.call (ZsW h.Y5 n img w u ri) ?_;rintro o ⟨u2,bd,ho⟩;cases D0:xB img w with
   |none=>
    rw[D0]at ho;simp only at ho;subst ho;refine⟨_,u2,rfl,?_⟩;simp only[Zm 1 0 none _ (.inr rfl),ai,ae];rw[Zc,bD,cond_true];simp only[ai,ae];rw[cond_true];exact u7 w u2 sg (by rw[D0];intro e;cases e) (Ee.trans bd)
   |some b=>
    rw[D0]at ho;simp only at ho;obtain⟨pl,rfl,eC,iC⟩:=ho;refine⟨_,u2,rfl,?_⟩;simp only[bh,ai,ae];rw[Zc,bx,cond_false];have QT: ∀K:List DV->M (List DV),M.rd pl 64 K u2=K (bj b) u2:=fun K=>by
     have:=qg (show Sl _ pl (bj b)from eC.1) K
     rwa [Zr,iC]at this
    rw[QT];rw[<-rX,z7];refine Ok.dW (ZlF h.Tn (n+1) j r p' 1 u2 (.inl rfl) (eD.mono bd) (by omega) (by omega) xo (by omega)) ?_;rintro _ rfl;refine⟨_,u2,rfl,.refl _,?_⟩;rw[ll];unfold Zz;have qT:(dX j r).bT.length=48:=by
     show(nr j (List.replicate 48 0) r).length=48;rw[yh];simp
    simp only[al];unfold D.len;rw[Zr,qT,show Nat.beq 48 48=true from rfl,cond_true];simp only[ae];refine Ok.dW (ZmJ h.Tq (n+1) (dX j r) qT u2 (by omega)) ?_;rintro _ ⟨u3,rfl,cn⟩;refine⟨_,u3,rfl,cn,?_⟩;simp only[bU,ai,ae];cases DF:(b==mD (dX j r))with
    |true=>
     have DF:=eq_of_beq DF;rw[bx,cond_false,Zb (by omega) (by omega)];refine nO (x.az.length-(j+1)) _ _ (by omega) ⟨j+1,rfl,by omega,ay _,Ee.trans (bd.trans cn),eD.mono (bd.trans cn),fun i c hi BB=>?_⟩;by_cases nK:i=j
     ·subst nK
      rw[sg]at BB;cases BB;rw[D0,DF]
     ·exact ca i c (by omega) BB
    |false=>
     rw[bD,cond_true];refine u7 w u3 sg (fun e=>?_) (Ee.trans (bd.trans cn));rw[D0]at e;rw[sP e,gN]at DF;cases DF
  ·rw[ao (show ¬(j:Int)<(x.az.length:Int) by omega),cond_false,tI]
   simp only[ae,Ze];refine .mk ⟨true,u,rfl,Ee,⟨fun _=>⟨bz,r,hW,fun i c BB=>ca i c ?_ BB⟩,fun _=>rfl⟩⟩;have:=(cd.1 BB).1;omega
end Go.Gv.F
namespace Go.Gv.F
open Go.Gv
theorem ZpA {l:List UInt8} (h:Zy l=true):l=ZR l.length:=by
 unfold Zy at h;rw[gv]at h;unfold ZR;exact List.eq_replicate_iff.2 ⟨rfl,fun b hb=>eq_of_beq (h b hb)⟩
theorem Zvo (c:UInt8):nZ ((c.toNat:Nat):Int)=c:=by
 unfold nZ;have:(((c.toNat:Nat):Int)%256).toNat=c.toNat:=by
  have:=c.toNat_lt;omega
 rw[this,UInt8.ofNat_toNat]
theorem ZtS {l:List UInt8} {k t:Nat} {b:List UInt8} (h:gj l=some (k,t,b)):l=fu k t b/\b.length=56/\k<256/\t<256:=by
 unfold gj at h;cases hr:uM l with
 |false=>rw[hr]at h;cases h
 |true=>
  rw[hr,cond_true]at h;cases h;unfold uM at hr;rw[aH,aH,aH,bc,bc]at hr;obtain⟨mK,_,h2,h3⟩:=hr;have hb:(l.drop 8).length=56:=by rw[dt];omega
  have hf:dK (l.drop 8) 56=l.drop 8:=by
   unfold dK ZR;rw[hb];simp
  have hz:=ZpA h2;have mS:((l.drop 6).take 2).length=2:=by rw[bW,dt];omega
  rw[mS]at hz;have hS:ko ((l.getD 4 0).toNat:Nat) ((l.getD 5 0).toNat:Nat) (l.drop 8)=l.drop 4:=by
   unfold ko;rw[Zvo,Zvo,hf];have e1:l.drop 4=l.getD 4 0::l.getD 5 0::l.drop 6:=by
    rw[gT (by omega),gT (show 4+1<l.length by omega),bJ,bJ,ba (by omega),ba (by omega)];rfl
   have e2:l.drop 6=[0,0]++l.drop 8:=by
    have:=lj 2 (l.drop 6);rw[hz,iK]at this;exact this.symm
   rw[e1,e2];rfl
  refine⟨?_,hb,UInt8.toNat_lt _,UInt8.toNat_lt _⟩;unfold fu;rw[hS,h3];have h4:(l.take 4).length=4:=by rw[bW];omega
  have:=ZuP (l.take 4);rw[h4]at this;rw[this,lj]
theorem Zwb {l:List UInt8} {c:ZA} (h:sU l=some c):l=mD c/\c.bT.length=48/\c.no<8:=by
 unfold sU at h;cases ho:gj l with
 |none=>rw[ho]at h;cases h
 |some q=>
  obtain⟨k,t,b⟩:=q;rw[ho]at h;simp only at h;obtain⟨h1,h2,h3,h4⟩:=ZtS ho;cases hc:(decide (k=4)&&(decide (t<8)&&Zy (b.drop 48)))with
  |false=>rw[hc]at h;cases h
  |true=>
   rw[hc,cond_true]at h;cases h;rw[aH,aH,bc,bc]at hc;obtain⟨rfl,h5,h6⟩:=hc;refine⟨?_,by rw[bW];show min 48 b.length=48;omega,h5⟩;have hz:=ZpA h6;have mS:(b.drop 48).length=8:=by rw[dt];omega
   rw[mS]at hz;have hf:dK (b.take 48) 56=dK b 56:=by
    unfold dK;have hl:(b.take 48).length=48:=by rw[bW];omega
    rw[hl,h2,<-hz,lj];unfold ZR;simp
   rw[h1];unfold mD fu ko;rw[hf];rfl
theorem ZzU {a b:List UInt8} (ha:a.length=48) (hb:b.length=48) (h: ∀j,j<384->oz a j=oz b j):a=b:=by
 refine List.ext_getElem (by omega) fun i h1 h2=>?_
 refine UInt8.toNat_inj.1 (B6 fun j=>?_);have l1:=a[i].toNat_lt;have l2:=b[i].toNat_lt;rcases eM j 8 with hj|hj
 ·have:=h (8*i+j) (by omega)
  unfold oz at this;rw[show(8*i+j)/8=i by omega,show(8*i+j)%8=j by omega,bJ,bJ,ba h1,ba h2,qB,qB]at this;exact this
 ·rw[Cb (jH l1 (oh (n:=2) (i:=8) (by decide) hj)),Cb (jH l2 (oh (n:=2) (i:=8) (by decide) hj))]
theorem I7 {img:List UInt8} {m:Nat} {W:List Nat} : ∀ {ks:List Int} {cs:List ZA},pL img m W ks=some cs↔(cs.length=ks.length/\∀(i:Nat) (k:Int),ks[i]? =some k->∃c,cs[i]? =some c/\sU (Z7 img k.toNat)=some c/\(gG m k&&cR W k.toNat)=false)
 |[],cs=>by
  constructor
  ·intro h
   cases h;exact⟨rfl,fun i k hk=>by cases hk⟩
  ·rintro⟨h,_⟩
   rw[pd.1 h];rfl
 |k::ks,cs=>by
  unfold pL;constructor
  ·intro h
   cases hg:sU (Z7 img k.toNat)with
   |none=>rw[hg]at h;cases h
   |some c=>
    rw[hg]at h;simp only at h;cases hb:(gG m k&&cR W k.toNat)with
    |true=>rw[hb]at h;cases h
    |false=>
     rw[hb,cond_false]at h;cases hr:pL img m W ks with
     |none=>rw[hr]at h;cases h
     |some cs'=>
      rw[hr]at h;cases h;obtain⟨h1,h2⟩:=I7.1 hr;refine⟨by rw[dF,dF,h1],fun i k' tJ=>?_⟩;cases i with
      |zero=>cases tJ;exact⟨c,rfl,hg,hb⟩
      |succ i=>exact h2 i k' (by simpa using tJ)
  ·rintro⟨h1,h2⟩
   cases cs with
   |nil=>cases h1
   |cons c cs=>
    obtain⟨c',e1,e2,e3⟩:=h2 0 k rfl;cases e1;rw[e2];simp only;rw[e3,cond_false,I7.2 ⟨by simpa using h1,fun i k' tJ=>h2 (i+1) k' (by simpa using tJ)⟩];rfl
theorem ZAf {c:ZA} {k:Int} (h:k∈dz c 384): ∃b:Nat,k=(b:Int)/\b/384=c.no/\sc c b=true:=by
 obtain⟨i,hi,rfl,hh⟩:=Ja.1 h;exact⟨c.no*384+i,rfl,by omega,hh⟩
theorem Zvv (c:ZA):(dz c 384).Pairwise (· < ·):=by
 unfold dz;rw[Fw];refine List.Pairwise.imp (fun {a b} h=>?_) (List.Pairwise.sublist List.filter_sublist List.pairwise_lt_range);omega
theorem Zz6 {m:Nat} {c:ZA} :xI m c=false↔ ∀k∈dz c 384,k<(m:Int):=by
 unfold xI;by_cases h0:0<(dz c 384).length
 ·rw[ah h0,cond_true,j3]
  have bn:dz c 384≠[]:=fun e=>by rw[e]at h0;simp at h0
  have hl:(dz c 384).getLastD 0=(dz c 384).getLast bn:=by rw[List.getLastD_eq_getLast?,List.getLast?_eq_some_getLast bn];rfl
  rw[hl];constructor
  ·intro h k hk
   obtain⟨i,hi⟩:=zV.1 hk;obtain⟨DS,tF⟩:=cd.1 hi;have Sb:(dz c 384).getLast bn=(dz c 384)[(dz c 384).length-1]'(by omega):=List.getLast_eq_getElem bn;rw[Sb]at h;rcases eM i ((dz c 384).length-1)with h1|h1
   ·have:=List.pairwise_iff_getElem.1 (Zvv c) i ((dz c 384).length-1) DS (by omega) h1
    omega
   ·have:i=(dz c 384).length-1:=by omega
    subst this;omega
  ·intro h
   have:=h _ (List.getLast_mem bn);omega
 ·rw[ao h0,cond_false]
  have:dz c 384=[]:=pd.1 (by omega);rw[this];simp
theorem ZpE {m:Nat} : ∀ {cs:List ZA} {i:Nat} {W F:List Nat},W.length=(m+63)/64->(∀w∈W,w<18446744073709551616)->wx m i cs W=some F->
  F.length=(m+63)/64/\(∀w∈F,w<18446744073709551616)/\(∀j c,cs[j]? =some c->c.no=i+j/\∀k∈dz c 384,k<(m:Int))/\∀b:Nat,cR F b=true↔cR W b=true\/∃(j:Nat) (c:ZA),cs[j]? =some c/\(b:Int)∈dz c 384
 |[],i,W,F,hl,hw,h=>by
  cases h;exact⟨hl,hw,fun j c hc=>(by cases hc),fun b=>⟨.inl,fun h=>h.elim id fun⟨j,c,hc,_⟩=>(by cases hc)⟩⟩
 |c::cs,i,W,F,hl,hw,h=>by
  unfold wx at h;cases hb:(decide (c.no=i)&& !xI m c)with
  |false=>rw[hb]at h;cases h
  |true=>
   rw[hb,cond_true]at h;rw[aH,bc,hJ]at hb;obtain⟨h1,h2⟩:=hb;have h2:=Zz6.1 h2;obtain⟨q1,q2⟩:=Z8 m (dz c 384) W;obtain⟨f1,f2,f3,f4⟩:=ZpE (by rw[q1];exact hl) (q2 hw) h;refine⟨f1,f2,fun j c' KD=>?_,fun b=>?_⟩
   ·cases j with
    |zero=>cases KD;exact⟨h1,h2⟩
    |succ j=>
     obtain⟨a1,a2⟩:=f3 j c' (by simpa using KD);exact⟨by omega,a2⟩
   ·rw[f4 b,AG _ hl b]
    constructor
    ·rintro((h3|⟨h3,_⟩)|⟨j,c',h3,h4⟩)
     ·exact .inl h3
     ·exact .inr ⟨0,c,rfl,h3⟩
     ·exact .inr ⟨j+1,c',by simpa using h3,h4⟩
    ·rintro(h3|⟨j,c',h3,h4⟩)
     ·exact .inl (.inl h3)
     ·cases j with
      |zero=>cases h3;exact .inl (.inr ⟨h4,by have:=h2 _ h4;omega⟩)
      |succ j=>exact .inr ⟨j,c',by simpa using h3,h4⟩
theorem NO (W:List Nat):l9 (eI W):=by
 rw[Zsf];unfold l9;rw[Fw];refine List.Pairwise.imp (fun {a b} h=>?_) (List.Pairwise.sublist List.filter_sublist List.pairwise_lt_range);omega
theorem ZAE {m:Nat} (h:m<=3072):lN (m:Int) 384=(((m+383)/384:Nat):Int):=by
 unfold lN;rw[Zb (x:=(m:Int)+384) (by omega) (by omega),Zb (x:=(m:Int)+384-1) (by omega) (by omega),show((m:Int)+384-1)=((m+383:Nat):Int) by omega,show(((m+383:Nat):Int).tdiv 384)=(((m+383)/384:Nat):Int)from rfl];exact Zb (by omega) (by omega)
theorem ZwG {img:List UInt8} {x:eU} (hx:uw x) {W:List Nat} (hl:W.length=(x.blocks.toNat+63)/64) (hw: ∀w∈W,w<18446744073709551616) (hm: ∀b,cR W b=true->b<x.blocks.toNat) (BC:x.blocks<=((img.length/64:Nat):Int)):rY img x W=true↔Po img x (eI W):=by
 obtain⟨g1,g2,_⟩:=rM hx.g;obtain⟨m,ji⟩: ∃m:Nat,x.blocks=(m:Int):=⟨x.blocks.toNat,by omega⟩;have ij:x.blocks.toNat=m:=by omega
 rw[ij]at hl hm;have dq:x.az.length=(m+383)/384:=by
  have:=hx.len;rw[ZpL hx.g,ij]at this;omega
 have nH: ∀i (k:Int),x.az[i]? =some k->2<=k/\k<(m:Int):=fun i k hk=>by
  have hi:=(cd.1 hk).1;have h1:=(hx.ch i hi).1;rw[bJ,hk]at h1;have:=(Pp x _).1 h1;rw[ji]at this;exact this
 have xd: ∀i (k:Int),x.az[i]? =some k->xB img k=some (Z7 img k.toNat):=fun i k hk=>by
  have:=nH i k hk;unfold xB;rw[ax (by omega),Ta]
 have h0:(gm m []).length=(m+63)/64:=by unfold gm;simp
 have Ke: ∀w∈gm m [],w<18446744073709551616:=fun w hw=>by
  unfold gm at hw;rw[List.foldl_nil,List.mem_replicate]at hw;omega
 obtain⟨q1,q2⟩:=Z8 m (eI (gm m x.az)) W;have hR: ∀b:Nat,cR ((eI (gm m x.az)).foldl (da m) W) b=true↔cR W b=true\/((b:Int)∈x.az/\b<m):=fun b=>by
  rw[AG _ hl b,qC];constructor
  ·rintro(h|⟨⟨b',e,h⟩,h2⟩)
   ·exact .inl h
   ·have:b'=b:=by omega
    subst this;exact .inr ((uJ _ _).1 h)
  ·rintro(h|h)
   ·exact .inl h
   ·exact .inr ⟨⟨b,rfl,(uJ _ _).2 h⟩,h.2⟩
 have hWP: ∀r,Ch x.blocks (eI W) x.az r->∀b:Nat,(b:Int)∈r↔cR W b=true\/((b:Int)∈x.az/\b<m):=fun r hr b=>by
  rw[hr.2,qC,ji];constructor
  ·rintro(⟨b',e,h⟩|⟨h1,_,h3⟩)
   ·have:b'=b:=by omega
    subst this;exact .inl h
   ·exact .inr ⟨h1,by omega⟩
  ·rintro(h|⟨h1,h2⟩)
   ·exact .inl ⟨b,rfl,h⟩
   ·exact .inr ⟨h1,by omega,by omega⟩
 unfold rY;rw[ij];constructor
 ·intro h
  cases hg:pL img m W x.az with
  |none=>rw[hg]at h;cases h
  |some cs=>
   rw[hg]at h;simp only at h;obtain⟨aba,lE⟩:=I7.1 hg;cases hf:uV m cs with
   |none=>rw[hf]at h;cases h
   |some F=>
    rw[hf]at h;simp only at h;have Q4:=lY h;unfold uV at hf;cases hd:decide ((cs.length:Int)=lN (m:Int) 384)with
    |false=>rw[hd]at hf;cases hf
    |true=>
     rw[hd,cond_true]at hf;obtain⟨f1,f2,f3,f4⟩:=ZpE h0 Ke hf;have hF: ∀b:Nat,cR F b=true↔ ∃(j:Nat) (c:ZA),cs[j]? =some c/\(b:Int)∈dz c 384:=fun b=>by
      rw[f4 b,uJ];constructor
      ·rintro(⟨h1,_⟩|h1)
       ·cases h1
       ·exact h1
      ·exact .inr
     have Yz:Ch x.blocks (eI W) x.az (eI F):=by
      refine⟨NO F,fun k=>?_⟩;rw[qC,qC];constructor
      ·rintro⟨b,rfl,hb⟩
       rw[Q4]at hb;rcases(hR b).1 hb with h1|h1
       ·exact .inl ⟨b,rfl,h1⟩
       ·exact .inr ⟨h1.1,by omega,by omega⟩
      ·rintro(⟨b,rfl,hb⟩|⟨h1,h2,h3⟩)
       ·exact⟨b,rfl,by rw[Q4];exact(hR b).2 (.inl hb)⟩
       ·refine⟨k.toNat,by omega,?_⟩
        rw[Q4];refine(hR _).2 (.inr ⟨?_,by omega⟩);rw[Int.toNat_of_nonneg h2];exact h1
     refine⟨fun c hc dy=>?_,eI F,Yz,fun i k hk=>?_⟩
     ·obtain⟨i,hi⟩:=zV.1 hc
      obtain⟨c',_,_,e3⟩:=lE i c hi;obtain⟨b,rfl,hb⟩:=qC.1 dy;rw[aX,hb,vQ]at e3;unfold gG at e3;have:=nH i _ hi;rw[ah (show(0:Int)<=(b:Int) by omega),ah (show(b:Int)<(m:Int) by omega)]at e3;cases e3
     ·obtain⟨c,e1,e2,e3⟩:=lE i k hk
      obtain⟨a1,a2,a3⟩:=Zwb e2;obtain⟨b1,b2⟩:=f3 i c e1;rw[dj]at b1;rw[xd i k hk,a1];have hce:c=dX i (eI F):=by
       have qT:(dX i (eI F)).bT.length=48:=by
        show(nr i (List.replicate 48 0) (eI F)).length=48;rw[yh];simp
       have Vh:c.bT=(dX i (eI F)).bT:=by
        refine ZzU a2 qT fun j hj=>?_
        have e4:=PO (c:=c) hj;have e5:=Px (p:=i) (l:=eI F) hj;have e6:=PO (c:=dX i (eI F)) hj;rw[show(dX i (eI F)).no=i from rfl]at e6;rw[<-e4,<-e6,e5,b1,jY,bc,qC];constructor
        ·intro hh
         refine⟨384*i+j,rfl,(hF _).2 ⟨i,c,e1,Ja.2 ⟨j,hj,by rw[b1,pq],by rw[b1];exact hh⟩⟩⟩
        ·rintro⟨b,e,hb⟩
         have:b=384*i+j:=by omega
         subst this;obtain⟨i',c',e7,e8⟩:=(hF _).1 hb;obtain⟨b',e9,e10,e11⟩:=ZAf e8;obtain⟨b3,_⟩:=f3 i' c' e7;have:b'=384*i+j:=by omega
         subst this;have:i'=i:=by omega
         subst this;rw[e1]at e7;cases e7;rw[pq i' 384];exact e11
       cases c with
       |mk no bT=>
        simp only at b1 Vh;rw[b1,Vh];rfl
      rw[<-hce]
 ·rintro⟨bz,r,hr,kh⟩
  have hrm: ∀k∈r,k<(m:Int):=fun k hk=>by
   rcases(hr.2 k).1 hk with h1|h1
   ·obtain⟨b,rfl,hb⟩:=qC.1 h1
    have:=hm b hb;omega
   ·omega
  have KN:pL img m W x.az=some ((List.range' 0 x.az.length).map fun p=>dX p r):=by
   refine I7.2 ⟨by simp,fun i k hk=>?_⟩;have hi:=(cd.1 hk).1;refine⟨dX i r,?_,?_,?_⟩
   ·rw[gL,List.getElem?_range' hi]
    show some (dX (0+1*i) r)=_;rw[dj,Nat.one_mul]
   ·have h1:=kh i k hk
    rw[xd i k hk]at h1;rw[sP h1];exact(OE (by show i<8;omega) (by show(nr i (List.replicate 48 0) r).length=48;rw[yh];simp)).2
   ·cases fq:cR W k.toNat with
    |false=>exact rE _
    |true=>
     have:=nH i k hk;exact absurd (qC.2 ⟨k.toNat,by omega,fq⟩) (bz k (lh hk))
  obtain⟨F,f1,f2,f3,f4⟩:=OS hrm x.az.length 0 (gm m []) h0 Ke;rw[KN];simp only;unfold uV;rw[lS,List.length_range',ZAE (by omega),dq,ah rfl,cond_true,<-dq,f1];refine ah (I9 (by rw[f2,q1,hl]) f3 (q2 hw) fun b=>?_);rw[jY,f4 b,hR b,uJ,hWP r hr b];constructor
  ·rintro(⟨h1,_⟩|⟨h1,_⟩)
   ·cases h1
   ·exact h1
  ·intro h1
   refine .inr ⟨h1,by omega,?_⟩;rcases h1 with h1|h1
   ·have:=hm b h1
    omega
   ·omega
end Go.Gv.F
