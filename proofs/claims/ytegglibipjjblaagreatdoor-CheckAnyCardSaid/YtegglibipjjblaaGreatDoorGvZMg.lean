/- Charts that were made are right. No program in sight. -/
import Derived.Test.YtegglibipjjblaaGreatDoorGvZMf
set_option linter.all false
namespace Go.Gv.F
open Go.Gv
variable {k:Int} {i j lim m n p sz t:Nat} {c:ZP} {cs ds:ah} {l:ak} {V W:al}
def ZwV (hl:W.length=V.length) (hw: ∀w∈W,w<18446744073709551616) (hv: ∀w∈V,w<18446744073709551616) (h: ∀b,di W b=di V b):W=V:=by
 refine List.ext_getElem hl λi h1 h2=>C8 λj=>?_
 have a1:=hw _ (kz h1);have a2:=hv _ (kz h2);rcases jH j 64 with hj|hj
 .have:=h (64*i+j)
  unfold di at this;rw[show(64*i+j)/64=i by omega,show(64*i+j)%64=j by omega,dW,dW,cq h1,cq h2,wa,wa]at this;exact this
 .rw[HC (mG a1 (nT (n:=2) (i:=64) (by decide) hj)),HC (mG a2 (nT (n:=2) (i:=64) (by decide) hj))]
def zK {m:Nat} : ∀(ks:ak) {W:al},W.length=(m+63)/64->∀b:Nat,di (ks.foldl (bK m) W) b=true↔di W b=true\/((b:Int)∈ks/\b<m)
 |[],W,_,b=>by simp
 |a::ks,W,hl,b=>by
  rw[Bb,zK ks (by rw[oM];exact hl) b,qM hl,lT,aY,bu,eF];grind[fE]
def wg (l:ak) (b:Nat):di (jd m l) b=true↔(b:Int)∈l/\b<m:=by
 unfold jd;rw[zK l (by simp) b,Zzn];simp
def Zz1 {b:Nat} (h:di W b=true):b<64*W.length:=by
 rcases jH b (64*W.length)with h1|h1
 .exact h1
 .unfold di at h
  rw[dW,Hx (by omega)]at h;simp_all[eE]
def oO :k∈dq W↔ ∃b:Nat,k=(b:Int)/\di W b=true:=by
 rw[Zq5];constructor
 .grind
 .rintro⟨b,rfl,hb⟩
  exact pK.2 ⟨b,EX.2 ⟨uu.2 (Zz1 hb),hb⟩,rfl⟩
def sq (b:aj) (k:Nat):Bool:=eE (b.getD (k/8) 0).toNat (k%8)
def ZxL {b:aj} {k:Nat} (h:k/8<b.length):sq (xR b k) j=(sq b j||decide (j=k)):=by
 unfold sq xR;rw[wa,wa,dW];by_cases hq:k/8=j/8
 .rw[<-hq,kX h]
  simp only[Option.getD_some];have aw:(b.getD (k/8) 0).toNat|||2^(k%8)<256:=Nat.or_lt_two_pow (n:=8) (UInt8.toNat_lt _) (Lq (by decide) (by omega));rw[UInt8.toNat_ofNat_of_lt' aw,Nat.testBit_or,Nat.testBit_two_pow];grind
 grind
def Ul (p:Nat): ∀(l:ak) (b:aj),b.length=48->∀j,j<384->sq (tD p b l) j=(sq b j||decide (((384*p+j:Nat):Int)∈l))
 |[],b,_,j,_=>by
  show sq b j=_;simp
 |x::r,b,hb,j,hj=>by
  unfold tD;cases hx:inPlace p x with
  |false=>
   rw[af,Ul p r b hb j hj];grind[inPlace]
  |true=>
   unfold inPlace at hx;rw[aY,bu,bu]at hx;rw[ae,Ul p r _ (by rw[Mb];exact hb) j hj,ZxL (by omega),Bool.or_assoc];grind
def Zxt (n j:Nat):sq (List.replicate n 0) j=false:=by
 unfold sq;rw[dW,Le];unfold eE;split<;>simp
def Vp (h:i<384):yl c (c.no*384+i)=sq c.eY i:=by
 grind[yl,sq]
def Va (h:i<384):yl (gr p l) (p*384+i)=decide (((384*p+i:Nat):Int)∈l):=by
 have:=Vp (c:=gr p l) h;rw[show(gr p l).no=p from rfl]at this;rw[this];show sq (tD p (List.replicate 48 0) l) i=_;rw[Ul p l _ (by simp) i h,Zxt,vP]
def Mu :k∈eU c 384↔ ∃i,i<384/\k=((c.no*384+i:Nat):Int)/\yl c (c.no*384+i)=true:=by
 grind[eU]
def Zsk {b:Nat} :(b:Int)∈eU (gr p l) 384↔(b:Int)∈l/\b/384=p:=by
 rw[Mu,show(gr p l).no=p from rfl];constructor
 .rintro⟨i,hi,e,hh⟩
  rw[Va hi,bu]at hh;grind
 .rintro⟨h1,h2⟩
  refine⟨b%384,Nat.mod_lt _ (by decide),by omega,?_⟩;rw[Va (Nat.mod_lt _ (by decide)),bu,show 384*p+b%384=b by omega];exact h1
def Zw0 (h: ∀k∈l,k<(m:Int)):CO m (gr p l)=false:=by
 unfold CO;by_cases h0:0<(eU (gr p l) 384).length
 .rw[ax h0,ae]
  refine aF λhc=>?_
  have dP:eU (gr p l) 384≠[]:=by grind
  have hm:(eU (gr p l) 384).getLastD 0∈eU (gr p l) 384:=by
   rw[List.getLastD_eq_getLast?,List.getLast?_eq_some_getLast dP];simp
  obtain⟨i,_,e,_⟩:=Mu.1 hm;rw[e]at hm hc;have:=h _ (Zsk.1 hm).1;omega
 grind
def Zrs {m:Nat} {l:ak} (h: ∀k∈l,k<(m:Int)): ∀(c i:Nat) (W:al),W.length=(m+63)/64->(∀w∈W,w<18446744073709551616)->
  ∃F,BM m i ((List.range' i c).map λp=>gr p l) W=some F/\F.length=(m+63)/64/\(∀w∈F,w<18446744073709551616)/\∀b,di F b=true↔di W b=true\/((b:Int)∈l/\384*i<=b/\b<384*(i+c))
 |0,i,W,hl,hw=>⟨W,rfl,hl,hw,by grind⟩
 |c+1,i,W,hl,hw=>by
  obtain⟨q1,q2⟩:=ZF m (eU (gr i l) 384) W;obtain⟨F,f1,f2,f3,f4⟩:=Zrs h c (i+1) ((eU (gr i l) 384).foldl (bK m) W) (by rw[q1];exact hl) (q2 hw);refine⟨F,?_,f2,f3,λb=>?_⟩
  .rw[Lm,oG]
   unfold BM;rw[show(gr i l).no=i from rfl,ax rfl,Zw0 h];exact f1
  .rw[f4 b,zK _ hl b,Zsk]
   grind
variable {β:Type}
def bm.Ny {s0 s:St} {a:ai} (h:bm s0 s a cs) (hz:0<sz) (hn:cs.length=n*sz) (hd:ds.length=m*sz) (hl:n+m<=lim):
  ∃p s',bm s0 s' p (cs++ds)/\∀K:ai->M β,cm sz a n ds m lim K s=K p s':=by
 rcases Bg m with rfl|hm
 .rw[ux]at hd
  rw[zp.1 hd,gz];exact⟨a,s,h,λK=>rfl⟩
 .exact h.app hz hn hm hl
def kB (l:ak):Prop:=l.Pairwise (· < ·)
def kB.nodup (h:kB l):l.Nodup:=h.imp λh e=>by omega
def Fy: ∀ {l m:ak},kB l->kB m->(∀k,k∈l↔k∈m)->l=m
 |[],[],_,_,_=>rfl
 |[],b::m,_,_,h=>by cases(h b).2 uq
 |a::l,[],_,_,h=>by cases(h a).1 uq
 |a::l,b::m,hl,hm,h=>by
  have h1:=List.pairwise_cons.1 hl;have h2:=List.pairwise_cons.1 hm;have e:a=b:=by
   rcases eF.1 ((h a).1 uq)with e|e
   .exact e
   .rcases eF.1 ((h b).2 uq)with e'|e'
    .exact e'.symm
    grind
  subst e;rw[Fy h1.2 h2.2 λk=>⟨λhk=>?_,λhk=>?_⟩]
  .grind
  grind
def Zr7 {k:Nat} {a:Int} (hr:kB l) (h1: ∀j (x:Int),k<=j->l[j]? =some x->a<x) (h2: ∀j (x:Int),j<k->l[j]? =some x->x<a):kB (l.take k++[a]++l.drop k)/\∀b,b∈l.take k++[a]++l.drop k↔b∈l\/b=a:=by
 have lP:l=l.take k++l.drop k:=by simp
 have ht: ∀x∈l.take k,x<a:=λx hx=>by
  obtain⟨j,hj⟩:=List.mem_iff_getElem?.1 hx;rw[xo]at hj;split at hj
  .grind
  .cases hj
 have hd: ∀x∈l.drop k,a<x:=λx hx=>by
  obtain⟨j,hj⟩:=List.mem_iff_getElem?.1 hx;rw[Bc]at hj;grind
 refine⟨?_,λb=>?_⟩
 .unfold kB at hr⊢
  rw[lP,Lj]at hr;rw[fI,Lj];grind
 grind
def Lt (st:St) (l:ak) (m a:Int) (o:Out ah×St):Prop:=∃(p:ai) (r:ak) (s':St),o=(.val [.slice 1 p r.length],s')/\aB st s'/\Sl s' p (ints r)/\kB r/\∀k,k∈r↔k∈l\/(k=a/\0<=a/\a<m)
variable {Bd:Zh} [h:HA Bd]
def Ti (n:Nat) (l:ak) (z:Nat) (p:ai) (m a:Int) (st:St) (hz:z=1\/p=none) (hs:Sl st p (ints l)) (hr:kB l) (hl:l.length<100000:=by omega) (hn:l.length+10<=n:=by omega):
  Ok (Lt st l m a) (run Bd n 205 [.slice z p l.length,.int .i64 m,.int .i64 a] st):=by
 obtain⟨n,rfl⟩: ∃k,n=k+1:=⟨n-1,by omega⟩;rw[Ze,h.aeC];unfold SO xJ aA oL cM Zm bq aZ Li Lb dY;simp only[Zg 1 z p _ hz,av,aq,ZL];have stay:(a∈l\/¬(0<=a/\a<m))->Ok (Lt st l m a) ((bZ st.length [DV.slice 1 p l.length]:M ah) st):=λhc=>by
  rw[Zp];have hp:aB st (Z1 st.length st):=Zr (.refl st);refine .mk ⟨p,l,_,rfl,hp,hs.mono hp,hr,λk=>⟨.inl,λhk=>hk.elim id λhk=>?_⟩⟩;grind
 have jT:(ints l).length=l.length:=by simp[ints]
 rw[Za];have body:(0<=a/\a<m)->∀b,b=decide (a∈l)->Ok (Lt st l m a) ((bif b then(bZ st.length [DV.slice 1 p l.length]:M ah)else
   cK (λY1=>aD .i64 Y1 λk Y2=>aL Y2<|
     aC (decide (0<=k)&&decide (k<=(l.length:Int)))<|
     dy p (k.toNat*1) λcs=>
     cm 1 none 0 cs k.toNat 8796093022208 λp2=>
     cd [.int .i64 a] λi=>
     bS i 0 1 λbM=>
     cm 1 p2 (0+k.toNat) bM 1 8796093022208 λp1=>
     aC (decide (0<=k)&&decide (k<=(l.length:Int)))<|
     dy (cU true p (k.toNat*1)) ((l.length-k.toNat)*1) λcC=>
     cm 1 p1 (0+k.toNat+1) cC (l.length-k.toNat) 8796093022208 λp2=>
     bZ st.length [.slice 1 p2 (0+k.toNat+1+(l.length-k.toNat))]) λaW=>
    cS (λaV st=>
     aD .i64 st λk1 st=>
     aL st<|
     cK (λst=>gC st λb3 st=>aL st<|
      bif b3 then
       aV [.int .i64 (ar (k1-1))]
      else
       aW [.int .i64 k1]) λbz=>
     bif decide (k1>0)then
      bH p λi1 o=>
      aC (aR (ar (k1-1)) l.length)<|
      bD i1 (((ar (k1-1)).toNat)*1+o) λd=>
      cY .i64 d λx=>
      bz [.bool (decide (x>a))]
     else
      bz [.bool false]) n [.int .i64 (l.length:Int)]) st):=by
  intro GZ b hb;cases b with
  |true=>
   rw[ae];exact stay (by grind)
  |false=>
  rw[af];refine Ok.join λaW kK=>?_
  refine Zi _ (λq y t=>∃k:Nat,y=[.int .i64 (k:Int)]/\k<=l.length/\k<=q/\t=st/\∀j (x:Int),k<=j->l[j]? =some x->a<x) ?_ l.length n _ _ (by grind) (by omega);rintro q y t ⟨k,rfl,hk,hq,rfl,fV⟩ rec aN;simp only[av,aq];have out:(∀j (x:Int),j<k->l[j]? =some x->x<a)->Ok (Lt t l m a) (aW [DV.int .i64 (k:Int)] t):=λpz=>by
   subst kK;simp only[av,aq,bp];rw[Zb (by rw[aY,bu,bu];omega)];have h1:=hs.lA k;have Am:((ints l).take k).length=k*1:=by rw[cX,jT];omega
   have e1: ∀K:ah->M ah,dy p (k*1) K t=K ((ints l).take k) t:=λK=>by
    have:=iR h1 K;rwa [Am]at this
   rw[e1];obtain⟨r1,s1,rp,Xa⟩:=(bm.nil (aB.refl t)).Ny (β:=ah) (sz:=1) (n:=0) (m:=k) (lim:=8796093022208) (ds:=(ints l).take k) (by omega) rfl Am (by omega);rw[Xa];rw[jG]at rp;obtain⟨r2,s2,du,vj⟩:=rp.push (β:=ah) (sz:=1) (n:=0+k) (lim:=8796093022208) [.int .i64 a] (by omega) (by rw[Am];omega) rfl (by omega);rw[vj];rw[Zb (by rw[aY,bu,bu];omega)];have h2:=(hs.mono du.1).cU (k:=k) (by omega);have An:((ints l).drop k).length=(l.length-k)*1:=by rw[fa,jT];omega
   have e2: ∀K:ah->M ah,dy (cU true p (k*1)) ((l.length-k)*1) K s2=K ((ints l).drop k) s2:=λK=>by
    rw[cR k];have:=iR h2 K;rwa [An]at this
   rw[e2];obtain⟨r3,s3,nD,Xb⟩:=du.Ny (β:=ah) (sz:=1) (n:=0+k+1) (m:=l.length-k) (lim:=8796093022208) (ds:=(ints l).drop k) (by omega) (by rw[bB,Am,iK];omega) An (by omega);rw[Xb,Zp];obtain⟨c1,c2⟩:=Zr7 hr fV pz;have gM:(ints l).take k++[DV.int .i64 a]++(ints l).drop k=ints (l.take k++[a]++l.drop k):=by
    simp[ints,List.map_take,List.map_drop]
   rw[gM]at nD;have Ef:(l.take k++[a]++l.drop k).length=0+k+1+(l.length-k):=by
    grind
   refine .mk ⟨r3,_,_,by rw[Ef],Zr nD.1,nD.sl.dQ _,c1,λb=>?_⟩;rw[c2];grind
  rw[Za];by_cases lM:k=0
  .rw[aF (show ¬(k:Int)>0 by omega),af]
   simp only[au,aq,af];grind
  .obtain⟨i1,o1,rfl⟩:=hs.cH (by rw[jT];omega)
   have kf:k-1<l.length:=by omega
   have da:(ints l)[k-1]? =some (.int .i64 l[k-1]):=ZD kf;have wM:l[k-1]? =some l[k-1]:=cq kf;have iO:l[k-1]∈l:=kz kf;rw[ax (show(k:Int)>0 by omega),ae,bd,Zc,show(k:Int)-1=((k-1:Nat):Int) by omega,Zb (Zj kf)];simp only[bp];rw[hs.dJ da];simp only[bg,au,aq];generalize l[k-1]=w at da wM iO;by_cases hw:w>a
   .rw[ax hw,ae]
    refine aN (k-1) _ _ (by omega) ⟨k-1,rfl,by omega,aQ _,rfl,λj x hj hx=>?_⟩;by_cases vr:j=k-1
    .rw[vr,wM]at hx
     grind
    grind
   .rw[aF hw,af]
    refine out λj x hj hx=>?_
    by_cases vr:j=k-1
    .rw[vr,wM]at hx
     grind
    .have Cr:=(ef.1 hx)
     obtain⟨AD,JK⟩:=Cr;obtain⟨jn,hk3⟩:=ef.1 wM;have:=Ll.1 hr j (k-1) AD jn (by omega);rw[JK,hk3]at this;omega
 by_cases ha0:a<0
 .rw[ax ha0,ae]
  simp only[au,aq];rw[Za,ae];simp only[au,aq];rw[ae];grind
 .rw[aF ha0,af]
  simp only[au,aq];rw[Za];by_cases ham:a>=m
  .rw[ax ham,ae]
   simp_all
  .rw[aF ham,af]
   refine Ok.call (Br n 1 l a p st (.inl rfl) hs) ?_;rintro _ rfl;refine⟨_,st,rfl,?_⟩;simp only[au,aq];exact body ⟨by omega,by omega⟩ _ rfl
def jt (img:aj) (k:Int):Option (aj):=if k<0\/((img.length/64:Nat):Int)<=k then none else some (w4 img k.toNat)
def Ft (n:Nat) (img:aj) (k:Int) (st:St) (hl:img.length<1000000):
  Ok (λo=>∃s',aB st s'/\match jt img k with
   |none=>o=(.val [.slice 0 none 0,.bool false],s')
   |some l=>∃p,o=(.val [.slice 1 p 64,.bool true],s')/\mJ s' p l/\l.length=64) (run Bd (n+1) 208 [.str img,.int .i64 k] st):=by
 rw[Ze,h.aeE];unfold Sg nU aA uE Lb;simp only[bR,av,aq,ZL];rw[Za];have ediv:ar (((img.length:Nat):Int).tdiv 64)=((img.length/64:Nat):Int):=by
  rw[show((img.length:Nat):Int).tdiv 64=((img.length/64:Nat):Int)from rfl];exact Zc
 unfold jt;by_cases h0:k<0
 .rw[ax h0,ae,bE (.inl h0)]
  simp only[au,aq];rw[ae,Zp];exact .mk ⟨_,Zr (.refl st),rfl⟩
 .rw[aF h0,af,ediv]
  simp only[au,aq];by_cases h1:k>=((img.length/64:Nat):Int)
  .rw[ax h1,ae,bE (.inr h1),Zp]
   exact .mk ⟨_,Zr (.refl st),rfl⟩
  .rw[aF h1,af,bj (by omega)]
   obtain⟨a,rfl⟩: ∃a:Nat,k=(a:Int):=⟨k.toNat,by omega⟩;rw[Zc (x:=64*(a:Int)),Zc (x:=64*(a:Int)+64),show(64*(a:Int)+64)=((64*a+64:Nat):Int) by omega,show(64*(a:Int))=((64*a:Nat):Int) by omega];simp only[bp];rw[Zb (by rw[aY,bu,bu];omega),Zb (by rw[aY,bu,bu];omega)];have XE:(img.take (64*a+64)).drop (64*a)=w4 img a:=by
    grind[w4]
   have Ol:(w4 img a).length=64:=by
    grind
   rw[XE,Zz,Zp];have ho:bm st (st++[some (⟨false,bU (w4 img a)⟩:bO)]) (some (st.length,0)) (bU (w4 img a)):=⟨.new _ _,(by simp)⟩;exact .mk ⟨_,Zr ho.1,_,by rw[Ol];rfl,ho.fz,Ol⟩
def Dk (m:Int) (l cs r:ak):Prop:=kB r/\∀k,k∈r↔k∈l\/(k∈cs/\0<=k/\k<m)
def UU (img:aj) (x:cy) (l:ak):Prop:=(∀c∈x.aJ,c∉l)/\∃r,Dk x.blocks l x.aJ r/\∀i c,x.aJ[i]? =some c->jt img c=some (uL (gr i r))
def ZnQ (n:Nat) (img:aj) (x:cy) (pc:ai) (l:ak) (p:ai) (st:St) (hc:Sl st pc (ints x.aJ)) (hs:Sl st p (ints l)) (hr:kB l) (hl:l.length<50000) (hx: ∀k∈l,0<=k/\k<1000000) (hm:x.blocks<1000000) (cN:x.aJ.length<1000) (jT:img.length<1000000) (hn:l.length+x.aJ.length+1000<=n):
  Ok (λo=>∃b s',o=(.val [.bool b],s')/\aB st s'/\(b=true↔UU img x l)) (run Bd n 178 [.str img,.agg (dj x pc),.slice 1 p l.length] st):=by
 obtain⟨n,rfl⟩: ∃k,n=k+1:=⟨n-1,by omega⟩;rw[Ze,h.aek];unfold Q9 Z6 bV fB Q_ cM Zn pL aA jw kb bq iL Lb eI Li uD dY Z7 aZ;simp only[bR];rw[dT];unfold dj;simp only[av,aX,aq];refine Ok.join λaz nA=>?_
 refine Zi _ (λq y t=>∃(i:Nat) (r:ak) (p':ai),y=[.slice 1 p' r.length,.int .i64 (i:Int)]/\i<=x.aJ.length/\x.aJ.length-i<=q/\aB st t/\Sl t p' (ints r)/\kB r/\r.length<=l.length+i/\(∀c∈x.aJ.take i,c∉l)/\∀k,k∈r↔k∈l\/(k∈x.aJ.take i/\0<=k/\k<x.blocks)) ?_ x.aJ.length n _ _ ⟨0,l,p,rfl,cz _,by omega,.refl _,hs,hr,by omega,λc hc=>by simp at hc,λk=>by simp⟩ (by omega);rintro q y t ⟨i,r,p',rfl,hi,hq,hp,hf,G0,Cy,cA,iO⟩ rec aN;simp only[aX,av,aq];by_cases aw:i<x.aJ.length
 .obtain⟨i1,o1,rfl⟩:=hc.cH (by simp[ints];omega)
  have da:(ints x.aJ)[i]? =some (.int .i64 x.aJ[i]):=ZD aw;have wM:x.aJ[i]? =some x.aJ[i]:=cq aw;have fZ:x.aJ.take (i+1)=x.aJ.take i++[x.aJ[i]]:=lV aw;have hmc:x.aJ[i]∈x.aJ:=kz aw;rw[ax (show(i:Int)<(x.aJ.length:Int) by omega),ae,bd,Zb (Zj aw)];simp only[bp];rw[(hc.mono hp).dJ da];simp only[bg];generalize x.aJ[i]=w at da wM fZ hmc;refine Ok.call (Br n 1 l w p t (.inl rfl) (hs.mono hp)) ?_;rintro _ rfl;refine⟨_,t,rfl,?_⟩;simp only[au,aq];by_cases hw:w∈l
  .rw[ax hw,ae,Zd]
   refine .mk ⟨false,t,rfl,hp,⟨λe=>(by cases e),λhP=>absurd hw (hP.1 w hmc)⟩⟩
  .rw[aF hw,af,bd,Zb (Zj aw),(hc.mono hp).dJ da]
   simp only[bg];refine Ok.call (Ti n r 1 p' x.blocks w t (.inl rfl) hf G0) ?_;rintro _ ⟨p2,r2,s2,rfl,aU,mU,ik,fu⟩;refine⟨_,s2,rfl,?_⟩;simp only[aX,aq];rw[Zc];refine aN (x.aJ.length-(i+1)) _ _ (by omega) ⟨i+1,r2,p2,rfl,by omega,aQ _,hp.trans aU,mU,ik,?_,λc hc=>?_,λk=>?_⟩
   .have:r2.length<=(w::r).length:=xO ik.nodup λk hk=>by
     grind
    rw[cO]at this;omega
   .rw[fZ]at hc
    grind
   .rw[fu,iO,fZ,gx,cB]
    constructor
    .grind
    grind
 .rw[aF (show ¬(i:Int)<(x.aJ.length:Int) by omega),af,nA]
  rw[dG (by omega)]at cA iO;have hW:Dk x.blocks l x.aJ r:=⟨G0,iO⟩;have aiE: ∀r',Dk x.blocks l x.aJ r'->r'=r:=λr' h'=>Fy h'.1 G0 λk=>by rw[h'.2,iO]
  have vz: ∀k∈r,0<=k/\k<1000000:=λk hk=>by
   grind
  simp only[aX,aq];refine Ok.join λaI jU=>?_
  refine Zi _ (λq y u=>∃j:Nat,y=[.int .i64 (j:Int)]/\j<=x.aJ.length/\x.aJ.length-j<=q/\aB st u/\Sl u p' (ints r)/\∀i c,i<j->x.aJ[i]? =some c->jt img c=some (uL (gr i r))) ?_ x.aJ.length n _ _ ⟨0,rfl,cz _,by omega,hp,hf,λi c hi=>by omega⟩ (by omega);rintro q2 y2 u ⟨j,rfl,hj,Er,J7,fK,dt⟩ dw j3;simp only[av,aq];have Gz: ∀(c:Int) (u':St),x.aJ[j]? =some c->jt img c≠some (uL (gr j r))->aB st u'->Ok (λo=>∃b s',o=(.val [.bool b],s')/\aB st s'/\(b=true↔UU img x l)) ((ay [.bool false]:M ah) u'):=λc u' hcj dP ah8=>by
   rw[Zd];refine .mk ⟨false,u',rfl,ah8,⟨λe=>(by cases e),?_⟩⟩;rintro⟨_,r',h1,h2⟩;rw[aiE r' h1]at h2;exact absurd (h2 j c hcj) dP
  by_cases kL:j<x.aJ.length
  .obtain⟨i1,o1,rfl⟩:=hc.cH (by simp[ints];omega)
   have da:(ints x.aJ)[j]? =some (.int .i64 x.aJ[j]):=ZD kL;have wM:x.aJ[j]? =some x.aJ[j]:=cq kL;rw[ax (show(j:Int)<(x.aJ.length:Int) by omega),ae,bd,Zb (Zj kL)];simp only[bp];rw[(hc.mono J7).dJ da];simp only[bg];generalize x.aJ[j]=w at da wM;obtain⟨n,rfl⟩: ∃k,n=k+1:=⟨n-1,by omega⟩;refine Ok.call (Ft n img w u jT) ?_;rintro o ⟨u2,aU,ho⟩;cases nC:jt img w with
   |none=>
    rw[nC]at ho;simp only at ho;subst ho;refine⟨_,u2,rfl,?_⟩;simp only[Zg 1 0 none _ (.inr rfl),au,aq];rw[Za,bn,ae];simp only[au,aq];rw[ae];exact Gz w u2 wM (by rw[nC];intro e;cases e) (J7.trans aU)
   |some b=>
    rw[nC]at ho;simp only at ho;obtain⟨pl,rfl,ep,jl⟩:=ho;refine⟨_,u2,rfl,?_⟩;simp only[aX,au,aq];rw[Za,br,af];have erd: ∀K:ah->M ah,dy pl 64 K u2=K (bU b) u2:=λK=>by
     have:=iR (show Sl _ pl (bU b)from ep.1) K;rwa [Zu,jl]at this
    rw[erd];rw[<-ll,oJ];refine Ok.NI (ZlG (n+1) j r p' 1 u2 (.inl rfl) (fK.mono aU) (by omega) (by omega) vz (by omega)) ?_;rintro _ rfl;refine⟨_,u2,rfl,.refl _,?_⟩;rw[dT];unfold ZW;have wG:(gr j r).eY.length=48:=by
     show(tD j (List.replicate 48 0) r).length=48;rw[H9];simp
    simp only[av];unfold bA;rw[Zu,wG,show Nat.beq 48 48=true from rfl,ae];simp only[aq];refine Ok.cx (ZmI (n+1) (gr j r) wG u2) λu3 cu=>?_
    simp only[bR,au,aq];cases tR:(b==uL (gr j r))with
    |true=>
     have tR:=eq_of_beq tR;rw[br,af,Zc];refine j3 (x.aJ.length-(j+1)) _ _ (by omega) ⟨j+1,rfl,by omega,aQ _,J7.trans (aU.trans cu),fK.mono (aU.trans cu),λi c hi GK=>?_⟩;by_cases mm:i=j
     .subst mm
      rw[wM]at GK;cases GK;rw[nC,tR]
     .exact dt i c (by omega) GK
    |false=>
     rw[bn,ae];refine Gz w u3 wM (λe=>?_) (J7.trans (aU.trans cu));rw[nC]at e;rw[HE e,xq]at tR;cases tR
  .rw[aF (show ¬(j:Int)<(x.aJ.length:Int) by omega),af,jU]
   simp only[aq,Zd];refine .mk ⟨true,u,rfl,J7,⟨λ_=>⟨cA,r,hW,λi c GK=>dt i c ?_ GK⟩,λ_=>rfl⟩⟩;have:=(ef.1 GK).1;omega
def T1 {l:aj} (h:ZE l=true):l=l9 l.length:=by
 unfold ZE at h;rw[vR]at h;unfold l9;exact List.eq_replicate_iff.2 (by grind)
def Zsn (c:UInt8):rI ((c.toNat:Nat):Int)=c:=by
 unfold rI;have:(((c.toNat:Nat):Int)%256).toNat=c.toNat:=by
  have:=c.toNat_lt;omega
 rw[this,UInt8.ofNat_toNat]
def sb {l:aj} {k:Nat} {b:aj} (h:fM l=some (k,t,b)):l=iS k t b/\b.length=56/\k<256/\t<256:=by
 unfold fM at h;cases hr:tE l with
 |false=>rw[hr]at h;cases h
 |true=>
  rw[hr,ae]at h;cases h;unfold tE at hr;rw[aY,aY,aY,bu,bu]at hr;obtain⟨qX,_,h2,h3⟩:=hr;have hb:(l.drop 8).length=56:=by rw[fa];omega
  have hf:jQ (l.drop 8) 56=l.drop 8:=by
   simp_all[jQ,l9]
  have hz:=T1 h2;have rz:((l.drop 6).take 2).length=2:=by rw[cX,fa];omega
  rw[rz]at hz;have hS:pF ((l.getD 4 0).toNat:Nat) ((l.getD 5 0).toNat:Nat) (l.drop 8)=l.drop 4:=by
   unfold pF;rw[Zsn,Zsn,hf];have e1:l.drop 4=l.getD 4 0::l.getD 5 0::l.drop 6:=by
    rw[iV (by omega),iV (show 4+1<l.length by omega),dW,dW,cq (by omega),cq (by omega)];rfl
   have e2:l.drop 6=[0,0]++l.drop 8:=by
    have:=rQ 2 (l.drop 6);rw[hz,kV]at this;exact this.symm
   rw[e1,e2];rfl
  refine⟨?_,hb,UInt8.toNat_lt _,UInt8.toNat_lt _⟩;unfold iS;rw[hS,h3];have h4:(l.take 4).length=4:=by rw[cX];omega
  have:=MS (l.take 4);rw[h4]at this;rw[this,rQ]
def Zt8 {l:aj} (h:xP l=some c):l=uL c/\c.eY.length=48/\c.no<8:=by
 unfold xP at h;cases ho:fM l with
 |none=>rw[ho]at h;cases h
 |some q=>
  obtain⟨k,t,b⟩:=q;rw[ho]at h;simp only at h;obtain⟨h1,h2,h3,h4⟩:=sb ho;cases hc:(decide (k=4)&&(decide (t<8)&&ZE (b.drop 48)))with
  |false=>rw[hc]at h;cases h
  |true=>
   rw[hc,ae]at h;cases h;rw[aY,aY,bu,bu]at hc;obtain⟨rfl,h5,h6⟩:=hc;refine⟨?_,by rw[cX];omega,h5⟩;have hz:=T1 h6;have rz:(b.drop 48).length=8:=by rw[fa];omega
   rw[rz]at hz;have hf:jQ (b.take 48) 56=jQ b 56:=by
    unfold jQ;have hl:(b.take 48).length=48:=by rw[cX];omega
    rw[hl,h2,<-hz,rQ];simp[l9]
   rw[h1];grind[uL,iS,pF]
def Zx9 {a b:aj} (ha:a.length=48) (hb:b.length=48) (h: ∀j,j<384->sq a j=sq b j):a=b:=by
 refine List.ext_getElem (by omega) λi h1 h2=>?_
 refine HF.1 (C8 λj=>?_);have l1:=a[i].toNat_lt;have l2:=b[i].toNat_lt;rcases jH j 8 with hj|hj
 .have:=h (8*i+j) (by omega)
  unfold sq at this;rw[show(8*i+j)/8=i by omega,show(8*i+j)%8=j by omega,dW,dW,cq h1,cq h2,wa,wa]at this;exact this
 .rw[HC (mG l1 (nT (n:=2) (i:=8) (by decide) hj)),HC (mG l2 (nT (n:=2) (i:=8) (by decide) hj))]
def MD {img:aj} {m:Nat} {W:al} : ∀ {ks:ak} {cs:List ZP},wF img m W ks=some cs↔(cs.length=ks.length/\∀(i:Nat) (k:Int),ks[i]? =some k->∃c,cs[i]? =some c/\xP (ZG img k.toNat)=some c/\(fE m k&&di W k.toNat)=false)
 |[],cs=>by
  constructor
  .intro h
   cases h;simp
  .rintro⟨h,_⟩
   rw[zp.1 h];rfl
 |k::ks,cs=>by
  unfold wF;constructor
  .intro h
   cases hg:xP (ZG img k.toNat)with
   |none=>rw[hg]at h;cases h
   |some c=>
    rw[hg]at h;simp only at h;cases hb:(fE m k&&di W k.toNat)with
    |true=>rw[hb]at h;cases h
    |false=>
     rw[hb,af]at h;cases hr:wF img m W ks with
     |none=>rw[hr]at h;cases h
     |some cs'=>
      rw[hr]at h;cases h;obtain⟨h1,h2⟩:=MD.1 hr;grind
  .rintro⟨h1,h2⟩
   cases cs with
   |nil=>cases h1
   |cons c cs=>
    obtain⟨c',e1,e2,e3⟩:=h2 0 k rfl;cases e1;rw[e2];simp only;rw[e3,af,MD.2 ⟨by simpa using h1,λi k' nB=>h2 (i+1) k' (by simpa using nB)⟩];rfl
def ZyM (h:k∈eU c 384): ∃b:Nat,k=(b:Int)/\b/384=c.no/\yl c b=true:=by
 obtain⟨i,hi,rfl,hh⟩:=Mu.1 h;grind
def Zsl (c:ZP):(eU c 384).Pairwise (· < ·):=by
 unfold eU;rw[Hy];refine List.Pairwise.imp (λ{a b} h=>?_) (List.Pairwise.sublist List.filter_sublist List.pairwise_lt_range);omega
def ZyD :CO m c=false↔ ∀k∈eU c 384,k<(m:Int):=by
 unfold CO;by_cases h0:0<(eU c 384).length
 .rw[ax h0,ae,zw]
  have dP:eU c 384≠[]:=by grind
  have hl:(eU c 384).getLastD 0=(eU c 384).getLast dP:=by rw[List.getLastD_eq_getLast?,List.getLast?_eq_some_getLast dP];rfl
  rw[hl];constructor
  .intro h k hk
   obtain⟨i,hi⟩:=List.mem_iff_getElem?.1 hk;obtain⟨JI,JJ⟩:=ef.1 hi;have JO:(eU c 384).getLast dP=(eU c 384)[(eU c 384).length-1]'(by omega):=List.getLast_eq_getElem dP;rw[JO]at h;rcases jH i ((eU c 384).length-1)with h1|h1
   .have:=Ll.1 (Zsl c) i ((eU c 384).length-1) JI (by omega) h1
    omega
   grind
  simp_all
 grind
def Zo3 {m:Nat} : ∀ {cs:List ZP} {i:Nat} {W F:al},W.length=(m+63)/64->(∀w∈W,w<18446744073709551616)->BM m i cs W=some F->
  F.length=(m+63)/64/\(∀w∈F,w<18446744073709551616)/\(∀j c,cs[j]? =some c->c.no=i+j/\∀k∈eU c 384,k<(m:Int))/\∀b:Nat,di F b=true↔di W b=true\/∃(j:Nat) (c:ZP),cs[j]? =some c/\(b:Int)∈eU c 384
 |[],i,W,F,hl,hw,h=>by
  cases h;grind
 |c::cs,i,W,F,hl,hw,h=>by
  unfold BM at h;cases hb:(decide (c.no=i)&& !CO m c)with
  |false=>rw[hb]at h;cases h
  |true=>
   rw[hb,ae]at h;rw[aY,bu,lD]at hb;obtain⟨h1,h2⟩:=hb;have h2:=ZyD.1 h2;obtain⟨q1,q2⟩:=ZF m (eU c 384) W;obtain⟨f1,f2,f3,f4⟩:=Zo3 (by rw[q1];exact hl) (q2 hw) h;refine⟨f1,f2,λj c' hc'=>?_,λb=>?_⟩
   .grind
   .rw[f4 b,zK _ hl b]
    constructor
    .rintro((h3|⟨h3,_⟩)|⟨j,c',h3,h4⟩)
     .exact .inl h3
     .exact .inr ⟨0,c,rfl,h3⟩
     .exact .inr ⟨j+1,c',by simpa using h3,h4⟩
    grind
def xA (W:al):kB (dq W):=by
 rw[Zq5];unfold kB;rw[Hy];refine List.Pairwise.imp (λ{a b} h=>?_) (List.Pairwise.sublist List.filter_sublist List.pairwise_lt_range);omega
def Zy6 (h:m<=3072):rJ (m:Int) 384=(((m+383)/384:Nat):Int):=by
 unfold rJ;rw[Zc (x:=(m:Int)+384),Zc (x:=(m:Int)+384-1),show((m:Int)+384-1)=((m+383:Nat):Int) by omega,show(((m+383:Nat):Int).tdiv 384)=(((m+383)/384:Nat):Int)from rfl];exact Zc
def Zus {img:aj} {x:cy} (hx:uH x) (hl:W.length=(x.blocks.toNat+63)/64) (hw: ∀w∈W,w<18446744073709551616) (hm: ∀b,di W b=true->b<x.blocks.toNat) (Ec:x.blocks<=((img.length/64:Nat):Int)):zR img x W=true↔UU img x (dq W):=by
 obtain⟨g1,g2,_⟩:=Z4 hx.g;obtain⟨m,lx⟩: ∃m:Nat,x.blocks=(m:Int):=by grind
 have jV:x.blocks.toNat=m:=by omega
 rw[jV]at hl hm;have cN:x.aJ.length=(m+383)/384:=by
  have:=hx.len;rw[Tv hx.g,jV]at this;omega
 have jS: ∀i (k:Int),x.aJ[i]? =some k->2<=k/\k<(m:Int):=λi k hk=>by
  have hi:=(ef.1 hk).1;have h1:=(hx.ch i hi).1;rw[dW,hk]at h1;have:=(US x _).1 h1;rw[lx]at this;exact this
 have abE: ∀i (k:Int),x.aJ[i]? =some k->jt img k=some (ZG img k.toNat):=λi k hk=>by
  have:=jS i k hk;grind[jt,aci]
 have h0:(jd m []).length=(m+63)/64:=by unfold jd;simp
 have Jq: ∀w∈jd m [],w<18446744073709551616:=λw hw=>by
  grind[jd]
 obtain⟨q1,q2⟩:=ZF m (dq (jd m x.aJ)) W;have hR: ∀b:Nat,di ((dq (jd m x.aJ)).foldl (bK m) W) b=true↔di W b=true\/((b:Int)∈x.aJ/\b<m):=λb=>by
  rw[zK _ hl b,oO];constructor
  .rintro(h|⟨⟨b',e,h⟩,h2⟩)
   .exact .inl h
   .have:b'=b:=by omega
    subst this;exact .inr ((wg _ _).1 h)
  .rintro(h|h)
   .exact .inl h
   .exact .inr ⟨⟨b,rfl,(wg _ _).2 h⟩,h.2⟩
 have hWP: ∀r,Dk x.blocks (dq W) x.aJ r->∀b:Nat,(b:Int)∈r↔di W b=true\/((b:Int)∈x.aJ/\b<m):=λr hr b=>by
  rw[hr.2,oO,lx];constructor
  .rintro(⟨b',e,h⟩|⟨h1,_,h3⟩)
   .grind
   grind
  grind
 unfold zR;rw[jV];constructor
 .intro h
  cases hg:wF img m W x.aJ with
  |none=>rw[hg]at h;cases h
  |some cs=>
   rw[hg]at h;simp only at h;obtain⟨aj4,mT⟩:=MD.1 hg;cases hf:B6 m cs with
   |none=>rw[hf]at h;cases h
   |some F=>
    rw[hf]at h;simp only at h;have hFe:=mI h;unfold B6 at hf;cases hd:decide ((cs.length:Int)=rJ (m:Int) 384)with
    |false=>rw[hd]at hf;cases hf
    |true=>
     rw[hd,ae]at hf;obtain⟨f1,f2,f3,f4⟩:=Zo3 h0 Jq hf;have hF: ∀b:Nat,di F b=true↔ ∃(j:Nat) (c:ZP),cs[j]? =some c/\(b:Int)∈eU c 384:=λb=>by
      rw[f4 b,wg];constructor
      .rintro(⟨h1,_⟩|h1)
       .cases h1
       .exact h1
      .exact .inr
     have aiI:Dk x.blocks (dq W) x.aJ (dq F):=by
      refine⟨xA F,λk=>?_⟩;rw[oO,oO];constructor
      .grind
      .rintro(⟨b,rfl,hb⟩|⟨h1,h2,h3⟩)
       .grind
       .refine⟨k.toNat,by omega,?_⟩
        rw[hFe];refine(hR _).2 (.inr ⟨?_,by omega⟩);rw[Int.toNat_of_nonneg h2];exact h1
     refine⟨λc hc iO=>?_,dq F,aiI,λi k hk=>?_⟩
     .obtain⟨i,hi⟩:=List.mem_iff_getElem?.1 hc
      obtain⟨c',_,_,e3⟩:=mT i c hi;obtain⟨b,rfl,hb⟩:=oO.1 iO;rw[bp,hb,vO]at e3;unfold fE at e3;have:=jS i _ hi;rw[ax (show(0:Int)<=(b:Int) by omega),ax (show(b:Int)<(m:Int) by omega)]at e3;cases e3
     .obtain⟨c,e1,e2,e3⟩:=mT i k hk
      obtain⟨a1,a2,a3⟩:=Zt8 e2;obtain⟨b1,b2⟩:=f3 i c e1;rw[eW]at b1;rw[abE i k hk,a1];have hce:c=gr i (dq F):=by
       have wG:(gr i (dq F)).eY.length=48:=by
        show(tD i (List.replicate 48 0) (dq F)).length=48;rw[H9];simp
       have abN:c.eY=(gr i (dq F)).eY:=by
        refine Zx9 a2 wG λj hj=>?_
        have e4:=Vp (c:=c) hj;have e5:=Va (p:=i) (l:=dq F) hj;have e6:=Vp (c:=gr i (dq F)) hj;rw[show(gr i (dq F)).no=i from rfl]at e6;rw[<-e4,<-e6,e5,b1,lC,bu,oO];constructor
        .intro hh
         refine⟨384*i+j,rfl,(hF _).2 ⟨i,c,e1,Mu.2 ⟨j,hj,by rw[b1,Da],by rw[b1];exact hh⟩⟩⟩
        .rintro⟨b,e,hb⟩
         have:b=384*i+j:=by omega
         subst this;obtain⟨i',c',e7,e8⟩:=(hF _).1 hb;obtain⟨b',e9,Jl,e11⟩:=ZyM e8;obtain⟨b3,_⟩:=f3 i' c' e7;have:b'=384*i+j:=by omega
         subst this;have:i'=i:=by omega
         grind
       cases c with
       |mk no eY=>
        simp only at b1 abN;rw[b1,abN];rfl
      rw[<-hce]
 .rintro⟨cA,r,hr,rj⟩
  have hrm: ∀k∈r,k<(m:Int):=λk hk=>by
   rcases(hr.2 k).1 hk with h1|h1
   .obtain⟨b,rfl,hb⟩:=oO.1 h1
    have:=hm b hb;omega
   .omega
  have ahd:wF img m W x.aJ=some ((List.range' 0 x.aJ.length).map λp=>gr p r):=by
   refine MD.2 ⟨by simp,λi k hk=>?_⟩;have hi:=(ef.1 hk).1;refine⟨gr i r,?_,?_,?_⟩
   .rw[th,List.getElem?_range' hi]
    grind
   .have h1:=rj i k hk
    rw[abE i k hk]at h1;rw[HE h1];exact(ZvA (by show i<8;omega) (by show(tD i (List.replicate 48 0) r).length=48;rw[H9];simp)).2
   .cases gM:di W k.toNat with
    |false=>exact C1 _
    |true=>
     have:=jS i k hk;exact absurd (oO.2 ⟨k.toNat,by omega,gM⟩) (cA k (ur hk))
  obtain⟨F,f1,f2,f3,f4⟩:=Zrs hrm x.aJ.length 0 (jd m []) h0 Jq;rw[ahd];simp only;unfold B6;rw[nQ,List.length_range',Zy6 (by omega),cN,ax rfl,ae,<-cN,f1];refine ax (ZwV (by rw[f2,q1,hl]) f3 (q2 hw) λb=>?_);rw[lC,f4 b,hR b,wg,hWP r hr b];constructor
  .grind
  .intro h1
   refine .inr ⟨h1,by omega,?_⟩;rcases h1 with h1|h1
   .have:=hm b h1
    omega
   .omega
end Go.Gv.F
