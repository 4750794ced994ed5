/- Charts that were made are right. No program in sight. -/
import Derived.Test.YtegglibipjjblaaGreatDoorGvBMk
import Derived.Test.YtegglibipjjblaaGreatDoorGvZMf
import Derived.Test.YtegglibipjjblaaGreatDoorGvZMe
import Derived.Test.YtegglibipjjblaaGreatDoorGvZMh
set_option linter.all false
namespace Go.Gv.F
open Go.Gv
variable {k:Int} {i j lim m n p t:Nat} {c:ZL} {cs ds:ah} {l:ak} {V W:al}
theorem Zvu (hl:W.length=V.length) (hw: ∀w∈W,w<18446744073709551616) (hv: ∀w∈V,w<18446744073709551616) (h: ∀b,dT W b=dT V b):W=V:=by
 refine List.ext_getElem hl λi h1 h2=>FP λj=>?_
 have a1:=hw _ (jP h1);have a2:=hv _ (jP h2);rcases jC j 64 with hj|hj
 .have:=h (64*i+j)
  unfold dT at this;rw[show(64*i+j)/64=i by omega,show(64*i+j)%64=j by omega,dZ,dZ,cg h1,cg h2,uS,uS]at this;exact this
 .rw[FT (lj a1 (mX (n:=2) (i:=64) (by decide) hj)),FT (lj a2 (mX (n:=2) (i:=64) (by decide) hj))]
theorem D2 {m:Nat} : ∀(ks:ak) {W:al},W.length=(m+63)/64->∀b:Nat,dT (ks.foldl (bU m) W) b=true↔dT W b=true\/((b:Int)∈ks/\b<m)
 |[],W,_,b=>by simp
 |a::ks,W,hl,b=>by
  rw[Df,D2 ks (by rw[tJ];exact hl) b,ya hl,l9,aW,bC,dW];grind[fT]
theorem uV (l:ak) (b:Nat):dT (kE m l) b=true↔(b:Int)∈l/\b<m:=by
 unfold kE;rw[D2 l (by simp) b,Zxt];simp
theorem ZxW {b:Nat} (h:dT W b=true):b<64*W.length:=by
 rcases jC b (64*W.length)with h1|h1
 .exact h1
 .unfold dT at h
  rw[dZ,FN (by omega)]at h;simp_all[fC]
theorem pN :k∈dC W↔ ∃b:Nat,k=(b:Int)/\dT W b=true:=by
 rw[ZpB];constructor
 .grind
 .rintro⟨b,rfl,hb⟩
  exact xO.2 ⟨b,List.mem_filter.2 ⟨Di.2 (ZxW hb),hb⟩,rfl⟩
def q8 (b:aj) (k:Nat):Bool:=fC (b.getD (k/8) 0).toNat (k%8)
theorem ZwP {b:aj} {k:Nat} (h:k/8<b.length):q8 (wH b k) j=(q8 b j||decide (j=k)):=by
 unfold q8 wH;rw[uS,uS,dZ];by_cases hq:k/8=j/8
 .rw[<-hq,mc h]
  simp only[Option.getD_some];have ax:(b.getD (k/8) 0).toNat|||2^(k%8)<256:=Nat.or_lt_two_pow (n:=8) (UInt8.toNat_lt _) (Jp (by decide) (by omega));rw[UInt8.toNat_ofNat_of_lt' ax,Nat.testBit_or,Nat.testBit_two_pow];grind
 grind
theorem QM (p:Nat): ∀(l:ak) (b:aj),b.length=48->∀j,j<384->q8 (sH p b l) j=(q8 b j||decide (((384*p+j:Nat):Int)∈l))
 |[],b,_,j,_=>by
  show q8 b j=_;simp
 |x::r,b,hb,j,hj=>by
  unfold sH;cases hx:inPlace p x with
  |false=>
   rw[af,QM p r b hb j hj];grind[inPlace]
  |true=>
   unfold inPlace at hx;rw[aW,bC,bC]at hx;rw[ae,QM p r _ (by rw[J7];exact hb) j hj,ZwP (by omega),Bool.or_assoc];grind
theorem ZuS (n j:Nat):q8 (List.replicate n 0) j=false:=by
 unfold q8;rw[dZ,List.getElem?_replicate];unfold fC;split<;>simp
theorem SO (h:i<384):w5 c (c.no*384+i)=q8 c.eF i:=by
 grind[w5,q8]
theorem RR (h:i<384):w5 (fN p l) (p*384+i)=decide (((384*p+i:Nat):Int)∈l):=by
 have:=SO (c:=fN p l) h;rw[show(fN p l).no=p from rfl]at this;rw[this];show q8 (sH p (List.replicate 48 0) l) i=_;rw[QM p l _ (by simp) i h,ZuS,zd]
theorem Kf :k∈eE c 384↔ ∃i,i<384/\k=((c.no*384+i:Nat):Int)/\w5 c (c.no*384+i)=true:=by
 grind[eE]
theorem ZrA {b:Nat} :(b:Int)∈eE (fN p l) 384↔(b:Int)∈l/\b/384=p:=by
 rw[Kf,show(fN p l).no=p from rfl];constructor
 .rintro⟨i,hi,e,hh⟩
  rw[RR hi,bC]at hh;grind
 .rintro⟨h1,h2⟩
  refine⟨b%384,Nat.mod_lt _ (by decide),by omega,?_⟩;rw[RR (Nat.mod_lt _ (by decide)),bC,show 384*p+b%384=b by omega];exact h1
theorem ZuV (h: ∀k∈l,k<(m:Int)):Bb m (fN p l)=false:=by
 unfold Bb;by_cases h0:0<(eE (fN p l) 384).length
 .rw[aw h0,ae]
  refine aD λhc=>?_
  have dI:eE (fN p l) 384≠[]:=by grind
  have hm:(eE (fN p l) 384).getLastD 0∈eE (fN p l) 384:=by
   rw[List.getLastD_eq_getLast?,List.getLast?_eq_some_getLast dI];simp
  obtain⟨i,_,e,_⟩:=Kf.1 hm;rw[e]at hm hc;have:=h _ (ZrA.1 hm).1;omega
 grind
theorem ZpT {m:Nat} {l:ak} (h: ∀k∈l,k<(m:Int)): ∀(c i:Nat) (W:al),W.length=(m+63)/64->(∀w∈W,w<18446744073709551616)->
  ∃F,zY m i ((List.range' i c).map λp=>fN p l) W=some F/\F.length=(m+63)/64/\(∀w∈F,w<18446744073709551616)/\∀b,dT F b=true↔dT W b=true\/((b:Int)∈l/\384*i<=b/\b<384*(i+c))
 |0,i,W,hl,hw=>⟨W,rfl,hl,hw,by grind⟩
 |c+1,i,W,hl,hw=>by
  obtain⟨q1,q2⟩:=oL m (eE (fN i l) 384) W;obtain⟨F,f1,f2,f3,f4⟩:=ZpT h c (i+1) ((eE (fN i l) 384).foldl (bU m) W) (by rw[q1];exact hl) (q2 hw);refine⟨F,?_,f2,f3,λb=>?_⟩
  .rw[Jn,pF]
   unfold zY;rw[show(fN i l).no=i from rfl,aw rfl,ZuV h];exact f1
  .rw[f4 b,D2 _ hl b,ZrA]
   grind
variable {β:Type}
theorem bn.Lr {s0 s:St} {a:ai} (h:bn s0 s a cs) {sz:Nat} (hz:0<sz) (hn:cs.length=n*sz) (hd:ds.length=m*sz) (hl:n+m<=lim):
  ∃p s',bn s0 s' p (cs++ds)/\∀K:ai->M β,cj sz a n ds m lim K s=K p s':=by
 rcases zi m with rfl|hm
 .rw[qK]at hd
  rw[Bm.1 hd,gA];exact⟨a,s,h,λK=>rfl⟩
 .exact h.app hz hn hm hl
def kN (l:ak):Prop:=l.Pairwise (· < ·)
theorem kN.nodup (h:kN l):l.Nodup:=h.imp λh e=>by omega
theorem Gq: ∀ {l m:ak},kN l->kN m->(∀k,k∈l↔k∈m)->l=m
 |[],[],_,_,_=>rfl
 |[],b::m,_,_,h=>by cases(h b).2 sb
 |a::l,[],_,_,h=>by cases(h a).1 sb
 |a::l,b::m,hl,hm,h=>by
  have h1:=List.pairwise_cons.1 hl;have h2:=List.pairwise_cons.1 hm;have e:a=b:=by
   rcases dW.1 ((h a).1 sb)with e|e
   .exact e
   .rcases dW.1 ((h b).2 sb)with e'|e'
    .exact e'.symm
    grind
  subst e;rw[Gq h1.2 h2.2 λk=>⟨λhk=>?_,λhk=>?_⟩]
  .grind
  grind
theorem Zp1 {k:Nat} {a:Int} (hr:kN l) (h1: ∀j (x:Int),k<=j->l[j]? =some x->a<x) (h2: ∀j (x:Int),j<k->l[j]? =some x->x<a):kN (l.take k++[a]++l.drop k)/\∀b,b∈l.take k++[a]++l.drop k↔b∈l\/b=a:=by
 have kX:l=l.take k++l.drop k:=by simp
 have ht: ∀x∈l.take k,x<a:=λx hx=>by
  obtain⟨j,hj⟩:=List.mem_iff_getElem?.1 hx;rw[wa]at hj;split at hj
  .grind
  .cases hj
 have hd: ∀x∈l.drop k,a<x:=λx hx=>by
  obtain⟨j,hj⟩:=List.mem_iff_getElem?.1 hx;rw[Bl]at hj;grind
 refine⟨?_,λb=>?_⟩
 .unfold kN at hr⊢
  rw[kX,Jm]at hr;rw[fA,Jm];grind
 grind
def Jr (st:St) (l:ak) (m a:Int) (o:Out ah×St):Prop:=∃(p:ai) (r:ak) (s':St),o=(.val [.slice 1 p r.length],s')/\aC st s'/\Sl s' p (ints r)/\kN r/\∀k,k∈r↔k∈l\/(k=a/\0<=a/\a<m)
variable {Bd:Zh} [h:HA Bd]
theorem Zk5 (n:Nat) (l:ak) (z:Nat) (p:ai) (m a:Int) (st:St) (hz:z=1\/p=none) (hs:Sl st p (ints l)) (hr:kN l) (hl:l.length<100000:=by omega) (hn:l.length+10<=n:=by omega):
  Ok (Jr st l m a) (run Bd n 205 [.slice z p l.length,.int .i64 m,.int .i64 a] st):=by
 obtain⟨n,rfl⟩: ∃k,n=k+1:=⟨n-1,by omega⟩;rw[Ze,h.abw];unfold Qv wE az nM cH Zm aY bE Li Lb eU;simp only[Zf 1 z p _ hz,av,aq,kl];have stay:(a∈l\/¬(0<=a/\a<m))->Ok (Jr st l m a) ((cu st.length [DV.slice 1 p l.length]:M ah) st):=λhc=>by
  rw[Zu];have hp:aC st (kh st.length st):=Zv (.refl st);refine .mk ⟨p,l,_,rfl,hp,hs.mono hp,hr,λk=>⟨.inl,λhk=>hk.elim id λhk=>?_⟩⟩;grind
 have jX:(ints l).length=l.length:=by simp[ints]
 rw[Za];have body:(0<=a/\a<m)->∀b,b=decide (a∈l)->Ok (Jr st l m a) ((bif b then(cu st.length [DV.slice 1 p l.length]:M ah)else
   cI (λWo=>aF .i64 Wo λk Wp=>aJ Wp<|
     aB (decide (0<=k)&&decide (k<=(l.length:Int)))<|
     dw p (k.toNat*1) λcs=>
     cj 1 none 0 cs k.toNat 8796093022208 λp2=>
     cd [.int .i64 a] λi=>
     bQ i 0 1 λbM=>
     cj 1 p2 (0+k.toNat) bM 1 8796093022208 λp1=>
     aB (decide (0<=k)&&decide (k<=(l.length:Int)))<|
     dw (dj true p (k.toNat*1)) ((l.length-k.toNat)*1) λcz=>
     cj 1 p1 (0+k.toNat+1) cz (l.length-k.toNat) 8796093022208 λp2=>
     cu st.length [.slice 1 p2 (0+k.toNat+1+(l.length-k.toNat))]) λaR=>
    cW (λaU st=>
     aF .i64 st λk1 st=>
     aJ st<|
     cI (λst=>gP st λb3 st=>aJ st<|
      bif b3 then
       aU [.int .i64 (ar (k1-1))]
      else
       aR [.int .i64 k1]) λbz=>
     bif decide (k1>0)then
      bJ p λi1 o=>
      aB (aP (ar (k1-1)) l.length)<|
      bF i1 (((ar (k1-1)).toNat)*1+o) λd=>
      cP .i64 d λx=>
      bz [.bool (decide (x>a))]
     else
      bz [.bool false]) n [.int .i64 (l.length:Int)]) st):=by
  intro Fi b hb;cases b with
  |true=>
   rw[ae];exact stay (by grind)
  |false=>
  rw[af];refine Ok.join λaR lW=>?_
  refine Zj _ (λq y t=>∃k:Nat,y=[.int .i64 (k:Int)]/\k<=l.length/\k<=q/\t=st/\∀j (x:Int),k<=j->l[j]? =some x->a<x) ?_ l.length n _ _ (by grind) (by omega);rintro q y t ⟨k,rfl,hk,hq,rfl,fL⟩ rec aQ;simp only[av,aq];have out:(∀j (x:Int),j<k->l[j]? =some x->x<a)->Ok (Jr t l m a) (aR [DV.int .i64 (k:Int)] t):=λom=>by
   subst lW;simp only[av,aq,br];rw[Zb (by rw[aW,bC,bC];omega)];have h1:=hs.lK k;have yu:((ints l).take k).length=k*1:=by rw[cV,jX];omega
   have e1: ∀K:ah->M ah,dw p (k*1) K t=K ((ints l).take k) t:=λK=>by
    have:=jf h1 K;rwa [yu]at this
   rw[e1];obtain⟨r1,s1,qh,Up⟩:=(bn.nil (aC.refl t)).Lr (β:=ah) (sz:=1) (n:=0) (m:=k) (lim:=8796093022208) (ds:=(ints l).take k) (by omega) rfl yu (by omega);rw[Up];rw[iL]at qh;obtain⟨r2,s2,df,xa⟩:=qh.push (β:=ah) (sz:=1) (n:=0+k) (lim:=8796093022208) [.int .i64 a] (by omega) (by rw[yu];omega) rfl (by omega);rw[xa];rw[Zb (by rw[aW,bC,bC];omega)];have h2:=(hs.mono df.1).dj (k:=k) (by omega);have Hy:((ints l).drop k).length=(l.length-k)*1:=by rw[fb,jX];omega
   have e2: ∀K:ah->M ah,dw (dj true p (k*1)) ((l.length-k)*1) K s2=K ((ints l).drop k) s2:=λK=>by
    rw[cT k];have:=jf h2 K;rwa [Hy]at this
   rw[e2];obtain⟨r3,s3,mG,Uq⟩:=df.Lr (β:=ah) (sz:=1) (n:=0+k+1) (m:=l.length-k) (lim:=8796093022208) (ds:=(ints l).drop k) (by omega) (by rw[bA,yu,iK];omega) Hy (by omega);rw[Uq,Zu];obtain⟨c1,c2⟩:=Zp1 hr fL om;have gx:(ints l).take k++[DV.int .i64 a]++(ints l).drop k=ints (l.take k++[a]++l.drop k):=by
    simp[ints,List.map_take,List.map_drop]
   rw[gx]at mG;have Cw:(l.take k++[a]++l.drop k).length=0+k+1+(l.length-k):=by
    grind
   refine .mk ⟨r3,_,_,by rw[Cw],Zv mG.1,mG.sl.fK _,c1,λb=>?_⟩;rw[c2];grind
  rw[Za];by_cases lD:k=0
  .rw[aD (show ¬(k:Int)>0 by omega),af]
   simp only[au,aq,af];grind
  .obtain⟨i1,o1,rfl⟩:=hs.cB (by rw[jX];omega)
   have jG:k-1<l.length:=by omega
   have cZ:(ints l)[k-1]? =some (.int .i64 l[k-1]):=ZA jG;have vt:l[k-1]? =some l[k-1]:=cg jG;have jc:l[k-1]∈l:=jP jG;rw[aw (show(k:Int)>0 by omega),ae,aZ,Zc,show(k:Int)-1=((k-1:Nat):Int) by omega,Zb (Zi jG)];simp only[br];rw[hs.dF cZ];simp only[aX,au,aq];generalize l[k-1]=w at cZ vt jc;by_cases hw:w>a
   .rw[aw hw,ae]
    refine aQ (k-1) _ _ (by omega) ⟨k-1,rfl,by omega,aO _,rfl,λj x hj hx=>?_⟩;by_cases uh:j=k-1
    .rw[uh,vt]at hx
     grind
    grind
   .rw[aD hw,af]
    refine out λj x hj hx=>?_
    by_cases uh:j=k-1
    .rw[uh,vt]at hx
     grind
    .have AH:=(eK.1 hx)
     obtain⟨yC,HT⟩:=AH;obtain⟨iR,hk3⟩:=eK.1 vt;have:=Nv.1 hr j (k-1) yC iR (by omega);rw[HT,hk3]at this;omega
 by_cases ha0:a<0
 .rw[aw ha0,ae]
  simp only[au,aq];rw[Za,ae];simp only[au,aq];rw[ae];grind
 .rw[aD ha0,af]
  simp only[au,aq];rw[Za];by_cases ham:a>=m
  .rw[aw ham,ae]
   simp_all
  .rw[aD ham,af]
   refine Ok.call (BC n 1 l a p st (.inl rfl) hs) ?_;rintro _ rfl;refine⟨_,st,rfl,?_⟩;simp only[au,aq];exact body ⟨by omega,by omega⟩ _ rfl
def iU (img:aj) (k:Int):Option (aj):=if k<0\/((img.length/64:Nat):Int)<=k then none else some (mL img k.toNat)
theorem DA (n:Nat) (img:aj) (k:Int) (st:St) (hl:img.length<1000000):
  Ok (λo=>∃s',aC st s'/\match iU img k with
   |none=>o=(.val [.slice 0 none 0,.bool false],s')
   |some l=>∃p,o=(.val [.slice 1 p 64,.bool true],s')/\wi s' p l/\l.length=64) (run Bd (n+1) 208 [.str img,.int .i64 k] st):=by
 rw[Ze,h.aby];unfold Pw oG az tt Lb;simp only[bO,av,aq,kl];rw[Za];have ediv:ar (((img.length:Nat):Int).tdiv 64)=((img.length/64:Nat):Int):=by
  rw[show((img.length:Nat):Int).tdiv 64=((img.length/64:Nat):Int)from rfl];exact Zc
 unfold iU;by_cases h0:k<0
 .rw[aw h0,ae,bG (.inl h0)]
  simp only[au,aq];rw[ae,Zu];exact .mk ⟨_,Zv (.refl st),rfl⟩
 .rw[aD h0,af,ediv]
  simp only[au,aq];by_cases h1:k>=((img.length/64:Nat):Int)
  .rw[aw h1,ae,bG (.inr h1),Zu]
   exact .mk ⟨_,Zv (.refl st),rfl⟩
  .rw[aD h1,af,ba (by omega)]
   obtain⟨a,rfl⟩: ∃a:Nat,k=(a:Int):=⟨k.toNat,by omega⟩;rw[Zc (x:=64*(a:Int)),Zc (x:=64*(a:Int)+64),show(64*(a:Int)+64)=((64*a+64:Nat):Int) by omega,show(64*(a:Int))=((64*a:Nat):Int) by omega];simp only[br];rw[Zb (by rw[aW,bC,bC];omega),Zb (by rw[aW,bC,bC];omega)];have UP:(img.take (64*a+64)).drop (64*a)=mL img a:=by
    grind[mL]
   have Mj:(mL img a).length=64:=by
    grind
   rw[UP,Zz,Zu];have ho:bn st (st++[some (⟨false,bZ (mL img a)⟩:bT)]) (some (st.length,0)) (bZ (mL img a)):=⟨.new _ _,(by simp)⟩;exact .mk ⟨_,Zv ho.1,_,by rw[Mj];rfl,ho.fz,Mj⟩
def F4 (m:Int) (l cs r:ak):Prop:=kN r/\∀k,k∈r↔k∈l\/(k∈cs/\0<=k/\k<m)
def R8 (img:aj) (x:dY) (l:ak):Prop:=(∀c∈x.aL,c∉l)/\∃r,F4 x.blocks l x.aL r/\∀i c,x.aL[i]? =some c->iU img c=some (si (fN i r))
theorem ZmM (n:Nat) (img:aj) (x:dY) (pc:ai) (l:ak) (p:ai) (st:St) (hc:Sl st pc (ints x.aL)) (hs:Sl st p (ints l)) (hr:kN l) (hl:l.length<50000) (hx: ∀k∈l,0<=k/\k<1000000) (hm:x.blocks<1000000) (cL:x.aL.length<1000) (jX:img.length<1000000) (hn:l.length+x.aL.length+1000<=n):
  Ok (λo=>∃b s',o=(.val [.bool b],s')/\aC st s'/\(b=true↔R8 img x l)) (run Bd n 178 [.str img,.agg (dO x pc),.slice 1 p l.length] st):=by
 obtain⟨n,rfl⟩: ∃k,n=k+1:=⟨n-1,by omega⟩;rw[Ze,h.aa8];unfold OQ BA cm fX Q_ cH Zn oC az jD lu aY lN Lb eH Li tr eU ja bE;simp only[bO];rw[de];unfold dO;simp only[av,bd,aq];refine Ok.join λaA qd=>?_
 refine Zj _ (λq y t=>∃(i:Nat) (r:ak) (p':ai),y=[.slice 1 p' r.length,.int .i64 (i:Int)]/\i<=x.aL.length/\x.aL.length-i<=q/\aC st t/\Sl t p' (ints r)/\kN r/\r.length<=l.length+i/\(∀c∈x.aL.take i,c∉l)/\∀k,k∈r↔k∈l\/(k∈x.aL.take i/\0<=k/\k<x.blocks)) ?_ x.aL.length n _ _ ⟨0,l,p,rfl,cE _,by omega,.refl _,hs,hr,by omega,λc hc=>by simp at hc,λk=>by simp⟩ (by omega);rintro q y t ⟨i,r,p',rfl,hi,hq,hp,hf,AS,CG,cA,jc⟩ rec aQ;simp only[bd,av,aq];by_cases ax:i<x.aL.length
 .obtain⟨i1,o1,rfl⟩:=hc.cB (by simp[ints];omega)
  have cZ:(ints x.aL)[i]? =some (.int .i64 x.aL[i]):=ZA ax;have vt:x.aL[i]? =some x.aL[i]:=cg ax;have fZ:x.aL.take (i+1)=x.aL.take i++[x.aL[i]]:=mV ax;have hmc:x.aL[i]∈x.aL:=jP ax;rw[aw (show(i:Int)<(x.aL.length:Int) by omega),ae,aZ,Zb (Zi ax)];simp only[br];rw[(hc.mono hp).dF cZ];simp only[aX];generalize x.aL[i]=w at cZ vt fZ hmc;refine Ok.call (BC n 1 l w p t (.inl rfl) (hs.mono hp)) ?_;rintro _ rfl;refine⟨_,t,rfl,?_⟩;simp only[au,aq];by_cases hw:w∈l
  .rw[aw hw,ae,Zd]
   refine .mk ⟨false,t,rfl,hp,⟨λe=>(by cases e),λhP=>absurd hw (hP.1 w hmc)⟩⟩
  .rw[aD hw,af,aZ,Zb (Zi ax),(hc.mono hp).dF cZ]
   simp only[aX];refine Ok.call (Zk5 n r 1 p' x.blocks w t (.inl rfl) hf AS) ?_;rintro _ ⟨p2,r2,s2,rfl,aV,nn,jH,gF⟩;refine⟨_,s2,rfl,?_⟩;simp only[bd,aq];rw[Zc];refine aQ (x.aL.length-(i+1)) _ _ (by omega) ⟨i+1,r2,p2,rfl,by omega,aO _,hp.trans aV,nn,jH,?_,λc hc=>?_,λk=>?_⟩
   .have:r2.length<=(w::r).length:=BI jH.nodup λk hk=>by
     grind
    rw[cO]at this;omega
   .rw[fZ]at hc
    grind
   .rw[gF,jc,fZ,gU,cx]
    constructor
    .grind
    grind
 .rw[aD (show ¬(i:Int)<(x.aL.length:Int) by omega),af,qd]
  rw[dH (by omega)]at cA jc;have hW:F4 x.blocks l x.aL r:=⟨AS,jc⟩;have ae7: ∀r',F4 x.blocks l x.aL r'->r'=r:=λr' h'=>Gq h'.1 AS λk=>by rw[h'.2,jc]
  have Fk: ∀k∈r,0<=k/\k<1000000:=λk hk=>by
   grind
  simp only[bd,aq];refine Ok.join λaI jY=>?_
  refine Zj _ (λq y u=>∃j:Nat,y=[.int .i64 (j:Int)]/\j<=x.aL.length/\x.aL.length-j<=q/\aC st u/\Sl u p' (ints r)/\∀i c,i<j->x.aL[i]? =some c->iU img c=some (si (fN i r))) ?_ x.aL.length n _ _ ⟨0,rfl,cE _,by omega,hp,hf,λi c hi=>by omega⟩ (by omega);rintro q2 y2 u ⟨j,rfl,hj,CF,Ig,fk,cQ⟩ dt j4;simp only[av,aq];have EJ: ∀(c:Int) (u':St),x.aL[j]? =some c->iU img c≠some (si (fN j r))->aC st u'->Ok (λo=>∃b s',o=(.val [.bool b],s')/\aC st s'/\(b=true↔R8 img x l)) ((ay [.bool false]:M ah) u'):=λc u' hcj dI aeF=>by
   rw[Zd];refine .mk ⟨false,u',rfl,aeF,⟨λe=>(by cases e),?_⟩⟩;rintro⟨_,r',h1,h2⟩;rw[ae7 r' h1]at h2;exact absurd (h2 j c hcj) dI
  by_cases jZ:j<x.aL.length
  .obtain⟨i1,o1,rfl⟩:=hc.cB (by simp[ints];omega)
   have cZ:(ints x.aL)[j]? =some (.int .i64 x.aL[j]):=ZA jZ;have vt:x.aL[j]? =some x.aL[j]:=cg jZ;rw[aw (show(j:Int)<(x.aL.length:Int) by omega),ae,aZ,Zb (Zi jZ)];simp only[br];rw[(hc.mono Ig).dF cZ];simp only[aX];generalize x.aL[j]=w at cZ vt;obtain⟨n,rfl⟩: ∃k,n=k+1:=⟨n-1,by omega⟩;refine Ok.call (DA n img w u jX) ?_;rintro o ⟨u2,aV,ho⟩;cases mF:iU img w with
   |none=>
    rw[mF]at ho;simp only at ho;subst ho;refine⟨_,u2,rfl,?_⟩;simp only[Zf 1 0 none _ (.inr rfl),au,aq];rw[Za,bm,ae];simp only[au,aq];rw[ae];exact EJ w u2 vt (by rw[mF];intro e;cases e) (Ig.trans aV)
   |some b=>
    rw[mF]at ho;simp only at ho;obtain⟨pl,rfl,ew,ix⟩:=ho;refine⟨_,u2,rfl,?_⟩;simp only[bd,au,aq];rw[Za,bp,af];have erd: ∀K:ah->M ah,dw pl 64 K u2=K (bZ b) u2:=λK=>by
     have:=jf (show Sl _ pl (bZ b)from ew.1) K;rwa [Zt,ix]at this
    rw[erd];rw[<-ly,nK];refine Ok.lT (ZkL (n+1) j r p' 1 u2 (.inl rfl) (fk.mono aV) (by omega) (by omega) Fk (by omega)) ?_;rintro _ rfl;refine⟨_,u2,rfl,.refl _,?_⟩;rw[de];unfold ZS;have vj:(fN j r).eF.length=48:=by
     show(sH j (List.replicate 48 0) r).length=48;rw[Gu];simp
    simp only[av];unfold bu;rw[Zt,vj,show Nat.beq 48 48=true from rfl,ae];simp only[aq];refine Ok.lT (ZlR (n+1) (fN j r) vj u2) ?_;rintro _ ⟨u3,rfl,ck⟩;refine⟨_,u3,rfl,ck,?_⟩;simp only[bO,au,aq];cases Cm:(b==si (fN j r))with
    |true=>
     have Cm:=eq_of_beq Cm;rw[bp,af,Zc];refine j4 (x.aL.length-(j+1)) _ _ (by omega) ⟨j+1,rfl,by omega,aO _,Ig.trans (aV.trans ck),fk.mono (aV.trans ck),λi c hi EU=>?_⟩;by_cases oU:i=j
     .subst oU
      rw[vt]at EU;cases EU;rw[mF,Cm]
     .exact cQ i c (by omega) EU
    |false=>
     rw[bm,ae];refine EJ w u3 vt (λe=>?_) (Ig.trans (aV.trans ck));rw[mF]at e;rw[Dq e,Bo]at Cm;cases Cm
  .rw[aD (show ¬(j:Int)<(x.aL.length:Int) by omega),af,jY]
   simp only[aq,Zd];refine .mk ⟨true,u,rfl,Ig,⟨λ_=>⟨cA,r,hW,λi c EU=>cQ i c ?_ EU⟩,λ_=>rfl⟩⟩;have:=(eK.1 EU).1;omega
theorem Qn {l:aj} (h:ZG l=true):l=kP l.length:=by
 unfold ZG at h;rw[uF]at h;unfold kP;exact List.eq_replicate_iff.2 (by grind)
theorem ZqL (c:UInt8):qD ((c.toNat:Nat):Int)=c:=by
 unfold qD;have:(((c.toNat:Nat):Int)%256).toNat=c.toNat:=by
  have:=c.toNat_lt;omega
 rw[this,UInt8.ofNat_toNat]
theorem tE {l:aj} {k:Nat} {b:aj} (h:gf l=some (k,t,b)):l=iz k t b/\b.length=56/\k<256/\t<256:=by
 unfold gf at h;cases hr:sF l with
 |false=>rw[hr]at h;cases h
 |true=>
  rw[hr,ae]at h;cases h;unfold sF at hr;rw[aW,aW,aW,bC,bC]at hr;obtain⟨p7,_,h2,h3⟩:=hr;have hb:(l.drop 8).length=56:=by rw[fb];omega
  have hf:jo (l.drop 8) 56=l.drop 8:=by
   simp_all[jo,kP]
  have hz:=Qn h2;have qo:((l.drop 6).take 2).length=2:=by rw[cV,fb];omega
  rw[qo]at hz;have hS:ou ((l.getD 4 0).toNat:Nat) ((l.getD 5 0).toNat:Nat) (l.drop 8)=l.drop 4:=by
   unfold ou;rw[ZqL,ZqL,hf];have e1:l.drop 4=l.getD 4 0::l.getD 5 0::l.drop 6:=by
    rw[iC (by omega),iC (show 4+1<l.length by omega),dZ,dZ,cg (by omega),cg (by omega)];rfl
   have e2:l.drop 6=[0,0]++l.drop 8:=by
    have:=oA 2 (l.drop 6);rw[hz,kd]at this;exact this.symm
   rw[e1,e2];rfl
  refine⟨?_,hb,UInt8.toNat_lt _,UInt8.toNat_lt _⟩;unfold iz;rw[hS,h3];have h4:(l.take 4).length=4:=by rw[cV];omega
  have:=RN (l.take 4);rw[h4]at this;rw[this,oA]
theorem Zsi {l:aj} (h:wv l=some c):l=si c/\c.eF.length=48/\c.no<8:=by
 unfold wv at h;cases ho:gf l with
 |none=>rw[ho]at h;cases h
 |some q=>
  obtain⟨k,t,b⟩:=q;rw[ho]at h;simp only at h;obtain⟨h1,h2,h3,h4⟩:=tE ho;cases hc:(decide (k=4)&&(decide (t<8)&&ZG (b.drop 48)))with
  |false=>rw[hc]at h;cases h
  |true=>
   rw[hc,ae]at h;cases h;rw[aW,aW,bC,bC]at hc;obtain⟨rfl,h5,h6⟩:=hc;refine⟨?_,by rw[cV];omega,h5⟩;have hz:=Qn h6;have qo:(b.drop 48).length=8:=by rw[fb];omega
   rw[qo]at hz;have hf:jo (b.take 48) 56=jo b 56:=by
    unfold jo;have hl:(b.take 48).length=48:=by rw[cV];omega
    rw[hl,h2,<-hz,oA];simp[kP]
   rw[h1];grind[si,iz,ou]
theorem ZwG {a b:aj} (ha:a.length=48) (hb:b.length=48) (h: ∀j,j<384->q8 a j=q8 b j):a=b:=by
 refine List.ext_getElem (by omega) λi h1 h2=>?_
 refine FV.1 (FP λj=>?_);have l1:=a[i].toNat_lt;have l2:=b[i].toNat_lt;rcases jC j 8 with hj|hj
 .have:=h (8*i+j) (by omega)
  unfold q8 at this;rw[show(8*i+j)/8=i by omega,show(8*i+j)%8=j by omega,dZ,dZ,cg h1,cg h2,uS,uS]at this;exact this
 .rw[FT (lj l1 (mX (n:=2) (i:=8) (by decide) hj)),FT (lj l2 (mX (n:=2) (i:=8) (by decide) hj))]
theorem Kh {img:aj} {m:Nat} {W:al} : ∀ {ks:ak} {cs:List ZL},vi img m W ks=some cs↔(cs.length=ks.length/\∀(i:Nat) (k:Int),ks[i]? =some k->∃c,cs[i]? =some c/\wv (ZB img k.toNat)=some c/\(fT m k&&dT W k.toNat)=false)
 |[],cs=>by
  constructor
  .intro h
   cases h;simp
  .rintro⟨h,_⟩
   rw[Bm.1 h];rfl
 |k::ks,cs=>by
  unfold vi;constructor
  .intro h
   cases hg:wv (ZB img k.toNat)with
   |none=>rw[hg]at h;cases h
   |some c=>
    rw[hg]at h;simp only at h;cases hb:(fT m k&&dT W k.toNat)with
    |true=>rw[hb]at h;cases h
    |false=>
     rw[hb,af]at h;cases hr:vi img m W ks with
     |none=>rw[hr]at h;cases h
     |some cs'=>
      rw[hr]at h;cases h;obtain⟨h1,h2⟩:=Kh.1 hr;grind
  .rintro⟨h1,h2⟩
   cases cs with
   |nil=>cases h1
   |cons c cs=>
    obtain⟨c',e1,e2,e3⟩:=h2 0 k rfl;cases e1;rw[e2];simp only;rw[e3,af,Kh.2 ⟨by simpa using h1,λi k' xf=>h2 (i+1) k' (by simpa using xf)⟩];rfl
theorem Zwz (h:k∈eE c 384): ∃b:Nat,k=(b:Int)/\b/384=c.no/\w5 c b=true:=by
 obtain⟨i,hi,rfl,hh⟩:=Kf.1 h;grind
theorem ZqO (c:ZL):(eE c 384).Pairwise (· < ·):=by
 unfold eE;rw[List.pairwise_map];refine List.Pairwise.imp (λ{a b} h=>?_) (List.Pairwise.sublist List.filter_sublist List.pairwise_lt_range);omega
theorem Zwm :Bb m c=false↔ ∀k∈eE c 384,k<(m:Int):=by
 unfold Bb;by_cases h0:0<(eE c 384).length
 .rw[aw h0,ae,wg]
  have dI:eE c 384≠[]:=by grind
  have hl:(eE c 384).getLastD 0=(eE c 384).getLast dI:=by rw[List.getLastD_eq_getLast?,List.getLast?_eq_some_getLast dI];rfl
  rw[hl];constructor
  .intro h k hk
   obtain⟨i,hi⟩:=List.mem_iff_getElem?.1 hk;obtain⟨HR,HS⟩:=eK.1 hi;have HW:(eE c 384).getLast dI=(eE c 384)[(eE c 384).length-1]'(by omega):=List.getLast_eq_getElem dI;rw[HW]at h;rcases jC i ((eE c 384).length-1)with h1|h1
   .have:=Nv.1 (ZqO c) i ((eE c 384).length-1) HR (by omega) h1
    omega
   grind
  simp_all
 grind
theorem ZnK {m:Nat} : ∀ {cs:List ZL} {i:Nat} {W F:al},W.length=(m+63)/64->(∀w∈W,w<18446744073709551616)->zY m i cs W=some F->
  F.length=(m+63)/64/\(∀w∈F,w<18446744073709551616)/\(∀j c,cs[j]? =some c->c.no=i+j/\∀k∈eE c 384,k<(m:Int))/\∀b:Nat,dT F b=true↔dT W b=true\/∃(j:Nat) (c:ZL),cs[j]? =some c/\(b:Int)∈eE c 384
 |[],i,W,F,hl,hw,h=>by
  cases h;grind
 |c::cs,i,W,F,hl,hw,h=>by
  unfold zY at h;cases hb:(decide (c.no=i)&& !Bb m c)with
  |false=>rw[hb]at h;cases h
  |true=>
   rw[hb,ae]at h;rw[aW,bC,lL]at hb;obtain⟨h1,h2⟩:=hb;have h2:=Zwm.1 h2;obtain⟨q1,q2⟩:=oL m (eE c 384) W;obtain⟨f1,f2,f3,f4⟩:=ZnK (by rw[q1];exact hl) (q2 hw) h;refine⟨f1,f2,λj c' hc'=>?_,λb=>?_⟩
   .grind
   .rw[f4 b,D2 _ hl b]
    constructor
    .rintro((h3|⟨h3,_⟩)|⟨j,c',h3,h4⟩)
     .exact .inl h3
     .exact .inr ⟨0,c,rfl,h3⟩
     .exact .inr ⟨j+1,c',by simpa using h3,h4⟩
    grind
theorem zJ (W:al):kN (dC W):=by
 rw[ZpB];unfold kN;rw[List.pairwise_map];refine List.Pairwise.imp (λ{a b} h=>?_) (List.Pairwise.sublist List.filter_sublist List.pairwise_lt_range);omega
theorem Zxx (h:m<=3072):pD (m:Int) 384=(((m+383)/384:Nat):Int):=by
 unfold pD;rw[Zc (x:=(m:Int)+384),Zc (x:=(m:Int)+384-1),show((m:Int)+384-1)=((m+383:Nat):Int) by omega,show(((m+383:Nat):Int).tdiv 384)=(((m+383)/384:Nat):Int)from rfl];exact Zc
theorem ZsF {img:aj} {x:dY} (hx:pK x) (hl:W.length=(x.blocks.toNat+63)/64) (hw: ∀w∈W,w<18446744073709551616) (hm: ∀b,dT W b=true->b<x.blocks.toNat) (Cs:x.blocks<=((img.length/64:Nat):Int)):zS img x W=true↔R8 img x (dC W):=by
 obtain⟨g1,g2,_⟩:=Z2 hx.g;obtain⟨m,kB⟩: ∃m:Nat,x.blocks=(m:Int):=by grind
 have jv:x.blocks.toNat=m:=by omega
 rw[jv]at hl hm;have cL:x.aL.length=(m+383)/384:=by
  have:=hx.len;rw[Znn hx.g,jv]at this;omega
 have od: ∀i (k:Int),x.aL[i]? =some k->2<=k/\k<(m:Int):=λi k hk=>by
  have hi:=(eK.1 hk).1;have h1:=(hx.ch i hi).1;rw[dZ,hk]at h1;have:=(RS x _).1 h1;rw[kB]at this;exact this
 have XP: ∀i (k:Int),x.aL[i]? =some k->iU img k=some (ZB img k.toNat):=λi k hk=>by
  have:=od i k hk;grind[iU,Yu]
 have h0:(kE m []).length=(m+63)/64:=by unfold kE;simp
 have Hx: ∀w∈kE m [],w<18446744073709551616:=λw hw=>by
  grind[kE]
 obtain⟨q1,q2⟩:=oL m (dC (kE m x.aL)) W;have hR: ∀b:Nat,dT ((dC (kE m x.aL)).foldl (bU m) W) b=true↔dT W b=true\/((b:Int)∈x.aL/\b<m):=λb=>by
  rw[D2 _ hl b,pN];constructor
  .rintro(h|⟨⟨b',e,h⟩,h2⟩)
   .exact .inl h
   .have:b'=b:=by omega
    subst this;exact .inr ((uV _ _).1 h)
  .rintro(h|h)
   .exact .inl h
   .exact .inr ⟨⟨b,rfl,(uV _ _).2 h⟩,h.2⟩
 have hWP: ∀r,F4 x.blocks (dC W) x.aL r->∀b:Nat,(b:Int)∈r↔dT W b=true\/((b:Int)∈x.aL/\b<m):=λr hr b=>by
  rw[hr.2,pN,kB];constructor
  .rintro(⟨b',e,h⟩|⟨h1,_,h3⟩)
   .grind
   grind
  grind
 unfold zS;rw[jv];constructor
 .intro h
  cases hg:vi img m W x.aL with
  |none=>rw[hg]at h;cases h
  |some cs=>
   rw[hg]at h;simp only at h;obtain⟨agD,kU⟩:=Kh.1 hg;cases hf:Am m cs with
   |none=>rw[hf]at h;cases h
   |some F=>
    rw[hf]at h;simp only at h;have hFe:=qL h;unfold Am at hf;cases hd:decide ((cs.length:Int)=pD (m:Int) 384)with
    |false=>rw[hd]at hf;cases hf
    |true=>
     rw[hd,ae]at hf;obtain⟨f1,f2,f3,f4⟩:=ZnK h0 Hx hf;have hF: ∀b:Nat,dT F b=true↔ ∃(j:Nat) (c:ZL),cs[j]? =some c/\(b:Int)∈eE c 384:=λb=>by
      rw[f4 b,uV];constructor
      .rintro(⟨h1,_⟩|h1)
       .cases h1
       .exact h1
      .exact .inr
     have afb:F4 x.blocks (dC W) x.aL (dC F):=by
      refine⟨zJ F,λk=>?_⟩;rw[pN,pN];constructor
      .grind
      .rintro(⟨b,rfl,hb⟩|⟨h1,h2,h3⟩)
       .grind
       .refine⟨k.toNat,by omega,?_⟩
        rw[hFe];refine(hR _).2 (.inr ⟨?_,by omega⟩);rw[Int.toNat_of_nonneg h2];exact h1
     refine⟨λc hc jc=>?_,dC F,afb,λi k hk=>?_⟩
     .obtain⟨i,hi⟩:=List.mem_iff_getElem?.1 hc
      obtain⟨c',_,_,e3⟩:=kU i c hi;obtain⟨b,rfl,hb⟩:=pN.1 jc;rw[br,hb,y9]at e3;unfold fT at e3;have:=od i _ hi;rw[aw (show(0:Int)<=(b:Int) by omega),aw (show(b:Int)<(m:Int) by omega)]at e3;cases e3
     .obtain⟨c,e1,e2,e3⟩:=kU i k hk
      obtain⟨a1,a2,a3⟩:=Zsi e2;obtain⟨b1,b2⟩:=f3 i c e1;rw[eW]at b1;rw[XP i k hk,a1];have hce:c=fN i (dC F):=by
       have vj:(fN i (dC F)).eF.length=48:=by
        show(sH i (List.replicate 48 0) (dC F)).length=48;rw[Gu];simp
       have X0:c.eF=(fN i (dC F)).eF:=by
        refine ZwG a2 vj λj hj=>?_
        have e4:=SO (c:=c) hj;have e5:=RR (p:=i) (l:=dC F) hj;have e6:=SO (c:=fN i (dC F)) hj;rw[show(fN i (dC F)).no=i from rfl]at e6;rw[<-e4,<-e6,e5,b1,lg,bC,pN];constructor
        .intro hh
         refine⟨384*i+j,rfl,(hF _).2 ⟨i,c,e1,Kf.2 ⟨j,hj,by rw[b1,Bn],by rw[b1];exact hh⟩⟩⟩
        .rintro⟨b,e,hb⟩
         have:b=384*i+j:=by omega
         subst this;obtain⟨i',c',e7,e8⟩:=(hF _).1 hb;obtain⟨b',e9,e10,e11⟩:=Zwz e8;obtain⟨b3,_⟩:=f3 i' c' e7;have:b'=384*i+j:=by omega
         subst this;have:i'=i:=by omega
         grind
       cases c with
       |mk no eF=>
        simp only at b1 X0;rw[b1,X0];rfl
      rw[<-hce]
 .rintro⟨cA,r,hr,nu⟩
  have hrm: ∀k∈r,k<(m:Int):=λk hk=>by
   rcases(hr.2 k).1 hk with h1|h1
   .obtain⟨b,rfl,hb⟩:=pN.1 h1
    have:=hm b hb;omega
   .omega
  have adK:vi img m W x.aL=some ((List.range' 0 x.aL.length).map λp=>fN p r):=by
   refine Kh.2 ⟨by simp,λi k hk=>?_⟩;have hi:=(eK.1 hk).1;refine⟨fN i r,?_,?_,?_⟩
   .rw[xN,List.getElem?_range' hi]
    grind
   .have h1:=nu i k hk
    rw[XP i k hk]at h1;rw[Dq h1];exact(ZtH (by show i<8;omega) (by show(sH i (List.replicate 48 0) r).length=48;rw[Gu];simp)).2
   .cases gx:dT W k.toNat with
    |false=>exact Bg _
    |true=>
     have:=od i k hk;exact absurd (pN.2 ⟨k.toNat,by omega,gx⟩) (cA k (qJ hk))
  obtain⟨F,f1,f2,f3,f4⟩:=ZpT hrm x.aL.length 0 (kE m []) h0 Hx;rw[adK];simp only;unfold Am;rw[uG,List.length_range',Zxx (by omega),cL,aw rfl,ae,<-cL,f1];refine aw (Zvu (by rw[f2,q1,hl]) f3 (q2 hw) λb=>?_);rw[lg,f4 b,hR b,uV,hWP r hr b];constructor
  .grind
  .intro h1
   refine .inr ⟨h1,by omega,?_⟩;rcases h1 with h1|h1
   .have:=hm b h1
    omega
   .omega
end Go.Gv.F
