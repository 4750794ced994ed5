/- Charts that were made are right. No program in sight. -/
import Derived.Test.YtegglibipjjblaaGreatDoorGvZMf
set_option linter.all false
namespace Go.Gv.F
open Go.Gv
variable {i j k lim m n p t:Nat} {s s0:St} {c:ZS} {cs ds:ah} {l:ak} {V W:al}
theorem Zru (hl:W.length=V.length) (hw: ∀w∈W,w<18446744073709551616) (hv: ∀w∈V,w<18446744073709551616) (h: ∀b,cD W b=cD V b):W=V:=by
 refine List.ext_getElem hl λi h1 h2=>H4 λj=>?_
 have a1:=hw _ (jj h1);have a2:=hv _ (jj h2);rcases jw j 64 with hj|hj
 .have:=h (64*i+j)
  unfold cD at this;rw[show(64*i+j)/64=i by omega,show(64*i+j)%64=j by omega,cz,cz,cc h1,cc h2,xi,xi]at this;exact this
 .rw[FK (mE a1 (pB (n:=2) (i:=64) EQ hj)),FK (mE a2 (pB (n:=2) (i:=64) EQ hj))]
theorem uR {m:Nat} : ∀(ks:ak) {W:al},W.length=(m+63)/64->∀b:Nat,cD (ks.foldl (bA m) W) b=true↔cD W b=true\/((b:Int)∈ks/\b<m)
 |[],W,_,b=>by simp
 |a::ks,W,hl,b=>by
  rw[zZ,uR ks (by rw[np];exact hl) b,oz hl,mB,aS,bq,ep];grind[fe]
theorem rb (l:ak) (b:Nat):cD (gD m l) b=true↔(b:Int)∈l/\b<m:=by
 unfold gD;rw[uR l Do b,ZvD];simp
theorem ZBc {b:Nat} (h:cD W b=true):b<64*W.length:=by
 rcases jw b (64*W.length)with h1|h1
 .exact h1
 .unfold cD at h
  rw[cz,Dx AC]at h;simp_all[eN]
theorem Z7 {k:Int} :k∈dz W↔ ∃b:Nat,k=(b:Int)/\cD W b=true:=by
 rw[Zrf];constructor
 .grind
 .rintro⟨b,rfl,hb⟩
  exact jK.2 ⟨b,FD.2 ⟨uG.2 (ZBc hb),hb⟩,rfl⟩
def tL (b:aj) (k:Nat):Bool:=eN (b.getD (k/8) 0).toNat (k%8)
theorem ZyZ {b:aj} (h:k/8<b.length):tL (yD b k) j=(tL b j||decide (j=k)):=by
 unfold tL yD;rw[xi,xi,cz];by_cases hq:k/8=j/8
 .rw[<-hq,ke h]
  rw[Option.getD_some];have av:(b.getD (k/8) 0).toNat|||2^(k%8)<256:=Nat.or_lt_two_pow (n:=8) (UInt8.toNat_lt _) (Ml EQ AC);rw[UInt8.toNat_ofNat_of_lt' av,Nat.testBit_or,Nat.testBit_two_pow];grind
 grind
theorem UQ (p:Nat): ∀(l:ak) (b:aj),b.length=48->∀j,j<384->tL (tJ p b l) j=(tL b j||decide (((384*p+j:Nat):Int)∈l))
 |[],b,_,j,_=>by
  show tL b j=_;simp
 |x::r,b,hb,j,hj=>by
  unfold tJ;cases hx:inPlace p x
  .rw[af,UQ p r b hb j hj];grind[inPlace]
  .unfold inPlace at hx;rw[aS,bq,bq]at hx;rw[ae,UQ p r _ (by rw[M8];exact hb) j hj,ZyZ AC,Bool.or_assoc];grind
theorem Zyy (n j:Nat):tL (List.replicate n 0) j=false:=by
 unfold tL;rw[cz,Fy];unfold eN;split<;>simp
theorem Ws (h:i<384):yW c (c.no*384+i)=tL c.fu i:=by
 grind[yW,tL]
theorem V3 (h:i<384):yW (gI p l) (p*384+i)=decide (((384*p+i:Nat):Int)∈l):=by
 have:=Ws (c:=gI p l) h;rw[show(gI p l).no=p from rfl]at this;rw[this];show tL (tJ p (List.replicate 48 0) l) i=_;rw[UQ p l _ Do i h,Zyy,wX]
theorem Nc {k:Int} :k∈fC c 384↔ ∃i,i<384/\k=((c.no*384+i:Nat):Int)/\yW c (c.no*384+i)=true:=by
 grind[fC]
theorem Zun {b:Nat} :(b:Int)∈fC (gI p l) 384↔(b:Int)∈l/\b/384=p:=by
 rw[Nc,show(gI p l).no=p from rfl];constructor
 .rintro⟨i,hi,e,hh⟩
  rw[V3 hi,bq]at hh;grind
 .rintro⟨h1,h2⟩
  refine⟨b%384,Nat.mod_lt _ EQ,AC,?_⟩;rw[V3 (Nat.mod_lt _ EQ),bq,show 384*p+b%384=b by omega];exact h1
theorem Zys (h: ∀k∈l,k<(m:Int)):Dp m (gI p l)=false:=by
 unfold Dp;by_cases h0:0<(fC (gI p l) 384).length
 .rw[aR h0]
  refine bP λhc=>?_
  have cV:fC (gI p l) 384≠[]:=Fd
  have hm:(fC (gI p l) 384).getLastD 0∈fC (gI p l) 384:=by
   rw[List.getLastD_eq_getLast?,List.getLast?_eq_some_getLast cV];simp
  have⟨i,_,e,_⟩:=Nc.1 hm;rw[e]at hm hc;have:=h _ (Zun.1 hm).1;omega
 grind
theorem VF {m:Nat} {l:ak} (h: ∀k∈l,k<(m:Int)): ∀(c i:Nat) (W:al),W.length=(m+63)/64->(∀w∈W,w<18446744073709551616)->
  ∃F,Ci m i ((List.range' i c).map λp=>gI p l) W=some F/\F.length=(m+63)/64/\(∀w∈F,w<18446744073709551616)/\∀b,cD F b=true↔cD W b=true\/((b:Int)∈l/\384*i<=b/\b<384*(i+c))
 |0,i,W,hl,hw=>⟨W,rfl,hl,hw,Fd⟩
 |c+1,i,W,hl,hw=>by
  have⟨q1,q2⟩:=ZG m (fC (gI i l) 384) W;have⟨F,f1,f2,f3,f4⟩:=VF h c (i+1) ((fC (gI i l) 384).foldl (bA m) W) (by rw[q1];exact hl) (q2 hw);refine⟨F,?_,f2,f3,λb=>?_⟩
  .rw[H0,kf]
   unfold Ci;rw[show(gI i l).no=i from rfl,aQ rfl,Zys h];exact f1
  .rw[f4 b,uR _ hl b,Zun]
   grind
theorem Znm {used:ak} {B:aj} : ∀(c i:Nat) (m:cd),i+c<=8->2<=m.next->Fin B (ku used c i m)->∀t,t<c->fX B (m.next+t)=uQ (gI (i+t) used)
 |0,_,_,_,_,_,t,ht=>by omega
 |c+1,i,m,hi,h2,hF,t,ht=>by
  have⟨m2,eG⟩: ∃m2,gx m (uQ (gI i used))=m2:=⟨_,rfl⟩;have e:ku used (c+1) i m=ku used c (i+1) m2:=by rw[<-eG];rfl
  have hn:m2.next=m.next+1:=by rw[<-eG];rfl
  rw[e]at hF;cases t with
  |zero=>
   have tU:=hF.back (Ex.ku used c (i+1) m2);rw[<-eG]at tU;rw[fE,fE];exact tU.put (Us (by show i<8;omega) (by show(tJ i (List.replicate 48 0) used).length=48;rw[Gc];simp)).1 h2
  |succ t=>
   have:=Znm c (i+1) m2 AC AC hF t AC;rw[hn]at this;rw[show m.next+(t+1)=m.next+1+t by omega,show i+(t+1)=i+1+t by omega];exact this
theorem ZoP {img:aj} {m N:Nat} {W:al} {used:ak} (hW: ∀b,cD W b=true->b<N): ∀(c i:Nat),N+i+c<=m->(∀t,t<c->i+t<8/\fX img (N+i+t)=uQ (gI (i+t) used))->
  vh img m W (ZC (N+i) c)=some ((List.range' i c).map λp=>gI p used)
 |0,i,_,_=>rfl
 |c+1,i,hm,h=>by
  have e:ZC (N+i) (c+1)=((N+i:Nat):Int)::ZC (N+(i+1)) c:=by
   unfold ZC;rw[List.range_succ_eq_map,kf,uF];congr 1;refine FB λk _=>?_
   grind
  have⟨h8,hl⟩:=h 0 AC;rw[fE]at hl h8;rw[e];unfold vh;rw[bn,HL,hl,(Us (by show i+0<8;omega) (by show(tJ (i+0) (List.replicate 48 0) used).length=48;rw[Gc];simp)).2];simp only;have fA:cD W (N+i)=false:=by
   grind
  rw[fA,Bz,af,ZoP hW c (i+1) AC λt ht=>by
   have:=h (t+1) AC;rw[show N+i+(t+1)=N+(i+1)+t by omega,show i+(t+1)=i+1+t by omega]at this;exact this]
  rw[H0,kf];rfl
theorem ZuK {x:dW} (hm:lY x) {dx:Int} {B:aj} (hP:ZxB x dx B) (hW:Mem x.blocks.toNat W (λb=>b<(fN x).2.next)):uP B (eS x dx) W=true:=by
 have⟨g1,g2,_⟩:=ZM hm.Cz;have C6:=hP.room;have Bi:Ex (jd x) (lh x).2:=Ex.ri _ _;have oN:Ex (lh x).2 (fN x).2:=Ex.kI x.gens x.free _;have l0:=Bi.le;have l1:=oN.le;have m02:(jd x).next=2:=rfl;have aaa:lP x=(x.blocks.toNat+383)/384:=rfl;have wx:=Znm (used:=kL x) (B:=B) (lP x) 0 (fN x).2 AC AC hP.fin;have⟨N,hN⟩: ∃N,(fN x).2.next=N:=⟨_,rfl⟩;rw[hN]at wx C6 hW l1;have mR:(eS x dx).aK=ZC N (lP x):=by rw[<-hN];rfl
 have j7:kL x=ZC 0 (N+lP x):=by rw[<-hN];rfl
 have js:(eS x dx).blocks.toNat=x.blocks.toNat:=rfl;have iL: ∀(k:Int) (a n:Nat),k∈ZC a n↔(a:Int)<=k/\k<((a+n:Nat):Int):=λk a n=>by
  unfold ZC;rw[jK];constructor
  .grind
  .rintro⟨h1,h2⟩
   exact⟨(k-a).toNat,uG.2 AC,AC⟩
 have Pk:=ZoP (img:=B) (m:=x.blocks.toNat) (N:=N) (W:=W) (used:=kL x) (λb hb=>(hW.iff b).1 hb) (lP x) 0 AC Fd;rw[fE]at Pk;have h0:(gD x.blocks.toNat []).length=(x.blocks.toNat+63)/64:=by unfold gD;simp
 have Ep: ∀w∈gD x.blocks.toNat [],w<18446744073709551616:=λw hw=>by
  grind[gD]
 have⟨F,f1,f2,f3,f4⟩:=VF (m:=x.blocks.toNat) (l:=kL x) Fd (lP x) 0 (gD x.blocks.toNat []) h0 Ep;have⟨q1,q2⟩:=ZG x.blocks.toNat (dz (gD x.blocks.toNat (ZC N (lP x)))) W;have hup:p9 (x.blocks.toNat:Int) 384=(lP x:Int):=by
  unfold p9;rw[Zb (x:=(x.blocks.toNat:Int)+384),Zb (x:=(x.blocks.toNat:Int)+384-1),show((x.blocks.toNat:Int)+384-1)=((x.blocks.toNat+383:Nat):Int) by omega,show(((x.blocks.toNat+383:Nat):Int).tdiv 384)=(((x.blocks.toNat+383)/384:Nat):Int)from rfl,aaa];exact Zb
 unfold uP;rw[js,mR,Pk];simp only;unfold AL;rw[mC,List.length_range',hup,aR rfl,f1];refine aQ (Zru (by rw[f2,q1,hW.len]) f3 (q2 hW.lt) λb=>?_);rw[nL,f4 b,uR _ hW.len b,rb,hW.iff b,Z7,j7,iL];constructor
 .rintro(⟨h1,_⟩|⟨h1,h2,h3⟩)
  .cases h1
  .by_cases hb:b<N
   .exact .inl hb
   .exact .inr ⟨⟨b,rfl,(rb _ _).2 Fd⟩,AC⟩
 .rintro(h1|⟨⟨b',e,h1⟩,h2⟩)
  .omega
  .have h3:=((iL _ _ _).1 ((rb _ _).1 h1).1)
   omega
variable {Y:Type}
theorem bc.Ow {a:ai} (h:bc s0 s a cs) {sz:Nat} (hz:0<sz) (hn:cs.length=n*sz) (hd:ds.length=m*sz) (hl:n+m<=lim):
  ∃p s',bc s0 s' p (cs++ds)/\∀K:ai->M Y,cu sz a n ds m lim K s=K p s':=by
 rcases BF m with rfl|hm
 .rw[rU]at hd
  rw[z8.1 hd,fP];exact⟨a,s,h,λK=>rfl⟩
 .exact h.app hz hn hm hl
def lZ (l:ak):Prop:=l.Pairwise (· < ·)
theorem lZ.nodup (h:lZ l):l.Nodup:=h.imp λh e=>by omega
theorem F9: ∀ {l m:ak},lZ l->lZ m->(∀k,k∈l↔k∈m)->l=m
 |[],[],_,_,_=>rfl
 |[],b::m,_,_,h=>by cases(h b).2 pz
 |a::l,[],_,_,h=>by cases(h a).1 pz
 |a::l,b::m,hl,hm,h=>by
  have h1:=FE.1 hl;have h2:=FE.1 hm;have e:a=b:=by
   rcases ep.1 ((h a).1 pz)with e|e
   .exact e
   .rcases ep.1 ((h b).2 pz)with e'|e'
    .exact e'.symm
    grind
  subst e;rw[F9 h1.2 h2.2 λk=>⟨λhk=>?_,λhk=>?_⟩]
  .grind
  grind
theorem Zsn {a:Int} (hr:lZ l) (h1: ∀j (x:Int),k<=j->l[j]? =some x->a<x) (h2: ∀j (x:Int),j<k->l[j]? =some x->x<a):lZ (l.take k++[a]++l.drop k)/\∀b,b∈l.take k++[a]++l.drop k↔b∈l\/b=a:=by
 have ja:l=l.take k++l.drop k:=Do
 have ht: ∀x∈l.take k,x<a:=λx hx=>by
  have⟨j,hj⟩:=Dz.1 hx;rw[uE]at hj;split at hj
  .grind
  .cases hj
 have hd: ∀x∈l.drop k,a<x:=λx hx=>by
  have⟨j,hj⟩:=Dz.1 hx;rw[w4]at hj;grind
 refine⟨?_,λb=>?_⟩
 .unfold lZ at hr⊢
  rw[ja,Mg]at hr;rw[dL,Mg];grind
 grind
def Mn (st:St) (l:ak) (m a:Int) (o:Out ah×St):Prop:=∃(p:ai) (r:ak) (s':St),o=(.val [.slice 1 p r.length],s')/\aB st s'/\Sl s' p (ints r)/\lZ r/\∀k,k∈r↔k∈l\/(k=a/\0<=a/\a<m)
variable {Bd:Zg} [h:HA Bd]
theorem ZmV (n:Nat) (l:ak) (z:Nat) (p:ai) (m a:Int) (st:St) (hz:z=1\/p=none) (hs:Sl st p (ints l)) (hr:lZ l) (hl:l.length<100000:=by omega) (hn:l.length+10<=n:=by omega):
  Ok (Mn st l m a) (run Bd n 205 [.slice z p l.length,.i m,.i a] st):=by
 obtain _|n:=n;omega;rw[Ze,h.agk];unfold TN yA az qg dj Zm bF bj Li Lb fj;simp only[Zh 1 z p _ hz,au,ao,Z8];have stay:(a∈l\/¬(0<=a/\a<m))->Ok (Mn st l m a) ((cw st.length [DV.slice 1 p l.length]:M ah) st):=λhc=>by
  rw[Zs];have hp:aB st (lE st.length st):=Zx (.refl st);refine .mk ⟨p,l,_,rfl,hp,hs.mono hp,hr,λk=>⟨.inl,λhk=>hk.elim id λhk=>?_⟩⟩;grind
 have j3:(ints l).length=l.length:=by simp[ints]
 rw[Za];have body:(0<=a/\a<m)->∀b,b=decide (a∈l)->Ok (Mn st l m a) ((bif b then(cw st.length [DV.slice 1 p l.length]:M ah)else
   cO (λabA=>aC .i64 abA λk abB=>aF abB<|
     aA (decide (0<=k)&&decide (k<=(l.length:Int)))<|
     dV p (k.toNat*1) λcs=>
     cu 1 none 0 cs k.toNat 8796093022208 λp2=>
     cj [.i a] λi=>
     bV i 0 1 λbU=>
     cu 1 p2 (0+k.toNat) bU 1 8796093022208 λp1=>
     aA (decide (0<=k)&&decide (k<=(l.length:Int)))<|
     dV (cY true p (k.toNat*1)) ((l.length-k.toNat)*1) λcE=>
     cu 1 p1 (0+k.toNat+1) cE (l.length-k.toNat) 8796093022208 λp2=>
     cw st.length [.slice 1 p2 (0+k.toNat+1+(l.length-k.toNat))]) λaW=>
    dc (λaV st=>
     aC .i64 st λk1 st=>
     aF st<|
     cO (λst=>gT st λb3 st=>aF st<|
      bif b3 then
       aV [.i (aq (k1-1))]
      else
       aW [.i k1]) λbG=>
     bif decide (k1>0)then
      bK p λi1 o=>
      aA (aO (aq (k1-1)) l.length)<|
      bH i1 (((aq (k1-1)).toNat)*1+o) λd=>
      db .i64 d λx=>
      bG [.bool (decide (x>a))]
     else
      bG [.bool false]) n [.i (l.length:Int)]) st):=by
  intro sK b hb;cases b with
  |true=>
   rw[ae];exact stay Fd
  |false=>
  rw[af];refine Ok.join λaW oe=>?_
  refine Zj _ (λq y t=>∃k:Nat,y=[.i (k:Int)]/\k<=l.length/\k<=q/\t=st/\∀j (x:Int),k<=j->l[j]? =some x->a<x) ?_ l.length n _ _ Fd AC;rintro q y t ⟨k,rfl,hk,hq,rfl,fL⟩ rec aN;rw[au,ao];have out:(∀j (x:Int),j<k->l[j]? =some x->x<a)->Ok (Mn t l m a) (aW [DV.int .i64 (k:Int)] t):=λqG=>by
   subst oe;simp only[au,ao,bn];rw[Zc (by rw[aS,bq,bq];omega)];have h1:=hs.mu k;have AP:((ints l).take k).length=k*1:=by rw[cB,j3];omega
   have e1: ∀K:ah->M ah,dV p (k*1) K t=K ((ints l).take k) t:=λK=>by
    have:=j9 h1 K;rwa [AP]at this
   rw[e1];have⟨r1,s1,sF,Yu⟩:=(bc.nil (aB.refl t)).Ow (Y:=ah) (sz:=1) (n:=0) (m:=k) (lim:=8796093022208) (ds:=(ints l).take k) AC rfl AP AC;rw[Yu];rw[gR]at sF;have⟨r2,s2,du,ze⟩:=sF.push (Y:=ah) (sz:=1) (n:=0+k) (lim:=8796093022208) [.i a] AC (by rw[AP];omega) rfl AC;rw[ze,Zc (by rw[aS,bq,bq];omega)];have h2:=(hs.mono du.1).cY (k:=k) AC;have AQ:((ints l).drop k).length=(l.length-k)*1:=by rw[dY,j3];omega
   have e2: ∀K:ah->M ah,dV (cY true p (k*1)) ((l.length-k)*1) K s2=K ((ints l).drop k) s2:=λK=>by
    rw[cR k];have:=j9 h2 K;rwa [AQ]at this
   rw[e2];have⟨r3,s3,oL,Yv⟩:=du.Ow (Y:=ah) (sz:=1) (n:=0+k+1) (m:=l.length-k) (lim:=8796093022208) (ds:=(ints l).drop k) AC (by rw[ba,AP,iS];omega) AQ AC;rw[Yv,Zs];have⟨c1,c2⟩:=Zsn hr fL qG;have fA:(ints l).take k++[DV.int .i64 a]++(ints l).drop k=ints (l.take k++[a]++l.drop k):=by
    simp[ints,List.map_take,List.map_drop]
   rw[fA]at oL;have EG:(l.take k++[a]++l.drop k).length=0+k+1+(l.length-k):=by
    grind
   refine .mk ⟨r3,_,_,by rw[EG],Zx oL.1,oL.sl.gk _,c1,λb=>?_⟩;rw[c2];grind
  rw[Za];by_cases mV:k=0
  .rw[aU]
   simp only[ar,ao,af];grind
  .obtain⟨i1,o1,rfl⟩:=hs.cS (by rw[j3];omega)
   have kW:k-1<l.length:=AC
   have da:(ints l)[k-1]? =some (.i l[k-1]):=ZJ kW;have Pj:l[k-1]? =some l[k-1]:=cc kW;have iL:l[k-1]∈l:=jj kW;rw[aR,bh,Zb,show(k:Int)-1=((k-1:Nat):Int) by omega,Zc (Zi kW),bn,hs.dX da];simp only[bg,ar,ao];generalize l[k-1]=w at da Pj iL;by_cases hw:w>a
   .rw[aR hw]
    refine aN (k-1) _ _ AC ⟨k-1,rfl,AC,aJ _,rfl,λj x hj hx=>?_⟩;by_cases wE:j=k-1
    .rw[wE,Pj]at hx
     grind
    grind
   .rw[aU hw]
    refine out λj x hj hx=>?_
    by_cases wE:j=k-1
    .rw[wE,Pj]at hx
     grind
    .have wD:=(eE.1 hx)
     have⟨zj,xJ⟩:=wD;have⟨jR,hk3⟩:=eE.1 Pj;have:=HZ.1 hr j (k-1) zj jR AC;rw[xJ,hk3]at this;omega
 by_cases ha0:a<0
 .rw[aR ha0]
  simp only[ar,ao];rw[Za,ae];simp only[ar,ao];rw[ae];grind
 .rw[aU ha0]
  simp only[ar,ao];rw[Za];by_cases ham:a>=m
  .rw[aR ham]
   simp_all
  .rw[aU ham]
   refine Ok.call (F6 n 1 l a p st (.inl rfl) hs) ?_;rintro _ rfl;refine⟨_,st,rfl,?_⟩;rw[ar,ao];exact body ⟨AC,AC⟩ _ rfl
theorem ZyK (l:aj) (k:Nat) (b:UInt8) (h:k<l.length):cG (bT l) k [.u b.toNat]=bT (l.set k b):=by
 have e:l=l.take k++([l[k]]++l.drop (k+1)):=Do
 have hl:(bT (l.take k)).length=k:=by rw[Zw,cB];omega
 have:=tC (bT (l.take k)) (bT [l[k]]) (bT (l.drop (k+1))) [.u b.toNat] (by rw[Zw];rfl);rw[hl,<-B2,<-B2,<-e]at this;rw[this,List.set_eq_take_append_cons_drop,bx h,B2];rfl
theorem bc.st1 {l:aj} (h:bc s0 s (some (i,0)) (bT l)) (hk:k<l.length) (b:UInt8):
  ∃s',bc s0 s' (some (i,0)) (bT (l.set k b))/\s'.length=s.length/\∀K:M Y,dE i k [.u b.toNat] K s=K s':=by
 rcases h.2 with⟨e,_⟩|⟨j,e,hj,hs⟩
 .cases e
 .cases e
  have eD:s.iB i=some (bT l):=by grind[St.iB]
  refine⟨s.set i (some ⟨false,bT (l.set k b)⟩),⟨tH h.1 hj _,Fd⟩,Do,λK=>?_⟩;unfold dE;rw[eD];simp only;rw[gO (by rw[Zw];show k+1<=_;omega),ae,ZyK l k b hk]
def j8 (img:aj) (k:Int):Option (aj):=if k<0\/((img.length/64:Nat):Int)<=k then none else some (fX img k.toNat)
theorem Ip (n:Nat) (img:aj) (k:Int) (st:St) (hl:img.length<1000000):
  Ok (λo=>∃s',aB st s'/\match j8 img k with
   |none=>o=(.val [.slice 0 none 0,.bool false],s')
   |some l=>∃p,o=(.val [.slice 1 p 64,.bool true],s')/\nN s' p l/\l.length=64) (run Bd (n+1) 208 [.str img,.i k] st):=by
 rw[Ze,h.agm];unfold Tp qV az vN Lb
 try dsimp only
 rw[bZ,au,ao,Z8,Za];have ediv:aq ((img.length:Int).tdiv 64)=((img.length/64:Nat):Int):=by
  rw[show(img.length:Int).tdiv 64=((img.length/64:Nat):Int)from rfl];exact Zb
 unfold j8;by_cases h0:k<0
 .rw[aR h0,bx (.inl h0)]
  simp only[ar,ao];rw[ae,Zs];exact .mk ⟨_,Zx (.refl st),rfl⟩
 .rw[aU h0,ediv]
  simp only[ar,ao];by_cases h1:k>=((img.length/64:Nat):Int)
  .rw[aR h1,bx (.inr h1),Zs]
   exact .mk ⟨_,Zx (.refl st),rfl⟩
  .rw[aU h1,aY AC]
   obtain⟨a,rfl⟩: ∃a:Nat,k=(a:Int):=⟨k.toNat,AC⟩;rw[Zb (x:=64*(a:Int)),Zb (x:=64*(a:Int)+64),show(64*(a:Int)+64)=((64*a+64:Nat):Int) by omega,show(64*(a:Int))=((64*a:Nat):Int) by omega];simp only[bn];rw[Zc (by rw[aS,bq,bq];omega),Zc (by rw[aS,bq,bq];omega)];have Y3:(img.take (64*a+64)).drop (64*a)=fX img a:=by
    grind[fX]
   have Pr:(fX img a).length=64:=by
    grind
   rw[Y3,ZD,Zs];have ho:bc st (st++[some (⟨false,bT (fX img a)⟩:bQ)]) (some (st.length,0)) (bT (fX img a)):=⟨.new _ _,Do⟩;exact .mk ⟨_,Zx ho.1,_,by rw[Pr];rfl,ho.fz,Pr⟩
def If (m:Int) (l cs r:ak):Prop:=lZ r/\∀k,k∈r↔k∈l\/(k∈cs/\0<=k/\k<m)
def ZzN (img:aj) (x:cm) (l:ak):Prop:=(∀c∈x.aK,c∉l)/\∃r,If x.blocks l x.aK r/\∀i c,x.aK[i]? =some c->j8 img c=some (uQ (gI i r))
theorem U1 {l:aj} (h:ZB l=true):l=ZR l.length:=by
 unfold ZB at h;rw[qP]at h;unfold ZR;exact List.eq_replicate_iff.2 Fd
theorem Zt1 (c:UInt8):ta (c.toNat:Int)=c:=by
 unfold ta;have:((c.toNat:Int)%256).toNat=c.toNat:=by
  have:=c.toNat_lt;omega
 rw[this,UInt8.ofNat_toNat]
theorem vT {l:aj} {b:aj} (h:eK l=some (k,t,b)):l=gK k t b/\b.length=56/\k<256/\t<256:=by
 unfold eK at h;cases hr:nU l
 .rw[hr]at h;cases h
 .rw[hr,ae]at h;cases h;unfold nU at hr;rw[aS,aS,aS,bq,bq]at hr;have⟨lI,_,h2,h3⟩:=hr;have hb:(l.drop 8).length=56:=by rw[dY];omega
  have hf:ez (l.drop 8) 56=l.drop 8:=by
   simp_all[ez,ZR]
  have hz:=U1 h2;have sQ:((l.drop 6).take 2).length=2:=by rw[cB,dY];omega
  rw[sQ]at hz;have hS:qL ((l.getD 4 0).toNat:Nat) ((l.getD 5 0).toNat:Nat) (l.drop 8)=l.drop 4:=by
   unfold qL;rw[Zt1,Zt1,hf];have e1:l.drop 4=l.getD 4 0::l.getD 5 0::l.drop 6:=by
    rw[iR AC,iR (AC:4+1<l.length),cz,cz,cc AC,cc AC];rfl
   have e2:l.drop 6=[0,0]++l.drop 8:=by
    have:=mD 2 (l.drop 6);rw[hz,kd]at this;exact this.symm
   rw[e1,e2];rfl
  refine⟨?_,hb,UInt8.toNat_lt _,UInt8.toNat_lt _⟩;unfold gK;rw[hS,h3];have h4:(l.take 4).length=4:=by rw[cB];omega
  have:=Gq (l.take 4);rw[h4]at this;rw[this,mD]
theorem ZuT {l:aj} (h:yC l=some c):l=uQ c/\c.fu.length=48/\c.no<8:=by
 unfold yC at h;cases ho:eK l
 .rw[ho]at h;cases h
 .rename_i q;have⟨k,t,b⟩:=q;rw[ho]at h;simp only at h;have⟨h1,h2,h3,h4⟩:=vT ho;cases hc:(decide (k=4)&&(decide (t<8)&&ZB (b.drop 48)))
  .rw[hc]at h;cases h
  .rw[hc,ae]at h;cases h;rw[aS,aS,bq,bq]at hc;obtain⟨rfl,h5,h6⟩:=hc;refine⟨?_,by rw[cB];omega,h5⟩;have hz:=U1 h6;have sQ:(b.drop 48).length=8:=by rw[dY];omega
   rw[sQ]at hz;have hf:ez (b.take 48) 56=ez b 56:=by
    unfold ez;have hl:(b.take 48).length=48:=by rw[cB];omega
    rw[hl,h2,<-hz,mD];simp[ZR]
   rw[h1];grind[uQ,gK,qL]
theorem Zzc {a b:aj} (ha:a.length=48) (hb:b.length=48) (h: ∀j,j<384->tL a j=tL b j):a=b:=by
 refine List.ext_getElem AC λi h1 h2=>?_
 refine DC.1 (H4 λj=>?_);have l1:=a[i].toNat_lt;have l2:=b[i].toNat_lt;rcases jw j 8 with hj|hj
 .have:=h (8*i+j) AC
  unfold tL at this;rw[show(8*i+j)/8=i by omega,show(8*i+j)%8=j by omega,cz,cz,cc h1,cc h2,xi,xi]at this;exact this
 .rw[FK (mE l1 (pB (n:=2) (i:=8) EQ hj)),FK (mE l2 (pB (n:=2) (i:=8) EQ hj))]
theorem Nu {img:aj} {m:Nat} {W:al} : ∀ {ks:ak} {cs:List ZS},vh img m W ks=some cs↔(cs.length=ks.length/\∀(i:Nat) (k:Int),ks[i]? =some k->∃c,cs[i]? =some c/\yC (Zv img k.toNat)=some c/\(fe m k&&cD W k.toNat)=false)
 |[],cs=>by
  constructor
  .intro h
   cases h;simp
  .rintro⟨h,_⟩
   rw[z8.1 h];rfl
 |k::ks,cs=>by
  unfold vh;constructor
  .intro h
   cases hg:yC (Zv img k.toNat)
   .rw[hg]at h;cases h
   .rename_i c;rw[hg]at h;simp only at h;cases hb:(fe m k&&cD W k.toNat)
    .rw[hb,af]at h;cases hr:vh img m W ks
     .rw[hr]at h;cases h
     .rename_i cs';rw[hr]at h;cases h;have⟨h1,h2⟩:=Nu.1 hr;grind
    .rw[hb]at h;cases h
  .rintro⟨h1,h2⟩
   cases cs with
   |nil=>cases h1
   |cons c cs=>
    have⟨c',e1,e2,e3⟩:=h2 0 k rfl;cases e1;rw[e2];simp only;rw[e3,af,Nu.2 ⟨by simpa using h1,λi k' oK=>h2 (i+1) k' (by simpa using oK)⟩];rfl
theorem Zy2 {k:Int} (h:k∈fC c 384): ∃b:Nat,k=(b:Int)/\b/384=c.no/\yW c b=true:=by
 obtain⟨i,hi,rfl,hh⟩:=Nc.1 h;grind
theorem ZtW (c:ZS):(fC c 384).Pairwise (· < ·):=by
 unfold fC;rw[FF];refine List.Pairwise.imp (λ{a b} h=>?_) (List.Pairwise.sublist Mb List.pairwise_lt_range);omega
theorem ZyW :Dp m c=false↔ ∀k∈fC c 384,k<(m:Int):=by
 unfold Dp;by_cases h0:0<(fC c 384).length
 .rw[aR h0,tp]
  have cV:fC c 384≠[]:=Fd
  have hl:(fC c 384).getLastD 0=(fC c 384).getLast cV:=by rw[List.getLastD_eq_getLast?,List.getLast?_eq_some_getLast cV];rfl
  rw[hl];constructor
  .intro h k hk
   have⟨i,hi⟩:=Dz.1 hk;have⟨Ke,Ba⟩:=eE.1 hi;have Kl:(fC c 384).getLast cV=(fC c 384)[(fC c 384).length-1]' AC:=List.getLast_eq_getElem cV;rw[Kl]at h;rcases jw i ((fC c 384).length-1)with h1|h1
   .have:=HZ.1 (ZtW c) i ((fC c 384).length-1) Ke AC h1
    omega
   grind
  simp_all
 grind
theorem ZpA {m:Nat} : ∀ {cs:List ZS} {i:Nat} {W F:al},W.length=(m+63)/64->(∀w∈W,w<18446744073709551616)->Ci m i cs W=some F->
  F.length=(m+63)/64/\(∀w∈F,w<18446744073709551616)/\(∀j c,cs[j]? =some c->c.no=i+j/\∀k∈fC c 384,k<(m:Int))/\∀b:Nat,cD F b=true↔cD W b=true\/∃(j:Nat) (c:ZS),cs[j]? =some c/\(b:Int)∈fC c 384
 |[],i,W,F,hl,hw,h=>by
  cases h;grind
 |c::cs,i,W,F,hl,hw,h=>by
  unfold Ci at h;cases hb:(decide (c.no=i)&& !Dp m c)
  .rw[hb]at h;cases h
  .rw[hb,ae]at h;rw[aS,bq,kN]at hb;have⟨h1,h2⟩:=hb;have h2:=ZyW.1 h2;have⟨q1,q2⟩:=ZG m (fC c 384) W;have⟨f1,f2,f3,f4⟩:=ZpA (by rw[q1];exact hl) (q2 hw) h;refine⟨f1,f2,λj c' hc'=>?_,λb=>?_⟩
   .grind
   .rw[f4 b,uR _ hl b]
    constructor
    .rintro((h3|⟨h3,_⟩)|⟨j,c',h3,h4⟩)
     .exact .inl h3
     .exact .inr ⟨0,c,rfl,h3⟩
     .exact .inr ⟨j+1,c',by simpa using h3,h4⟩
    grind
theorem yo (W:al):lZ (dz W):=by
 rw[Zrf];unfold lZ;rw[FF];refine List.Pairwise.imp (λ{a b} h=>?_) (List.Pairwise.sublist Mb List.pairwise_lt_range);omega
theorem ZAn (h:m<=3072):p9 (m:Int) 384=(((m+383)/384:Nat):Int):=by
 unfold p9;rw[Zb (x:=(m:Int)+384),Zb (x:=(m:Int)+384-1),show((m:Int)+384-1)=((m+383:Nat):Int) by omega,show(((m+383:Nat):Int).tdiv 384)=(((m+383)/384:Nat):Int)from rfl];exact Zb
theorem MQ {img:aj} {x:cm} (hx:ox x) (hl:W.length=(x.blocks.toNat+63)/64) (hw: ∀w∈W,w<18446744073709551616) (hm: ∀b,cD W b=true->b<x.blocks.toNat) (EC:x.blocks<=((img.length/64:Nat):Int)):uP img x W=true↔ZzN img x (dz W):=by
 have⟨g1,g2,_⟩:=ZM hx.g;have⟨m,mn⟩: ∃m:Nat,x.blocks=(m:Int):=Fd
 have kA:x.blocks.toNat=m:=AC
 rw[kA]at hl hm;have cU:x.aK.length=(m+383)/384:=by
  have:=hx.len;rw[Ui hx.g,kA]at this;omega
 have kU: ∀i (k:Int),x.aK[i]? =some k->2<=k/\k<(m:Int):=λi k hk=>by
  have hi:=(eE.1 hk).1;have h1:=(hx.ch i hi).1;rw[cz,hk]at h1;have:=(DY x _).1 h1;rw[mn]at this;exact this
 have xK: ∀i (k:Int),x.aK[i]? =some k->j8 img k=some (Zv img k.toNat):=λi k hk=>by
  have:=kU i k hk;grind[j8,HL]
 have h0:(gD m []).length=(m+63)/64:=by unfold gD;simp
 have Ep: ∀w∈gD m [],w<18446744073709551616:=λw hw=>by
  grind[gD]
 have⟨q1,q2⟩:=ZG m (dz (gD m x.aK)) W;have hR: ∀b:Nat,cD ((dz (gD m x.aK)).foldl (bA m) W) b=true↔cD W b=true\/((b:Int)∈x.aK/\b<m):=λb=>by
  rw[uR _ hl b,Z7];constructor
  .rintro(h|⟨⟨b',e,h⟩,h2⟩)
   .exact .inl h
   .have:b'=b:=AC
    subst this;exact .inr ((rb _ _).1 h)
  .rintro(h|h)
   .exact .inl h
   .exact .inr ⟨⟨b,rfl,(rb _ _).2 h⟩,h.2⟩
 have hWP: ∀r,If x.blocks (dz W) x.aK r->∀b:Nat,(b:Int)∈r↔cD W b=true\/((b:Int)∈x.aK/\b<m):=λr hr b=>by
  rw[hr.2,Z7,mn];constructor
  .rintro(⟨b',e,h⟩|⟨h1,_,h3⟩)
   .grind
   grind
  grind
 unfold uP;rw[kA];constructor
 .intro h
  cases hg:vh img m W x.aK
  .rw[hg]at h;cases h
  .rename_i cs;rw[hg]at h;simp only at h;have⟨alN,mR⟩:=Nu.1 hg;cases hf:AL m cs
   .rw[hf]at h;cases h
   .rename_i F;rw[hf]at h;simp only at h;have hFe:=ng h;unfold AL at hf;cases hd:decide ((cs.length:Int)=p9 (m:Int) 384)
    .rw[hd]at hf;cases hf
    .rw[hd,ae]at hf;have⟨f1,f2,f3,f4⟩:=ZpA h0 Ep hf;have hF: ∀b:Nat,cD F b=true↔ ∃(j:Nat) (c:ZS),cs[j]? =some c/\(b:Int)∈fC c 384:=λb=>by
      rw[f4 b,rb];constructor
      .rintro(⟨h1,_⟩|h1)
       .cases h1
       .exact h1
      .exact .inr
     have akh:If x.blocks (dz W) x.aK (dz F):=by
      refine⟨yo F,λk=>?_⟩;rw[Z7,Z7];constructor
      .grind
      .rintro(⟨b,rfl,hb⟩|⟨h1,h2,h3⟩)
       .grind
       .refine⟨k.toNat,AC,?_⟩
        rw[hFe];refine(hR _).2 (.inr ⟨?_,AC⟩);rw[Ma h2];exact h1
     refine⟨λc hc iL=>?_,dz F,akh,λi k hk=>?_⟩
     .have⟨i,hi⟩:=Dz.1 hc
      have⟨c',_,_,e3⟩:=mR i c hi;obtain⟨b,rfl,hb⟩:=Z7.1 iL;rw[bn,hb,BA]at e3;unfold fe at e3;have:=kU i _ hi;rw[aQ (AC:(0:Int)<=(b:Int)),aQ (AC:(b:Int)<(m:Int))]at e3;cases e3
     .have⟨c,e1,e2,e3⟩:=mR i k hk
      have⟨a1,a2,a3⟩:=ZuT e2;have⟨b1,b2⟩:=f3 i c e1;rw[fq]at b1;rw[xK i k hk,a1];have hce:c=gI i (dz F):=by
       have CC:(gI i (dz F)).fu.length=48:=by
        show(tJ i (List.replicate 48 0) (dz F)).length=48;rw[Gc];simp
       have adB:c.fu=(gI i (dz F)).fu:=by
        refine Zzc a2 CC λj hj=>?_
        have e4:=Ws (c:=c) hj;have e5:=V3 (p:=i) (l:=dz F) hj;have e6:=Ws (c:=gI i (dz F)) hj;rw[show(gI i (dz F)).no=i from rfl]at e6;rw[<-e4,<-e6,e5,b1,nL,bq,Z7];constructor
        .intro hh
         refine⟨384*i+j,rfl,(hF _).2 ⟨i,c,e1,Nc.2 ⟨j,hj,by rw[b1,BG],by rw[b1];exact hh⟩⟩⟩
        .rintro⟨b,e,hb⟩
         have:b=384*i+j:=AC
         subst this;have⟨i',c',e7,e8⟩:=(hF _).1 hb;have⟨b',e9,JM,e11⟩:=Zy2 e8;have⟨b3,_⟩:=f3 i' c' e7;have:b'=384*i+j:=AC
         subst this;have:i'=i:=AC
         grind
       cases c with
       |mk no fu=>
        simp only at b1 adB;rw[b1,adB];rfl
      rw[<-hce]
 .rintro⟨cC,r,hr,lM⟩
  have hrm: ∀k∈r,k<(m:Int):=λk hk=>by
   rcases(hr.2 k).1 hk with h1|h1
   .obtain⟨b,rfl,hb⟩:=Z7.1 h1
    have:=hm b hb;omega
   .omega
  have Pk:vh img m W x.aK=some ((List.range' 0 x.aK.length).map λp=>gI p r):=by
   refine Nu.2 ⟨Do,λi k hk=>?_⟩;have hi:=(eE.1 hk).1;refine⟨gI i r,?_,?_,?_⟩
   .rw[nf,List.getElem?_range' hi]
    grind
   .have h1:=lM i k hk
    rw[xK i k hk]at h1;rw[DB h1];exact(Us (by show i<8;omega) (by show(tJ i (List.replicate 48 0) r).length=48;rw[Gc];simp)).2
   .cases fA:cD W k.toNat
    .exact Bz _
    .have:=kU i k hk;exact absurd (Z7.2 ⟨k.toNat,AC,fA⟩) (cC k (qc hk))
  have⟨F,f1,f2,f3,f4⟩:=VF hrm x.aK.length 0 (gD m []) h0 Ep;rw[Pk];simp only;unfold AL;rw[mC,List.length_range',ZAn AC,cU,aR rfl,<-cU,f1];refine aQ (Zru (by rw[f2,q1,hl]) f3 (q2 hw) λb=>?_);rw[nL,f4 b,hR b,rb,hWP r hr b];constructor
  .grind
  .intro h1
   refine .inr ⟨h1,AC,?_⟩;rcases h1 with h1|h1
   .have:=hm b h1
    omega
   .omega
