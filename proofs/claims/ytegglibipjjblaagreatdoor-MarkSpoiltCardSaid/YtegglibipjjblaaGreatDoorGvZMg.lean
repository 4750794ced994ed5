/- Charts that were made are right. No program in sight. -/
import Derived.Test.YtegglibipjjblaaGreatDoorGvBMk
import Derived.Test.YtegglibipjjblaaGreatDoorGvZMf
import Derived.Test.YtegglibipjjblaaGreatDoorGvZMe
import Derived.Test.YtegglibipjjblaaGreatDoorGvZMh
namespace Go.Gv.F
open Go.Gv
variable {i j k lim m n p t:Nat} {s s0:St} {c:ZN} {cs ds:ah} {img l:aj} {V W:al}
theorem Zu5 (hl:W.length=V.length) (hw: ∀w∈W,w<18446744073709551616) (hv: ∀w∈V,w<18446744073709551616) (h: ∀b,dM W b=dM V b):W=V:=by
 refine List.ext_getElem hl λi h1 h2=>Gf λj=>?_
 have a1:=hw _ (jG h1);have a2:=hv _ (jG h2);rcases jH j 64 with hj|hj
 .have:=h (64*i+j)
  unfold dM at this;rw[show(64*i+j)/64=i by omega,show(64*i+j)%64=j by omega,dX,dX,bU h1,bU h2,ub,ub]at this;exact this
 .rw[Gi (lE a1 (l9 (n:=2) (i:=64) (by decide) hj)),Gi (lE a2 (l9 (n:=2) (i:=64) (by decide) hj))]
theorem Er {m:Nat} : ∀(ks:ak) {W:al},W.length=(m+63)/64->∀b:Nat,dM (ks.foldl (bX m) W) b=true↔dM W b=true\/((b:Int)∈ks/\b<m)
 |[],W,_,b=>by simp
 |a::ks,W,hl,b=>by
  rw[DH,Er ks (by rw[uj];exact hl) b,yB hl,lz,aR,bq,dC];grind[fR]
theorem vw (l:ak) (b:Nat):dM (kM m l) b=true↔(b:Int)∈l/\b<m:=by
 unfold kM;rw[Er l (by simp) b,Zxq];simp
theorem Zx7 {b:Nat} (h:dM W b=true):b<64*W.length:=by
 rcases jH b (64*W.length)with h1|h1
 .exact h1
 .unfold dM at h
  rw[dX,nX (by omega)]at h;simp_all[fF]
theorem qk {k:Int} :k∈dJ W↔ ∃b:Nat,k=(b:Int)/\dM W b=true:=by
 rw[Zp7];constructor
 .grind
 .rintro⟨b,rfl,hb⟩
  exact tN.2 ⟨b,zN.2 ⟨yj.2 (Zx7 hb),hb⟩,rfl⟩
def rS (b:aj) (k:Nat):Bool:=fF (b.getD (k/8) 0).toNat (k%8)
theorem ZwG {b:aj} (h:k/8<b.length):rS (xc b k) j=(rS b j||decide (j=k)):=by
 unfold rS xc;rw[ub,ub,dX];by_cases hq:k/8=j/8
 .rw[<-hq,lC h]
  simp only[Option.getD_some];have ax:(b.getD (k/8) 0).toNat|||2^(k%8)<256:=JQ (n:=8) (UInt8.toNat_lt _) (JR (by decide) (by omega));rw[UInt8.toNat_ofNat_of_lt' ax,Nat.testBit_or,Nat.testBit_two_pow];grind
 grind
theorem Sf (p:Nat): ∀(l:ak) (b:aj),b.length=48->∀j,j<384->rS (tg p b l) j=(rS b j||decide (((384*p+j:Nat):Int)∈l))
 |[],b,_,j,_=>by
  show rS b j=_;simp
 |x::r,b,hb,j,hj=>by
  unfold tg;cases hx:inPlace p x with
  |false=>
   rw[af,Sf p r b hb j hj];grind[inPlace]
  |true=>
   unfold inPlace at hx;rw[aR,bq,bq]at hx;rw[ae,Sf p r _ (by rw[KI];exact hb) j hj,ZwG (by omega),Bool.or_assoc];grind
theorem Zvh (n j:Nat):rS (List.replicate n 0) j=false:=by
 unfold rS;rw[dX,List.getElem?_replicate];unfold fF;split<;>simp
theorem Tg (h:i<384):xB c (c.no*384+i)=rS c.dH i:=by
 grind[xB,rS]
theorem SP {l:ak} (h:i<384):xB (fQ p l) (p*384+i)=decide (((384*p+i:Nat):Int)∈l):=by
 have:=Tg (c:=fQ p l) h;rw[show(fQ p l).no=p from rfl]at this;rw[this];show rS (tg p (List.replicate 48 0) l) i=_;rw[Sf p l _ (by simp) i h,Zvh,sK]
theorem KT {k:Int} :k∈eK c 384↔ ∃i,i<384/\k=((c.no*384+i:Nat):Int)/\xB c (c.no*384+i)=true:=by
 grind[eK]
theorem Zsc {l:ak} {b:Nat} :(b:Int)∈eK (fQ p l) 384↔(b:Int)∈l/\b/384=p:=by
 rw[KT,show(fQ p l).no=p from rfl];constructor
 .rintro⟨i,hi,e,hh⟩
  rw[SP hi,bq]at hh;grind
 .rintro⟨h1,h2⟩
  refine⟨b%384,Nat.mod_lt _ (by decide),by omega,?_⟩;rw[SP (Nat.mod_lt _ (by decide)),bq,show 384*p+b%384=b by omega];exact h1
theorem Zv5 {l:ak} (h: ∀k∈l,k<(m:Int)):BC m (fQ p l)=false:=by
 unfold BC;by_cases h0:0<(eK (fQ p l) 384).length
 .rw[aw h0,ae]
  refine aB λhc=>?_
  have du:eK (fQ p l) 384≠[]:=by grind
  have hm:(eK (fQ p l) 384).getLastD 0∈eK (fQ p l) 384:=by
   rw[List.getLastD_eq_getLast?,List.getLast?_eq_some_getLast du];simp
  obtain⟨i,_,e,_⟩:=KT.1 hm;rw[e]at hm hc;have:=h _ (Zsc.1 hm).1;omega
 grind
theorem Zp6 {m:Nat} {l:ak} (h: ∀k∈l,k<(m:Int)): ∀(c i:Nat) (W:al),W.length=(m+63)/64->(∀w∈W,w<18446744073709551616)->
  ∃F,Au m i ((List.range' i c).map λp=>fQ p l) W=some F/\F.length=(m+63)/64/\(∀w∈F,w<18446744073709551616)/\∀b,dM F b=true↔dM W b=true\/((b:Int)∈l/\384*i<=b/\b<384*(i+c))
 |0,i,W,hl,hw=>⟨W,rfl,hl,hw,by grind⟩
 |c+1,i,W,hl,hw=>by
  obtain⟨q1,q2⟩:=pF m (eK (fQ i l) 384) W;obtain⟨F,f1,f2,f3,f4⟩:=Zp6 h c (i+1) ((eK (fQ i l) 384).foldl (bX m) W) (by rw[q1];exact hl) (q2 hw);refine⟨F,?_,f2,f3,λb=>?_⟩
  .rw[JO,nZ]
   unfold Au;rw[show(fQ i l).no=i from rfl,aw rfl,Zv5 h];exact f1
  .rw[f4 b,Er _ hl b,Zsc]
   grind
variable {β:Type}
theorem ba.L8 {a:ai} (h:ba s0 s a cs) {sz:Nat} (hz:0<sz) (hn:cs.length=n*sz) (hd:ds.length=m*sz) (hl:n+m<=lim):
  ∃p s',ba s0 s' p (cs++ds)/\∀K:ai->M β,cm sz a n ds m lim K s=K p s':=by
 rcases yl m with rfl|hm
 .rw[od]at hd
  rw[wG.1 hd,gG];exact⟨a,s,h,λK=>rfl⟩
 .exact h.app hz hn hm hl
def kZ (l:ak):Prop:=l.Pairwise (· < ·)
theorem kZ.nodup {l:ak} (h:kZ l):l.Nodup:=h.imp λh e=>by omega
theorem GZ: ∀ {l m:ak},kZ l->kZ m->(∀k,k∈l↔k∈m)->l=m
 |[],[],_,_,_=>rfl
 |[],b::m,_,_,h=>by cases(h b).2 oa
 |a::l,[],_,_,h=>by cases(h a).1 oa
 |a::l,b::m,hl,hm,h=>by
  have h1:=List.pairwise_cons.1 hl;have h2:=List.pairwise_cons.1 hm;have e:a=b:=by
   rcases dC.1 ((h a).1 oa)with e|e
   .exact e
   .rcases dC.1 ((h b).2 oa)with e'|e'
    .exact e'.symm
    grind
  subst e;rw[GZ h1.2 h2.2 λk=>⟨λhk=>?_,λhk=>?_⟩]
  .grind
  grind
theorem ZqC {l:ak} {a:Int} (hr:kZ l) (h1: ∀j (x:Int),k<=j->l[j]? =some x->a<x) (h2: ∀j (x:Int),j<k->l[j]? =some x->x<a):kZ (l.take k++[a]++l.drop k)/\∀b,b∈l.take k++[a]++l.drop k↔b∈l\/b=a:=by
 have iC:l=l.take k++l.drop k:=by simp
 have ht: ∀x∈l.take k,x<a:=λx hx=>by
  obtain⟨j,hj⟩:=List.mem_iff_getElem?.1 hx;rw[sL]at hj;split at hj
  .grind
  .cases hj
 have hd: ∀x∈l.drop k,a<x:=λx hx=>by
  obtain⟨j,hj⟩:=List.mem_iff_getElem?.1 hx;rw[tM]at hj;grind
 refine⟨?_,λb=>?_⟩
 .unfold kZ at hr⊢
  rw[iC,JM]at hr;rw[fD,JM];grind
 grind
def JU (st:St) (l:ak) (m a:Int) (o:Out ah×St):Prop:=∃(p:ai) (r:ak) (s':St),o=(.val [.slice 1 p r.length],s')/\aD st s'/\Sl s' p (ints r)/\kZ r/\∀k,k∈r↔k∈l\/(k=a/\0<=a/\a<m)
variable {Bd:Zh} [h:HA Bd]
theorem ZlD (n:Nat) (l:ak) (z:Nat) (p:ai) (m a:Int) (st:St) (hz:z=1\/p=none) (hs:Sl st p (ints l)) (hr:kZ l) (hl:l.length<100000:=by omega) (hn:l.length+10<=n:=by omega):
  Ok (JU st l m a) (run Bd n 205 [.slice z p l.length,.int .i64 m,.int .i64 a] st):=by
 obtain⟨n,rfl⟩: ∃k,n=k+1:=⟨n-1,by omega⟩;rw[Ze,h.ab9];unfold Q6 wU az oj cI Zm bd bD Li Lb eW;simp only[Zg 1 z p _ hz,av,aq,Z5];have stay:(a∈l\/¬(0<=a/\a<m))->Ok (JU st l m a) ((cu st.length [DV.slice 1 p l.length]:M ah) st):=λhc=>by
  rw[Zs];have hp:aD st (kB st.length st):=Zu (.refl st);refine .mk ⟨p,l,_,rfl,hp,hs.mono hp,hr,λk=>⟨.inl,λhk=>hk.elim id λhk=>?_⟩⟩;grind
 have jL:(ints l).length=l.length:=by simp[ints]
 rw[Za];have body:(0<=a/\a<m)->∀b,b=decide (a∈l)->Ok (JU st l m a) ((bif b then(cu st.length [DV.slice 1 p l.length]:M ah)else
   cK (λWY=>aF .i64 WY λk WZ=>aJ WZ<|
     aC (decide (0<=k)&&decide (k<=(l.length:Int)))<|
     da p (k.toNat*1) λcs=>
     cm 1 none 0 cs k.toNat 8796093022208 λp2=>
     cg [.int .i64 a] λi=>
     bS i 0 1 λbN=>
     cm 1 p2 (0+k.toNat) bN 1 8796093022208 λp1=>
     aC (decide (0<=k)&&decide (k<=(l.length:Int)))<|
     da (cU true p (k.toNat*1)) ((l.length-k.toNat)*1) λcC=>
     cm 1 p1 (0+k.toNat+1) cC (l.length-k.toNat) 8796093022208 λp2=>
     cu st.length [.slice 1 p2 (0+k.toNat+1+(l.length-k.toNat))]) λaS=>
    cY (λaV st=>
     aF .i64 st λk1 st=>
     aJ st<|
     cK (λst=>gW st λb3 st=>aJ st<|
      bif b3 then
       aV [.int .i64 (ar (k1-1))]
      else
       aS [.int .i64 k1]) λbC=>
     bif decide (k1>0)then
      bJ p λi1 o=>
      aC (aQ (ar (k1-1)) l.length)<|
      bG i1 (((ar (k1-1)).toNat)*1+o) λd=>
      cT .i64 d λx=>
      bC [.bool (decide (x>a))]
     else
      bC [.bool false]) n [.int .i64 (l.length:Int)]) st):=by
  intro FL b hb;cases b with
  |true=>
   rw[ae];exact stay (by grind)
  |false=>
  rw[af];refine Ok.join λaS mw=>?_
  refine Zj _ (λq y t=>∃k:Nat,y=[.int .i64 (k:Int)]/\k<=l.length/\k<=q/\t=st/\∀j (x:Int),k<=j->l[j]? =some x->a<x) ?_ l.length n _ _ (by grind) (by omega);rintro q y t ⟨k,rfl,hk,hq,rfl,eX⟩ rec aP;simp only[av,aq];have out:(∀j (x:Int),j<k->l[j]? =some x->x<a)->Ok (JU t l m a) (aS [DV.int .i64 (k:Int)] t):=λoQ=>by
   subst mw;simp only[av,aq,bu];rw[Zb (by rw[aR,bq,bq];omega)];have h1:=hs.lY k;have yP:((ints l).take k).length=k*1:=by rw[cz,jL];omega
   have e1: ∀K:ah->M ah,da p (k*1) K t=K ((ints l).take k) t:=λK=>by
    have:=iD h1 K;rwa [yP]at this
   rw[e1];obtain⟨r1,s1,pS,UZ⟩:=(ba.nil (aD.refl t)).L8 (β:=ah) (sz:=1) (n:=0) (m:=k) (lim:=8796093022208) (ds:=(ints l).take k) (by omega) rfl yP (by omega);rw[UZ];rw[gU]at pS;obtain⟨r2,s2,c8,uI⟩:=pS.push (β:=ah) (sz:=1) (n:=0+k) (lim:=8796093022208) [.int .i64 a] (by omega) (by rw[yP];omega) rfl (by omega);rw[uI];rw[Zb (by rw[aR,bq,bq];omega)];have h2:=(hs.mono c8.1).cU (k:=k) (by omega);have HU:((ints l).drop k).length=(l.length-k)*1:=by rw[dT,jL];omega
   have e2: ∀K:ah->M ah,da (cU true p (k*1)) ((l.length-k)*1) K s2=K ((ints l).drop k) s2:=λK=>by
    rw[cP k];have:=iD h2 K;rwa [HU]at this
   rw[e2];obtain⟨r3,s3,kd,U0⟩:=c8.L8 (β:=ah) (sz:=1) (n:=0+k+1) (m:=l.length-k) (lim:=8796093022208) (ds:=(ints l).drop k) (by omega) (by rw[bz,yP,iw];omega) HU (by omega);rw[U0,Zs];obtain⟨c1,c2⟩:=ZqC hr eX oQ;have fO:(ints l).take k++[DV.int .i64 a]++(ints l).drop k=ints (l.take k++[a]++l.drop k):=by
    simp[ints,List.map_take,List.map_drop]
   rw[fO]at kd;have C4:(l.take k++[a]++l.drop k).length=0+k+1+(l.length-k):=by
    grind
   refine .mk ⟨r3,_,_,by rw[C4],Zu kd.1,kd.sl.fN _,c1,λb=>?_⟩;rw[c2];grind
  rw[Za];by_cases j9:k=0
  .rw[aB (show ¬(k:Int)>0 by omega),af]
   simp only[au,aq,af];grind
  .obtain⟨i1,o1,rfl⟩:=hs.cD (by rw[jL];omega)
   have jx:k-1<l.length:=by omega
   have cZ:(ints l)[k-1]? =some (.int .i64 l[k-1]):=ZA jx;have vP:l[k-1]? =some l[k-1]:=bU jx;have gB:l[k-1]∈l:=jG jx;rw[aw (show(k:Int)>0 by omega),ae,aX,Zc,show(k:Int)-1=((k-1:Nat):Int) by omega,Zb (Zi jx)];simp only[bu];rw[hs.dL cZ];simp only[aY,au,aq];generalize l[k-1]=w at cZ vP gB;by_cases hw:w>a
   .rw[aw hw,ae]
    refine aP (k-1) _ _ (by omega) ⟨k-1,rfl,by omega,aL _,rfl,λj x hj hx=>?_⟩;by_cases uN:j=k-1
    .rw[uN,vP]at hx
     grind
    grind
   .rw[aB hw,af]
    refine out λj x hj hx=>?_
    by_cases uN:j=k-1
    .rw[uN,vP]at hx
     grind
    .have Bc:=(dB.1 hx)
     obtain⟨yX,Ii⟩:=Bc;obtain⟨iL,hk3⟩:=dB.1 vP;have:=N7.1 hr j (k-1) yX iL (by omega);rw[Ii,hk3]at this;omega
 by_cases ha0:a<0
 .rw[aw ha0,ae]
  simp only[au,aq];rw[Za,ae];simp only[au,aq];rw[ae];grind
 .rw[aB ha0,af]
  simp only[au,aq];rw[Za];by_cases ham:a>=m
  .rw[aw ham,ae]
   simp_all
  .rw[aB ham,af]
   refine Ok.call (B2 n 1 l a p st (.inl rfl) hs) ?_;rintro _ rfl;refine⟨_,st,rfl,?_⟩;simp only[au,aq];exact body ⟨by omega,by omega⟩ _ rfl
def xd (l:aj):aj:=dF (oA (l.drop 4)) 4++l.drop 4
theorem Zut (h:4<=l.length):(xd l).length=l.length:=by
 grind[xd,bz,Zx,dT]
theorem ba.wr (h:ba s0 s (some (i,0)) (bK l)) (hl:0<l.length) (hk:k<=l.length) (t:aj):
  ∃s',ba s0 s' (some (i,0)) (bK (mF l k t))/\s'.length=s.length/\∀K:M β,tl (some (i,k)) (bK (t.take (l.length-k))) K s=K s':=by
 rcases h.2 with⟨e,_⟩|⟨j,e,hj,hs⟩
 .cases e
 .cases e
  have ef:s.gE i=some (bK l):=by grind[St.gE]
  refine⟨s.set i (some ⟨false,bK (mF l k t)⟩),⟨wV h.1 hj _,(by grind)⟩,by simp,λK=>?_⟩;show ee i k _ K s=_;unfold ee;rw[ef];simp only;rw[gf (by rw[Zq,Zq,cz];omega),ae,Tq t hk]
theorem ZoR (n:Nat) (p:ai) (l:aj) (st:St) (hs:dz st p l) (hl:4<=l.length) (mW:l.length<100000) (hn:l.length+40<=n):
  Ok (λo=>∃q s',o=(.val [.slice 1 q l.length],s')/\aD st s'/\rB s' q (xd l)) (run Bd n 207 [.slice 1 p l.length] st):=by
 obtain⟨n,rfl⟩: ∃k,n=k+1:=⟨n-1,by omega⟩;rw[Ze,h.acb];unfold PK ck rJ ix bD ZE;simp only[bc,aq,Z5,Zy];have aG:aD st (st++[some ⟨false,[]⟩]):= .new _ _;have fm:=hs.mono aG;have e1: ∀K:ah->M ah,da p (l.length*1) K (st++[some ⟨false,[]⟩])=K (bK l) (st++[some ⟨false,[]⟩]):=λK=>by
  have:=iD (show Sl _ p (bK l)from fm) K;rwa [Zq,<-cP l.length]at this
 rw[e1];have gC:ba st (st++[some (⟨false,[]⟩:bT)]) (some (st.length,0)) []:=⟨aG,(by simp)⟩;obtain⟨q,s2,ho,he⟩:=gC.app (β:=ah) (sz:=1) (n:=0) (m:=l.length) (lim:=70368744177664) (ds:=bK l) (by omega) rfl (by omega) (by omega);rw[he];rw[gU]at ho;rw[Zb (aw (by omega))];have h4:=(hs.mono ho.1).cU (k:=4) hl;have YO:=ZlF n (cU true p 4) (l.drop 4) s2 h4 (by rw[dT];omega) (by rw[dT];omega);rw[dT]at YO;refine Ok.call YO ?_;rintro _ rfl;refine⟨_,s2,rfl,?_⟩;have cL:=LJ (l.drop 4);simp only[av,aq];have hw:IntKind.wrap .u64 ((oA (l.drop 4):Nat):Int)=((oA (l.drop 4):Nat):Int):=IntWalk.u64_in _ (by omega);rw[hw];refine Ok.call (Z8 n (oA (l.drop 4)) 4 (by omega) s2) ?_;rintro _ ⟨s3,rfl,cq⟩;refine⟨_,s3,rfl,?_⟩;simp only[bP,aq];have kd:=ho.mono cq;obtain⟨i,rfl⟩: ∃i,q=some (i,0):=by
  rcases kd.2 with⟨_,e⟩|⟨i,e,_⟩
  .have:=congrArg List.length e
   rw[Zq,yi]at this;omega
  .exact⟨i,e⟩
 obtain⟨s4,nN,_,AV⟩:=kd.wr (β:=ah) (by omega) (k:=0) (cn _) (dF (oA (l.drop 4)) 4);rw[ej,lq];rw[BN]at AV;rw[AV,Zs];have uQ:mF l 0 (dF (oA (l.drop 4)) 4)=xd l:=by
  unfold mF xd;rw[Ge,gU,BN,dq (by rw[Zx];omega),Zx,ej]
 rw[uQ]at nN;exact .mk ⟨_,_,rfl,Zu nN.1,nN.fz⟩
structure qw where
 line:Int
 dH:Int
 w:UInt8
 again:Bool
def Ax (x:qw):ah:=[.int .i64 x.line,.int .i64 x.dH,.int .u8 x.w.toNat,.bool x.again]
def uh (l:List qw):ah:=(l.map Ax).flatten
theorem ZsO (l:List qw):(uh l).length=l.length*4:=by
 unfold uh;induction l with
 |nil=>rfl
 |cons x l ih=>rw[nZ,yh,bz,ih,cH];show 4+_=_;omega
theorem ZmM: ∀ {l:List qw} {j:Nat} {x:qw},l[j]? =some x->∀k,k<4->(uh l)[j*4+k]? =(Ax x)[k]?
 |[],_,_,h,_,_=>by cases h
 |y::l,0,x,h,k,hk=>by
  cases h;show(Ax y++uh l)[0*4+k]? =_;rw[od,ej,l8 (by show k<4;exact hk)]
 |y::l,j+1,x,h,k,hk=>by
  show(Ax y++uh l)[(j+1)*4+k]? =_;rw[jY (by show 4<=_;omega)];show(uh l)[(j+1)*4+k-4]? =_;rw[show(j+1)*4+k-4=j*4+k by omega];exact ZmM (by simpa using h) k hk
def Av (x:qw) (n:Nat):Nat:=(x.line%((n/64:Nat):Int)).toNat
def An (B:aj) (x:qw):aj:=
 (λB1:aj=>bif x.again then mF B1 (64*Av x B.length) (xd ((B1.drop (64*Av x B.length)).take 64))else B1) (B.set (64*Av x B.length+(x.dH%64).toNat) x.w)
theorem ZpL (x:qw) (h:64<=n):Av x n<n/64:=by
 unfold Av;have h1:=Int.emod_lt_of_pos x.line (show(0:Int)<((n/64:Nat):Int) by omega);have h2:=Int.emod_nonneg x.line (show((n/64:Nat):Int)≠0 by omega);omega
theorem Znm {B:aj} (x:qw) (h:64<=B.length):(An B x).length=B.length:=by
 have:=ZpL x h;unfold An;simp only;cases x.again with
 |false=>rw[af,lD]
 |true=>rw[ae,Lt _ (by rw[lD];omega),lD]
def w5 (B:aj) (l:List qw):aj:=l.foldl An B
theorem Ku: ∀(l:List qw) {B:aj},64<=B.length->(w5 B l).length=B.length
 |[],_,_=>rfl
 |x::l,B,h=>by
  show(w5 (An B x) l).length=_;rw[Ku l (by rw[Znm x h];exact h),Znm x h]
structure SpR (l:List qw):Prop where
 line: ∀x∈l, -9223372036854775808<=x.line/\x.line<=9223372036854775807
 dH: ∀x∈l, -9223372036854775808<=x.dH/\x.dH<=9223372036854775807
theorem ZwK (l:aj) (k:Nat) (b:UInt8) (h:k<l.length):cw (bK l) k [.int .u8 b.toNat]=bK (l.set k b):=by
 have e:l=l.take k++([l[k]]++l.drop (k+1)):=by simp
 have hl:(bK (l.take k)).length=k:=by rw[Zq,cz];omega
 have:=rN (bK (l.take k)) (bK [l[k]]) (bK (l.drop (k+1))) [.int .u8 b.toNat] (by rw[Zq];rfl);rw[hl,<-Cg,<-Cg,<-e]at this;rw[this,List.set_eq_take_append_cons_drop,bw h,Cg];rfl
theorem ba.st1 (h:ba s0 s (some (i,0)) (bK l)) (hk:k<l.length) (b:UInt8):
  ∃s',ba s0 s' (some (i,0)) (bK (l.set k b))/\s'.length=s.length/\∀K:M β,ee i k [.int .u8 b.toNat] K s=K s':=by
 rcases h.2 with⟨e,_⟩|⟨j,e,hj,hs⟩
 .cases e
 .cases e
  have ef:s.gE i=some (bK l):=by grind[St.gE]
  refine⟨s.set i (some ⟨false,bK (l.set k b)⟩),⟨wV h.1 hj _,(by grind)⟩,by simp,λK=>?_⟩;unfold ee;rw[ef];simp only;rw[gf (by rw[Zq];show k+1<=_;omega),ae,ZwK l k b hk]
theorem Zop (n:Nat) (pb:ai) (B:aj) (ps:ai) (z:Nat) (l:List qw) (st:St) (hb:dz st pb B) (hz:z=4\/ps=none) (hs:Sl st ps (uh l)) (hr:SpR l) (hB:64<=B.length) (Mt:B.length<1000000) (hl:l.length<100000) (hn:l.length+300<=n):
  Ok (λo=>∃q s',o=(.val [.slice 1 q B.length],s')/\aD st s'/\rB s' q (w5 B l)) (run Bd n 180 [.slice 1 pb B.length,.slice z ps l.length] st):=by
 obtain⟨n,rfl⟩: ∃k,n=k+1:=⟨n-1,by omega⟩;rw[Ze,h.abM];unfold PX Q_ cI Zn cQ N_ Zm lM ql ck bD fV lH Li;simp only[bc,Zg 4 z ps _ hz,aq,Z5,Zy];have aG:aD st (st++[some ⟨false,[]⟩]):= .new _ _;have e1: ∀K:ah->M ah,da pb (B.length*1) K (st++[some ⟨false,[]⟩])=K (bK B) (st++[some ⟨false,[]⟩]):=λK=>by
  have:=iD (show Sl _ pb (bK B)from hb.mono aG) K;rwa [Zq,<-cP B.length]at this
 rw[e1];have gC:ba st (st++[some (⟨false,[]⟩:bT)]) (some (st.length,0)) []:=⟨aG,(by simp)⟩;obtain⟨q,s2,ho,he⟩:=gC.app (β:=ah) (sz:=1) (n:=0) (m:=B.length) (lim:=70368744177664) (ds:=bK B) (by omega) rfl (by omega) (by omega);rw[he];rw[gU]at ho;obtain⟨i,rfl⟩: ∃i,q=some (i,0):=by
  rcases ho.2 with⟨_,e⟩|⟨i,e,_⟩
  .have:=congrArg List.length e
   rw[Zq,yi]at this;omega
  .exact⟨i,e⟩
 rw[ej];refine Ok.join λaA oN=>?_
 refine Zj _ (λc y t=>∃k:Nat,y=[.int .i64 (k:Int)]/\k<=l.length/\l.length-k<=c/\ba st t (some (i,0)) (bK (w5 B (l.take k)))) ?_ l.length n _ _ ⟨0,rfl,cn _,by omega,by rw[Ge];exact ho⟩ (by omega);rintro c y t ⟨k,rfl,hk,hq,ho⟩ rec aP;simp only[av,aq];by_cases ax:k<l.length
 .obtain⟨i1,o1,rfl⟩:=hs.cD (by rw[ZsO];omega)
  have hx:l[k]? =some l[k]:=bU ax;have gB:l[k]∈l:=jG ax;have fJ:l.take (k+1)=l.take k++[l[k]]:=kS ax;generalize l[k]=x at hx gB fJ;have oH:=λj hj=>ZmM hx j hj
  obtain⟨B1,Ms⟩: ∃B1,w5 B (l.take k)=B1:=⟨_,rfl⟩;have Fa:B1.length=B.length:=by rw[<-Ms];exact Ku _ hB
  have adW:w5 B (l.take (k+1))=An B1 x:=by
   rw[fJ];unfold w5 at Ms⊢;rw[zM,Ms];rfl
  rw[Ms]at ho;have ca:=hs.mono ho.1;have ld: ∀(j:Nat) (d:DV) (K:DV->M ah) (t:St),Sl t (some (i1,o1)) (uh l)->j<4->(Ax x)[j]? =some d->bG i1 (k*4+o1+j) K t=K d t:=λj d K t ca hj hd=>by
   have:=ca.get (β:=ah) (j:=k*4+j) (d:=d) (by rw[oH j hj];exact hd) K;rw[show k*4+o1+j=k*4+j+o1 by omega];exact this
  have hm:=ZpL x (n:=B.length) hB;have Bp:=hr.line x gB;have FM:=hr.dH x gB;have hlq:0<B.length/64:=by omega
  rw[aw (show(k:Int)<(l.length:Int) by omega),ae,aX,Zb (Zi ax)];simp only[bu];have zs: ∀(K:DV->M ah),bG i1 (k*4+o1) K t=K (.int .i64 x.line) t:=λK=>ld 0 _ K t ca (by omega) rfl
  rw[zs];simp only[aY];have ediv:ar (((B.length:Nat):Int).tdiv 64)=((B.length/64:Nat):Int):=by
   rw[show((B.length:Nat):Int).tdiv 64=((B.length/64:Nat):Int)from rfl];exact Zc
  rw[ediv];obtain⟨n,rfl⟩: ∃k,n=k+1:=⟨n-1,by omega⟩;have em:x.line%((B.length/64:Nat):Int)=((Av x B.length:Nat):Int):=by
   unfold Av;rw[Int.toNat_of_nonneg (Int.emod_nonneg _ (by omega))]
  rw[Zk (Py n x.line (B.length/64) hlq (by omega) Bp t),em];simp only[av,aq];rw[aX,Zb (Zi ax),ld 1 _ _ t ca (by omega) rfl];simp only[aY];obtain⟨oc,M0⟩: ∃oc:Nat,(x.dH%64).toNat=oc:=⟨_,rfl⟩;have eo:x.dH%((64:Nat):Int)=(oc:Int):=by omega
  rw[show(DV.int .i64 64)=DV.int .i64 ((64:Nat):Int)from rfl,Zk (Py n x.dH 64 (by omega) (by omega) FM t),eo];simp only[av,aq];rw[aX,Zb (Zi ax),ld 2 _ _ t ca (by omega) rfl];simp only[aY];obtain⟨a,ha⟩: ∃a,Av x B.length=a:=⟨_,rfl⟩;rw[ha]at hm⊢;rw[Zc (x:=64*(a:Int)),Zc (x:=64*(a:Int)+(oc:Int)),Zc (x:=64*(a:Int)+64),show(64*(a:Int)+(oc:Int))=((64*a+oc:Nat):Int) by omega,show(64*(a:Int)+64)=((64*a+64:Nat):Int) by omega,show(64*(a:Int))=((64*a:Nat):Int) by omega,aX,Zb (Zi)];simp only[bu,cP,fT];obtain⟨t2,c8,_,uI⟩:=ho.st1 (β:=ah) (k:=64*a+oc) (by omega) x.w;rw[uI];have Df:=hs.mono c8.1;rw[aX,Zb (Zi ax),ld 3 _ _ t2 Df (by omega) rfl];simp only[sP];rw[Za];have db:(B1.set (64*a+oc) x.w).length=B.length:=by rw[lD,Fa]
  have iC:An B1 x=(bif x.again then mF (B1.set (64*a+oc) x.w) (64*a) (xd (((B1.set (64*a+oc) x.w).drop (64*a)).take 64))else B1.set (64*a+oc) x.w):=by
   unfold An;rw[Fa,ha,M0]
  have go: ∀(t3:St),ba st t3 (some (i,0)) (bK (An B1 x))->Ok (λo=>∃q s',o=(.val [.slice 1 q B.length],s')/\aD st s'/\rB s' q (w5 B l)) (rec [DV.int .i64 (ar ((k:Int)+1))] t3):=λt3 kd=>by
   rw[Zc];exact aP (l.length-(k+1)) _ _ (by omega) ⟨k+1,rfl,by omega,aL _,by rw[adW];exact kd⟩
  cases cN:x.again with
  |false=>
   rw[cN,af]at iC;rw[af];simp only[aq];grind
  |true=>
   rw[cN,ae]at iC;rw[ae];obtain⟨C,hC⟩: ∃C,B1.set (64*a+oc) x.w=C:=⟨_,rfl⟩;rw[hC]at c8 iC db;rw[Zb (by rw[aR,bq,bq];omega),Zb (by rw[aR,bq,bq];omega),Zb (by rw[aR,bq,bq];omega),Zb (by rw[aR,bq,bq];omega)];rw[show 64*a+64-64*a=64 by omega];have pM:dz t2 (cU true (some (i,0)) (64*a)) ((C.drop (64*a)).take 64):=(dz.cU (l:=C) c8.sl (by omega)).lY 64;have gR:((C.drop (64*a)).take 64).length=64:=by rw[cz,dT];omega
   have cN:=ZoR (n+1) (cU true (some (i,0)) (64*a)) ((C.drop (64*a)).take 64) t2 pM (by omega) (by omega) (by omega);rw[gR]at cN;refine Ok.xj cN ?_;rintro _ ⟨q4,s4,rfl,fC,CW⟩;refine⟨_,s4,rfl,?_⟩;simp only[bc,aq];have vJ:(xd ((C.drop (64*a)).take 64)).length=64:=by rw[Zut (by omega),gR]
   have e4: ∀K:ah->M ah,da q4 (min 64 64) K s4=K (bK (xd ((C.drop (64*a)).take 64))) s4:=λK=>by
    have:=iD (show Sl _ q4 (bK _)from CW.1) K;rwa [Zq,vJ]at this
   rw[e4];obtain⟨t5,nO,_,AW⟩:=(c8.mono fC).wr (β:=ah) (by omega) (k:=64*a) (by omega) (xd ((C.drop (64*a)).take 64));rw[dq (by omega)]at AW;show Ok _ (tl (some (i,64*a+0)) _ _ s4);rw[fT,AW];exact go t5 (by rw[iC];exact nO)
 .rw[aB (show ¬(k:Int)<(l.length:Int) by omega),af,oN]
  simp only[aq,Zs];rw[dq (by omega)]at ho;exact .mk ⟨_,_,rfl,Zu ho.1,ho.fz⟩
def ja (img:aj) (k:Int):Option (aj):=if k<0\/((img.length/64:Nat):Int)<=k then none else some (mD img k.toNat)
theorem D2 (n:Nat) (img:aj) (k:Int) (st:St) (hl:img.length<1000000):
  Ok (λo=>∃s',aD st s'/\match ja img k with
   |none=>o=(.val [.slice 0 none 0,.bool false],s')
   |some l=>∃p,o=(.val [.slice 1 p 64,.bool true],s')/\rB s' p l/\l.length=64) (run Bd (n+1) 208 [.str img,.int .i64 k] st):=by
 rw[Ze,h.acd];unfold QB pB az tT Lb;simp only[bP,av,aq,Z5];rw[Za];have ediv:ar (((img.length:Nat):Int).tdiv 64)=((img.length/64:Nat):Int):=by
  rw[show((img.length:Nat):Int).tdiv 64=((img.length/64:Nat):Int)from rfl];exact Zc
 unfold ja;by_cases h0:k<0
 .rw[aw h0,ae,bw (.inl h0)]
  simp only[au,aq];rw[ae,Zs];exact .mk ⟨_,Zu (.refl st),rfl⟩
 .rw[aB h0,af,ediv]
  simp only[au,aq];by_cases h1:k>=((img.length/64:Nat):Int)
  .rw[aw h1,ae,bw (.inr h1),Zs]
   exact .mk ⟨_,Zu (.refl st),rfl⟩
  .rw[aB h1,af,aW (by omega)]
   obtain⟨a,rfl⟩: ∃a:Nat,k=(a:Int):=⟨k.toNat,by omega⟩;rw[Zc (x:=64*(a:Int)),Zc (x:=64*(a:Int)+64),show(64*(a:Int)+64)=((64*a+64:Nat):Int) by omega,show(64*(a:Int))=((64*a:Nat):Int) by omega];simp only[bu];rw[Zb (by rw[aR,bq,bq];omega),Zb (by rw[aR,bq,bq];omega)];have Vo:(img.take (64*a+64)).drop (64*a)=mD img a:=by
    unfold mD;rw[BJ,show 64*a+64-64*a=64 by omega]
   have MP:(mD img a).length=64:=by
    unfold mD;rw[cz,dT];omega
   rw[Vo,Zy,Zs];have ho:ba st (st++[some (⟨false,bK (mD img a)⟩:bT)]) (some (st.length,0)) (bK (mD img a)):=⟨.new _ _,.inr ⟨st.length,rfl,aL _,by simp⟩⟩;exact .mk ⟨_,Zu ho.1,_,by rw[MP];rfl,ho.fz,MP⟩
def Gr (m:Int) (l cs r:ak):Prop:=kZ r/\∀k,k∈r↔k∈l\/(k∈cs/\0<=k/\k<m)
def SM (img:aj) (x:eC) (l:ak):Prop:=(∀c∈x.aO,c∉l)/\∃r,Gr x.blocks l x.aO r/\∀i c,x.aO[i]? =some c->ja img c=some (ta (fQ i r))
theorem Zne (n:Nat) (img:aj) (x:eC) (pc:ai) (l:ak) (p:ai) (st:St) (hc:Sl st pc (ints x.aO)) (hs:Sl st p (ints l)) (hr:kZ l) (hl:l.length<50000) (hx: ∀k∈l,0<=k/\k<1000000) (hm:x.blocks<1000000) (cL:x.aO.length<1000) (jL:img.length<1000000) (hn:l.length+x.aO.length+1000<=n):
  Ok (λo=>∃b s',o=(.val [.bool b],s')/\aD st s'/\(b=true↔SM img x l)) (run Bd n 178 [.str img,.agg (dS x pc),.slice 1 p l.length] st):=by
 obtain⟨n,rfl⟩: ∃k,n=k+1:=⟨n-1,by omega⟩;rw[Ze,h.abK];unfold Pl yr ck gk Q_ cI Zn pw az jJ lJ bd mc Lb eM Li tS eW jf bD;simp only[bP];rw[dt];unfold dS;simp only[av,bc,aq];refine Ok.join λaA oN=>?_
 refine Zj _ (λq y t=>∃(i:Nat) (r:ak) (p':ai),y=[.slice 1 p' r.length,.int .i64 (i:Int)]/\i<=x.aO.length/\x.aO.length-i<=q/\aD st t/\Sl t p' (ints r)/\kZ r/\r.length<=l.length+i/\(∀c∈x.aO.take i,c∉l)/\∀k,k∈r↔k∈l\/(k∈x.aO.take i/\0<=k/\k<x.blocks)) ?_ x.aO.length n _ _ ⟨0,l,p,rfl,cn _,by omega,.refl _,hs,hr,by omega,λc hc=>by simp at hc,λk=>by simp⟩ (by omega);rintro q y t ⟨i,r,p',rfl,hi,hq,hp,hf,Bo,Nb,cx,gB⟩ rec aP;simp only[bc,av,aq];by_cases ax:i<x.aO.length
 .obtain⟨i1,o1,rfl⟩:=hc.cD (by simp[ints];omega)
  have cZ:(ints x.aO)[i]? =some (.int .i64 x.aO[i]):=ZA ax;have vP:x.aO[i]? =some x.aO[i]:=bU ax;have fJ:x.aO.take (i+1)=x.aO.take i++[x.aO[i]]:=kS ax;have hmc:x.aO[i]∈x.aO:=jG ax;rw[aw (show(i:Int)<(x.aO.length:Int) by omega),ae,aX,Zb (Zi ax)];simp only[bu];rw[(hc.mono hp).dL cZ];simp only[aY];generalize x.aO[i]=w at cZ vP fJ hmc;refine Ok.call (B2 n 1 l w p t (.inl rfl) (hs.mono hp)) ?_;rintro _ rfl;refine⟨_,t,rfl,?_⟩;simp only[au,aq];by_cases hw:w∈l
  .rw[aw hw,ae,Zd]
   refine .mk ⟨false,t,rfl,hp,⟨λe=>(by cases e),λhP=>absurd hw (hP.1 w hmc)⟩⟩
  .rw[aB hw,af,aX,Zb (Zi ax),(hc.mono hp).dL cZ]
   simp only[aY];refine Ok.call (ZlD n r 1 p' x.blocks w t (.inl rfl) hf Bo) ?_;rintro _ ⟨p2,r2,s2,rfl,aZ,nK,jM,gK⟩;refine⟨_,s2,rfl,?_⟩;simp only[bc,aq];rw[Zc];refine aP (x.aO.length-(i+1)) _ _ (by omega) ⟨i+1,r2,p2,rfl,by omega,aL _,hp.trans aZ,nK,jM,?_,λc hc=>?_,λk=>?_⟩
   .have:r2.length<=(w::r).length:=Cf jM.nodup λk hk=>by
     rcases(gK k).1 hk with h|h
     .exact rp _ h
     .rw[h.1];exact oa
    rw[cH]at this;omega
   .rw[fJ]at hc
    rcases fE.1 hc with hc|hc
    .exact cx c hc
    .rw[cj.1 hc];exact hw
   .rw[gK,gB,fJ,fE,cj]
    constructor
    .rintro((h1|⟨h1,h2⟩)|⟨h1,h2⟩)
     .exact .inl h1
     .exact .inr ⟨.inl h1,h2⟩
     .exact .inr ⟨.inr h1,by omega⟩
    .rintro(h1|⟨h1|h1,h2⟩)
     .exact .inl (.inl h1)
     .exact .inl (.inr ⟨h1,h2⟩)
     .exact .inr ⟨h1,by omega⟩
 .rw[aB (show ¬(i:Int)<(x.aO.length:Int) by omega),af,oN]
  rw[dq (by omega)]at cx gB;have hW:Gr x.blocks l x.aO r:=⟨Bo,gB⟩;have afM: ∀r',Gr x.blocks l x.aO r'->r'=r:=λr' h'=>GZ h'.1 Bo λk=>by rw[h'.2,gB]
  have Bp: ∀k∈r,0<=k/\k<1000000:=λk hk=>by
   rcases(gB k).1 hk with h1|h1
   .exact hx k h1
   .omega
  simp only[bc,aq];refine Ok.join λaI j8=>?_
  refine Zj _ (λq y u=>∃j:Nat,y=[.int .i64 (j:Int)]/\j<=x.aO.length/\x.aO.length-j<=q/\aD st u/\Sl u p' (ints r)/\∀i c,i<j->x.aO[i]? =some c->ja img c=some (ta (fQ i r))) ?_ x.aO.length n _ _ ⟨0,rfl,cn _,by omega,hp,hf,λi c hi=>by omega⟩ (by omega);rintro q2 y2 u ⟨j,rfl,hj,Dc,IE,fw,cS⟩ dA kh;simp only[av,aq];have Fj: ∀(c:Int) (u':St),x.aO[j]? =some c->ja img c≠some (ta (fQ j r))->aD st u'->Ok (λo=>∃b s',o=(.val [.bool b],s')/\aD st s'/\(b=true↔SM img x l)) ((ay [.bool false]:M ah) u'):=λc u' hcj du afj=>by
   rw[Zd];refine .mk ⟨false,u',rfl,afj,⟨λe=>(by cases e),?_⟩⟩;rintro⟨_,r',h1,h2⟩;rw[afM r' h1]at h2;exact absurd (h2 j c hcj) du
  by_cases kb:j<x.aO.length
  .obtain⟨i1,o1,rfl⟩:=hc.cD (by simp[ints];omega)
   have cZ:(ints x.aO)[j]? =some (.int .i64 x.aO[j]):=ZA kb;have vP:x.aO[j]? =some x.aO[j]:=bU kb;rw[aw (show(j:Int)<(x.aO.length:Int) by omega),ae,aX,Zb (Zi kb)];simp only[bu];rw[(hc.mono IE).dL cZ];simp only[aY];generalize x.aO[j]=w at cZ vP;obtain⟨n,rfl⟩: ∃k,n=k+1:=⟨n-1,by omega⟩;refine Ok.call (D2 n img w u jL) ?_;rintro o ⟨u2,aZ,ho⟩;cases mX:ja img w with
   |none=>
    rw[mX]at ho;simp only at ho;subst ho;refine⟨_,u2,rfl,?_⟩;simp only[Zg 1 0 none _ (.inr rfl),au,aq];rw[Za,bp,ae];simp only[au,aq];rw[ae];exact Fj w u2 vP (by rw[mX];intro e;cases e) (IE.trans aZ)
   |some b=>
    rw[mX]at ho;simp only at ho;obtain⟨pl,rfl,eu,gR⟩:=ho;refine⟨_,u2,rfl,?_⟩;simp only[bc,au,aq];rw[Za,bm,af];have erd: ∀K:ah->M ah,da pl 64 K u2=K (bK b) u2:=λK=>by
     have:=iD (show Sl _ pl (bK b)from eu.1) K;rwa [Zq,gR]at this
    rw[erd];rw[<-lq,oh];refine Ok.mn (ZkZ (n+1) j r p' 1 u2 (.inl rfl) (fw.mono aZ) (by omega) (by omega) Bp (by omega)) ?_;rintro _ rfl;refine⟨_,u2,rfl,.refl _,?_⟩;rw[dt];unfold ZS;have uF:(fQ j r).dH.length=48:=by
     show(tg j (List.replicate 48 0) r).length=48;rw[GV];simp
    simp only[av];unfold bx;rw[Zq,uF,show Nat.beq 48 48=true from rfl,ae];simp only[aq];refine Ok.mn (Zlv (n+1) (fQ j r) uF u2) ?_;rintro _ ⟨u3,rfl,cq⟩;refine⟨_,u3,rfl,cq,?_⟩;simp only[bP,au,aq];cases CQ:(b==ta (fQ j r))with
    |true=>
     have CQ:=eq_of_beq CQ;rw[bm,af,Zc];refine kh (x.aO.length-(j+1)) _ _ (by omega) ⟨j+1,rfl,by omega,aL _,IE.trans (aZ.trans cq),fw.mono (aZ.trans cq),λi c hi Fu=>?_⟩;by_cases pQ:i=j
     .subst pQ
      rw[vP]at Fu;cases Fu;rw[mX,CQ]
     .exact cS i c (by omega) Fu
    |false=>
     rw[bp,ae];refine Fj w u3 vP (λe=>?_) (IE.trans (aZ.trans cq));rw[mX]at e;rw[DQ e,rr]at CQ;cases CQ
  .rw[aB (show ¬(j:Int)<(x.aO.length:Int) by omega),af,j8]
   simp only[aq,Zd];refine .mk ⟨true,u,rfl,IE,⟨λ_=>⟨cx,r,hW,λi c Fu=>cS i c ?_ Fu⟩,λ_=>rfl⟩⟩;have:=(dB.1 Fu).1;omega
theorem RK (h:ZI l=true):l=lf l.length:=by
 unfold ZI at h;rw[lA]at h;unfold lf;exact List.eq_replicate_iff.2 (by grind)
theorem ZrR (c:UInt8):rb ((c.toNat:Nat):Int)=c:=by
 unfold rb;have:(((c.toNat:Nat):Int)%256).toNat=c.toNat:=by
  have:=c.toNat_lt;omega
 rw[this,UInt8.ofNat_toNat]
theorem uc {b:aj} (h:fY l=some (k,t,b)):l=iE k t b/\b.length=56/\k<256/\t<256:=by
 unfold fY at h;cases hr:rK l with
 |false=>rw[hr]at h;cases h
 |true=>
  rw[hr,ae]at h;cases h;unfold rK at hr;rw[aR,aR,aR,bq,bq]at hr;obtain⟨pK,_,h2,h3⟩:=hr;have hb:(l.drop 8).length=56:=by rw[dT];omega
  have hf:ju (l.drop 8) 56=l.drop 8:=by
   simp_all[ju,lf]
  have hz:=RK h2;have qU:((l.drop 6).take 2).length=2:=by rw[cz,dT];omega
  rw[qU]at hz;have hS:oU ((l.getD 4 0).toNat:Nat) ((l.getD 5 0).toNat:Nat) (l.drop 8)=l.drop 4:=by
   unfold oU;rw[ZrR,ZrR,hf];have e1:l.drop 4=l.getD 4 0::l.getD 5 0::l.drop 6:=by
    rw[iI (by omega),iI (show 4+1<l.length by omega),dX,dX,bU (by omega),bU (by omega)];rfl
   have e2:l.drop 6=[0,0]++l.drop 8:=by
    have:=nu 2 (l.drop 6);rw[hz,jX]at this;exact this.symm
   rw[e1,e2];rfl
  refine⟨?_,hb,UInt8.toNat_lt _,UInt8.toNat_lt _⟩;unfold iE;rw[hS,h3];have h4:(l.take 4).length=4:=by rw[cz];omega
  have:=SD (l.take 4);rw[h4]at this;rw[this,nu]
theorem ZsJ (h:wX l=some c):l=ta c/\c.dH.length=48/\c.no<8:=by
 unfold wX at h;cases ho:fY l with
 |none=>rw[ho]at h;cases h
 |some q=>
  obtain⟨k,t,b⟩:=q;rw[ho]at h;simp only at h;obtain⟨h1,h2,h3,h4⟩:=uc ho;cases hc:(decide (k=4)&&(decide (t<8)&&ZI (b.drop 48)))with
  |false=>rw[hc]at h;cases h
  |true=>
   rw[hc,ae]at h;cases h;rw[aR,aR,bq,bq]at hc;obtain⟨rfl,h5,h6⟩:=hc;refine⟨?_,by rw[cz];omega,h5⟩;have hz:=RK h6;have qU:(b.drop 48).length=8:=by rw[dT];omega
   rw[qU]at hz;have hf:ju (b.take 48) 56=ju b 56:=by
    unfold ju;have hl:(b.take 48).length=48:=by rw[cz];omega
    rw[hl,h2,<-hz,nu];simp[lf]
   rw[h1];grind[ta,iE,oU]
theorem ZwU {a b:aj} (ha:a.length=48) (hb:b.length=48) (h: ∀j,j<384->rS a j=rS b j):a=b:=by
 refine List.ext_getElem (by omega) λi h1 h2=>?_
 refine DS.1 (Gf λj=>?_);have l1:=a[i].toNat_lt;have l2:=b[i].toNat_lt;rcases jH j 8 with hj|hj
 .have:=h (8*i+j) (by omega)
  unfold rS at this;rw[show(8*i+j)/8=i by omega,show(8*i+j)%8=j by omega,dX,dX,bU h1,bU h2,ub,ub]at this;exact this
 .rw[Gi (lE l1 (l9 (n:=2) (i:=8) (by decide) hj)),Gi (lE l2 (l9 (n:=2) (i:=8) (by decide) hj))]
theorem K3 {img:aj} {m:Nat} {W:al} : ∀ {ks:ak} {cs:List ZN},vG img m W ks=some cs↔(cs.length=ks.length/\∀(i:Nat) (k:Int),ks[i]? =some k->∃c,cs[i]? =some c/\wX (ZB img k.toNat)=some c/\(fR m k&&dM W k.toNat)=false)
 |[],cs=>by
  constructor
  .intro h
   cases h;simp
  .rintro⟨h,_⟩
   rw[wG.1 h];rfl
 |k::ks,cs=>by
  unfold vG;constructor
  .intro h
   cases hg:wX (ZB img k.toNat)with
   |none=>rw[hg]at h;cases h
   |some c=>
    rw[hg]at h;simp only at h;cases hb:(fR m k&&dM W k.toNat)with
    |true=>rw[hb]at h;cases h
    |false=>
     rw[hb,af]at h;cases hr:vG img m W ks with
     |none=>rw[hr]at h;cases h
     |some cs'=>
      rw[hr]at h;cases h;obtain⟨h1,h2⟩:=K3.1 hr;grind
  .rintro⟨h1,h2⟩
   cases cs with
   |nil=>cases h1
   |cons c cs=>
    obtain⟨c',e1,e2,e3⟩:=h2 0 k rfl;cases e1;rw[e2];simp only;rw[e3,af,K3.2 ⟨by simpa using h1,λi k' xH=>h2 (i+1) k' (by simpa using xH)⟩];rfl
theorem Zws {k:Int} (h:k∈eK c 384): ∃b:Nat,k=(b:Int)/\b/384=c.no/\xB c b=true:=by
 obtain⟨i,hi,rfl,hh⟩:=KT.1 h;grind
theorem Zrs (c:ZN):(eK c 384).Pairwise (· < ·):=by
 unfold eK;rw[JN];refine List.Pairwise.imp (λ{a b} h=>?_) (List.Pairwise.sublist List.filter_sublist List.pairwise_lt_range);omega
theorem Zxa :BC m c=false↔ ∀k∈eK c 384,k<(m:Int):=by
 unfold BC;by_cases h0:0<(eK c 384).length
 .rw[aw h0,ae,ry]
  have du:eK c 384≠[]:=by grind
  have hl:(eK c 384).getLastD 0=(eK c 384).getLast du:=by rw[List.getLastD_eq_getLast?,List.getLast?_eq_some_getLast du];rfl
  rw[hl];constructor
  .intro h k hk
   obtain⟨i,hi⟩:=List.mem_iff_getElem?.1 hk;obtain⟨If,Ig⟩:=dB.1 hi;have Il:(eK c 384).getLast du=(eK c 384)[(eK c 384).length-1]'(by omega):=List.getLast_eq_getElem du;rw[Il]at h;rcases jH i ((eK c 384).length-1)with h1|h1
   .have:=N7.1 (Zrs c) i ((eK c 384).length-1) If (by omega) h1
    omega
   grind
  simp_all
 grind
theorem Znr {m:Nat} : ∀ {cs:List ZN} {i:Nat} {W F:al},W.length=(m+63)/64->(∀w∈W,w<18446744073709551616)->Au m i cs W=some F->
  F.length=(m+63)/64/\(∀w∈F,w<18446744073709551616)/\(∀j c,cs[j]? =some c->c.no=i+j/\∀k∈eK c 384,k<(m:Int))/\∀b:Nat,dM F b=true↔dM W b=true\/∃(j:Nat) (c:ZN),cs[j]? =some c/\(b:Int)∈eK c 384
 |[],i,W,F,hl,hw,h=>by
  cases h;grind
 |c::cs,i,W,F,hl,hw,h=>by
  unfold Au at h;cases hb:(decide (c.no=i)&& !BC m c)with
  |false=>rw[hb]at h;cases h
  |true=>
   rw[hb,ae]at h;rw[aR,bq,kR]at hb;obtain⟨h1,h2⟩:=hb;have h2:=Zxa.1 h2;obtain⟨q1,q2⟩:=pF m (eK c 384) W;obtain⟨f1,f2,f3,f4⟩:=Znr (by rw[q1];exact hl) (q2 hw) h;refine⟨f1,f2,λj c' hc'=>?_,λb=>?_⟩
   .grind
   .rw[f4 b,Er _ hl b]
    constructor
    .rintro((h3|⟨h3,_⟩)|⟨j,c',h3,h4⟩)
     .exact .inl h3
     .exact .inr ⟨0,c,rfl,h3⟩
     .exact .inr ⟨j+1,c',by simpa using h3,h4⟩
    grind
theorem Ac (W:al):kZ (dJ W):=by
 rw[Zp7];unfold kZ;rw[JN];refine List.Pairwise.imp (λ{a b} h=>?_) (List.Pairwise.sublist List.filter_sublist List.pairwise_lt_range);omega
theorem ZxX (h:m<=3072):qa (m:Int) 384=(((m+383)/384:Nat):Int):=by
 unfold qa;rw[Zc (x:=(m:Int)+384),Zc (x:=(m:Int)+384-1),show((m:Int)+384-1)=((m+383:Nat):Int) by omega,show(((m+383:Nat):Int).tdiv 384)=(((m+383)/384:Nat):Int)from rfl];exact Zc
theorem ZsI {x:eC} (hx:qf x) (hl:W.length=(x.blocks.toNat+63)/64) (hw: ∀w∈W,w<18446744073709551616) (hm: ∀b,dM W b=true->b<x.blocks.toNat) (CZ:x.blocks<=((img.length/64:Nat):Int)):Ai img x W=true↔SM img x (dJ W):=by
 obtain⟨g1,g2,_⟩:=Z3 hx.g;obtain⟨m,kJ⟩: ∃m:Nat,x.blocks=(m:Int):=by grind
 have jy:x.blocks.toNat=m:=by omega
 rw[jy]at hl hm;have cL:x.aO.length=(m+383)/384:=by
  have:=hx.len;rw[Zoj hx.g,jy]at this;omega
 have oI: ∀i (k:Int),x.aO[i]? =some k->2<=k/\k<(m:Int):=λi k hk=>by
  have hi:=(dB.1 hk).1;have h1:=(hx.ch i hi).1;rw[dX,hk]at h1;have:=(SC x _).1 h1;rw[kJ]at this;exact this
 have Yk: ∀i (k:Int),x.aO[i]? =some k->ja img k=some (ZB img k.toNat):=λi k hk=>by
  have:=oI i k hk;grind[ja,Y1]
 have h0:(kM m []).length=(m+63)/64:=by unfold kM;simp
 have HT: ∀w∈kM m [],w<18446744073709551616:=λw hw=>by
  grind[kM]
 obtain⟨q1,q2⟩:=pF m (dJ (kM m x.aO)) W;have hR: ∀b:Nat,dM ((dJ (kM m x.aO)).foldl (bX m) W) b=true↔dM W b=true\/((b:Int)∈x.aO/\b<m):=λb=>by
  rw[Er _ hl b,qk];constructor
  .rintro(h|⟨⟨b',e,h⟩,h2⟩)
   .exact .inl h
   .have:b'=b:=by omega
    subst this;exact .inr ((vw _ _).1 h)
  .rintro(h|h)
   .exact .inl h
   .exact .inr ⟨⟨b,rfl,(vw _ _).2 h⟩,h.2⟩
 have hWP: ∀r,Gr x.blocks (dJ W) x.aO r->∀b:Nat,(b:Int)∈r↔dM W b=true\/((b:Int)∈x.aO/\b<m):=λr hr b=>by
  rw[hr.2,qk,kJ];constructor
  .rintro(⟨b',e,h⟩|⟨h1,_,h3⟩)
   .grind
   grind
  grind
 unfold Ai;rw[jy];constructor
 .intro h
  cases hg:vG img m W x.aO with
  |none=>rw[hg]at h;cases h
  |some cs=>
   rw[hg]at h;simp only at h;obtain⟨ahj,mq⟩:=K3.1 hg;cases hf:AL m cs with
   |none=>rw[hf]at h;cases h
   |some F=>
    rw[hf]at h;simp only at h;have hFe:=iR h;unfold AL at hf;cases hd:decide ((cs.length:Int)=qa (m:Int) 384)with
    |false=>rw[hd]at hf;cases hf
    |true=>
     rw[hd,ae]at hf;obtain⟨f1,f2,f3,f4⟩:=Znr h0 HT hf;have hF: ∀b:Nat,dM F b=true↔ ∃(j:Nat) (c:ZN),cs[j]? =some c/\(b:Int)∈eK c 384:=λb=>by
      rw[f4 b,vw];constructor
      .rintro(⟨h1,_⟩|h1)
       .cases h1
       .exact h1
      .exact .inr
     have afQ:Gr x.blocks (dJ W) x.aO (dJ F):=by
      refine⟨Ac F,λk=>?_⟩;rw[qk,qk];constructor
      .grind
      .rintro(⟨b,rfl,hb⟩|⟨h1,h2,h3⟩)
       .grind
       .refine⟨k.toNat,by omega,?_⟩
        rw[hFe];refine(hR _).2 (.inr ⟨?_,by omega⟩);rw[Int.toNat_of_nonneg h2];exact h1
     refine⟨λc hc gB=>?_,dJ F,afQ,λi k hk=>?_⟩
     .obtain⟨i,hi⟩:=List.mem_iff_getElem?.1 hc
      obtain⟨c',_,_,e3⟩:=mq i c hi;obtain⟨b,rfl,hb⟩:=qk.1 gB;rw[bu,hb,wE]at e3;unfold fR at e3;have:=oI i _ hi;rw[aw (show(0:Int)<=(b:Int) by omega),aw (show(b:Int)<(m:Int) by omega)]at e3;cases e3
     .obtain⟨c,e1,e2,e3⟩:=mq i k hk
      obtain⟨a1,a2,a3⟩:=ZsJ e2;obtain⟨b1,b2⟩:=f3 i c e1;rw[ej]at b1;rw[Yk i k hk,a1];have hce:c=fQ i (dJ F):=by
       have uF:(fQ i (dJ F)).dH.length=48:=by
        show(tg i (List.replicate 48 0) (dJ F)).length=48;rw[GV];simp
       have Yw:c.dH=(fQ i (dJ F)).dH:=by
        refine ZwU a2 uF λj hj=>?_
        have e4:=Tg (c:=c) hj;have e5:=SP (p:=i) (l:=dJ F) hj;have e6:=Tg (c:=fQ i (dJ F)) hj;rw[show(fQ i (dJ F)).no=i from rfl]at e6;rw[<-e4,<-e6,e5,b1,iQ,bq,qk];constructor
        .intro hh
         refine⟨384*i+j,rfl,(hF _).2 ⟨i,c,e1,KT.2 ⟨j,hj,by rw[b1,BM],by rw[b1];exact hh⟩⟩⟩
        .rintro⟨b,e,hb⟩
         have:b=384*i+j:=by omega
         subst this;obtain⟨i',c',e7,e8⟩:=(hF _).1 hb;obtain⟨b',e9,e10,e11⟩:=Zws e8;obtain⟨b3,_⟩:=f3 i' c' e7;have:b'=384*i+j:=by omega
         subst this;have:i'=i:=by omega
         grind
       cases c with
       |mk no dH=>
        simp only at b1 Yw;rw[b1,Yw];rfl
      rw[<-hce]
 .rintro⟨cx,r,hr,mW⟩
  have hrm: ∀k∈r,k<(m:Int):=λk hk=>by
   rcases(hr.2 k).1 hk with h1|h1
   .obtain⟨b,rfl,hb⟩:=qk.1 h1
    have:=hm b hb;omega
   .omega
  have aeo:vG img m W x.aO=some ((List.range' 0 x.aO.length).map λp=>fQ p r):=by
   refine K3.2 ⟨by simp,λi k hk=>?_⟩;have hi:=(dB.1 hk).1;refine⟨fQ i r,?_,?_,?_⟩
   .rw[oY,List.getElem?_range' hi]
    grind
   .have h1:=mW i k hk
    rw[Yk i k hk]at h1;rw[DQ h1];exact(Zuq (by show i<8;omega) (by show(tg i (List.replicate 48 0) r).length=48;rw[GV];simp)).2
   .cases fO:dM W k.toNat with
    |false=>exact BG _
    |true=>
     have:=oI i k hk;exact absurd (qk.2 ⟨k.toNat,by omega,fO⟩) (cx k (oZ hk))
  obtain⟨F,f1,f2,f3,f4⟩:=Zp6 hrm x.aO.length 0 (kM m []) h0 HT;rw[aeo];simp only;unfold AL;rw[nY,List.length_range',ZxX (by omega),cL,aw rfl,ae,<-cL,f1];refine aw (Zu5 (by rw[f2,q1,hl]) f3 (q2 hw) λb=>?_);rw[iQ,f4 b,hR b,vw,hWP r hr b];constructor
  .grind
  .intro h1
   refine .inr ⟨h1,by omega,?_⟩;rcases h1 with h1|h1
   .have:=hm b h1
    omega
   .omega
end Go.Gv.F
