/- Charts that were made are right. No program in sight. -/
import Derived.Test.YtegglibipjjblaaGreatDoorGvZMf
set_option linter.all false
namespace Go.Gv.F
open Go.Gv
variable {k:Int} {i j lim m n p sz t:Nat} {c:ZP} {cs ds:ah} {l:ak} {V W:al}
theorem Zv6 (hl:W.length=V.length) (hw: ∀w∈W,w<18446744073709551616) (hv: ∀w∈V,w<18446744073709551616) (h: ∀b,di W b=di V b):W=V:=by
 refine List.ext_getElem hl λi h1 h2=>Dc λj=>?_
 have a1:=hw _ (kA h1);have a2:=hv _ (kA h2);rcases jI j 64 with hj|hj
 .have:=h (64*i+j)
  unfold di at this;rw[show(64*i+j)/64=i by omega,show(64*i+j)%64=j by omega,dW,dW,cq h1,cq h2,wa,wa]at this;exact this
 .rw[HH (mI a1 (nT (n:=2) (i:=64) (by decide) hj)),HH (mI a2 (nT (n:=2) (i:=64) (by decide) hj))]
theorem zM {m:Nat} : ∀(ks:ak) {W:al},W.length=(m+63)/64->∀b:Nat,di (ks.foldl (bK m) W) b=true↔di W b=true\/((b:Int)∈ks/\b<m)
 |[],W,_,b=>by simp
 |a::ks,W,hl,b=>by
  rw[Bf,zM ks (by rw[oM];exact hl) b,qP hl,lV,aY,br,eF];grind[fE]
theorem wc (l:ak) (b:Nat):di (jd m l) b=true↔(b:Int)∈l/\b<m:=by
 unfold jd;rw[zM l (by simp) b,Zzv];simp
theorem ZAg {b:Nat} (h:di W b=true):b<64*W.length:=by
 rcases jI b (64*W.length)with h1|h1
 .exact h1
 .unfold di at h
  rw[dW,HD (by omega)]at h;simp_all[eE]
theorem oO :k∈dq W↔ ∃b:Nat,k=(b:Int)/\di W b=true:=by
 rw[Zrd];constructor
 .grind
 .rintro⟨b,rfl,hb⟩
  exact pK.2 ⟨b,Fb.2 ⟨ux.2 (ZAg hb),hb⟩,rfl⟩
def sv (b:aj) (k:Nat):Bool:=eE (b.getD (k/8) 0).toNat (k%8)
theorem Zyx {b:aj} {k:Nat} (h:k/8<b.length):sv (xP b k) j=(sv b j||decide (j=k)):=by
 unfold sv xP;rw[wa,wa,dW];by_cases hq:k/8=j/8
 .rw[<-hq,kZ h]
  rw[Option.getD_some];have aw:(b.getD (k/8) 0).toNat|||2^(k%8)<256:=Nat.or_lt_two_pow (n:=8) (UInt8.toNat_lt _) (Lz (by decide) (by omega));rw[UInt8.toNat_ofNat_of_lt' aw,Nat.testBit_or,Nat.testBit_two_pow];grind
 grind
theorem UB (p:Nat): ∀(l:ak) (b:aj),b.length=48->∀j,j<384->sv (tG p b l) j=(sv b j||decide (((384*p+j:Nat):Int)∈l))
 |[],b,_,j,_=>by
  show sv b j=_;simp
 |x::r,b,hb,j,hj=>by
  unfold tG;cases hx:inPlace p x with
  |false=>
   rw[af,UB p r b hb j hj];grind[inPlace]
  |true=>
   unfold inPlace at hx;rw[aY,br,br]at hx;rw[ae,UB p r _ (by rw[Mr];exact hb) j hj,Zyx (by omega),Bool.or_assoc];grind
theorem ZxE (n j:Nat):sv (List.replicate n 0) j=false:=by
 unfold sv;rw[dW,Lm];unfold eE;split<;>simp
theorem VG (h:i<384):ym c (c.no*384+i)=sv c.eY i:=by
 grind[ym,sv]
theorem Vf (h:i<384):ym (gr p l) (p*384+i)=decide (((384*p+i:Nat):Int)∈l):=by
 have:=VG (c:=gr p l) h;rw[show(gr p l).no=p from rfl]at this;rw[this];show sv (tG p (List.replicate 48 0) l) i=_;rw[UB p l _ (by simp) i h,ZxE,vR]
theorem MP :k∈eV c 384↔ ∃i,i<384/\k=((c.no*384+i:Nat):Int)/\ym c (c.no*384+i)=true:=by
 grind[eV]
theorem Ztw {b:Nat} :(b:Int)∈eV (gr p l) 384↔(b:Int)∈l/\b/384=p:=by
 rw[MP,show(gr p l).no=p from rfl];constructor
 .rintro⟨i,hi,e,hh⟩
  rw[Vf hi,br]at hh;grind
 .rintro⟨h1,h2⟩
  refine⟨b%384,Nat.mod_lt _ (by decide),by omega,?_⟩;rw[Vf (Nat.mod_lt _ (by decide)),br,show 384*p+b%384=b by omega];exact h1
theorem Zxl (h: ∀k∈l,k<(m:Int)):CU m (gr p l)=false:=by
 unfold CU;by_cases h0:0<(eV (gr p l) 384).length
 .rw[ax h0,ae]
  refine aF λhc=>?_
  have dM:eV (gr p l) 384≠[]:=by grind
  have hm:(eV (gr p l) 384).getLastD 0∈eV (gr p l) 384:=by
   rw[List.getLastD_eq_getLast?,List.getLast?_eq_some_getLast dM];simp
  have⟨i,_,e,_⟩:=MP.1 hm;rw[e]at hm hc;have:=h _ (Ztw.1 hm).1;omega
 grind
theorem Zrr {m:Nat} {l:ak} (h: ∀k∈l,k<(m:Int)): ∀(c i:Nat) (W:al),W.length=(m+63)/64->(∀w∈W,w<18446744073709551616)->
  ∃F,BQ m i ((List.range' i c).map λp=>gr p l) W=some F/\F.length=(m+63)/64/\(∀w∈F,w<18446744073709551616)/\∀b,di F b=true↔di W b=true\/((b:Int)∈l/\384*i<=b/\b<384*(i+c))
 |0,i,W,hl,hw=>⟨W,rfl,hl,hw,by grind⟩
 |c+1,i,W,hl,hw=>by
  have⟨q1,q2⟩:=ZF m (eV (gr i l) 384) W;have⟨F,f1,f2,f3,f4⟩:=Zrr h c (i+1) ((eV (gr i l) 384).foldl (bK m) W) (by rw[q1];exact hl) (q2 hw);refine⟨F,?_,f2,f3,λb=>?_⟩
  .rw[Lv,oG]
   unfold BQ;rw[show(gr i l).no=i from rfl,ax rfl,Zxl h];exact f1
  .rw[f4 b,zM _ hl b,Ztw]
   grind
variable {β:Type}
theorem bm.NH {s0 s:St} {a:ai} (h:bm s0 s a cs) (hz:0<sz) (hn:cs.length=n*sz) (hd:ds.length=m*sz) (hl:n+m<=lim):
  ∃p s',bm s0 s' p (cs++ds)/\∀K:ai->M β,cm sz a n ds m lim K s=K p s':=by
 rcases Bi m with rfl|hm
 .rw[tn]at hd
  rw[zu.1 hd,gz];exact⟨a,s,h,λK=>rfl⟩
 .exact h.app hz hn hm hl
def kC (l:ak):Prop:=l.Pairwise (· < ·)
theorem kC.nodup (h:kC l):l.Nodup:=h.imp λh e=>by omega
theorem FF: ∀ {l m:ak},kC l->kC m->(∀k,k∈l↔k∈m)->l=m
 |[],[],_,_,_=>rfl
 |[],b::m,_,_,h=>by cases(h b).2 uv
 |a::l,[],_,_,h=>by cases(h a).1 uv
 |a::l,b::m,hl,hm,h=>by
  have h1:=List.pairwise_cons.1 hl;have h2:=List.pairwise_cons.1 hm;have e:a=b:=by
   rcases eF.1 ((h a).1 uv)with e|e
   .exact e
   .rcases eF.1 ((h b).2 uv)with e'|e'
    .exact e'.symm
    grind
  subst e;rw[FF h1.2 h2.2 λk=>⟨λhk=>?_,λhk=>?_⟩]
  .grind
  grind
theorem ZrV {k:Nat} {a:Int} (hr:kC l) (h1: ∀j (x:Int),k<=j->l[j]? =some x->a<x) (h2: ∀j (x:Int),j<k->l[j]? =some x->x<a):kC (l.take k++[a]++l.drop k)/\∀b,b∈l.take k++[a]++l.drop k↔b∈l\/b=a:=by
 have lR:l=l.take k++l.drop k:=by simp
 have ht: ∀x∈l.take k,x<a:=λx hx=>by
  have⟨j,hj⟩:=List.mem_iff_getElem?.1 hx;rw[xo]at hj;split at hj
  .grind
  .cases hj
 have hd: ∀x∈l.drop k,a<x:=λx hx=>by
  have⟨j,hj⟩:=List.mem_iff_getElem?.1 hx;rw[Bg]at hj;grind
 refine⟨?_,λb=>?_⟩
 .unfold kC at hr⊢
  rw[lR,Lr]at hr;rw[fI,Lr];grind
 grind
def LB (st:St) (l:ak) (m a:Int) (o:Out ah×St):Prop:=∃(p:ai) (r:ak) (s':St),o=(.val [.s 1 p r.length],s')/\aB st s'/\Sl s' p (ints r)/\kC r/\∀k,k∈r↔k∈l\/(k=a/\0<=a/\a<m)
variable {Bd:Zh} [h:HA Bd]
theorem SY (n:Nat) (l:ak) (z:Nat) (p:ai) (m a:Int) (st:St) (hz:z=1\/p=none) (hs:Sl st p (ints l)) (hr:kC l) (hl:l.length<100000:=by omega) (hn:l.length+10<=n:=by omega):
  Ok (LB st l m a) (run Bd n 205 [.s z p l.length,.i m,.i a] st):=by
 obtain _|n:=n;omega;rw[Ze,h.aeP];unfold TJ xS aA oL cN Zm bq aZ Li Lb dY;simp only[Zg 1 z p _ hz,av,aq,ZM];have stay:(a∈l\/¬(0<=a/\a<m))->Ok (LB st l m a) ((bZ st.length [DV.s 1 p l.length]:M ah) st):=λhc=>by
  rw[Zp];have hp:aB st (Z1 st.length st):=Zr (.refl st);refine .mk ⟨p,l,_,rfl,hp,hs.mono hp,hr,λk=>⟨.inl,λhk=>hk.elim id λhk=>?_⟩⟩;grind
 have jU:(ints l).length=l.length:=by simp[ints]
 rw[Za];have body:(0<=a/\a<m)->∀b,b=decide (a∈l)->Ok (LB st l m a) ((bif b then(bZ st.length [DV.s 1 p l.length]:M ah)else
   cK (λaac=>aD .i64 aac λk aad=>aL aad<|
     aC (decide (0<=k)&&decide (k<=(l.length:Int)))<|
     dy p (k.toNat*1) λcs=>
     cm 1 none 0 cs k.toNat 8796093022208 λp2=>
     cd [.i a] λi=>
     bS i 0 1 λbM=>
     cm 1 p2 (0+k.toNat) bM 1 8796093022208 λp1=>
     aC (decide (0<=k)&&decide (k<=(l.length:Int)))<|
     dy (cU true p (k.toNat*1)) ((l.length-k.toNat)*1) λcC=>
     cm 1 p1 (0+k.toNat+1) cC (l.length-k.toNat) 8796093022208 λp2=>
     bZ st.length [.s 1 p2 (0+k.toNat+1+(l.length-k.toNat))]) λaW=>
    cS (λaV st=>
     aD .i64 st λk1 st=>
     aL st<|
     cK (λst=>gC st λb3 st=>aL st<|
      bif b3 then
       aV [.i (ar (k1-1))]
      else
       aW [.i k1]) λbz=>
     bif decide (k1>0)then
      bH p λi1 o=>
      aC (aR (ar (k1-1)) l.length)<|
      bD i1 (((ar (k1-1)).toNat)*1+o) λd=>
      cY .i64 d λx=>
      bz [.b (decide (x>a))]
     else
      bz [.b false]) n [.i (l.length:Int)]) st):=by
  intro G7 b hb;cases b with
  |true=>
   rw[ae];exact stay (by grind)
  |false=>
  rw[af];refine Ok.join λaW kL=>?_
  refine Zi _ (λq y t=>∃k:Nat,y=[.i (k:Int)]/\k<=l.length/\k<=q/\t=st/\∀j (x:Int),k<=j->l[j]? =some x->a<x) ?_ l.length n _ _ (by grind) (by omega);rintro q y t ⟨k,rfl,hk,hq,rfl,fV⟩ rec aN;rw[av,aq];have out:(∀j (x:Int),j<k->l[j]? =some x->x<a)->Ok (LB t l m a) (aW [DV.i (k:Int)] t):=λpz=>by
   subst kL;simp only[av,aq,bp];rw[Zb (by rw[aY,br,br];omega)];have h1:=hs.lC k;have Aq:((ints l).take k).length=k*1:=by rw[cX,jU];omega
   have e1: ∀K:ah->M ah,dy p (k*1) K t=K ((ints l).take k) t:=λK=>by
    have:=iR h1 K;rwa [Aq]at this
   rw[e1];have⟨r1,s1,rq,Xk⟩:=(bm.nil (aB.refl t)).NH (β:=ah) (sz:=1) (n:=0) (m:=k) (lim:=8796093022208) (ds:=(ints l).take k) (by omega) rfl Aq (by omega);rw[Xk];rw[jH]at rq;have⟨r2,s2,du,vl⟩:=rq.push (β:=ah) (sz:=1) (n:=0+k) (lim:=8796093022208) [.i a] (by omega) (by rw[Aq];omega) rfl (by omega);rw[vl];rw[Zb (by rw[aY,br,br];omega)];have h2:=(hs.mono du.1).cU (k:=k) (by omega);have Ar:((ints l).drop k).length=(l.length-k)*1:=by rw[fa,jU];omega
   have e2: ∀K:ah->M ah,dy (cU true p (k*1)) ((l.length-k)*1) K s2=K ((ints l).drop k) s2:=λK=>by
    rw[cR k];have:=iR h2 K;rwa [Ar]at this
   rw[e2];have⟨r3,s3,nE,Xl⟩:=du.NH (β:=ah) (sz:=1) (n:=0+k+1) (m:=l.length-k) (lim:=8796093022208) (ds:=(ints l).drop k) (by omega) (by rw[bB,Aq,iK];omega) Ar (by omega);rw[Xl,Zp];have⟨c1,c2⟩:=ZrV hr fV pz;have gM:(ints l).take k++[DV.i a]++(ints l).drop k=ints (l.take k++[a]++l.drop k):=by
    simp[ints,List.map_take,List.map_drop]
   rw[gM]at nE;have Ek:(l.take k++[a]++l.drop k).length=0+k+1+(l.length-k):=by
    grind
   refine .mk ⟨r3,_,_,by rw[Ek],Zr nE.1,nE.sl.dQ _,c1,λb=>?_⟩;rw[c2];grind
  rw[Za];by_cases lO:k=0
  .rw[aF (show ¬(k:Int)>0 by omega),af]
   simp only[au,aq,af];grind
  .obtain⟨i1,o1,rfl⟩:=hs.cH (by rw[jU];omega)
   have kh:k-1<l.length:=by omega
   have da:(ints l)[k-1]? =some (.i l[k-1]):=ZD kh;have wM:l[k-1]? =some l[k-1]:=cq kh;have iO:l[k-1]∈l:=kA kh;rw[ax (show(k:Int)>0 by omega),ae,bd,Zc,show(k:Int)-1=((k-1:Nat):Int) by omega,Zb (Zj kh)];rw[bp];rw[hs.dJ da];simp only[bg,au,aq];generalize l[k-1]=w at da wM iO;by_cases hw:w>a
   .rw[ax hw,ae]
    refine aN (k-1) _ _ (by omega) ⟨k-1,rfl,by omega,aO _,rfl,λj x hj hx=>?_⟩;by_cases vu:j=k-1
    .rw[vu,wM]at hx
     grind
    grind
   .rw[aF hw,af]
    refine out λj x hj hx=>?_
    by_cases vu:j=k-1
    .rw[vu,wM]at hx
     grind
    .have Cu:=(ef.1 hx)
     have⟨AG,JP⟩:=Cu;have⟨jn,hk3⟩:=ef.1 wM;have:=Lt.1 hr j (k-1) AG jn (by omega);rw[JP,hk3]at this;omega
 by_cases ha0:a<0
 .rw[ax ha0,ae]
  simp only[au,aq];rw[Za,ae];simp only[au,aq];rw[ae];grind
 .rw[aF ha0,af]
  simp only[au,aq];rw[Za];by_cases ham:a>=m
  .rw[ax ham,ae]
   simp_all
  .rw[aF ham,af]
   refine Ok.call (Bu n 1 l a p st (.inl rfl) hs) ?_;rintro _ rfl;refine⟨_,st,rfl,?_⟩;rw[au,aq];exact body ⟨by omega,by omega⟩ _ rfl
def jt (img:aj) (k:Int):Option (aj):=if k<0\/((img.length/64:Nat):Int)<=k then none else some (w4 img k.toNat)
theorem FC (n:Nat) (img:aj) (k:Int) (st:St) (hl:img.length<1000000):
  Ok (λo=>∃s',aB st s'/\match jt img k with
   |none=>o=(.val [.s 0 none 0,.b false],s')
   |some l=>∃p,o=(.val [.s 1 p 64,.b true],s')/\mL s' p l/\l.length=64) (run Bd (n+1) 208 [.t img,.i k] st):=by
 rw[Ze,h.aeR];unfold SJ nU aA uG Lb
 try dsimp only
 rw[bR,av,aq,ZM];rw[Za];have ediv:ar ((img.length:Int).tdiv 64)=((img.length/64:Nat):Int):=by
  rw[show(img.length:Int).tdiv 64=((img.length/64:Nat):Int)from rfl];exact Zc
 unfold jt;by_cases h0:k<0
 .rw[ax h0,ae,bE (.inl h0)]
  simp only[au,aq];rw[ae,Zp];exact .mk ⟨_,Zr (.refl st),rfl⟩
 .rw[aF h0,af,ediv]
  simp only[au,aq];by_cases h1:k>=((img.length/64:Nat):Int)
  .rw[ax h1,ae,bE (.inr h1),Zp]
   exact .mk ⟨_,Zr (.refl st),rfl⟩
  .rw[aF h1,af,bj (by omega)]
   obtain⟨a,rfl⟩: ∃a:Nat,k=(a:Int):=⟨k.toNat,by omega⟩;rw[Zc (x:=64*(a:Int)),Zc (x:=64*(a:Int)+64),show(64*(a:Int)+64)=((64*a+64:Nat):Int) by omega,show(64*(a:Int))=((64*a:Nat):Int) by omega];simp only[bp];rw[Zb (by rw[aY,br,br];omega),Zb (by rw[aY,br,br];omega)];have XO:(img.take (64*a+64)).drop (64*a)=w4 img a:=by
    grind[w4]
   have Oy:(w4 img a).length=64:=by
    grind
   rw[XO,Zz,Zp];have ho:bm st (st++[some (⟨false,bU (w4 img a)⟩:bO)]) (some (st.length,0)) (bU (w4 img a)):=⟨.new _ _,(by simp)⟩;exact .mk ⟨_,Zr ho.1,_,by rw[Oy];rfl,ho.fz,Oy⟩
def Dp (m:Int) (l cs r:ak):Prop:=kC r/\∀k,k∈r↔k∈l\/(k∈cs/\0<=k/\k<m)
def UX (img:aj) (x:cy) (l:ak):Prop:=(∀c∈x.aJ,c∉l)/\∃r,Dp x.blocks l x.aJ r/\∀i c,x.aJ[i]? =some c->jt img c=some (uM (gr i r))
theorem Zoh (n:Nat) (img:aj) (x:cy) (pc:ai) (l:ak) (p:ai) (st:St) (hc:Sl st pc (ints x.aJ)) (hs:Sl st p (ints l)) (hr:kC l) (hl:l.length<50000) (hx: ∀k∈l,0<=k/\k<1000000) (hm:x.blocks<1000000) (cL:x.aJ.length<1000) (jU:img.length<1000000) (hn:l.length+x.aJ.length+1000<=n):
  Ok (λo=>∃b s',o=(.val [.b b],s')/\aB st s'/\(b=true↔UX img x l)) (run Bd n 178 [.t img,.a (dj x pc),.s 1 p l.length] st):=by
 obtain _|n:=n;omega;rw[Ze,h.aex];unfold QK Z6 bV fB Q_ cN Zn pL aA jw kd bq iL Lb eI Li uF dY Z7 aZ
 try dsimp only
 rw[bR];rw[dT];unfold dj;simp only[av,aX,aq];refine Ok.join λaz nB=>?_
 refine Zi _ (λq y t=>∃(i:Nat) (r:ak) (p':ai),y=[.s 1 p' r.length,.i (i:Int)]/\i<=x.aJ.length/\x.aJ.length-i<=q/\aB st t/\Sl t p' (ints r)/\kC r/\r.length<=l.length+i/\(∀c∈x.aJ.take i,c∉l)/\∀k,k∈r↔k∈l\/(k∈x.aJ.take i/\0<=k/\k<x.blocks)) ?_ x.aJ.length n _ _ ⟨0,l,p,rfl,cz _,by omega,.refl _,hs,hr,by omega,λc hc=>by simp at hc,λk=>by simp⟩ (by omega);rintro q y t ⟨i,r,p',rfl,hi,hq,hp,hf,G8,CC,cA,iO⟩ rec aN;rw[aX,av,aq];by_cases aw:i<x.aJ.length
 .obtain⟨i1,o1,rfl⟩:=hc.cH (by simp[ints];omega)
  have da:(ints x.aJ)[i]? =some (.i x.aJ[i]):=ZD aw;have wM:x.aJ[i]? =some x.aJ[i]:=cq aw;have fZ:x.aJ.take (i+1)=x.aJ.take i++[x.aJ[i]]:=lX aw;have hmc:x.aJ[i]∈x.aJ:=kA aw;rw[ax (show(i:Int)<(x.aJ.length:Int) by omega),ae,bd,Zb (Zj aw)];rw[bp];rw[(hc.mono hp).dJ da];rw[bg];generalize x.aJ[i]=w at da wM fZ hmc;refine Ok.call (Bu n 1 l w p t (.inl rfl) (hs.mono hp)) ?_;rintro _ rfl;refine⟨_,t,rfl,?_⟩;rw[au,aq];by_cases hw:w∈l
  .rw[ax hw,ae,Zd]
   refine .mk ⟨false,t,rfl,hp,⟨λe=>(by cases e),λhP=>absurd hw (hP.1 w hmc)⟩⟩
  .rw[aF hw,af,bd,Zb (Zj aw),(hc.mono hp).dJ da]
   rw[bg];refine Ok.call (SY n r 1 p' x.blocks w t (.inl rfl) hf G8) ?_;rintro _ ⟨p2,r2,s2,rfl,aU,mW,ij,fw⟩;refine⟨_,s2,rfl,?_⟩;rw[aX,aq];rw[Zc];refine aN (x.aJ.length-(i+1)) _ _ (by omega) ⟨i+1,r2,p2,rfl,by omega,aO _,hp.trans aU,mW,ij,?_,λc hc=>?_,λk=>?_⟩
   .have:r2.length<=(w::r).length:=xL ij.nodup λk hk=>by
     grind
    rw[cO]at this;omega
   .rw[fZ]at hc
    grind
   .rw[fw,iO,fZ,gx,cB]
    constructor
    .grind
    grind
 .rw[aF (show ¬(i:Int)<(x.aJ.length:Int) by omega),af,nB]
  rw[dG (by omega)]at cA iO;have hW:Dp x.blocks l x.aJ r:=⟨G8,iO⟩;have aiR: ∀r',Dp x.blocks l x.aJ r'->r'=r:=λr' h'=>FF h'.1 G8 λk=>by rw[h'.2,iO]
  have vB: ∀k∈r,0<=k/\k<1000000:=λk hk=>by
   grind
  simp only[aX,aq];refine Ok.join λaI jV=>?_
  refine Zi _ (λq y u=>∃j:Nat,y=[.i (j:Int)]/\j<=x.aJ.length/\x.aJ.length-j<=q/\aB st u/\Sl u p' (ints r)/\∀i c,i<j->x.aJ[i]? =some c->jt img c=some (uM (gr i r))) ?_ x.aJ.length n _ _ ⟨0,rfl,cz _,by omega,hp,hf,λi c hi=>by omega⟩ (by omega);rintro q2 y2 u ⟨j,rfl,hj,Ew,Ke,fK,dt⟩ dw j4;rw[av,aq];have GG: ∀(c:Int) (u':St),x.aJ[j]? =some c->jt img c≠some (uM (gr j r))->aB st u'->Ok (λo=>∃b s',o=(.val [.b b],s')/\aB st s'/\(b=true↔UX img x l)) ((ay [.b false]:M ah) u'):=λc u' hcj dM aim=>by
   rw[Zd];refine .mk ⟨false,u',rfl,aim,⟨λe=>(by cases e),?_⟩⟩;rintro⟨_,r',h1,h2⟩;rw[aiR r' h1]at h2;exact absurd (h2 j c hcj) dM
  by_cases kM:j<x.aJ.length
  .obtain⟨i1,o1,rfl⟩:=hc.cH (by simp[ints];omega)
   have da:(ints x.aJ)[j]? =some (.i x.aJ[j]):=ZD kM;have wM:x.aJ[j]? =some x.aJ[j]:=cq kM;rw[ax (show(j:Int)<(x.aJ.length:Int) by omega),ae,bd,Zb (Zj kM)];rw[bp];rw[(hc.mono Ke).dJ da];rw[bg];generalize x.aJ[j]=w at da wM;obtain _|n:=n;omega;refine Ok.call (FC n img w u jU) ?_;rintro o ⟨u2,aU,ho⟩;cases nD:jt img w with
   |none=>
    rw[nD]at ho;simp only at ho;subst ho;refine⟨_,u2,rfl,?_⟩;rw[Zg 1 0 none _ (.inr rfl),au,aq];rw[Za,bn,ae];simp only[au,aq];rw[ae];exact GG w u2 wM (by rw[nD];intro e;cases e) (Ke.trans aU)
   |some b=>
    rw[nD]at ho;simp only at ho;obtain⟨pl,rfl,ep,jl⟩:=ho;refine⟨_,u2,rfl,?_⟩;rw[aX,au,aq];rw[Za,bu,af];have erd: ∀K:ah->M ah,dy pl 64 K u2=K (bU b) u2:=λK=>by
     have:=iR (show Sl _ pl (bU b)from ep.1) K;rwa [Zu,jl]at this
    rw[erd];rw[<-lr,oJ];refine Ok.NQ (ZlK (n+1) j r p' 1 u2 (.inl rfl) (fK.mono aU) (by omega) (by omega) vB (by omega)) ?_;rintro _ rfl;refine⟨_,u2,rfl,.refl _,?_⟩;rw[dT];unfold ZY;have wG:(gr j r).eY.length=48:=by
     show(tG j (List.replicate 48 0) r).length=48;rw[If];simp
    rw[av];unfold bA;rw[Zu,wG,show Nat.beq 48 48=true from rfl,ae];rw[aq];refine Ok.cx (ZmG (n+1) (gr j r) wG u2) λu3 cu=>?_
    simp only[bR,au,aq];cases tU:(b==uM (gr j r))with
    |true=>
     have tU:=eq_of_beq tU;rw[bu,af,Zc];refine j4 (x.aJ.length-(j+1)) _ _ (by omega) ⟨j+1,rfl,by omega,aO _,Ke.trans (aU.trans cu),fK.mono (aU.trans cu),λi c hi GQ=>?_⟩;by_cases mn:i=j
     .subst mn
      rw[wM]at GQ;cases GQ;rw[nD,tU]
     .exact dt i c (by omega) GQ
    |false=>
     rw[bn,ae];refine GG w u3 wM (λe=>?_) (Ke.trans (aU.trans cu));rw[nD]at e;rw[HJ e,xq]at tU;cases tU
  .rw[aF (show ¬(j:Int)<(x.aJ.length:Int) by omega),af,jV]
   simp only[aq,Zd];refine .mk ⟨true,u,rfl,Ke,⟨λ_=>⟨cA,r,hW,λi c GQ=>dt i c ?_ GQ⟩,λ_=>rfl⟩⟩;have:=(ef.1 GQ).1;omega
theorem Uo {l:aj} (h:ZE l=true):l=mc l.length:=by
 unfold ZE at h;rw[vT]at h;unfold mc;exact List.eq_replicate_iff.2 (by grind)
theorem Ztt (c:UInt8):rJ (c.toNat:Int)=c:=by
 unfold rJ;have:((c.toNat:Int)%256).toNat=c.toNat:=by
  have:=c.toNat_lt;omega
 rw[this,UInt8.ofNat_toNat]
theorem sd {l:aj} {k:Nat} {b:aj} (h:fM l=some (k,t,b)):l=iS k t b/\b.length=56/\k<256/\t<256:=by
 unfold fM at h;cases hr:tK l with
 |false=>rw[hr]at h;cases h
 |true=>
  rw[hr,ae]at h;cases h;unfold tK at hr;rw[aY,aY,aY,br,br]at hr;have⟨qY,_,h2,h3⟩:=hr;have hb:(l.drop 8).length=56:=by rw[fa];omega
  have hf:jR (l.drop 8) 56=l.drop 8:=by
   simp_all[jR,mc]
  have hz:=Uo h2;have rB:((l.drop 6).take 2).length=2:=by rw[cX,fa];omega
  rw[rB]at hz;have hS:pF ((l.getD 4 0).toNat:Nat) ((l.getD 5 0).toNat:Nat) (l.drop 8)=l.drop 4:=by
   unfold pF;rw[Ztt,Ztt,hf];have e1:l.drop 4=l.getD 4 0::l.getD 5 0::l.drop 6:=by
    rw[iV (by omega),iV (show 4+1<l.length by omega),dW,dW,cq (by omega),cq (by omega)];rfl
   have e2:l.drop 6=[0,0]++l.drop 8:=by
    have:=rS 2 (l.drop 6);rw[hz,kW]at this;exact this.symm
   rw[e1,e2];rfl
  refine⟨?_,hb,UInt8.toNat_lt _,UInt8.toNat_lt _⟩;unfold iS;rw[hS,h3];have h4:(l.take 4).length=4:=by rw[cX];omega
  have:=M5 (l.take 4);rw[h4]at this;rw[this,rS]
theorem Zt3 {l:aj} (h:xN l=some c):l=uM c/\c.eY.length=48/\c.no<8:=by
 unfold xN at h;cases ho:fM l with
 |none=>rw[ho]at h;cases h
 |some q=>
  have⟨k,t,b⟩:=q;rw[ho]at h;simp only at h;have⟨h1,h2,h3,h4⟩:=sd ho;cases hc:(decide (k=4)&&(decide (t<8)&&ZE (b.drop 48)))with
  |false=>rw[hc]at h;cases h
  |true=>
   rw[hc,ae]at h;cases h;rw[aY,aY,br,br]at hc;obtain⟨rfl,h5,h6⟩:=hc;refine⟨?_,by rw[cX];omega,h5⟩;have hz:=Uo h6;have rB:(b.drop 48).length=8:=by rw[fa];omega
   rw[rB]at hz;have hf:jR (b.take 48) 56=jR b 56:=by
    unfold jR;have hl:(b.take 48).length=48:=by rw[cX];omega
    rw[hl,h2,<-hz,rS];simp[mc]
   rw[h1];grind[uM,iS,pF]
theorem ZxV {a b:aj} (ha:a.length=48) (hb:b.length=48) (h: ∀j,j<384->sv a j=sv b j):a=b:=by
 refine List.ext_getElem (by omega) λi h1 h2=>?_
 refine HK.1 (Dc λj=>?_);have l1:=a[i].toNat_lt;have l2:=b[i].toNat_lt;rcases jI j 8 with hj|hj
 .have:=h (8*i+j) (by omega)
  unfold sv at this;rw[show(8*i+j)/8=i by omega,show(8*i+j)%8=j by omega,dW,dW,cq h1,cq h2,wa,wa]at this;exact this
 .rw[HH (mI l1 (nT (n:=2) (i:=8) (by decide) hj)),HH (mI l2 (nT (n:=2) (i:=8) (by decide) hj))]
theorem MJ {img:aj} {m:Nat} {W:al} : ∀ {ks:ak} {cs:List ZP},wF img m W ks=some cs↔(cs.length=ks.length/\∀(i:Nat) (k:Int),ks[i]? =some k->∃c,cs[i]? =some c/\xN (ZG img k.toNat)=some c/\(fE m k&&di W k.toNat)=false)
 |[],cs=>by
  constructor
  .intro h
   cases h;simp
  .rintro⟨h,_⟩
   rw[zu.1 h];rfl
 |k::ks,cs=>by
  unfold wF;constructor
  .intro h
   cases hg:xN (ZG img k.toNat)with
   |none=>rw[hg]at h;cases h
   |some c=>
    rw[hg]at h;simp only at h;cases hb:(fE m k&&di W k.toNat)with
    |true=>rw[hb]at h;cases h
    |false=>
     rw[hb,af]at h;cases hr:wF img m W ks with
     |none=>rw[hr]at h;cases h
     |some cs'=>
      rw[hr]at h;cases h;have⟨h1,h2⟩:=MJ.1 hr;grind
  .rintro⟨h1,h2⟩
   cases cs with
   |nil=>cases h1
   |cons c cs=>
    have⟨c',e1,e2,e3⟩:=h2 0 k rfl;cases e1;rw[e2];simp only;rw[e3,af,MJ.2 ⟨by simpa using h1,λi k' nC=>h2 (i+1) k' (by simpa using nC)⟩];rfl
theorem ZxI (h:k∈eV c 384): ∃b:Nat,k=(b:Int)/\b/384=c.no/\ym c b=true:=by
 obtain⟨i,hi,rfl,hh⟩:=MP.1 h;grind
theorem ZsT (c:ZP):(eV c 384).Pairwise (· < ·):=by
 unfold eV;rw[HE];refine List.Pairwise.imp (λ{a b} h=>?_) (List.Pairwise.sublist List.filter_sublist List.pairwise_lt_range);omega
theorem ZyN :CU m c=false↔ ∀k∈eV c 384,k<(m:Int):=by
 unfold CU;by_cases h0:0<(eV c 384).length
 .rw[ax h0,ae,zB]
  have dM:eV c 384≠[]:=by grind
  have hl:(eV c 384).getLastD 0=(eV c 384).getLast dM:=by rw[List.getLastD_eq_getLast?,List.getLast?_eq_some_getLast dM];rfl
  rw[hl];constructor
  .intro h k hk
   have⟨i,hi⟩:=List.mem_iff_getElem?.1 hk;have⟨JN,JO⟩:=ef.1 hi;have JV:(eV c 384).getLast dM=(eV c 384)[(eV c 384).length-1]'(by omega):=List.getLast_eq_getElem dM;rw[JV]at h;rcases jI i ((eV c 384).length-1)with h1|h1
   .have:=Lt.1 (ZsT c) i ((eV c 384).length-1) JN (by omega) h1
    omega
   grind
  simp_all
 grind
theorem Zpg {m:Nat} : ∀ {cs:List ZP} {i:Nat} {W F:al},W.length=(m+63)/64->(∀w∈W,w<18446744073709551616)->BQ m i cs W=some F->
  F.length=(m+63)/64/\(∀w∈F,w<18446744073709551616)/\(∀j c,cs[j]? =some c->c.no=i+j/\∀k∈eV c 384,k<(m:Int))/\∀b:Nat,di F b=true↔di W b=true\/∃(j:Nat) (c:ZP),cs[j]? =some c/\(b:Int)∈eV c 384
 |[],i,W,F,hl,hw,h=>by
  cases h;grind
 |c::cs,i,W,F,hl,hw,h=>by
  unfold BQ at h;cases hb:(decide (c.no=i)&& !CU m c)with
  |false=>rw[hb]at h;cases h
  |true=>
   rw[hb,ae]at h;rw[aY,br,lF]at hb;have⟨h1,h2⟩:=hb;have h2:=ZyN.1 h2;have⟨q1,q2⟩:=ZF m (eV c 384) W;have⟨f1,f2,f3,f4⟩:=Zpg (by rw[q1];exact hl) (q2 hw) h;refine⟨f1,f2,λj c' hc'=>?_,λb=>?_⟩
   .grind
   .rw[f4 b,zM _ hl b]
    constructor
    .rintro((h3|⟨h3,_⟩)|⟨j,c',h3,h4⟩)
     .exact .inl h3
     .exact .inr ⟨0,c,rfl,h3⟩
     .exact .inr ⟨j+1,c',by simpa using h3,h4⟩
    grind
theorem xA (W:al):kC (dq W):=by
 rw[Zrd];unfold kC;rw[HE];refine List.Pairwise.imp (λ{a b} h=>?_) (List.Pairwise.sublist List.filter_sublist List.pairwise_lt_range);omega
theorem Zze (h:m<=3072):rK (m:Int) 384=(((m+383)/384:Nat):Int):=by
 unfold rK;rw[Zc (x:=(m:Int)+384),Zc (x:=(m:Int)+384-1),show((m:Int)+384-1)=((m+383:Nat):Int) by omega,show(((m+383:Nat):Int).tdiv 384)=(((m+383)/384:Nat):Int)from rfl];exact Zc
theorem Zuo {img:aj} {x:cy} (hx:uJ x) (hl:W.length=(x.blocks.toNat+63)/64) (hw: ∀w∈W,w<18446744073709551616) (hm: ∀b,di W b=true->b<x.blocks.toNat) (Eh:x.blocks<=((img.length/64:Nat):Int)):zR img x W=true↔UX img x (dq W):=by
 have⟨g1,g2,_⟩:=Z4 hx.g;have⟨m,lz⟩: ∃m:Nat,x.blocks=(m:Int):=by grind
 have jX:x.blocks.toNat=m:=by omega
 rw[jX]at hl hm;have cL:x.aJ.length=(m+383)/384:=by
  have:=hx.len;rw[TA hx.g,jX]at this;omega
 have jT: ∀i (k:Int),x.aJ[i]? =some k->2<=k/\k<(m:Int):=λi k hk=>by
  have hi:=(ef.1 hk).1;have h1:=(hx.ch i hi).1;rw[dW,hk]at h1;have:=(Vd x _).1 h1;rw[lz]at this;exact this
 have abQ: ∀i (k:Int),x.aJ[i]? =some k->jt img k=some (ZG img k.toNat):=λi k hk=>by
  have:=jT i k hk;grind[jt,acw]
 have h0:(jd m []).length=(m+63)/64:=by unfold jd;simp
 have Jv: ∀w∈jd m [],w<18446744073709551616:=λw hw=>by
  grind[jd]
 have⟨q1,q2⟩:=ZF m (dq (jd m x.aJ)) W;have hR: ∀b:Nat,di ((dq (jd m x.aJ)).foldl (bK m) W) b=true↔di W b=true\/((b:Int)∈x.aJ/\b<m):=λb=>by
  rw[zM _ hl b,oO];constructor
  .rintro(h|⟨⟨b',e,h⟩,h2⟩)
   .exact .inl h
   .have:b'=b:=by omega
    subst this;exact .inr ((wc _ _).1 h)
  .rintro(h|h)
   .exact .inl h
   .exact .inr ⟨⟨b,rfl,(wc _ _).2 h⟩,h.2⟩
 have hWP: ∀r,Dp x.blocks (dq W) x.aJ r->∀b:Nat,(b:Int)∈r↔di W b=true\/((b:Int)∈x.aJ/\b<m):=λr hr b=>by
  rw[hr.2,oO,lz];constructor
  .rintro(⟨b',e,h⟩|⟨h1,_,h3⟩)
   .grind
   grind
  grind
 unfold zR;rw[jX];constructor
 .intro h
  cases hg:wF img m W x.aJ with
  |none=>rw[hg]at h;cases h
  |some cs=>
   rw[hg]at h;simp only at h;have⟨akh,mV⟩:=MJ.1 hg;cases hf:Cc m cs with
   |none=>rw[hf]at h;cases h
   |some F=>
    rw[hf]at h;simp only at h;have hFe:=mK h;unfold Cc at hf;cases hd:decide ((cs.length:Int)=rK (m:Int) 384)with
    |false=>rw[hd]at hf;cases hf
    |true=>
     rw[hd,ae]at hf;have⟨f1,f2,f3,f4⟩:=Zpg h0 Jv hf;have hF: ∀b:Nat,di F b=true↔ ∃(j:Nat) (c:ZP),cs[j]? =some c/\(b:Int)∈eV c 384:=λb=>by
      rw[f4 b,wc];constructor
      .rintro(⟨h1,_⟩|h1)
       .cases h1
       .exact h1
      .exact .inr
     have aiV:Dp x.blocks (dq W) x.aJ (dq F):=by
      refine⟨xA F,λk=>?_⟩;rw[oO,oO];constructor
      .grind
      .rintro(⟨b,rfl,hb⟩|⟨h1,h2,h3⟩)
       .grind
       .refine⟨k.toNat,by omega,?_⟩
        rw[hFe];refine(hR _).2 (.inr ⟨?_,by omega⟩);rw[Int.toNat_of_nonneg h2];exact h1
     refine⟨λc hc iO=>?_,dq F,aiV,λi k hk=>?_⟩
     .have⟨i,hi⟩:=List.mem_iff_getElem?.1 hc
      have⟨c',_,_,e3⟩:=mV i c hi;obtain⟨b,rfl,hb⟩:=oO.1 iO;rw[bp,hb,vQ]at e3;unfold fE at e3;have:=jT i _ hi;rw[ax (show(0:Int)<=(b:Int) by omega),ax (show(b:Int)<(m:Int) by omega)]at e3;cases e3
     .have⟨c,e1,e2,e3⟩:=mV i k hk
      have⟨a1,a2,a3⟩:=Zt3 e2;have⟨b1,b2⟩:=f3 i c e1;rw[eO]at b1;rw[abQ i k hk,a1];have hce:c=gr i (dq F):=by
       have wG:(gr i (dq F)).eY.length=48:=by
        show(tG i (List.replicate 48 0) (dq F)).length=48;rw[If];simp
       have abZ:c.eY=(gr i (dq F)).eY:=by
        refine ZxV a2 wG λj hj=>?_
        have e4:=VG (c:=c) hj;have e5:=Vf (p:=i) (l:=dq F) hj;have e6:=VG (c:=gr i (dq F)) hj;rw[show(gr i (dq F)).no=i from rfl]at e6;rw[<-e4,<-e6,e5,b1,lE,br,oO];constructor
        .intro hh
         refine⟨384*i+j,rfl,(hF _).2 ⟨i,c,e1,MP.2 ⟨j,hj,by rw[b1,De],by rw[b1];exact hh⟩⟩⟩
        .rintro⟨b,e,hb⟩
         have:b=384*i+j:=by omega
         subst this;have⟨i',c',e7,e8⟩:=(hF _).1 hb;have⟨b',e9,Jq,e11⟩:=ZxI e8;have⟨b3,_⟩:=f3 i' c' e7;have:b'=384*i+j:=by omega
         subst this;have:i'=i:=by omega
         grind
       cases c with
       |mk no eY=>
        simp only at b1 abZ;rw[b1,abZ];rfl
      rw[<-hce]
 .rintro⟨cA,r,hr,rk⟩
  have hrm: ∀k∈r,k<(m:Int):=λk hk=>by
   rcases(hr.2 k).1 hk with h1|h1
   .obtain⟨b,rfl,hb⟩:=oO.1 h1
    have:=hm b hb;omega
   .omega
  have ahq:wF img m W x.aJ=some ((List.range' 0 x.aJ.length).map λp=>gr p r):=by
   refine MJ.2 ⟨by simp,λi k hk=>?_⟩;have hi:=(ef.1 hk).1;refine⟨gr i r,?_,?_,?_⟩
   .rw[rQ,List.getElem?_range' hi]
    grind
   .have h1:=rk i k hk
    rw[abQ i k hk]at h1;rw[HJ h1];exact(ZvB (by show i<8;omega) (by show(tG i (List.replicate 48 0) r).length=48;rw[If];simp)).2
   .cases gM:di W k.toNat with
    |false=>exact C5 _
    |true=>
     have:=jT i k hk;exact absurd (oO.2 ⟨k.toNat,by omega,gM⟩) (cA k (uw hk))
  have⟨F,f1,f2,f3,f4⟩:=Zrr hrm x.aJ.length 0 (jd m []) h0 Jv;rw[ahq];simp only;unfold Cc;rw[lG,List.length_range',Zze (by omega),cL,ax rfl,ae,<-cL,f1];refine ax (Zv6 (by rw[f2,q1,hl]) f3 (q2 hw) λb=>?_);rw[lE,f4 b,hR b,wc,hWP r hr b];constructor
  .grind
  .intro h1
   refine .inr ⟨h1,by omega,?_⟩;rcases h1 with h1|h1
   .have:=hm b h1
    omega
   .omega
end Go.Gv.F
