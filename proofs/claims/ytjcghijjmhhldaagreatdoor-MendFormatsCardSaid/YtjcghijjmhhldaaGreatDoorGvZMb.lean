/- A block of an image, taken once: the walker's first steps. -/
import Derived.Test.YtjcghijjmhhldaaGreatDoorGvZMa
set_option linter.all false
namespace Go.Gv.F
open Go.Gv
variable {β:Type}
variable {k slot u:Int} {i j lim m n sz z:Nat} {s s':St} {α:Type} {l:aj} {A C L L' L'' T W':al}
theorem Zsu {m:M α} {K:α->M β} (h:m s=some (.dM,s')):cK m K s=some (.dM,s'):=by unfold cK;rw[h]
theorem Ok.qb {P:Out α×St->Prop} {Q:Out β×St->Prop} {m:M α} {K:α->M β} (h:Ok P (m s))
  (k1: ∀s',P (.dM,s')->Q (.dM,s')) (k2: ∀ds s',P (.val ds,s')->Ok Q (K ds s')):Ok Q (cK m K s):=by
 have⟨⟨o,s'⟩,e,hp⟩:=h;unfold cK;rw[e];cases o with
 |val ds=>exact k2 ds s' hp
 |dM=>exact .mk (k1 s' hp)
theorem Dl (p:ah) (K:ah->M β):uI (.ptr p) K=K p:=rfl
theorem Zs0 (s:St):ZX s.length s=s:=by unfold ZX;simp
variable {Bd:Ze} [h:HA Bd]
theorem Zqg (n:Nat) (b:Bool) (st:St):run Bd (n+1) 225 [.bool b] st=some (bif b then(.val [],st)else(.dM,st)):=by
 rw[Zb,h.Sz];unfold JH jK Q_
 try dsimp only
 rw[aA,ao,Zi];cases b<;>rfl
theorem nW {Bd:Ze} (h:HA Bd) (n:Nat) {b:Bool} (hb:b=true) (st:St) (K:af->M β):cK (run Bd (n+1) 225 [.bool b]) K st=K [] st:=by
 rw[hb];exact Zj (Zqg n true st)
theorem ZS {Bd:Ze} (h:HA Bd) (n:Nat) {b:Bool} (hb:b=false) (st:St) (K:af->M β):cK (run Bd (n+1) 225 [.bool b]) K st=some (.dM,st):=by
 rw[hb];exact Zsu (Zqg n false st)
def mY (aM:aj) (k:Nat):aj:=(aM.drop (k*64)).take 64
theorem ZjA (n:Nat) (a:ah) (len k:Nat) (st:St) (hl:len<1000000) (hk:(k+1)*64<=len:=by omega):
  run Bd (n+1) 203 [.slice 1 a len,.i k] st=some (.val [.slice 1 (cR true a (k*64)) 64],st):=by
 rw[Zb,h.Sk];unfold JB bQ bh
 try dsimp only
 rw[bd,ar,ao,mW];have h1:aq ((k:Int)+1)=((k+1:Nat):Int):=Zc;have h2:aq (((k+1:Nat):Int)*64)=(((k+1)*64:Nat):Int):=by rw[Zc];omega
 have h3:aq ((k:Int)*64)=((k*64:Nat):Int):=by rw[Zc];omega
 simp only[h1,h2,h3,bw,cL];rw[Zg (by rw[aZ,bD,bD];omega),Zg (by rw[aZ,bD,bD];omega),ZE,Zs0,show(k+1)*64-k*64=64 by omega]
inductive vC where
 |node (x:lU)
 |leaf (x:List eR)
 |de (x:ak)
 |queue (x:ri)
 |dir (x:ak)
 |none
def lx (l:aj):vC:=
 match yT l with
 |some x=> .node x
 |none=>match uC l with
  |some x=> .leaf x
  |none=>match yx l with
   |some x=> .de x
   |none=>match vN l with
    |some x=> .queue x
    |none=>match E9 l with
     |some x=> .dir x
     |none=> .none
def Ha (s:St):vC->DV->Prop
 | .node x,d=>∃p,d= .iface 6 (.agg (wZ x 1 p))/\Fz s p (ints x.kids)/\rk x=true/\x.kids.length<=12
 | .leaf x,d=>d= .iface 5 (.agg (eN x))/\x.length=7
 | .de x,d=>d= .iface 2 (.agg (ints x))/\x.length=16
 | .queue x,d=>d= .iface 4 (.agg (sW x))/\x.ia.length=12
 | .dir x,d=>∃p,d= .iface 3 (.agg [.slice 1 p x.length])/\Fz s p (ints x)/\x.length<=16
 | .none,d=>d= .nilIface
theorem JJ {x:List eR} (h:uC l=some x):x.length=7:=by
 unfold uC at h;split at h
 .cases h
 .rename_i k t b _
  cases e:(decide (k=2)&&decide (t<128))with
  |false=>rw[e]at h;cases h
  |true=>
   rw[e]at h;cases e2:(lv b t 7).all Z3 with
   |false=>rw[e2]at h;cases h
   |true=>rw[e2]at h;cases h;exact KA b t 7
theorem Zn9 (n:Nat) (a:ah) (l:aj) (st:St) (ha:cC st a l) (hl:l.length<1000000) (hn:161<=n):
  Ok (λo=>∃d s',o=(.val [d],s')/\ax st s'/\Ha s' (lx l) d) (run Bd n 256 [.slice 1 a l.length] st):=by
 obtain _|n:=n;omega;rw[Zb,h.SY];unfold Jc bG sM jK bh lx
 try dsimp only
 rw[bd,ao];refine Ok.call (Zp7 n a l st ha hl AC) ?_;rintro _ ⟨s1,bj,nv⟩;cases tx:yT l with
 |some x=>
  rw[tx]at nv;obtain⟨p,rfl,hf⟩:=nv;refine⟨_,s1,rfl,?_⟩;unfold wZ qd;simp only[qN,mN,cU,ar,bd,aA,ao,aa,Zh];exact .mk ⟨_,s1,rfl,bj,p,rfl,hf,(La tx).1,(La tx).2⟩
 |none=>
 rw[tx]at nv;subst nv;refine⟨_,s1,rfl,?_⟩;simp only[cU,ar,aA,ao,Zr 1 0 none _ (.inr rfl),ae];have mj:=ha.mono bj;refine Ok.call (ZlR n a l s1 mj hl AC) ?_;rintro _ ⟨s2,bC,dA⟩;cases ql:uC l with
 |some x=>
  rw[ql]at dA;subst dA;refine⟨_,s2,rfl,?_⟩;have hlen:(eN x).length=21:=by rw[pP,JJ ql]
  rw[cU,aA,ao,aa,bV hlen,bV hlen,Zh];exact .mk ⟨_,s2,rfl,bj.trans bC,rfl,JJ ql⟩
 |none=>
 rw[ql]at dA;subst dA;refine⟨_,s2,rfl,?_⟩;rw[cU,aA,ao,ae,bV (cs:=eN zI) (n:=21) rfl,bV (cs:=eN zI) (n:=21) rfl];have tp:=mj.mono bC;refine Ok.call (Zm7 n a l s2 tp hl AC) ?_;rintro _ ⟨s3,eC,om⟩;cases BS:yx l with
 |some x=>
  rw[BS]at om;obtain⟨rfl,hx⟩:=om;refine⟨_,s3,rfl,?_⟩;have hlen:(ints x).length=16:=by simp[ints,hx]
  rw[cU,aA,ao,aa,bV hlen,bV hlen,Zh];exact .mk ⟨_,s3,rfl,(bj.trans bC).trans eC,rfl,hx⟩
 |none=>
 rw[BS]at om;subst om;refine⟨_,s3,rfl,?_⟩;rw[cU,aA,ao,ae,bV (cs:=ints (List.replicate 16 0)) (n:=16) rfl,bV (cs:=ints (List.replicate 16 0)) (n:=16) rfl];have ha3:=tp.mono eC;refine Ok.call (ZkG n a l s3 ha3 hl AC) ?_;rintro _ ⟨s4,fI,zn⟩;cases BT:vN l with
 |some x=>
  rw[BT]at zn;obtain⟨rfl,hx⟩:=zn;refine⟨_,s4,rfl,?_⟩;have hlen:(ints x.ia).length=12:=by simp[ints,hx]
  unfold sW;rw[cU,fL,ar,aA,ao,aa,bV hlen,bV (by simp[hlen]),Zh];exact .mk ⟨_,s4,rfl,((bj.trans bC).trans eC).trans fI,rfl,hx⟩
 |none=>
 rw[BT]at zn;subst zn;refine⟨_,s4,rfl,?_⟩;unfold sW;rw[cU,fL,ar,aA,ao,ae,bV (cs:=ints Zsm.ia) (n:=12) rfl,bV (n:=14) rfl];have FR:=ha3.mono fI;refine Ok.call (ZlJ n a l s4 FR hl AC) ?_;rintro _ ⟨s5,iA,zr⟩;cases hg5:E9 l with
 |some x=>
  rw[hg5]at zr;obtain⟨p,rfl,hf,hx⟩:=zr;refine⟨_,s5,rfl,?_⟩;simp only[cU,bd,aA,ao,aa,Zh];exact .mk ⟨_,s5,rfl,(((bj.trans bC).trans eC).trans fI).trans iA,p,rfl,hf,hx⟩
 |none=>
 rw[hg5]at zr;subst zr;refine⟨_,s5,rfl,?_⟩;simp only[cU,Zr 1 0 none _ (.inr rfl),aA,ao,ae,Zh];exact .mk ⟨_,s5,rfl,(((bj.trans bC).trans eC).trans fI).trans iA,rfl⟩
def uN (m:Nat) (W:al) (k:Int):Bool:=decide (k>=2)&&(iY m k&& !ey W k.toNat)
theorem Ztf {Bd:Ze} (h:HA Bd) (n w:Nat) (a:ah) (aM:aj) {W:al} (k:Int) (st:St) {cs:af}
  (hw:st[w]? =some (some ⟨false,cs⟩)) (h0:cs[0]? =some (.slice 1 a aM.length)) (h2:cs[2]? =some (.i m)) (FF:cs[10]? =some (.ptr (some (i,0))))
  (hs:dT st false i j m W) (ky:i≠j) (hjw:w≠j) (ha:cC st a aM) (lD:dF [j] a) (hm:m*64<=aM.length) (hl:aM.length<1000000) (hn:170<=n):
  Ok (λo=>bif uN m W k then ∃d s',o=(.val [d],s')/\Fx [j] st s'/\dT s' false i j m (ej m W k)/\Ha s' (lx (mY aM k.toNat)) d else o=(.dM,st)) (run Bd n 228 [.ptr (some (w,0)),.i k] st):=by
 obtain⟨n,rfl⟩: ∃k,n=k+4:=⟨n-4,AC⟩;rw[Zb,h.SC];unfold HV gy aB C_ dZ oC bA Zl Lb Li jM gj bh cP uN;simp only[bF,ar,ao,Zi,aD];by_cases fQ:k>=2;rotate_left
 .rw[aK fQ,ae]
  simp only[aA,ao,ae,gN];rw[ZS h (n+2) rfl];exact .mk rfl
 rw[aI fQ,aa,Zf hw h2];simp only[bm,aA,ao,ez];have P8:iY m k=decide (k<(m:Int)):=by grind[iY]
 rw[P8];by_cases BX:k<(m:Int);rotate_left
 .rw[aK BX,ae]
  simp only[gN,ae];rw[ZS h (n+2) rfl];exact .mk rfl
 rw[aI BX,aa,Zf hw FF,Dl,ez,Zj (JP (n+1) k st hs),P8,aI BX,ez,aA,ao];cases wH:ey W k.toNat with
 |true=>
  simp only[bU,ae];rw[ZS h (n+2) rfl];exact .mk rfl
 |false=>
  simp only[cy,aa];rw[nW h (n+2) rfl,ao,Zf hw FF,Dl,Zv];have bj:=ax.new st (some (⟨false,[DV.int .i64 k]⟩:aH));have ib:Sl (st++[some (⟨false,[DV.int .i64 k]⟩:aH)]) (some (st.length,0)) (ints [k]):=pY st [DV.int .i64 k];have eD:dF [j] (some (st.length,0)):=by
   intro b o e hb;cases e;have:=(cF.1 hs.wd).1;rw[cA.1 hb]at this;omega
  generalize st++[some (⟨false,[DV.int .i64 k]⟩:aH)]=s1 at bj ib;have jD:=hs.pre bj;have BG:=Aq (n+3) [k] (some (st.length,0)) s1 jD ky ib eD Do (by simp;omega);rw[show[k].length=1 from rfl]at BG;rw[Zj BG,ao];have Qx:=jD.add ky (ej m W k) (vT _ _ _) (Lv jD.lt);have cH:Fx [j] st (s1.set j (some ⟨false,Zm (ej m W k)⟩)):=(Fx.pre [j] bj).trans (Fx.set s1 j _);have e1:[k].foldl (ej m) W=ej m W k:=rfl;rw[e1];generalize s1.set j (some ⟨false,Zm (ej m W k)⟩)=s2 at Qx cH;have fR:=cH.2 w _ (by simpa using hjw) hw;have tp:cC s2 a aM:=Sl.fx ha cH lD;rw[Zf fR h0,eH];obtain⟨kk,rfl⟩: ∃kk:Nat,k=kk:=⟨k.toNat,AC⟩;rw[Zj (ZjA (n+2) a aM.length kk s2 hl),bd,ao];have NC:cC s2 (cR true a (kk*64)) (mY aM kk):=(tp.cR (k:=kk*64) AC).js 64;have P4:(mY aM kk).length=64:=by unfold mY;rw[dh,ft];omega
  have hb:=Zn9 (n+3) _ (mY aM kk) s2 NC AC AC;rw[P4]at hb;refine Ok.call hb ?_;rintro _ ⟨d,s3,rfl,eC,hblk⟩;refine⟨_,s3,rfl,?_⟩;rw[vF,ao,Zh];exact .mk ⟨d,s3,rfl,cH.trans (Fx.pre [j] eC),Qx.pre eC,hblk⟩
structure db where
 seq:Int
 blocks:Int
 ef:Int
 g:Int
 de:Int
 used:Int
 free:Int
 dir:Int
 bg:ak
structure bu where
 W:al
 aR:List eR
 bI:List kJ
 dp:ak
 free:ak
 nodes:Int
structure cg where
 w:Nat
 i:Nat
 j:Nat
 m:Nat
 a:ah
 aM:aj
 sup:db
 pc:ah
def cM (z:Nat) (p:ah) (n:Nat):DV:= .slice z p n
def mK (K:cg) (v:bu) (MB c15 c16 c17:DV):af:=
 [.slice 1 K.a K.aM.length,.i K.sup.seq,.i K.sup.blocks,.i K.sup.ef,.i K.sup.g,.i K.sup.de,.i K.sup.used,.i K.sup.free,.i K.sup.dir,.slice 1 K.pc K.sup.bg.length,
  .ptr (some (K.i,0)),MB,.i K.sup.blocks,.i K.sup.ef,.i K.sup.g,c15,c16,c17,.i v.nodes]
def aC:ah->al
 |none=>[]
 |some (b,_)=>[b]
theorem dF.aC {L:al} {a:ah} (h: ∀b∈aC a,b∉L):dF L a:=by
 intro b o e;grind[F.aC]
theorem bn.fx {a:ah} {cs:af} (h:bn [] s a cs) (k:Fx T s s') (n: ∀b∈aC a,b∉T):bn [] s' a cs:=by
 refine⟨⟨s',rfl⟩,?_⟩;rcases h.2 with h1|⟨i,rfl,h2,h3⟩
 .exact .inl h1
 .exact .inr ⟨i,rfl,h2,k.2 i _ (n i (by simp[aC])) h3⟩
theorem bn.Br {a:ah} {cs:af} (h:bn [] s a cs): ∀b∈aC a,b<s.length:=by
 rcases h.2 with⟨rfl,_⟩|⟨i,rfl,_,h3⟩
 .intro b hb;cases hb
 .intro b hb;rw[cA.1 hb];grind
theorem EM {a:ah} {cs:af} (h:bn [] s a cs) (ds:af) (hz:0<sz) (hn:cs.length=n*sz) (hd:ds.length=sz) (hl:n+1<=lim:=by omega):
  ∃b s',s.length<=b/\bn [] s' (some (b,0)) (cs++ds)/\Fx (aC a) s s'/\∀K:ah->M β,(bH ds λi=>bP i 0 sz λcs'=>cB sz a n cs' 1 lim K) s=K (some (b,0)) s':=by
 have⟨b,s',h1,h2,_,h4,h5⟩:=h.GM (β:=β) ds hz hn hd hl;refine⟨b,s',h1,h2,⟨?_,λi x hi e=>h4 i x e ?_⟩,h5⟩
 .have:=bn.Br h2 b (by simp[aC]);omega
 grind[aC]
def mS (s:St) (L:al):af->List kJ->Prop
 |ds,[]=>ds=[]
 |ds,x::r=>∃z p t,(z=4\/p=none)/\ds=rK x z p++t/\Sl s p (eY x.oP)/\dF L p/\mS s L t r
theorem mS.fx {s s':St} {L L':al} (k:Fx L s s') (hL: ∀x∈L',x∈L\/s.length<=x): ∀ {ds:af} {xs:List kJ},mS s L ds xs->mS s' L' ds xs
 |_,[],h=>h
 |_,_::_,⟨z,p,t,hz,h1,h2,h3,h4⟩=>⟨z,p,t,hz,h1,h2.fx k h3,h3.new h2 hL,h4.fx k hL⟩
theorem mS.bI {s:St} {L:al} : ∀ {ds:af} {xs:List kJ},mS s L ds xs->oD s ds xs
 |_,[],h=>h
 |_,_::_,⟨z,p,t,hz,h1,h2,_,h4⟩=>⟨z,p,t,hz,h1,h2,h4.bI⟩
theorem mS.push {s:St} {L:al} {x:kJ} {z:Nat} {p:ah} (hz:z=4\/p=none) (hs:Sl s p (eY x.oP)) (ho:dF L p): ∀ {ds:af} {xs:List kJ},mS s L ds xs->mS s L (ds++rK x z p) (xs++[x])
 |ds,[],h=>⟨z,p,[],hz,by rw[show ds=[]from h];rfl,hs,ho,rfl⟩
 |_,_::_,⟨z',p',t,u9,h1,h2,h3,h4⟩=>⟨z',p',t++rK x z p,u9,by rw[h1,gX],h2,h3,h4.push hz hs ho⟩
structure di (K:cg) (s:St) (v:bu) (L:List Nat) (z1:Nat) (p1:Option (Nat×Nat)) (z2:Nat) (p2:Option (Nat×Nat)) (z3:Nat) (p3:Option (Nat×Nat)) (z4:Nat) (p4:Option (Nat×Nat)) (hd:List DV):Prop where
 cell:s[K.w]? =some (some ⟨false,mK K v (cM z1 p1 v.aR.length) (cM z2 p2 v.bI.length) (cM z3 p3 v.dp.length) (cM z4 p4 v.free.length)⟩)
 e1:z1=3\/p1=none
 e2:z2=2\/p2=none
 e3:z3=1\/p3=none
 e4:z4=1\/p4=none
 o1:bn [] s p1 (eN v.aR)
 o2:bn [] s p2 hd
 o3:bn [] s p3 (ints v.dp)
 o4:bn [] s p4 (ints v.free)
 bI:mS s L hd v.bI
 set:dT s false K.i K.j K.m v.W
 aM:cC s K.a K.aM
 off:dF L K.a
 own:L=K.w::K.i::K.j::(aC p1++(aC p2++(aC p3++aC p4)))
 nodup:L.Nodup
def Wk (K:cg) (s:St) (v:bu) (L:al):Prop:=∃z1 p1 z2 p2 z3 p3 z4 p4 hd,di K s v L z1 p1 z2 p2 z3 p3 z4 p4 hd
def Nw (L:al) (s:St) (L':al):Prop:=∀x∈L',x∈L\/s.length<=x
theorem Nw.refl (L:al) (s:St):Nw L s L:=λ_ h=> .inl h
theorem Nw.trans (h:Nw L s L') (hs:s.length<=s'.length) (k:Nw L' s' L''):Nw L s L'':=λx hx=>by
 rcases k x hx with h1|h1
 .exact h x h1
 omega
theorem DY {B:al} {b:Nat} (h:(A++(B++C)).Nodup) (hl: ∀x∈A++(B++C),x<n) (hb:n<=b):(A++([b]++C)).Nodup:=by
 rw[Df]at h⊢;have⟨h1,h2,h3⟩:=h;rw[Df]at h2;have⟨_,h4,_⟩:=h2;refine⟨h1,?_,?_⟩
 .rw[List.singleton_append,List.nodup_cons]
  refine⟨λhm=>?_,h4⟩;have:=hl b (by simp[hm]);omega
 .intro x hx y hy
  rcases nQ.1 hy with hy|hy
  .rw[cA.1 hy]
   have:=hl x (by simp[hx]);omega
  grind
variable {K:cg} {s:St} {v:bu} {L:al} {z1 z2 z3 z4:Nat} {p1 p2 p3 p4:ah} {hd:af}
theorem di.lt (h:di K s v L z1 p1 z2 p2 z3 p3 z4 p4 hd): ∀x∈L,x<s.length:=by
 intro x hx;rw[h.own]at hx;simp only[dR,nQ]at hx;rcases hx with rfl|rfl|rfl|hx|hx|hx|hx
 .exact(cF.1 h.cell).1
 .exact(cF.1 h.set.hd).1
 .exact(cF.1 h.set.wd).1
 .exact bn.Br h.o1 x hx
 .exact bn.Br h.o2 x hx
 .exact bn.Br h.o3 x hx
 .exact bn.Br h.o4 x hx
theorem di.wY (h:di K s v L z1 p1 z2 p2 z3 p3 z4 p4 hd):K.w∈L:=by rw[h.own];simp
theorem di.qB (h:di K s v L z1 p1 z2 p2 z3 p3 z4 p4 hd):K.j∈L:=by rw[h.own];simp
theorem di.ne (h:di K s v L z1 p1 z2 p2 z3 p3 z4 p4 hd):K.w≠K.i/\K.w≠K.j/\K.i≠K.j/\(∀x∈aC p1++(aC p2++(aC p3++aC p4)),x≠K.w/\x≠K.i/\x≠K.j):=by
 have hn:=h.nodup;rw[h.own]at hn;simp only[List.nodup_cons,dR,not_or]at hn;grind
theorem di.gU (h:di K s v L z1 p1 z2 p2 z3 p3 z4 p4 hd) (k:Fx T s s') (hT: ∀x∈T,x∉L) (ha:dF T K.a) (hh:mS s' L hd v.bI):di K s' v L z1 p1 z2 p2 z3 p3 z4 p4 hd:=by
 have hm: ∀x∈L,x∉T:=λx hx hx'=>hT x hx' hx
 have ho:=h.own;refine⟨k.2 _ _ (hm _ h.wY) h.cell,h.e1,h.e2,h.e3,h.e4,h.o1.fx k λb hb=>hm b ?_,h.o2.fx k λb hb=>hm b ?_,h.o3.fx k λb hb=>hm b ?_,h.o4.fx k λb hb=>hm b ?_,hh,h.set.fx k (hm _ (by rw[ho];simp)) (hm _ h.qB),Sl.fx h.aM k ha,h.off,ho,h.nodup⟩
 all_goals rw[ho];simp[hb]
theorem di.pre {s':St} (h:di K s v L z1 p1 z2 p2 z3 p3 z4 p4 hd) (k:ax s s'):di K s' v L z1 p1 z2 p2 z3 p3 z4 p4 hd:=
 h.gU (Fx.pre [] k) (λ_ h=>by cases h) (λ_ _ _ h=>by cases h) (h.bI.fx (Fx.pre L k) (Nw.refl L s))
theorem di.Ws (h:di K s v L z1 p1 z2 p2 z3 p3 z4 p4 hd) (k:Fx [K.j] s s') (hs:dT s' false K.i K.j K.m W'):di K s' { v with W:=W' } L z1 p1 z2 p2 z3 p3 z4 p4 hd:=by
 have cS:=h.ne;refine⟨k.2 _ _ (by simpa using cS.2.1) h.cell,h.e1,h.e2,h.e3,h.e4,h.o1.fx k λb hb=>?_,h.o2.fx k λb hb=>?_,h.o3.fx k λb hb=>?_,h.o4.fx k λb hb=>?_,h.bI.fx (k.mono λx hx=>by rw[cA.1 hx];exact h.qB) (Nw.refl L s),hs,Sl.fx h.aM k λb o e hb=>h.off b o e (by rw[cA.1 hb];exact h.qB),h.off,h.own,h.nodup⟩
 all_goals simpa using Fd
def dy (K:cg) (k:Int) (v:bu):Option (vC×bu):=bif uN K.m v.W k then some (lx (mY K.aM k.toNat), { v with W:=ej K.m v.W k })else none
theorem di.take {Bd:Ze} (hB:HA Bd) (n:Nat) (k:Int) (hm:K.sup.blocks=(K.m:Int)) (hi:K.m*64<=K.aM.length) (hl:K.aM.length<1000000) (hn:170<=n) (h:di K s v L z1 p1 z2 p2 z3 p3 z4 p4 hd):
  Ok (λo=>match dy K k v with
   |none=>o=(.dM,s)
   |some (b,v')=>∃d s',o=(.val [d],s')/\di K s' v' L z1 p1 z2 p2 z3 p3 z4 p4 hd/\Fx [K.j] s s'/\Ha s' b d) (run Bd n 228 [.ptr (some (K.w,0)),.i k] s):=by
 have cS:=h.ne;refine(Ztf hB n K.w K.a K.aM k s h.cell rfl (by rw[<-hm];rfl) rfl h.set cS.2.2.1 cS.2.1 h.aM (λb o e hb=>h.off b o e (by rw[cA.1 hb];exact h.qB)) hi hl hn).mono ?_;intro o ho;unfold dy;cases hf:uN K.m v.W k with
 |false=>rw[hf]at ho;exact ho
 |true=>
  rw[hf]at ho;obtain⟨d,s',rfl,cH,hs,hb⟩:=ho;exact⟨d,s',rfl,h.Ws cH hs,cH,hb⟩
theorem KE: ∀ {l:List eR} {j:Nat} {x:eR},l[j]? =some x->((eN l).drop (j*3)).take 3=iZ x
 |[],j,e,h=>by simp at h
 |x::l,0,e,h=>by
  simp only[jI,eO]at h;subst h;rfl
 |x::l,j+1,e,h=>by
  have e2:eN (x::l)=iZ x++eN l:=rfl;rw[e2,show(j+1)*3=(iZ x).length+j*3 by show _=3+_;omega,<-kd,List.drop_left];exact KE (by simpa using h)
def mT (K:cg) (s:St) (L:al) (r:Option bu) (ds:af) (o:Out af×St):Prop:=match r with
 |none=>∃s',o=(.dM,s')/\Fx L s s'
 |some v=>∃s' L',o=(.val ds,s')/\Wk K s' v L'/\Fx L s s'/\Nw L s L'
theorem di.Wp (h:di K s v L z1 p1 z2 p2 z3 p3 z4 p4 hd) (x:eR) (hl:v.aR.length<1000000):
  ∃b s1 s2 L',(∀Kc:ah->M β,(bH (iZ x) λi=>bP i 0 3 λcs'=>cB 3 p1 v.aR.length cs' 1 2932031007402 Kc) s=Kc (some (b,0)) s1)/\
   (∀Kc:M β,bB K.w 11 [.slice 3 (some (b,0)) (v.aR.length+1)] Kc s1=Kc s2)/\Wk K s2 { v with aR:=v.aR++[x] } L'/\Fx L s s2/\Nw L s L':=by
 have⟨b,s1,hb,ho,cH,he⟩:=EM (β:=β) (lim:=2932031007402) h.o1 (sz:=3) (n:=v.aR.length) (iZ x) AC (pP _) rfl;have cS:=h.ne;have cD:=cH.2 K.w _ Fd h.cell;have wv: ∀x∈aC p1,x∈L:=λx hx=>by rw[h.own];simp[hx]
 let L':=K.w::K.i::K.j::(aC (some (b,0))++(aC p2++(aC p3++aC p4)))
 have fX:Fx L s (s1.set K.w (some ⟨false,mK K { v with aR:=v.aR++[x] } (cM 3 (some (b,0)) (v.aR.length+1)) (cM z2 p2 v.bI.length) (cM z3 p3 v.dp.length) (cM z4 p4 v.free.length)⟩)):=
  (cH.mono wv).trans ((Fx.set s1 K.w _).mono λy hy=>by rw[cA.1 hy];exact h.wY)
 have jC:=h.nodup;rw[h.own]at jC;have wM:(K.w::K.i::K.j::(aC (some (b,0))++(aC p2++(aC p3++aC p4)))).Nodup:=DY (A:=[K.w,K.i,K.j]) (B:=aC p1) jC (λy hy=>h.lt y (by rw[h.own];exact hy)) hb;have fA:Nw L s L':=λy hy=>by
  have wV:y∈K.w::K.i::K.j::([b]++(aC p2++(aC p3++aC p4))):=hy;rw[h.own];simp only[dR,nQ,List.mem_nil_iff,qP]at wV⊢;grind
 have Xk: ∀y,y∉aC p1->y≠K.w->∀c,s[y]? =some c->(s1.set K.w (some ⟨false,mK K { v with aR:=v.aR++[x] } (cM 3 (some (b,0)) (v.aR.length+1)) (cM z2 p2 v.bI.length) (cM z3 p3 v.dp.length) (cM z4 p4 v.free.length)⟩))[y]? =some c:=λy h1 h2 c hc=>by
  rw[cz AC];exact cH.2 y c h1 hc
 have fo:Fx (K.w::aC p1) s (s1.set K.w (some ⟨false,mK K { v with aR:=v.aR++[x] } (cM 3 (some (b,0)) (v.aR.length+1)) (cM z2 p2 v.bI.length) (cM z3 p3 v.dp.length) (cM z4 p4 v.free.length)⟩)):=
  ⟨fX.1,Fd⟩
 have iS: ∀y,y∈aC p2++(aC p3++aC p4)->y∉K.w::aC p1:=λy hy hm=>by
  rcases dR.1 hm with e|e
  .grind
  .have tG:=jC
   simp only[List.nodup_cons,Df]at tG;grind
 have oT:b≠K.w:=λe=>by have:=(cF.1 h.cell).1;omega
 refine⟨b,s1,_,L',he,λKc=>?_,⟨3,some (b,0),z2,p2,z3,p3,z4,p4,hd,⟨?_,.inl rfl,h.e2,h.e3,h.e4,?_,?_,?_,?_,?_,?_,?_,?_,rfl,wM⟩⟩,fX,fA⟩
 .rw[Zs cD (by show 11<19;omega)]
  rfl
 .rw[eJ (by have:=(cF.1 cD).1;exact this),cq];rfl
 .rw[Zng]
  exact(show bn [] s1 (some (b,0)) (eN v.aR++eN [x])from ho).fx (Fx.set s1 K.w _) (λy hy=>by
   rw[cA.1 hy,cA];exact oT)
 .exact h.o2.fx fo λy hy=>iS y (by simp[hy])
 .exact h.o3.fx fo λy hy=>iS y (by simp[hy])
 .exact h.o4.fx fo λy hy=>iS y (by simp[hy])
 .exact h.bI.fx fX fA
 .exact h.set.fx fo (λhm=>by
   grind) (λhm=>by
   grind)
 .exact Sl.fx h.aM fX h.off
 .exact h.off.new h.aM fA
def yr (sup:db) (x:eR):Bool:=(bif decide (x.gen>=1)then decide (x.gen<=sup.g)else false)&&(bif (bif x.live then true else decide (x.gen<sup.g))then true else x.block==0)
def Bh (x:eR):Bool:=(x.live==false)&&((x.gen==0)&&((x.block==0)&&true))
def nX (K:cg) (k:Int) (x:eR) (v:bu):Option bu:=
 bif decide (k>=K.sup.used)then(bif Bh x then some v else none)
 else(bif yr K.sup x then some { v with aR:=v.aR++[x] } else none)
def lX (K:cg):Int->List eR->bu->Option bu
 |_,[],v=>some v
 |k,x::r,v=>match nX K k x v with
  |none=>none
  |some v'=>lX K (k+1) r v'
def kZ (K:cg) (k slot:Int) (v:bu):Option bu:=match dy K k v with
 |some (.leaf x,v')=>lX K slot x v'
 |_=>none
variable {v v':bu} {K:cg}
theorem Zps {x:eR} (h:nX K k x v=some v'):v'.aR.length<=v.aR.length+1:=by
 grind[nX]
theorem ZlZ {K:cg} : ∀ {x:List eR} {k:Int} {v v':bu},lX K k x v=some v'->v'.aR.length<=v.aR.length+x.length
 |[],_,_,_,h=>by cases h;simp
 |x::r,k,v,v',h=>by
  unfold lX at h;cases h1:nX K k x v with
  |none=>rw[h1]at h;cases h
  |some w=>
   rw[h1]at h;have:=Zps h1;have:=ZlZ h;simp;omega
structure vK (K:cg):Prop where
 m:K.sup.blocks=(K.m:Int)
 yD:K.m*64<=K.aM.length
 len:K.aM.length<1000000
theorem di.wk (h:di K s v L z1 p1 z2 p2 z3 p3 z4 p4 hd):Wk K s v L:=⟨_,_,_,_,_,_,_,_,_,h⟩
theorem Ztn {Bd:Ze} (h:HA Bd) (n:Nat) (hK:vK K) (k slot:Int) (Gj:0<=slot) (ib:slot<=100000) (hW:Wk K s v L) (hl:v.aR.length<100000) (hn:180<=n):
  Ok (mT K s L (kZ K k slot v) []) (run Bd n 229 [.ptr (some (K.w,0)),.i k,.i slot] s):=by
 obtain⟨n,rfl⟩: ∃k,n=k+2:=⟨n-2,AC⟩;rw[Zb,h.SD];unfold Hn uD oC Q_ bY Zl C_ aB cP Li Lb kZ;simp only[bF,ar,ao,Zi];have⟨z1,p1,z2,p2,z3,p3,z4,p4,hd,hW⟩:=hW;refine Ok.qb (hW.take h (n+1) k hK.m hK.yD hK.len AC) ?_ ?_
 .intro s' hp
  cases ht:dy K k v with
  |none=>rw[ht]at hp;cases hp;exact⟨s,rfl,.refl L s⟩
  |some q=>rw[ht]at hp;grind
 intro ds s1 hp;cases ht:dy K k v with
 |none=>rw[ht]at hp;cases hp
 |some q=>
  have⟨b,v1⟩:=q;rw[ht]at hp;have⟨d,s2,e,fU,cH,hb⟩:=hp;cases e;have N3:v1.aR=v.aR:=by
   unfold dy at ht;grind
  have lB:Fx L s s1:=cH.mono λy hy=>by rw[cA.1 hy];exact hW.qB
  rw[vF,ao];cases b with
  |node x=>obtain⟨p,rfl,_⟩:=hb;exact .mk ⟨s1,rfl,lB⟩
  |de x=>obtain⟨rfl,_⟩:=hb;exact .mk ⟨s1,rfl,lB⟩
  |queue x=>obtain⟨rfl,_⟩:=hb;exact .mk ⟨s1,rfl,lB⟩
  |dir x=>obtain⟨p,rfl,_⟩:=hb;exact .mk ⟨s1,rfl,lB⟩
  |none=>cases hb;exact .mk ⟨s1,rfl,lB⟩
  |leaf x=>
   obtain⟨rfl,hx⟩:=hb;have hlen:(eN x).length=21:=by rw[pP,hx]
   show Ok (mT K s L (lX K slot x v1) []) (bK (eN x) 21 _ _);have⟨R,hR⟩: ∃R,lX K slot x v1=R:=⟨_,rfl⟩;rw[hR,bV hlen,show(eN x).take 21=eN x from dJ AC];refine Zn _ (λq y t=>∃(i:Nat) (u:bu) (Lu:al),y=[.i i]/\i<=7/\7-i<=q/\Wk K t u Lu/\Fx L s t/\Nw L s Lu/\u.aR.length<=v.aR.length+i/\lX K (slot+i) (x.drop i) u=R) ?_ 7 (n+1) _ _ ⟨0,v1,L,rfl,AC,AC,fU.wk,lB,.refl L s,by rw[N3];omega,by simp[hR]⟩ AC;rintro q _ t ⟨i,u,Lu,rfl,hi,hq,cW,gK,gS,Gn,aO⟩ rec aQ;rw[ar,ao];by_cases aw:i<7
   .rw[aI (AC:(i:Int)<7),aa,Zg (show bL (i:Int) 7=true from Zo aw),bw]
    have mC:x[i]? =some (x[i]' AC):=Fd
    rw[KE mC];have jU:x.drop i=(x[i]' AC)::x.drop (i+1):=il AC;rw[jU]at aO;generalize x[i]' AC=e at aO;have⟨z1,p1,z2,p2,z3,p3,z4,p4,hd,cW⟩:=cW;rw[bV (cs:=iZ e) (n:=3) rfl,aD,Zf cW.cell rfl,bm];have cD:aq (slot+(i:Int))=slot+i:=Zc;have fR:aq ((i:Int)+1)=((i+1:Nat):Int):=Zc;rw[cD,fR];unfold lX nX at aO;have oi:slot+((i+1:Nat):Int)=slot+i+1:=AC
    cases hk:decide (slot+(i:Int)>=K.sup.used)with
    |true=>
     rw[hk,aa]at aO;rw[aa];show Ok _ (cK (run Bd (n+1) 225 [.bool (Bh e)]) _ t);cases h0:Bh e with
     |true=>
      rw[h0]at aO;rw[nW h n rfl,ao];exact aQ (7-(i+1)) _ _ AC ⟨i+1,u,Lu,rfl,AC,aW _,cW.wk,gK,gS,AC,by rw[oi];exact aO⟩
     |false=>
      rw[h0]at aO;rw[ZS h n rfl];simp only[ae]at aO;rw[<-aO];exact .mk ⟨t,rfl,gK⟩
    |false=>
     rw[hk,ae]at aO;rw[ae];have tx:mK K u (cM z1 p1 u.aR.length) (cM z2 p2 u.bI.length) (cM z3 p3 u.dp.length) (cM z4 p4 u.free.length)=mK K u (cM z1 p1 u.aR.length) (cM z2 p2 u.bI.length) (cM z3 p3 u.dp.length) (cM z4 p4 u.free.length):=rfl;clear tx;have jX:Ok (mT K s L R []) (cK (run Bd (n+1) 225 [.bool (yr K.sup e)]) (λds=>aL ds<|aF (some (K.w,0)) λi1 o1=>bc i1 (o1+11) λd3=>bJ 3 d3 λx4 lM=>bK (iZ e) 3<|bH (iZ e) λi2=>bP i2 0 3 λbM=>cB 3 x4 lM bM 1 2932031007402 λp=>aF (some (K.w,0)) λi3 o2=>bB i3 (o2+11) [.slice 3 p (lM+1)]<|rec [.i ((i+1:Nat):Int)]) t):=by
      cases h0:yr K.sup e with
      |true=>
       rw[h0]at aO;rw[nW h n rfl];simp only[ao,aD];rw[Zf cW.cell rfl];show Ok _ (bJ 3 (.slice z1 p1 u.aR.length) _ t);rw[Zu 3 z1 p1 _ cW.e1,bV (cs:=iZ e) (n:=3) rfl];have⟨b,t1,t2,L2,g1,g2,g3,g4,g5⟩:=cW.Wp (β:=af) e AC;rw[g1,ei,g2];exact aQ (7-(i+1)) _ _ AC ⟨i+1,_,L2,rfl,AC,aW _,g3,gK.step g4 gS,gS.trans gK.1 g5,by simp;omega,by rw[oi];exact aO⟩
      |false=>
       rw[h0]at aO;rw[ZS h n rfl];simp only[ae]at aO;rw[<-aO];exact .mk ⟨t,rfl,gK⟩
     unfold yr at jX;rw[lq (i:=1) (d:= .i e.gen) rfl,bm];have qo: ∀Kc:DV->M af,bc K.w (0+4) Kc t=Kc (.i K.sup.g) t:=λKc=>Zf cW.cell rfl Kc
     cases tx:decide (e.gen>=1)with
     |false=>
      simp only[tx,ae,gN]at jX;rw[ae,aA,ao];exact jX
     |true=>
      simp only[tx,aa]at jX;rw[aa,lq (i:=1) (d:= .i e.gen) rfl];simp only[bm,aD];rw[qo];simp only[bm,aA,ao];cases ql:decide (e.gen<=K.sup.g)with
      |false=>
       simp only[ql,gN]at jX;rw[ae];exact jX
      |true=>
       simp only[ql,ez]at jX;rw[aa,lq (i:=0) (d:= .bool e.live) rfl,qQ];cases nr:e.live with
       |true=>
        simp only[nr,aa]at jX;rw[aa,aa];exact jX
       |false=>
        simp only[nr,ae]at jX;rw[ae,lq (i:=1) (d:= .i e.gen) rfl,bm,qo,bm];cases BS:decide (e.gen<K.sup.g)with
        |true=>
         simp only[BS,aa]at jX;rw[aa];exact jX
        |false=>
         simp only[BS,ae]at jX;rw[ae,lq (i:=2) (d:= .i e.block) rfl,bm];exact jX
   .rw[aK (AC:¬(i:Int)<7),ae]
    rw[sE AC]at aO;rw[Zh,<-aO];exact .mk ⟨t,Lu,rfl,cW,gK,gS⟩
theorem ZkU {x:List eR} (h:lx l= .leaf x):x.length=7:=by
 unfold lx at h;split at h
 .cases h
 .split at h
  .rename_i e;cases h;exact JJ e
  grind
theorem ZZ {b:vC} (h:dy K k v=some (b,v')):v'.aR=v.aR/\v'.bI=v.bI/\v'.dp=v.dp/\v'.free=v.free/\v'.nodes=v.nodes/\b=lx (mY K.aM k.toNat):=by
 grind[dy]
theorem ZnE (h:kZ K k slot v=some v'):v'.aR.length<=v.aR.length+7:=by
 unfold kZ at h;cases ht:dy K k v with
 |none=>rw[ht]at h;cases h
 |some q=>
  have⟨b,v1⟩:=q;rw[ht]at h;have⟨h1,_,_,_,_,h2⟩:=ZZ ht;cases b with
  |leaf x=>
   have:=ZlZ h;rw[h1,ZkU h2.symm]at this;exact this
  |node x=>cases h
  |de x=>cases h
  |queue x=>cases h
  |dir x=>cases h
  |none=>cases h
def jP (K:cg) (dc x5:Int):Int->ak->bu->Option bu
 |_,[],v=>some v
 |k,y::r,v=>bif (!(y==0))==decide (x5*16+k<dc)then(bif !(y==0)then(match kZ K y ((x5*16+k)*7) v with
   |none=>none
   |some v'=>jP K dc x5 (k+1) r v')else jP K dc x5 (k+1) r v)else none
def nb (K:cg) (dc:Int):Int->ak->bu->Option bu
 |_,[],v=>some v
 |k,y::r,v=>bif (!(y==0))==decide (k*16<dc)then(bif y==0 then nb K dc (k+1) r v else(match dy K y v with
   |some (.de x,v')=>(match jP K dc k 0 x v' with
    |none=>none
    |some v''=>nb K dc (k+1) r v'')
   |_=>none))else none
def oJ (K:cg) (v:bu):Option bu:=bif K.sup.used==0 then some v else(match dy K K.sup.de v with
 |some (.de x,v')=>nb K (yo K.sup.used) 0 x v'
 |_=>none)
theorem Kh {K:cg} {dc x5:Int} : ∀ {x:ak} {k:Int} {v v':bu},jP K dc x5 k x v=some v'->v'.aR.length<=v.aR.length+7*x.length
 |[],_,_,_,h=>by cases h;simp
 |y::r,k,v,v',h=>by
  unfold jP at h;cases h1:((!(y==0))==decide (x5*16+k<dc))with
  |false=>rw[h1]at h;cases h
  |true=>
   rw[h1,aa]at h;cases h2:(!(y==0))with
   |false=>
    rw[h2,ae]at h;have:=Kh h;simp;omega
   |true=>
    rw[h2,aa]at h;cases h3:kZ K y ((x5*16+k)*7) v with
    |none=>rw[h3]at h;cases h
    |some w=>
     rw[h3]at h;have:=Kh h;have:=ZnE h3;simp;omega
theorem Zts {Bd:Ze} (hL:HA Bd) (hM:HA Bd) (n:Nat) (hK:vK K) (dc:Int) (i5:Nat) (h5:i5<16) (x:ak) (hx:x.length=16) (hn:181<=n) (s:St) (L:al) (t0:St) (L0:al) (v0:bu)
  (hW:Wk K t0 v0 L0) (hf:Fx L s t0) (fA:Nw L s L0) (hl:v0.aR.length<10000)
  (R:Option bu) (Kn:M af) (aO: ∀w,jP K dc (i5:Int) 0 x v0=some w->∀t Lw,Wk K t w Lw->Fx L s t->Nw L s Lw->Ok (mT K s L R []) (Kn t)) (dq:jP K dc (i5:Int) 0 x v0=none->R=none):
  Ok (mT K s L R []) (dL (λgv st=>
      az .i64 st λx8 st=>
      aL st<|
      bif decide (x8<16)then
       aJ (bL x8 16)<|
      fe ((ints x).take 16) (x8.toNat*1) λd6=>
      dj .i64 d6 λx9=>
      cK (run Bd n 225 [.bool ((!(x9==0))==(decide (aq ((aq ((i5:Int)*16))+x8)<dc)))]) λds=>
      aL ds<|
      bif !(x9==0)then
       cK (run Bd n 229 [.ptr (some (K.w,0)),.i x9,.i (aq ((aq ((aq ((i5:Int)*16))+x8))*7))]) λds=>
      aL ds<|
      gv [.i (aq (x8+1))]
      else
       gv [.i (aq (x8+1))]
      else
       Kn) n [.i 0] t0):=by
 obtain _|n:=n;omega;rw[show(ints x).take 16=ints x from dJ (by simp[ints,hx])];have⟨G,hG⟩: ∃G,jP K dc (i5:Int) 0 x v0=G:=⟨_,rfl⟩;rw[hG]at aO dq;refine Zn _ (λq y t=>∃(i:Nat) (u:bu) (Lu:al),y=[.i i]/\i<=16/\16-i<=q/\Wk K t u Lu/\Fx L s t/\Nw L s Lu/\u.aR.length<=v0.aR.length+7*i/\jP K dc i5 i (x.drop i) u=G) ?_ 16 (n+1) _ _ Fd AC;rintro q _ t ⟨i,u,Lu,rfl,hi,hq,cW,gK,gS,Gn,gA⟩ rec aQ;rw[ar,ao];by_cases aw:i<16
 .have jU:x.drop i=(x[i]' AC)::x.drop (i+1):=il AC
  rw[jU]at gA;rw[aI (AC:(i:Int)<16),aa,Zg (show bL (i:Int) 16=true from Zo aw),bw,cL,lq (ZN),bm];generalize x[i]' AC=y at gA;have cD:aq ((i5:Int)*16)=(i5:Int)*16:=Zc;have fR:aq ((i5:Int)*16+i)=(i5:Int)*16+i:=Zc;have mA:aq (((i5:Int)*16+i)*7)=((i5:Int)*16+i)*7:=Zc;have nz:aq ((i:Int)+1)=((i+1:Nat):Int):=Zc;rw[cD,fR,mA,nz];have oi:((i+1:Nat):Int)=(i:Int)+1:=AC
  unfold jP at gA;cases h1:((!(y==0))==decide ((i5:Int)*16+i<dc))with
  |false=>
   rw[h1,ae]at gA;rw[ZS hM n rfl,dq gA.symm];exact .mk ⟨t,rfl,gK⟩
  |true=>
   rw[h1,aa]at gA;rw[nW hM n rfl,ao];cases h2:(!(y==0))with
   |false=>
    rw[h2,ae]at gA;rw[ae];exact aQ (16-(i+1)) _ _ AC Fd
   |true=>
    rw[h2,aa]at gA;rw[aa];refine Ok.qb (Ztn hL (n+1) hK y (((i5:Int)*16+i)*7) AC AC cW AC AC) ?_ ?_
    .intro t' hp
     cases h3:kZ K y (((i5:Int)*16+i)*7) u with
     |some w=>rw[h3]at hp;have⟨_,_,e,_⟩:=hp;cases e
     |none=>
      rw[h3]at hp gA;have⟨t2,e,BP⟩:=hp;cases e;rw[dq gA.symm];exact⟨t',rfl,gK.step BP gS⟩
    .intro ds t' hp
     cases h3:kZ K y (((i5:Int)*16+i)*7) u with
     |none=>rw[h3]at hp;have⟨_,e,_⟩:=hp;cases e
     |some w=>
      rw[h3]at hp gA;have⟨t2,L2,e,jT,BP,tG⟩:=hp;cases e;rw[ao];have iL:=ZnE h3;exact aQ (16-(i+1)) _ _ AC ⟨i+1,w,L2,rfl,AC,aW _,jT,gK.step BP gS,gS.trans gK.1 tG,AC,by rw[oi];exact gA⟩
 .rw[aK (AC:¬(i:Int)<16),ae]
  rw[sE AC]at gA;exact aO u gA.symm t Lu cW gK gS
theorem ZsD (n:Nat) (hK:vK K) (hW:Wk K s v L) (hl:v.aR.length<1000) (hn:190<=n):
  Ok (mT K s L (oJ K v) []) (run Bd n 226 [.ptr (some (K.w,0))] s):=by
 obtain⟨n,rfl⟩: ∃k,n=k+2:=⟨n-2,AC⟩;rw[Zb,h.SA];unfold Hx ck Zl aX oC Q_ bY C_ Li cP Lb kf oJ;simp only[bF,ao,Zi,aD];have⟨z1,p1,z2,p2,z3,p3,z4,p4,hd,hW⟩:=hW;rw[Zf hW.cell rfl,bm];cases hu:(K.sup.used==0)with
 |true=>
  rw[aa,aa,Zh];exact .mk ⟨s,L,rfl,hW.wk,.refl L s,.refl L s⟩
 |false=>
  rw[ae,ae,Zf hW.cell rfl,bm];have zd:=Zms (n-1) K.sup.used s;rw[show n-1+2=n+1 by omega]at zd;rw[Zj zd,ar,ao,Zf hW.cell rfl,bm];generalize yo K.sup.used=dc;refine Ok.qb (hW.take h (n+1) K.sup.de hK.m hK.yD hK.len AC) ?_ ?_
  .intro s' hp
   cases ht:dy K K.sup.de v with
   |none=>rw[ht]at hp;cases hp;exact⟨s,rfl,.refl L s⟩
   |some q=>rw[ht]at hp;grind
  intro ds s1 hp;cases ht:dy K K.sup.de v with
  |none=>rw[ht]at hp;cases hp
  |some q=>
   have⟨b,v1⟩:=q;rw[ht]at hp;have⟨d,s2,e,fU,cH,hb⟩:=hp;cases e;have N3:=(ZZ ht).1;have lB:Fx L s s1:=cH.mono λy hy=>by rw[cA.1 hy];exact hW.qB
   rw[vF,ao];cases b with
   |node x=>obtain⟨p,rfl,_⟩:=hb;exact .mk ⟨s1,rfl,lB⟩
   |leaf x=>obtain⟨rfl,_⟩:=hb;exact .mk ⟨s1,rfl,lB⟩
   |queue x=>obtain⟨rfl,_⟩:=hb;exact .mk ⟨s1,rfl,lB⟩
   |dir x=>obtain⟨p,rfl,_⟩:=hb;exact .mk ⟨s1,rfl,lB⟩
   |none=>cases hb;exact .mk ⟨s1,rfl,lB⟩
   |de x=>
    obtain⟨rfl,hx⟩:=hb;have hlen:(ints x).length=16:=by simp[ints,hx]
    show Ok (mT K s L (nb K dc 0 x v1) []) (bK (ints x) 16 _ _);have⟨R,hR⟩: ∃R,nb K dc 0 x v1=R:=⟨_,rfl⟩;rw[hR,bV hlen,show(ints x).take 16=ints x from dJ AC];refine Zn _ (λq y t=>∃(i:Nat) (u:bu) (Lu:al),y=[.i i]/\i<=16/\16-i<=q/\Wk K t u Lu/\Fx L s t/\Nw L s Lu/\u.aR.length<=v.aR.length+112*i/\nb K dc i (x.drop i) u=R) ?_ 16 (n+1) _ _ ⟨0,v1,L,rfl,AC,AC,fU.wk,lB,.refl L s,by rw[N3];omega,by simpa using hR⟩ AC;rintro q _ t ⟨i,u,Lu,rfl,hi,hq,cW,gK,gS,Gn,aO⟩ rec aQ;rw[ar,ao];by_cases aw:i<16
    .have jU:x.drop i=(x[i]' AC)::x.drop (i+1):=il AC
     rw[jU]at aO;rw[aI (AC:(i:Int)<16),aa,Zg (show bL (i:Int) 16=true from Zo aw),bw,cL,lq (ZN),bm];generalize x[i]' AC=y at aO;have cD:aq ((i:Int)*16)=(i:Int)*16:=Zc;have nz:aq ((i:Int)+1)=((i+1:Nat):Int):=Zc;have oi:((i+1:Nat):Int)=(i:Int)+1:=AC
     rw[show decide (aq ((i:Int)*16)<dc)=decide ((i:Int)*16<dc) by rw[cD]];unfold nb at aO;cases h1:((!(y==0))==decide ((i:Int)*16<dc))with
     |false=>
      rw[h1,ae]at aO;rw[ZS h n rfl,<-aO];exact .mk ⟨t,rfl,gK⟩
     |true=>
      rw[h1,aa]at aO;rw[nW h n rfl,ao];cases h2:(y==0)with
      |true=>
       rw[h2,aa]at aO;rw[aa,nz];exact aQ (16-(i+1)) _ _ AC Fd
      |false=>
       rw[h2,ae]at aO;rw[ae];have⟨z1,p1,z2,p2,z3,p3,z4,p4,hd,cW⟩:=cW;refine Ok.qb (cW.take h (n+1) y hK.m hK.yD hK.len AC) ?_ ?_
       .intro s' hp
        cases ht:dy K y u with
        |none=>rw[ht]at hp aO;cases hp;rw[<-aO];exact⟨t,rfl,gK⟩
        |some q=>rw[ht]at hp;grind
       intro ds t1 hp;cases ht:dy K y u with
       |none=>rw[ht]at hp;cases hp
       |some q=>
        have⟨b,u1⟩:=q;rw[ht]at hp aO;have⟨d,s2,e,jT,fX,hb⟩:=hp;cases e;have zB:=(ZZ ht).1;have np:Fx L s t1:=gK.step (fX.mono (T':=Lu) λy hy=>by rw[cA.1 hy];exact cW.qB) gS;rw[vF,ao];cases b with
        |node x=>obtain⟨p,rfl,_⟩:=hb;rw[<-aO];exact .mk ⟨t1,rfl,np⟩
        |leaf x=>obtain⟨rfl,_⟩:=hb;rw[<-aO];exact .mk ⟨t1,rfl,np⟩
        |queue x=>obtain⟨rfl,_⟩:=hb;rw[<-aO];exact .mk ⟨t1,rfl,np⟩
        |dir x=>obtain⟨p,rfl,_⟩:=hb;rw[<-aO];exact .mk ⟨t1,rfl,np⟩
        |none=>cases hb;rw[<-aO];exact .mk ⟨t1,rfl,np⟩
        |de x2=>
         obtain⟨rfl,hx2⟩:=hb;have zj:(ints x2).length=16:=by simp[ints,hx2]
         show Ok _ (bK (ints x2) 16 _ _);rw[bV zj];refine Zts h h (n+1) hK dc i aw x2 hx2 AC s L t1 Lu u1 jT.wk np gS (by rw[zB];omega) R (rec [.i (aq ((i:Int)+1))]) ?_ ?_
         .intro w hw t2 Lw hWw hfw fA
          have iL:=Kh hw;simp only at aO;rw[hw]at aO;rw[nz];refine aQ (16-(i+1)) _ _ AC ⟨i+1,w,Lw,rfl,AC,aW _,hWw,hfw,fA,?_,by rw[oi];exact aO⟩;rw[zB]at iL;omega
         grind
    .rw[aK (AC:¬(i:Int)<16),ae]
     rw[sE AC]at aO;rw[Zh,<-aO];exact .mk ⟨t,Lu,rfl,cW,gK,gS⟩
theorem KF {B:al} (h:(A++(B++C)).Nodup): ∀y∈A++C,y∉B:=by
 rw[Df,Df]at h;grind
theorem di.Wm (h:di K s v L z1 p1 z2 p2 z3 p3 z4 p4 hd) (x:Int) (hl:v.free.length<1000000):
  ∃b s1 s2 L',(∀Kc:ah->M β,(bH [DV.int .i64 x] λi=>bP i 0 1 λcs'=>cB 1 p4 v.free.length cs' 1 8796093022208 Kc) s=Kc (some (b,0)) s1)/\
   (∀Kc:M β,bB K.w 17 [.slice 1 (some (b,0)) (v.free.length+1)] Kc s1=Kc s2)/\di K s2 { v with free:=v.free++[x] } L' z1 p1 z2 p2 z3 p3 1 (some (b,0)) (hd)/\Fx L s s2/\Nw L s L'/\Fx (K.w::aC p4) s s2:=by
 have⟨b,s1,hb,ho,cH,he⟩:=EM (β:=β) (lim:=8796093022208) h.o4 (sz:=1) (n:=v.free.length) [DV.int .i64 x] AC (by simp[ints]) rfl;have cS:=h.ne;have cD:=cH.2 K.w _ Fd h.cell;have wv: ∀x∈aC p4,x∈L:=λx hx=>by rw[h.own];simp[hx]
 let L':=K.w::K.i::K.j::(aC p1++(aC p2++(aC p3++aC (some (b,0)))))
 let S':=s1.set K.w (some ⟨false,mK K { v with free:=v.free++[x] } (cM z1 p1 v.aR.length) (cM z2 p2 v.bI.length) (cM z3 p3 v.dp.length) (cM 1 (some (b,0)) (v.free.length+1))⟩)
 have fX:Fx L s S':=
  (cH.mono wv).trans ((Fx.set s1 K.w _).mono λy hy=>by rw[cA.1 hy];exact h.wY)
 have jC:((K.w::K.i::K.j::(aC p1++(aC p2++aC p3)))++(aC p4++([]:al))).Nodup:=by
  have:=h.nodup;rw[h.own]at this;grind
 have B0: ∀y∈(K.w::K.i::K.j::(aC p1++(aC p2++aC p3)))++(aC p4++([]:al)),y<s.length:=λy hy=>h.lt y (by
  rw[h.own];grind)
 have wM:L'.Nodup:=by
  have:=DY jC B0 hb;show(K.w::K.i::K.j::(aC p1++(aC p2++(aC p3++aC (some (b,0)))))).Nodup;simpa only[gX,qN,mN,gE,aC]using this
 have fA:Nw L s L':=λy hy=>by
  have wV:y∈K.w::K.i::K.j::(aC p1++(aC p2++(aC p3++aC (some (b,0))))):=hy;rw[h.own];by_cases e:y=b
  .exact .inr AC
  .refine .inl ?_
   simp only[dR,nQ,aC,List.mem_nil_iff,qP]at wV⊢;grind
 have fo:Fx (K.w::aC p4) s S':=
  ⟨fX.1,λy c hy hc=>by
   simp only[dR,not_or]at hy;show(s1.set K.w _)[y]? =_;rw[cz AC];exact cH.2 y c hy.2 hc⟩
 have B3:=KF jC;have iS: ∀y,y∈aC p1++(aC p2++aC p3)->y∉K.w::aC p4:=λy hy hm=>by
  rcases dR.1 hm with e|e
  .grind
  .exact B3 y Fd e
 have oT:b≠K.w:=λe=>by have:=(cF.1 h.cell).1;omega
 refine⟨b,s1,S',L',he,λKc=>?_,⟨?_,h.e1,h.e2,h.e3,.inl rfl,?_,?_,?_,?_,?_,?_,?_,?_,rfl,wM⟩,fX,fA,fo⟩
 .rw[Zs cD (by show 17<19;omega)]
  rfl
 .show(s1.set K.w _)[K.w]? =_
  rw[eJ (by have:=(cF.1 cD).1;exact this),cq];rfl
 .exact h.o1.fx fo λy hy=>iS y (by simp[hy])
 .exact h.o2.fx fo λy hy=>iS y (by simp[hy])
 .exact h.o3.fx fo λy hy=>iS y (by simp[hy])
 .rw[show ints (v.free++[x])=ints v.free++[.i x] by unfold ints;rw[fb];rfl]
  exact(show bn [] s1 (some (b,0)) _ from ho).fx (Fx.set s1 K.w _) (λy hy=>by
   rw[cA.1 hy,cA];exact oT)
 .exact h.bI.fx fX fA
 .exact h.set.fx fo (λhm=>by
   grind) (λhm=>by
   grind)
 .exact Sl.fx h.aM fX h.off
 .exact h.off.new h.aM fA
theorem di.Wn (h:di K s v L z1 p1 z2 p2 z3 p3 z4 p4 hd) (x:Int) (hl:v.dp.length<1000000):
  ∃b s1 s2 L',(∀Kc:ah->M β,(bH [DV.int .i64 x] λi=>bP i 0 1 λcs'=>cB 1 p3 v.dp.length cs' 1 8796093022208 Kc) s=Kc (some (b,0)) s1)/\
   (∀Kc:M β,bB K.w 16 [.slice 1 (some (b,0)) (v.dp.length+1)] Kc s1=Kc s2)/\di K s2 { v with dp:=v.dp++[x] } L' z1 p1 z2 p2 1 (some (b,0)) z4 p4 (hd)/\Fx L s s2/\Nw L s L'/\Fx (K.w::aC p3) s s2:=by
 have⟨b,s1,hb,ho,cH,he⟩:=EM (β:=β) (lim:=8796093022208) h.o3 (sz:=1) (n:=v.dp.length) [DV.int .i64 x] AC (by simp[ints]) rfl;have cS:=h.ne;have cD:=cH.2 K.w _ Fd h.cell;have wv: ∀x∈aC p3,x∈L:=λx hx=>by rw[h.own];simp[hx]
 let L':=K.w::K.i::K.j::(aC p1++(aC p2++(aC (some (b,0))++aC p4)))
 let S':=s1.set K.w (some ⟨false,mK K { v with dp:=v.dp++[x] } (cM z1 p1 v.aR.length) (cM z2 p2 v.bI.length) (cM 1 (some (b,0)) (v.dp.length+1)) (cM z4 p4 v.free.length)⟩)
 have fX:Fx L s S':=
  (cH.mono wv).trans ((Fx.set s1 K.w _).mono λy hy=>by rw[cA.1 hy];exact h.wY)
 have jC:((K.w::K.i::K.j::(aC p1++aC p2))++(aC p3++aC p4)).Nodup:=by
  have:=h.nodup;rw[h.own]at this;grind
 have B0: ∀y∈(K.w::K.i::K.j::(aC p1++aC p2))++(aC p3++aC p4),y<s.length:=λy hy=>h.lt y (by
  rw[h.own];grind)
 have wM:L'.Nodup:=by
  have:=DY jC B0 hb;show(K.w::K.i::K.j::(aC p1++(aC p2++(aC (some (b,0))++aC p4)))).Nodup;simpa only[gX,qN,mN,gE,aC]using this
 have fA:Nw L s L':=λy hy=>by
  have wV:y∈K.w::K.i::K.j::(aC p1++(aC p2++(aC (some (b,0))++aC p4))):=hy;rw[h.own];by_cases e:y=b
  .exact .inr AC
  .refine .inl ?_
   simp only[dR,nQ,aC,List.mem_nil_iff,qP]at wV⊢;grind
 have fo:Fx (K.w::aC p3) s S':=
  ⟨fX.1,λy c hy hc=>by
   simp only[dR,not_or]at hy;show(s1.set K.w _)[y]? =_;rw[cz AC];exact cH.2 y c hy.2 hc⟩
 have B3:=KF jC;have iS: ∀y,y∈aC p1++(aC p2++aC p4)->y∉K.w::aC p3:=λy hy hm=>by
  rcases dR.1 hm with e|e
  .grind
  .exact B3 y (by simp only[nQ,dR]at hy⊢;rcases hy with e|e|e<;>simp[e]) e
 have oT:b≠K.w:=λe=>by have:=(cF.1 h.cell).1;omega
 refine⟨b,s1,S',L',he,λKc=>?_,⟨?_,h.e1,h.e2,.inl rfl,h.e4,?_,?_,?_,?_,?_,?_,?_,?_,rfl,wM⟩,fX,fA,fo⟩
 .rw[Zs cD (by show 16<19;omega)]
  rfl
 .show(s1.set K.w _)[K.w]? =_
  rw[eJ (by have:=(cF.1 cD).1;exact this),cq];rfl
 .exact h.o1.fx fo λy hy=>iS y (by simp[hy])
 .exact h.o2.fx fo λy hy=>iS y (by simp[hy])
 .rw[show ints (v.dp++[x])=ints v.dp++[.i x] by unfold ints;rw[fb];rfl]
  exact(show bn [] s1 (some (b,0)) _ from ho).fx (Fx.set s1 K.w _) (λy hy=>by
   rw[cA.1 hy,cA];exact oT)
 .exact h.o4.fx fo λy hy=>iS y (by simp[hy])
 .exact h.bI.fx fX fA
 .exact h.set.fx fo (λhm=>by
   rcases dR.1 hm with e|e
   .exact cS.1 e.symm
   .exact(cS.2.2.2 K.i (by rw[nQ];grind)).2.1 rfl) (λhm=>by
   rcases dR.1 hm with e|e
   .exact cS.2.1 e.symm
   .exact(cS.2.2.2 K.j (by rw[nQ];grind)).2.2 rfl)
 .exact Sl.fx h.aM fX h.off
 .exact h.off.new h.aM fA
theorem di.Wo (h:di K s v L z1 p1 z2 p2 z3 p3 z4 p4 hd) (x:kJ) (hl:v.bI.length<1000000) {p:ah} (hz:z=4\/p=none) (hs:Sl s p (eY x.oP)) (Gc:dF L p):
  ∃b s1 s2 L',(∀Kc:ah->M β,(bH (rK x z p) λi=>bP i 0 2 λcs'=>cB 2 p2 v.bI.length cs' 1 1759218604441 Kc) s=Kc (some (b,0)) s1)/\
   (∀Kc:M β,bB K.w 15 [.slice 2 (some (b,0)) (v.bI.length+1)] Kc s1=Kc s2)/\di K s2 { v with bI:=v.bI++[x] } L' z1 p1 2 (some (b,0)) z3 p3 z4 p4 (hd++rK x z p)/\Fx L s s2/\Nw L s L'/\Fx (K.w::aC p2) s s2:=by
 have⟨b,s1,hb,ho,cH,he⟩:=EM (β:=β) (lim:=1759218604441) h.o2 (sz:=2) (n:=v.bI.length) (rK x z p) AC h.bI.bI.len rfl;have cS:=h.ne;have cD:=cH.2 K.w _ Fd h.cell;have wv: ∀x∈aC p2,x∈L:=λx hx=>by rw[h.own];simp[hx]
 let L':=K.w::K.i::K.j::(aC p1++(aC (some (b,0))++(aC p3++aC p4)))
 let S':=s1.set K.w (some ⟨false,mK K { v with bI:=v.bI++[x] } (cM z1 p1 v.aR.length) (cM 2 (some (b,0)) (v.bI.length+1)) (cM z3 p3 v.dp.length) (cM z4 p4 v.free.length)⟩)
 have fX:Fx L s S':=
  (cH.mono wv).trans ((Fx.set s1 K.w _).mono λy hy=>by rw[cA.1 hy];exact h.wY)
 have jC:((K.w::K.i::K.j::aC p1)++(aC p2++(aC p3++aC p4))).Nodup:=by
  have:=h.nodup;rw[h.own]at this;grind
 have B0: ∀y∈(K.w::K.i::K.j::aC p1)++(aC p2++(aC p3++aC p4)),y<s.length:=λy hy=>h.lt y (by
  rw[h.own];grind)
 have wM:L'.Nodup:=by
  have:=DY jC B0 hb;show(K.w::K.i::K.j::(aC p1++(aC (some (b,0))++(aC p3++aC p4)))).Nodup;simpa only[gX,qN,mN,gE,aC]using this
 have fA:Nw L s L':=λy hy=>by
  have wV:y∈K.w::K.i::K.j::(aC p1++(aC (some (b,0))++(aC p3++aC p4))):=hy;rw[h.own];by_cases e:y=b
  .exact .inr AC
  .refine .inl ?_
   simp only[dR,nQ,aC,List.mem_nil_iff,qP]at wV⊢;grind
 have fo:Fx (K.w::aC p2) s S':=
  ⟨fX.1,λy c hy hc=>by
   simp only[dR,not_or]at hy;show(s1.set K.w _)[y]? =_;rw[cz AC];exact cH.2 y c hy.2 hc⟩
 have B3:=KF jC;have iS: ∀y,y∈aC p1++(aC p3++aC p4)->y∉K.w::aC p2:=λy hy hm=>by
  rcases dR.1 hm with e|e
  .grind
  .exact B3 y (by simp only[nQ,dR]at hy⊢;rcases hy with e|e|e<;>simp[e]) e
 have oT:b≠K.w:=λe=>by have:=(cF.1 h.cell).1;omega
 refine⟨b,s1,S',L',he,λKc=>?_,⟨?_,h.e1,.inl rfl,h.e3,h.e4,?_,?_,?_,?_,?_,?_,?_,?_,rfl,wM⟩,fX,fA,fo⟩
 .rw[Zs cD (by show 15<19;omega)]
  rfl
 .show(s1.set K.w _)[K.w]? =_
  rw[eJ (by have:=(cF.1 cD).1;exact this),cq];rfl
 .exact h.o1.fx fo λy hy=>iS y (by simp[hy])
 .skip
  exact(show bn [] s1 (some (b,0)) _ from ho).fx (Fx.set s1 K.w _) (λy hy=>by
   rw[cA.1 hy,cA];exact oT)
 .exact h.o3.fx fo λy hy=>iS y (by simp[hy])
 .exact h.o4.fx fo λy hy=>iS y (by simp[hy])
 .exact(h.bI.fx fX fA).push hz (hs.fx fX Gc) (Gc.new hs fA)
 .exact h.set.fx fo (λhm=>by
   grind) (λhm=>by
   grind)
 .exact Sl.fx h.aM fX h.off
 .exact h.off.new h.aM fA
def nV (K:cg) (v:bu) (k:Int):Prop:=(v.aR.length:Int)=(if k<=K.sup.used then k else K.sup.used)/\∀x∈v.aR,Z3 x=true
theorem ZpZ {x:eR} (hx:Z3 x=true) (_h0:0<=K.sup.used) (h:nX K k x v=some v') (ha:nV K v k):nV K v' (k+1):=by
 unfold nX at h;by_cases hk:k>=K.sup.used
 .rw[aI hk,aa]at h
  cases h2:Bh x with
  |false=>rw[h2]at h;cases h
  |true=>
   rw[h2]at h;cases h;refine⟨?_,ha.2⟩;rw[ha.1];split<;>split<;>omega
 .rw[aK hk,ae]at h
  cases h2:yr K.sup x with
  |false=>rw[h2]at h;cases h
  |true=>
   rw[h2]at h;cases h;refine⟨?_,λy hy=>?_⟩
   .have:=ha.1
    rw[bO AC]at this;rw[bO AC];simp;omega
   .rcases nQ.1 hy with h|h
    .exact ha.2 y h
    grind
theorem ZnH {K:cg} (h0:0<=K.sup.used): ∀ {x:List eR} {k:Int} {v v':bu},(∀y∈x,Z3 y=true)->lX K k x v=some v'->nV K v k->nV K v' (k+x.length)
 |[],k,_,_,_,h,ha=>by cases h;simpa using ha
 |y::r,k,v,v',hr,h,ha=>by
  unfold lX at h;cases h1:nX K k y v with
  |none=>rw[h1]at h;cases h
  |some w=>
   rw[h1]at h;have:=ZnH h0 Fd h (ZpZ (hr y Do) h0 h1 ha);rwa [show k+((y::r).length:Int)=k+1+r.length by simp;omega]
theorem ZnV {x:List eR} (h:uC l=some x): ∀y∈x,Z3 y=true:=by
 grind[uC]
theorem Zor {x:List eR} (h:lx l= .leaf x): ∀y∈x,Z3 y=true:=by
 unfold lx at h;split at h
 .cases h
 .split at h
  .rename_i e;cases h;exact ZnV e
  grind
theorem ZsZ (h0:0<=K.sup.used) (h:kZ K k slot v=some v') (ha:nV K v slot):nV K v' (slot+7):=by
 unfold kZ at h;cases ht:dy K k v with
 |none=>rw[ht]at h;cases h
 |some q=>
  have⟨b,v1⟩:=q;rw[ht]at h;have⟨h1,_,_,_,_,h2⟩:=ZZ ht;cases b with
  |leaf x=>
   have:=ZnH h0 (Zor h2.symm) h (by grind[nV]);rwa [ZkU h2.symm]at this
  |node x=>cases h
  |de x=>cases h
  |queue x=>cases h
  |dir x=>cases h
  |none=>cases h
theorem KT {K:cg} (h0:0<=K.sup.used) {dc x5:Int} (hc:K.sup.used<=dc*7): ∀ {x:ak} {k:Int} {v v':bu},jP K dc x5 k x v=some v'->nV K v ((x5*16+k)*7)->nV K v' ((x5*16+k+x.length)*7)
 |[],_,_,_,h,ha=>by cases h;simpa using ha
 |y::r,k,v,v',h,ha=>by
  unfold jP at h;have e:(x5*16+k+((y::r).length:Int))*7=(x5*16+(k+1)+r.length)*7:=by simp;omega
  rw[e];cases h1:((!(y==0))==decide (x5*16+k<dc))with
  |false=>rw[h1]at h;cases h
  |true=>
   rw[h1,aa]at h;cases h2:(!(y==0))with
   |false=>
    rw[h2]at h h1;have hk: ¬(x5*16+k<dc):=by
     grind
    refine KT h0 hc h ⟨?_,ha.2⟩;rw[ha.1];split<;>split<;>omega
   |true=>
    rw[h2,aa]at h;cases h3:kZ K y ((x5*16+k)*7) v with
    |none=>rw[h3]at h;cases h
    |some w=>
     rw[h3]at h;have:=ZsZ h0 h3 ha;rw[show(x5*16+k)*7+7=(x5*16+(k+1))*7 by omega]at this;exact KT h0 hc h this
theorem ZqT {x:ak} (h:yx l=some x):x.length=16:=by
 unfold yx at h;split at h
 .cases h
 .rename_i k t b _
  cases e:(decide (k=3)&&(decide (t=0)&&ZV (b.drop 32)))with
  |false=>rw[e]at h;cases h
  |true=>
   rw[e]at h;cases e2:AQ (hY b 16)with
   |false=>rw[e2]at h;cases h
   |true=>rw[e2]at h;cases h;exact pO b 16
theorem Zmg {x:ak} (h:lx l= .de x):x.length=16:=by
 unfold lx at h;split at h
 .cases h
 .split at h
  .cases h
  .split at h
   .rename_i e;cases h;exact ZqT e
   grind
theorem KK {K:cg} (h0:0<=K.sup.used) {dc:Int} (hc:K.sup.used<=dc*7): ∀ {x:ak} {k:Int} {v v':bu},nb K dc k x v=some v'->nV K v (k*112)->nV K v' ((k+x.length)*112)
 |[],_,_,_,h,ha=>by cases h;simpa using ha
 |y::r,k,v,v',h,ha=>by
  unfold nb at h;have e:(k+((y::r).length:Int))*112=(k+1+r.length)*112:=by simp;omega
  rw[e];cases h1:((!(y==0))==decide (k*16<dc))with
  |false=>rw[h1]at h;cases h
  |true=>
   rw[h1,aa]at h;cases h2:(y==0)with
   |true=>
    rw[h2]at h h1;have hk: ¬(k*16<dc):=by
     grind
    refine KK h0 hc h ⟨?_,ha.2⟩;rw[ha.1];split<;>split<;>omega
   |false=>
    rw[h2,ae]at h;cases ht:dy K y v with
    |none=>rw[ht]at h;cases h
    |some q=>
     have⟨b,v1⟩:=q;rw[ht]at h;have⟨g1,_,_,_,_,g2⟩:=ZZ ht;cases b with
     |leaf x=>cases h
     |node x=>cases h
     |queue x=>cases h
     |dir x=>cases h
     |none=>cases h
     |de x2=>
      simp only at h;cases h3:jP K dc k 0 x2 v1 with
      |none=>rw[h3]at h;cases h
      |some w=>
       rw[h3]at h;have hb:=Zmg g2.symm;have:=KT h0 hc h3 (by grind[nV]);rw[hb,show(k*16+0+((16:Nat):Int))*7=(k+1)*112 by omega]at this;exact KK h0 hc h this
theorem ZqP (h0:0<=u) (h1:u<=1792):u<=yo u*7:=by
 unfold yo nJ;rw[aI (show u>=0 from h0),aI h1,Bool.and_true,aa,Zc (x:=u+7),Zc (x:=u+7-1)];obtain⟨k,rfl⟩: ∃k:Nat,u=k:=⟨u.toNat,AC⟩;rw[show((k:Int)+7-1)=((k+6:Nat):Int) by omega,show(((k+6:Nat):Int).tdiv 7)=(((k+6)/7:Nat):Int)from rfl,Zc];omega
theorem ZrY (h0:0<=K.sup.used) (h1:K.sup.used<=1792) (hv:v.aR=[]) (h:oJ K v=some v'):(v'.aR.length:Int)=K.sup.used/\∀x∈v'.aR,Z3 x=true:=by
 unfold oJ at h;cases hu:(K.sup.used==0)with
 |true=>
  rw[hu]at h;grind
 |false=>
  rw[hu,ae]at h;cases ht:dy K K.sup.de v with
  |none=>rw[ht]at h;cases h
  |some q=>
   have⟨b,v1⟩:=q;rw[ht]at h;have⟨g1,_,_,_,_,g2⟩:=ZZ ht;cases b with
   |leaf x=>cases h
   |node x=>cases h
   |queue x=>cases h
   |dir x=>cases h
   |none=>cases h
   |de x=>
    have:=KK h0 (ZqP h0 h1) h (by grind[nV]);rw[Zmg g2.symm]at this;have h2:=this.1;refine⟨?_,this.2⟩;rw[h2];split<;>omega
def p5 (K:cg):Nat->List Bool->Int->bu->Option (List Bool×bu)
 |0,_,_,_=>none
 |f+1,fl,next,v=>bif next==0 then some (fl,v)else(bif decide (next<=K.sup.used)then
   (match v.aR[(next-1).toNat]? with
   |none=>none
   |some x=>bif (bif (bif !x.live then decide (x.gen<K.sup.g)else false)then !fl.getD (next-1).toNat false else false)then p5 K f (fl.set (next-1).toNat true) x.block { v with free:=v.free++[next-1] } else none)
  else none)
def EW (K:cg) (b:Bool) (x:eR):Bool:=bif (bif x.live then true else x.gen==K.sup.g)then true else b
def sZ (K:cg):List Bool->List eR->Bool
 |_,[]=>true
 |fl,x::r=>EW K (fl.getD 0 false) x&&sZ K (fl.drop 1) r
def yp (K:cg):Option (List Bool×bu)->Option bu
 |none=>none
 |some (fl,v)=>bif sZ K fl v.aR then some v else none
def rF (K:cg) (v:bu):Option bu:=yp K (p5 K (K.sup.used.toNat+1) (List.replicate K.sup.used.toNat false) K.sup.free v)
theorem Zrt: ∀ {l:List Bool} {k:Nat},l.getD k true=false->(l.set k true).count false+1=l.count false
 |[],k,h=>by simp at h
 |b::l,0,h=>by
  grind
 |b::l,k+1,h=>by
  grind
theorem bn.dP {a:ah} {cs:af} (h:bn [] s a cs) (hn:0<cs.length): ∃b,a=some (b,0)/\s[b]? =some (some ⟨false,cs⟩):=by
 rcases h.2 with⟨_,rfl⟩|⟨i,rfl,_,h3⟩
 .cases hn
 grind
theorem D5 {b:Nat} {l:List eR} {x:eR} {k:Nat} (h:s[b]? =some (some ⟨false,eN l⟩)) (hx:l[k]? =some x) (Kc:af->M β):bP b (k*3+0) 3 Kc s=Kc (iZ x) s:=by
 have hk:k<l.length:=Fd
 rw[dK,ZM h (by rw[pP];omega),KE hx]
theorem ZtE {Bd:Ze} (hM:HA Bd) (n:Nat) (i1:Nat) (fl:List Bool) (s0:St) (L0:al) (R:Option bu) (hW:Wk K s v L) (hf:s[i1]? =some (some ⟨false,fl.map .bool⟩)) (hl:fl.length=v.aR.length) (hlen:v.aR.length<2000) (cH:Fx L0 s0 s) (fA:Nw L0 s0 L) (hR:yp K (some (fl,v))=R) (X:Nat) (hX:X=v.aR.length) (hn:2010<=n):
  Ok (mT K s0 L0 R []) ((aF (some (K.w,0)) λi3 o2=>
  bc i3 (o2+11) λd2=>
  bJ 3 d2 λx2 cc=>
  dU (λst=>
   aL st<|
   au []) λaG=>
  dL (λaV st=>
   az .i64 st λx3 st=>
   aL st<|
   bif decide (x3<(cc:Int))then
    aF x2 λi4 o3=>
    aJ (bL x3 cc)<|
    bP i4 (x3.toNat*3+o3) 3 λcs=>
    ko cs λx4 r=>
    az .i64 r λx5 r=>
    az .i64 r λ_x6 r=>
    aL r<|
    dU (λst=>ko st λb1 st=>aL st<|
     dU (λst=>ko st λb2 st=>aL st<|
      cK (run Bd n 225 [.bool b2]) λds=>
      aL ds<|
      aV [.i (aq (x3+1))]) λbR=>
     bif b1 then
      bR [.bool true]
     else
      aJ (bL x3 X)<|
      bc i1 (x3.toNat*1) λd3=>
      p7 d3 λx7=>
      bR [.bool x7]) λbp=>
    bif x4 then
     bp [.bool true]
    else
     aF (some (K.w,0)) λi5 o4=>
     bc i5 (o4+4) λd4=>
     dj .i64 d4 λx8=>
     bp [.bool (x5==x8)]
   else
    aG []) n [.i 0]) s):=by
 subst hX;obtain _|n:=n;omega;have⟨z1,p1,z2,p2,z3,p3,z4,p4,hd,hW⟩:=hW;rw[aD,Zf hW.cell rfl];show Ok _ (bJ 3 (.slice z1 p1 v.aR.length) _ s);rw[Zu 3 z1 p1 _ hW.e1];simp only[Zi];refine Zn _ (λq y t=>∃i:Nat,y=[.i i]/\i<=v.aR.length/\v.aR.length-i<=q/\t=s/\(bif sZ K (fl.drop i) (v.aR.drop i)then some v else none)=R) ?_ v.aR.length (n+1) _ _ ⟨0,rfl,eB _,AC,rfl,hR⟩ AC;rintro q _ t ⟨i,rfl,hi,hq,rfl,aO⟩ rec aQ;simp only[ar,ao];by_cases aw:i<v.aR.length
 .obtain⟨b,rfl,hb⟩:=hW.o1.dP (by rw[pP];omega)
  have mC:v.aR[i]? =some v.aR[i]:=dt aw;have jU:v.aR.drop i=v.aR[i]::v.aR.drop (i+1):=il aw;have hfi:fl[i]? =some (fl[i]' AC):=Fd
  rw[aI (AC:(i:Int)<(v.aR.length:Int)),aa,aD,Zg (Zo aw),bw,D5 hb mC];rw[jU]at aO;unfold sZ at aO;rw[kd,show(fl.drop i).getD 0 false=fl[i]' AC by rw[gF,xq,dK,hfi];rfl]at aO;generalize v.aR[i]=x at aO;unfold iZ;simp only[aA,ar,ao,aD];have nz:aq ((i:Int)+1)=((i+1:Nat):Int):=Zc;rw[nz];have jX:Ok (mT K s0 L0 R []) (cK (run Bd (n+1) 225 [.bool (EW K (fl[i]' AC) x)]) (λds=>aL ds<|rec [.i ((i+1:Nat):Int)]) t):=by
   cases h0:EW K (fl[i]' AC) x with
   |true=>
    rw[h0,ez]at aO;rw[nW hM n rfl,ao];exact aQ (v.aR.length-(i+1)) _ _ AC Fd
   |false=>
    rw[h0,gN,ae]at aO;rw[ZS hM n rfl,<-aO];exact .mk ⟨t,rfl,cH⟩
  unfold EW at jX;have NB: ∀Kc:DV->M af,bc i1 (i*1) Kc t=Kc (.bool (fl[i]' AC)) t:=λKc=>Zf hf (by rw[cL,jJ,hfi];rfl) Kc
  have qo: ∀Kc:DV->M af,bc K.w (0+4) Kc t=Kc (.i K.sup.g) t:=λKc=>Zf hW.cell rfl Kc
  cases nr:x.live with
  |true=>
   grind
  |false=>
   simp only[nr,ae]at jX;rw[ae,qo,bm];cases hg:(x.gen==K.sup.g)with
   |true=>
    grind
   |false=>
    simp only[hg,ae]at jX;rw[ae,Zg (Zo aw),NB,qQ];exact jX
 .rw[aK (AC:¬(i:Int)<(v.aR.length:Int)),ae]
  rw[Zh];rw[sE (as:=v.aR) AC]at aO;have tA:some v=R:=aO;rw[<-tA];exact .mk ⟨t,L,rfl,hW.wk,cH,fA⟩
theorem Ztt (n:Nat) (hW:Wk K s v L) (h0:0<=K.sup.used) (h1:K.sup.used<=1792) (BO:0<=K.sup.free) (hs:(v.aR.length:Int)=K.sup.used) (hr: ∀x∈v.aR,Z3 x=true) (hh:v.bI=[]) (nn:v.free=[]) (hn:2100<=n):
  Ok (mT K s L (rF K v) []) (run Bd n 230 [.ptr (some (K.w,0))] s):=by
 obtain⟨n,rfl⟩: ∃k,n=k+2:=⟨n-2,AC⟩;rw[Zb,h.SE];unfold HU ck Zl Q_ bY N_ sY aB C_ lW Lb Li bh rF
 try dsimp only
 rw[bF,ao,aD];have⟨z1,p1,z2,p2,z3,p3,z4,p4,hd,hW⟩:=hW;rw[Zf hW.cell rfl,bm,Zg (by rw[aZ,aZ,bD,bD,bD];omega),Zv,qZ];have jY:=ax.new s (some (⟨false,List.replicate K.sup.used.toNat (.bool false)⟩:aH));have PQ:(s++[some (⟨false,List.replicate K.sup.used.toNat (.bool false)⟩:aH)])[s.length]? =some (some ⟨false,(List.replicate K.sup.used.toNat false).map .bool⟩):=Do
 have yY:=hW.pre jY;have PL:=yY.cell;generalize s++[some (⟨false,List.replicate K.sup.used.toNat (.bool false)⟩:aH)]=s0 at jY PQ yY PL;rw[aD,Zf PL rfl,bm,Zi];have⟨R,hR⟩: ∃R,yp K (p5 K (K.sup.used.toNat+1) (List.replicate K.sup.used.toNat false) K.sup.free v)=R:=⟨_,rfl⟩;rw[hR];have hX:K.sup.used.toNat=v.aR.length:=AC
 have hi1:s.length∉L:=λhm=>by have:=hW.lt _ hm;omega
 refine Zn _ (λq y t=>∃(f:Nat) (fl:List Bool) (next:Int) (u:bu) (Lu:al),y=[.i next]/\0<=next/\fl.length=v.aR.length/\fl.count false<=q/\fl.count false<f/\Wk K t u Lu/\u.aR=v.aR/\u.bI=[]/\u.free.length+fl.count false<=v.aR.length/\t[s.length]? =some (some ⟨false,fl.map .bool⟩)/\s.length∉Lu/\Fx L s t/\Nw L s Lu/\yp K (p5 K f fl next u)=R) ?_ v.aR.length (n+1) _ _ ⟨K.sup.used.toNat+1,_,K.sup.free,v,L,rfl,BO,by simp[hX],by simp[hX],Do,yY.wk,rfl,hh,by simp[nn,hX],PQ,hi1,Fx.pre L jY,.refl L s,hR⟩ AC;rintro q _ t ⟨f,fl,next,u,Lu,rfl,hnx,iz,hcq,y8,cW,kY,oo,huf,BR,hiL,cH,fA,aO⟩ rec aQ;rw[ar,ao];obtain⟨f,rfl⟩: ∃k,f=k+1:=⟨f-1,AC⟩;unfold p5 at aO;cases hz:(next==0)with
 |true=>
  rw[hz,aa]at aO;rw[bU,ae];exact ZtE h (n+1) s.length fl s L R cW BR (by rw[kY];exact iz) (by rw[kY];omega) cH fA aO K.sup.used.toNat (by rw[kY];exact hX) AC
 |false=>
  rw[hz,ae]at aO;rw[cy,aa];have zl:next≠0:=Fd
  have⟨z1,p1,z2,p2,z3,p3,z4,p4,hd,cW⟩:=cW;rw[aD,Zf cW.cell rfl,bm];cases hle:decide (next<=K.sup.used)with
  |false=>
   rw[hle,ae]at aO;rw[ZS h n rfl];have tA:none=R:=aO;rw[<-tA];exact .mk ⟨t,rfl,cH⟩
  |true=>
   have W9:=oA hle;rw[hle,aa]at aO;rw[nW h n rfl,ao];have⟨k,hk⟩: ∃k:Nat,next-1=k:=⟨(next-1).toNat,AC⟩;have wI:k<u.aR.length:=by rw[kY];omega
   have cD:aq (next-1)=(k:Int):=by rw[Zc,hk]
   rw[hk,bw]at aO;rw[cD,bw,aD,Zf cW.cell rfl];show Ok _ (bJ 3 (.slice z1 p1 u.aR.length) _ t);rw[Zu 3 z1 p1 _ cW.e1];obtain⟨b,rfl,hb⟩:=cW.o1.dP (by rw[pP];omega);have mC:u.aR[k]? =some u.aR[k]:=dt wI;have Gi:=hr u.aR[k] (by rw[<-kY];grind);rw[aD,Zg (Zo wI),D5 hb mC];rw[mC]at aO;simp only at aO;generalize u.aR[k]=x at aO Gi;unfold iZ;simp only[aA,ar,ao,Zi,aD];have Nd:fl[k]? =some (fl[k]' AC):=Fd
   rw[show fl.getD k false=fl[k]' AC by rw[gF,Nd];rfl]at aO;have qo: ∀Kc:DV->M af,bc K.w (0+4) Kc t=Kc (.i K.sup.g) t:=λKc=>Zf cW.cell rfl Kc
   have NB: ∀Kc:DV->M af,bc s.length (k*1) Kc t=Kc (.bool (fl[k]' AC)) t:=λKc=>Zf BR (by rw[cL,jJ,Nd];rfl) Kc
   cases nr:x.live with
   |true=>
    simp only[nr,bU,ae]at aO;rw[bU,ae,ae,ZS h n rfl];have tA:none=R:=aO;rw[<-tA];exact .mk ⟨t,rfl,cH⟩
   |false=>
    simp only[nr,cy,aa]at aO;rw[cy,aa,qo,bm];cases hg:decide (x.gen<K.sup.g)with
    |false=>
     simp only[hg,ae]at aO;rw[ae,ZS h n rfl];have tA:none=R:=aO;rw[<-tA];exact .mk ⟨t,rfl,cH⟩
    |true=>
     simp only[hg,aa]at aO;rw[aa,hX,<-kY,Zg (Zo wI),NB,qQ];cases Nf:fl[k]' AC with
     |true=>
      simp only[Nf,bU,ae]at aO;rw[bU,ZS h n rfl];have tA:none=R:=aO;rw[<-tA];exact .mk ⟨t,rfl,cH⟩
     |false=>
      simp only[Nf,cy,aa]at aO;rw[cy,nW h n rfl,ao,Zg (Zo wI),Zs BR (by simp;omega)];have bN:(fl.map DV.bool).set (k*1) (.bool true)=(fl.set k true).map DV.bool:=by rw[cL,pD]
      rw[bN];have Ni:=Fx.set t s.length (some (⟨false,(fl.set k true).map DV.bool⟩:aH));have Vs:dF [s.length] K.a:=λb o e hm=>by
       have aw:=Sl.lt (e▸hW.aM);rw[cA.1 hm]at aw;omega
      have FQ:=cW.gU Ni Fd Vs (by
       have:=cW.bI;rw[oo]at this⊢;exact this)
      have PS:(t.set s.length (some (⟨false,(fl.set k true).map DV.bool⟩:aH)))[s.length]? =some (some ⟨false,(fl.set k true).map .bool⟩):=Fd
      have Nj:Fx L s (t.set s.length (some (⟨false,(fl.set k true).map DV.bool⟩:aH))):=cH.step Ni λy hy=> .inr (by rw[cA.1 hy];exact aW _)
      generalize t.set s.length (some (⟨false,(fl.set k true).map DV.bool⟩:aH))=t1 at Ni FQ PS Nj;rw[Zf FQ.cell rfl];show Ok _ (bJ 1 (.slice z4 p4 u.free.length) _ t1);rw[Zu 1 z4 p4 _ FQ.e4];have fH:=Zrt (l:=fl) (k:=k) (by rw[gF,Nd,Nf];rfl);have⟨b2,t2,t3,L3,g1,g2,g3,g4,g5,g6⟩:=FQ.Wm (β:=af) (k:Int) AC;have Xj:s.length<t1.length:=Fd
      refine Eq.mpr (congrArg (Ok _) (g1 _)) ?_;refine Eq.mpr (congrArg (Ok _) (g2 _)) ?_;have hblk:0<=x.block:=by
       unfold Z3 at Gi;rw[nr,ae,aZ,aZ]at Gi;have h2:=Gi.2.1;unfold kN at h2;by_cases wx:x.block>=0
       .exact wx
       grind
      refine aQ ((fl.set k true).count false) _ _ AC ⟨f,fl.set k true,x.block,_,L3,rfl,hblk,by simpa using iz,aW _,AC,g3.wk,kY,oo,by simp;omega,?_,?_,Nj.step g4 fA,fA.trans Nj.1 g5,aO⟩
      .refine g4.2 _ _ hiL PS
      .intro hm
       rcases g5 _ hm with e|e
       .exact hiL e
       .omega
def qA (v:bu):bu:= { v with dp:=v.dp++v.aR.map (·.gen) }
def CF (v:bu):Nat:=(v.aR.filter (·.live)).length
theorem Ztz (n:Nat) (hW:Wk K s v L) (hl:v.aR.length<2000) (hg:v.dp.length<100000) (hn:2010<=n):
  Ok (λo=>∃s' L',o=(.val [.i (CF v:Nat)],s')/\Wk K s' (qA v) L'/\Fx L s s'/\Nw L s L') (run Bd n 234 [.ptr (some (K.w,0))] s):=by
 obtain _|n:=n;omega;rw[Zb,h.SI];unfold HX ck jg bQ N_ sY Li bh gH;simp only[bF,ao,aD,Zi];have⟨z1,p1,z2,p2,z3,p3,z4,p4,hd,hW⟩:=hW;rw[Zf hW.cell rfl];show Ok _ (bJ 3 (.slice z1 p1 v.aR.length) _ s);rw[Zu 3 z1 p1 _ hW.e1];refine Zn _ (λq y t=>∃(i:Nat) (z3:Nat) (p3:ah) (Lu:al),y=[.i (((v.aR.take i).filter (·.live)).length:Nat),.i i]/\i<=v.aR.length/\v.aR.length-i<=q/\di K t { v with dp:=v.dp++(v.aR.take i).map (·.gen) } Lu z1 p1 z2 p2 z3 p3 z4 p4 hd/\Fx L s t/\Nw L s Lu) ?_ v.aR.length n _ _ ⟨0,z3,p3,L,rfl,eB _,AC,by simpa using hW,.refl L s,.refl L s⟩ AC;rintro q _ t ⟨i,z3,p3,Lu,rfl,hi,hq,cW,gK,gS⟩ rec aQ;simp only[ar,ao];by_cases aw:i<v.aR.length
 .obtain⟨b,rfl,hb⟩:=cW.o1.dP (by rw[pP];grind)
  have mC:v.aR[i]? =some v.aR[i]:=dt aw;have rS:v.aR.take (i+1)=v.aR.take i++[v.aR[i]]:=pE aw;rw[aI (AC:(i:Int)<(v.aR.length:Int)),aa,aD,Zg (Zo aw),bw,D5 hb mC];generalize v.aR[i]=x at rS;unfold iZ;simp only[aA,ar,ao];rw[Zf cW.cell rfl];show Ok _ (bJ 1 (.slice z3 p3 (v.dp++(v.aR.take i).map (·.gen)).length) _ t);rw[Zu 1 z3 p3 _ cW.e3];have zd:(v.dp++(v.aR.take i).map (·.gen)).length<1000000:=by
   rw[cq,dE,dh];omega
  have⟨b2,t2,t3,L3,g1,g2,g3,g4,g5,g6⟩:=cW.Wn (β:=af) x.gen zd;refine Eq.mpr (congrArg (Ok _) (g1 _)) ?_;refine Eq.mpr (congrArg (Ok _) (g2 _)) ?_;have nz:aq ((i:Int)+1)=((i+1:Nat):Int):=Zc;have iz:((v.aR.take i).filter (·.live)).length<=i:=Fd
  have tL:aq (((((v.aR.take i).filter (·.live)).length:Nat):Int)+1)=((((v.aR.take i).filter (·.live)).length+1:Nat):Int):=Zc;rw[nz,tL];have FZ:di K t3 { v with dp:=v.dp++(v.aR.take (i+1)).map (·.gen) } L3 z1 (some (b,0)) z2 p2 1 (some (b2,0)) z4 p4 hd:=by
   rw[rS,fb,<-gX];exact g3
  cases nr:x.live with
  |true=>
   rw[aa];exact aQ (v.aR.length-(i+1)) _ _ AC ⟨i+1,1,some (b2,0),L3,by rw[rS,xp];simp[nr],AC,aW _,FZ,gK.step g4 gS,gS.trans gK.1 g5⟩
  |false=>
   rw[ae];exact aQ (v.aR.length-(i+1)) _ _ AC ⟨i+1,1,some (b2,0),L3,by rw[rS,xp];simp[nr],AC,aW _,FZ,gK.step g4 gS,gS.trans gK.1 g5⟩
 .rw[aK (AC:¬(i:Int)<(v.aR.length:Int)),ae]
  rw[Zh];rw[dJ AC]at cW⊢;exact .mk ⟨t,Lu,rfl,cW.wk,gK,gS⟩
end Go.Gv.F
