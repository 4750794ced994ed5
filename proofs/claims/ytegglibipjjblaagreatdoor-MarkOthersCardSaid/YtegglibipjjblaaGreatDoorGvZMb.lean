/- A block of an image, taken once: the walker's first steps. -/
import Derived.Test.YtegglibipjjblaaGreatDoorGvBMk
import Derived.Test.YtegglibipjjblaaGreatDoorGvZMa
set_option linter.all false
namespace Go.Gv.F
open Go.Gv
variable {β:Type}
variable {k slot u:Int} {i j lim m n z:Nat} {s s':St} {α:Type} {cs:ah} {l:aj} {A C L L' L'' T W W':al}
theorem Zwk {m:M α} {K:α->M β} (h:m s=some (.eV,s')):cY m K s=some (.eV,s'):=by unfold cY;rw[h]
theorem Ok.uZ {P:Out α×St->Prop} {Q:Out β×St->Prop} {m:M α} {K:α->M β} (h:Ok P (m s))
  (k1: ∀s',P (.eV,s')->Q (.eV,s')) (k2: ∀ds s',P (.val ds,s')->Ok Q (K ds s')):Ok Q (cY m K s):=by
 obtain⟨⟨o,s'⟩,e,hp⟩:=h;unfold cY;rw[e];cases o with
 |val ds=>exact k2 ds s' hp
 |eV=>exact .mk (k1 s' hp)
theorem NA (p:ai) (K:ai->M β):B6 (.ptr p) K=K p:=rfl
theorem ZwN (s:St):kh s.length s=s:=by unfold kh;simp
variable {Bd:Zh} [h:HA Bd]
theorem Ztf (n:Nat) (b:Bool) (st:St):run Bd (n+1) 225 [.bool b] st=some (bif b then(.val [],st)else(.eV,st)):=by
 rw[Ze,h.abO];unfold QI iu Q_;simp only[au,aq,Za];cases b<;>rfl
theorem sr {Bd:Zh} (h:HA Bd) (n:Nat) {b:Bool} (hb:b=true) (st:St) (K:ah->M β):cY (run Bd (n+1) 225 [.bool b]) K st=K [] st:=by
 rw[hb];exact Zk (Ztf n true st)
theorem Z5 {Bd:Zh} (h:HA Bd) (n:Nat) {b:Bool} (hb:b=false) (st:St) (K:ah->M β):cY (run Bd (n+1) 225 [.bool b]) K st=some (.eV,st):=by
 rw[hb];exact Zwk (Ztf n false st)
def ZB (img:aj) (k:Nat):aj:=(img.drop (k*64)).take 64
theorem ZlQ (n:Nat) (a:ai) (len k:Nat) (st:St) (hl:len<1000000) (hk:(k+1)*64<=len:=by omega):
  run Bd (n+1) 203 [.slice 1 a len,.int .i64 k] st=some (.val [.slice 1 (dj true a (k*64)) 64],st):=by
 rw[Ze,h.abu];unfold P2 qV bE;simp only[bd,av,aq];rw[kl];have h1:ar ((k:Int)+1)=((k+1:Nat):Int):=Zc;have h2:ar (((k+1:Nat):Int)*64)=(((k+1)*64:Nat):Int):=by rw[Zc];omega
 have h3:ar ((k:Int)*64)=((k*64:Nat):Int):=by rw[Zc];omega
 simp only[h1,h2,h3,br,cT];rw[Zb (by rw[aW,bC,bC];omega),Zb (by rw[aW,bC,bC];omega),Zu,ZwN,show(k+1)*64-k*64=64 by omega]
inductive Bp where
 |node (x:jj)
 |leaf (x:List bw)
 |bY (x:ak)
 |queue (x:ZC)
 |dir (x:ak)
 |none
def ZX (l:aj):Bp:=
 match iD l with
 |some x=> .node x
 |none=>match ZJ l with
  |some x=> .leaf x
  |none=>match Z3 l with
   |some x=> .bY x
   |none=>match ZF l with
    |some x=> .queue x
    |none=>match kQ l with
     |some x=> .dir x
     |none=> .none
def Ny (s:St):Bp->DV->Prop
 | .node x,d=>∃p,d= .iface 6 (.agg (nA x 1 p))/\Fz s p (ints x.kids)/\nS x=true/\x.kids.length<=12
 | .leaf x,d=>d= .iface 5 (.agg (bP x))/\x.length=7
 | .bY x,d=>d= .iface 2 (.agg (ints x))/\x.length=16
 | .queue x,d=>d= .iface 4 (.agg (ZU x))/\x.c9.length=12
 | .dir x,d=>∃p,d= .iface 3 (.agg [.slice 1 p x.length])/\Fz s p (ints x)/\x.length<=16
 | .none,d=>d= .nilIface
theorem Gk {x:List bw} (h:ZJ l=some x):x.length=7:=by
 unfold ZJ at h;split at h
 .cases h
 .rename_i k t b _
  cases e:(decide (k=2)&&decide (t<128))with
  |false=>rw[e]at h;cases h
  |true=>
   rw[e]at h;cases e2:(ZN b t 7).all ZM with
   |false=>rw[e2]at h;cases h
   |true=>rw[e2]at h;cases h;exact zF b t 7
theorem Zqg (n:Nat) (a:ai) (l:aj) (st:St) (ha:dE st a l) (hl:l.length<1000000) (hn:161<=n):
  Ok (λo=>∃d s',o=(.val [d],s')/\aC st s'/\Ny s' (ZX l) d) (run Bd n 256 [.slice 1 a l.length] st):=by
 obtain⟨n,rfl⟩: ∃m,n=m+1:=⟨n-1,by omega⟩;rw[Ze,h.acm];unfold PS cm DG iu bE ZX;simp only[bd,aq];refine Ok.call (Zsq n a l st ha hl (by omega)) ?_;rintro _ ⟨s1,aH,qh⟩;cases nr:iD l with
 |some x=>
  rw[nr]at qh;obtain⟨p,rfl,hf⟩:=qh;refine⟨_,s1,rfl,?_⟩;unfold nA eN;simp only[mU,iL,cG,av,bd,au,aq,ae,Zd];exact .mk ⟨_,s1,rfl,aH,p,rfl,hf,(Ke nr).1,(Ke nr).2⟩
 |none=>
 rw[nr]at qh;subst qh;refine⟨_,s1,rfl,?_⟩;simp only[cG,av,au,aq,Zf 1 0 none _ (.inr rfl),af];have sP:=ha.mono aH;refine Ok.call (ZnJ n a l s1 sP hl (by omega)) ?_;rintro _ ⟨s2,aV,df⟩;cases oS:ZJ l with
 |some x=>
  rw[oS]at df;subst df;refine⟨_,s2,rfl,?_⟩;have hlen:(bP x).length=21:=by rw[Zx,Gk oS]
  simp only[cG,au,aq,ae];rw[bD hlen,bD hlen,Zd];exact .mk ⟨_,s2,rfl,aH.trans aV,rfl,Gk oS⟩
 |none=>
 rw[oS]at df;subst df;refine⟨_,s2,rfl,?_⟩;simp only[cG,au,aq,af];rw[bD (cs:=bP mJ) (n:=21) rfl,bD (cs:=bP mJ) (n:=21) rfl];have EG:=sP.mono aV;refine Ok.call (Zo9 n a l s2 EG hl (by omega)) ?_;rintro _ ⟨s3,ck,mG⟩;cases HP:Z3 l with
 |some x=>
  rw[HP]at mG;obtain⟨rfl,hx⟩:=mG;refine⟨_,s3,rfl,?_⟩;have hlen:(ints x).length=16:=by simp[ints,hx]
  simp only[cG,au,aq,ae];rw[bD hlen,bD hlen,Zd];exact .mk ⟨_,s3,rfl,(aH.trans aV).trans ck,rfl,hx⟩
 |none=>
 rw[HP]at mG;subst mG;refine⟨_,s3,rfl,?_⟩;simp only[cG,au,aq,af];rw[bD (cs:=ints (List.replicate 16 0)) (n:=16) rfl,bD (cs:=ints (List.replicate 16 0)) (n:=16) rfl];have ha3:=EG.mono ck;refine Ok.call (Zmb n a l s3 ha3 hl (by omega)) ?_;rintro _ ⟨s4,fG,rC⟩;cases hg4:ZF l with
 |some x=>
  rw[hg4]at rC;obtain⟨rfl,hx⟩:=rC;refine⟨_,s4,rfl,?_⟩;have hlen:(ints x.c9).length=12:=by simp[ints,hx]
  unfold ZU;simp only[cG,bO,av,au,aq,ae];rw[bD hlen,bD (by simp[hlen]),Zd];exact .mk ⟨_,s4,rfl,((aH.trans aV).trans ck).trans fG,rfl,hx⟩
 |none=>
 rw[hg4]at rC;subst rC;refine⟨_,s4,rfl,?_⟩;unfold ZU;simp only[cG,bO,av,au,aq,af];rw[bD (cs:=ints B5.c9) (n:=12) rfl,bD (n:=14) rfl];have ha4:=ha3.mono fG;refine Ok.call (Zn2 n a l s4 ha4 hl (by omega)) ?_;rintro _ ⟨s5,jd,oX⟩;cases hg5:kQ l with
 |some x=>
  rw[hg5]at oX;obtain⟨p,rfl,hf,hx⟩:=oX;refine⟨_,s5,rfl,?_⟩;simp only[cG,bd,au,aq,ae,Zd];exact .mk ⟨_,s5,rfl,(((aH.trans aV).trans ck).trans fG).trans jd,p,rfl,hf,hx⟩
 |none=>
 rw[hg5]at oX;subst oX;refine⟨_,s5,rfl,?_⟩;simp only[cG,Zf 1 0 none _ (.inr rfl),au,aq,af,Zd];exact .mk ⟨_,s5,rfl,(((aH.trans aV).trans ck).trans fG).trans jd,rfl⟩
def ft (m:Nat) (W:al) (k:Int):Bool:=decide (k>=2)&&(fT m k&& !dT W k.toNat)
theorem ZwZ {Bd:Zh} (h:HA Bd) (n w:Nat) (a:ai) (img:aj) (k:Int) (st:St)
  (hw:st[w]? =some (some ⟨false,cs⟩)) (h0:cs[0]? =some (.slice 1 a img.length)) (h2:cs[2]? =some (.int .i64 m)) (EA:cs[10]? =some (.ptr (some (i,0))))
  (hs:fY st false i j m W) (oU:i≠j) (hjw:w≠j) (ha:dE st a img) (Ie:lr [j] a) (hm:m*64<=img.length) (hl:img.length<1000000) (hn:170<=n):
  Ok (λo=>bif ft m W k then ∃d s',o=(.val [d],s')/\Fx [j] st s'/\fY s' false i j m (bU m W k)/\Ny s' (ZX (ZB img k.toNat)) d else o=(.eV,st)) (run Bd n 228 [.ptr (some (w,0)),.int .i64 k] st):=by
 obtain⟨n,rfl⟩: ∃k,n=k+4:=⟨n-4,by omega⟩;rw[Ze,h.abR];unfold NU cy az C_ lN tm aY Zm Lb Li eU bE mZ ft;simp only[fV,av,aq,Za,aZ];by_cases iR:k>=2;rotate_left
 .rw[aD iR,af]
  simp only[au,aq,af,fP];rw[Z5 h (n+2) rfl];exact .mk rfl
 rw[aw iR,ae,Zo hw h2];simp only[aX,au,aq,dx];have XR:fT m k=decide (k<(m:Int)):=by grind[fT]
 rw[XR];by_cases ui:k<(m:Int);rotate_left
 .rw[aD ui,af]
  simp only[fP,af];rw[Z5 h (n+2) rfl];exact .mk rfl
 rw[aw ui,ae,Zo hw EA];simp only[NA,dx];rw[Zk (Zml (n+1) k st hs),XR,aw ui,dx];simp only[au,aq];cases gx:dT W k.toNat with
 |true=>
  simp only[bp,af];rw[Z5 h (n+2) rfl];exact .mk rfl
 |false=>
  simp only[bm,ae];rw[sr h (n+2) rfl];simp only[aq];rw[Zo hw EA];simp only[NA];rw[Zz];have aH:=aC.new st (some (⟨false,[DV.int .i64 k]⟩:bT));have fH:Sl (st++[some (⟨false,[DV.int .i64 k]⟩:bT)]) (some (st.length,0)) (ints [k]):=Lm st [DV.int .i64 k];have dN:lr [j] (some (st.length,0)):=by
   intro b o e hb;cases e;have:=(eK.1 hs.wd).1;rw[cx.1 hb]at this;omega
  generalize st++[some (⟨false,[DV.int .i64 k]⟩:bT)]=s1 at aH fH;have lG:=hs.pre aH;have Xi:=JQ (n+3) [k] (some (st.length,0)) s1 lG oU fH dN (by simp) (by simp;omega);rw[show[k].length=1 from rfl]at Xi;rw[Zk Xi];simp only[aq];have Yf:=lG.add oU (bU m W k) (tJ _ _ _) (Sj lG.lt);have cF:Fx [j] st (s1.set j (some ⟨false,ZV (bU m W k)⟩)):=(Fx.pre [j] aH).trans (Fx.set s1 j _);have e1:[k].foldl (bU m) W=bU m W k:=rfl;rw[e1];generalize s1.set j (some ⟨false,ZV (bU m W k)⟩)=s2 at Yf cF;have fM:=cF.2 w _ (by simpa using hjw) hw;have EG:dE s2 a img:=Sl.fx ha cF Ie;rw[Zo fM h0];simp only[lq];obtain⟨kk,rfl⟩: ∃kk:Nat,k=kk:=⟨k.toNat,by omega⟩;rw[Zk (ZlQ (n+2) a img.length kk s2 hl)];simp only[bd,aq];have Cw:dE s2 (dj true a (kk*64)) (ZB img kk):=(EG.dj (k:=kk*64) (by omega)).lK 64;have Mj:(ZB img kk).length=64:=by unfold ZB;rw[cV,fb];omega
  have hb:=Zqg (n+3) _ (ZB img kk) s2 Cw (by omega) (by omega);rw[Mj]at hb;refine Ok.call hb ?_;rintro _ ⟨d,s3,rfl,ck,hblk⟩;refine⟨_,s3,rfl,?_⟩;simp only[Bt,aq,Zd];exact .mk ⟨d,s3,rfl,cF.trans (Fx.pre [j] ck),Yf.pre ck,hblk⟩
structure dY where
 seq:Int
 blocks:Int
 cJ:Int
 g:Int
 bY:Int
 used:Int
 free:Int
 dir:Int
 aL:ak
structure bg where
 W:al
 aK:List bw
 aS:List di
 aG:ak
 free:ak
 nodes:Int
structure bR where
 w:Nat
 i:Nat
 j:Nat
 m:Nat
 a:ai
 img:aj
 sup:dY
 pc:ai
def dz (z:Nat) (p:ai) (n:Nat):DV:= .slice z p n
def qE (K:bR) (v:bg) (c11 c15 c16 c17:DV):ah:=
 [.slice 1 K.a K.img.length,.int .i64 K.sup.seq,.int .i64 K.sup.blocks,.int .i64 K.sup.cJ,.int .i64 K.sup.g,.int .i64 K.sup.bY,.int .i64 K.sup.used,.int .i64 K.sup.free,.int .i64 K.sup.dir,.slice 1 K.pc K.sup.aL.length,
  .ptr (some (K.i,0)),c11,.int .i64 K.sup.blocks,.int .i64 K.sup.cJ,.int .i64 K.sup.g,c15,c16,c17,.int .i64 v.nodes]
def aM:ai->al
 |none=>[]
 |some (b,_)=>[b]
theorem lr.aM {L:al} {a:ai} (h: ∀b∈aM a,b∉L):lr L a:=by
 intro b o e;grind[F.aM]
theorem bn.fx {a:ai} (h:bn [] s a cs) (k:Fx T s s') (n: ∀b∈aM a,b∉T):bn [] s' a cs:=by
 refine⟨⟨s',rfl⟩,?_⟩;rcases h.2 with h1|⟨i,rfl,h2,h3⟩
 .exact .inl h1
 .exact .inr ⟨i,rfl,h2,k.2 i _ (n i (by simp[aM])) h3⟩
theorem bn.Em {a:ai} (h:bn [] s a cs): ∀b∈aM a,b<s.length:=by
 rcases h.2 with⟨rfl,_⟩|⟨i,rfl,_,h3⟩
 .intro b hb;cases hb
 .intro b hb;rw[cx.1 hb];grind
theorem xZ {a:ai} (h:bn [] s a cs) {sz:Nat} (ds:ah) (hz:0<sz) (hn:cs.length=n*sz) (hd:ds.length=sz) (hl:n+1<=lim:=by omega):
  ∃b s',s.length<=b/\bn [] s' (some (b,0)) (cs++ds)/\Fx (aM a) s s'/\∀K:ai->M β,(cd ds λi=>bQ i 0 sz λcs'=>cj sz a n cs' 1 lim K) s=K (some (b,0)) s':=by
 obtain⟨b,s',h1,h2,_,h4,h5⟩:=h.YK (β:=β) ds hz hn hd hl;refine⟨b,s',h1,h2,⟨?_,λi x hi e=>h4 i x e ?_⟩,h5⟩
 .have:=bn.Em h2 b (by simp[aM]);omega
 grind[aM]
def pJ (s:St) (L:al):ah->List di->Prop
 |ds,[]=>ds=[]
 |ds,x::r=>∃z p t,(z=4\/p=none)/\ds=ju x z p++t/\Sl s p (bK x.bS)/\lr L p/\pJ s L t r
theorem pJ.fx {s s':St} {L L':al} (k:Fx L s s') (hL: ∀x∈L',x∈L\/s.length<=x): ∀ {ds:ah} {xs:List di},pJ s L ds xs->pJ s' L' ds xs
 |_,[],h=>h
 |_,_::_,⟨z,p,t,hz,h1,h2,h3,h4⟩=>⟨z,p,t,hz,h1,h2.fx k h3,h3.new h2 hL,h4.fx k hL⟩
theorem pJ.aS {s:St} {L:al} : ∀ {ds:ah} {xs:List di},pJ s L ds xs->iZ s ds xs
 |_,[],h=>h
 |_,_::_,⟨z,p,t,hz,h1,h2,_,h4⟩=>⟨z,p,t,hz,h1,h2,h4.aS⟩
theorem pJ.push {s:St} {L:al} {x:di} {z:Nat} {p:ai} (hz:z=4\/p=none) (hs:Sl s p (bK x.bS)) (ho:lr L p): ∀ {ds:ah} {xs:List di},pJ s L ds xs->pJ s L (ds++ju x z p) (xs++[x])
 |ds,[],h=>⟨z,p,[],hz,by rw[show ds=[]from h];rfl,hs,ho,rfl⟩
 |_,_::_,⟨z',p',t,Fq,h1,h2,h3,h4⟩=>⟨z',p',t++ju x z p,Fq,by rw[h1,fA],h2,h3,h4.push hz hs ho⟩
structure dV (K:bR) (s:St) (v:bg) (L:List Nat) (z1:Nat) (p1:Option (Nat×Nat)) (z2:Nat) (p2:Option (Nat×Nat)) (z3:Nat) (p3:Option (Nat×Nat)) (z4:Nat) (p4:Option (Nat×Nat)) (hd:List DV):Prop where
 cell:s[K.w]? =some (some ⟨false,qE K v (dz z1 p1 v.aK.length) (dz z2 p2 v.aS.length) (dz z3 p3 v.aG.length) (dz z4 p4 v.free.length)⟩)
 e1:z1=3\/p1=none
 e2:z2=2\/p2=none
 e3:z3=1\/p3=none
 e4:z4=1\/p4=none
 o1:bn [] s p1 (bP v.aK)
 o2:bn [] s p2 hd
 o3:bn [] s p3 (ints v.aG)
 o4:bn [] s p4 (ints v.free)
 aS:pJ s L hd v.aS
 set:fY s false K.i K.j K.m v.W
 img:dE s K.a K.img
 off:lr L K.a
 own:L=K.w::K.i::K.j::(aM p1++(aM p2++(aM p3++aM p4)))
 nodup:L.Nodup
def Wk (K:bR) (s:St) (v:bg) (L:al):Prop:=∃z1 p1 z2 p2 z3 p3 z4 p4 hd,dV K s v L z1 p1 z2 p2 z3 p3 z4 p4 hd
def Nw (L:al) (s:St) (L':al):Prop:=∀x∈L',x∈L\/s.length<=x
theorem Nw.refl (L:al) (s:St):Nw L s L:=λ_ h=> .inl h
theorem Nw.trans (h:Nw L s L') (hs:s.length<=s'.length) (k:Nw L' s' L''):Nw L s L'':=λx hx=>by
 rcases k x hx with h1|h1
 .exact h x h1
 omega
theorem J8 {B:al} {b:Nat} (h:(A++(B++C)).Nodup) (hl: ∀x∈A++(B++C),x<n) (hb:n<=b):(A++([b]++C)).Nodup:=by
 rw[uI]at h⊢;obtain⟨h1,h2,h3⟩:=h;rw[uI]at h2;obtain⟨_,h4,_⟩:=h2;refine⟨h1,?_,?_⟩
 .rw[List.singleton_append,zg]
  refine⟨λhm=>?_,h4⟩;have:=hl b (by simp[hm]);omega
 .intro x hx y hy
  rcases gU.1 hy with hy|hy
  .rw[cx.1 hy]
   have:=hl x (by simp[hx]);omega
  grind
variable {K:bR} {s:St} {v:bg} {L:al} {z1 z2 z3 z4:Nat} {p1 p2 p3 p4:ai} {hd:ah}
theorem dV.lt (h:dV K s v L z1 p1 z2 p2 z3 p3 z4 p4 hd): ∀x∈L,x<s.length:=by
 intro x hx;rw[h.own]at hx;simp only[dW,gU]at hx;rcases hx with rfl|rfl|rfl|hx|hx|hx|hx
 .exact(eK.1 h.cell).1
 .exact(eK.1 h.set.hd).1
 .exact(eK.1 h.set.wd).1
 .exact bn.Em h.o1 x hx
 .exact bn.Em h.o2 x hx
 .exact bn.Em h.o3 x hx
 .exact bn.Em h.o4 x hx
theorem dV.CX (h:dV K s v L z1 p1 z2 p2 z3 p3 z4 p4 hd):K.w∈L:=by rw[h.own];simp
theorem dV.vK (h:dV K s v L z1 p1 z2 p2 z3 p3 z4 p4 hd):K.j∈L:=by rw[h.own];simp
theorem dV.ne (h:dV K s v L z1 p1 z2 p2 z3 p3 z4 p4 hd):K.w≠K.i/\K.w≠K.j/\K.i≠K.j/\(∀x∈aM p1++(aM p2++(aM p3++aM p4)),x≠K.w/\x≠K.i/\x≠K.j):=by
 have hn:=h.nodup;rw[h.own]at hn;simp only[zg,dW,not_or]at hn;grind
theorem dV.jy (h:dV K s v L z1 p1 z2 p2 z3 p3 z4 p4 hd) (k:Fx T s s') (hT: ∀x∈T,x∉L) (ha:lr T K.a) (hh:pJ s' L hd v.aS):dV K s' v L z1 p1 z2 p2 z3 p3 z4 p4 hd:=by
 have hm: ∀x∈L,x∉T:=λx hx hx'=>hT x hx' hx
 have ho:=h.own;refine⟨k.2 _ _ (hm _ h.CX) h.cell,h.e1,h.e2,h.e3,h.e4,h.o1.fx k λb hb=>hm b ?_,h.o2.fx k λb hb=>hm b ?_,h.o3.fx k λb hb=>hm b ?_,h.o4.fx k λb hb=>hm b ?_,hh,h.set.fx k (hm _ (by rw[ho];simp)) (hm _ h.vK),Sl.fx h.img k ha,h.off,ho,h.nodup⟩
 all_goals rw[ho];simp[hb]
theorem dV.pre {s':St} (h:dV K s v L z1 p1 z2 p2 z3 p3 z4 p4 hd) (k:aC s s'):dV K s' v L z1 p1 z2 p2 z3 p3 z4 p4 hd:=
 h.jy (Fx.pre [] k) (λ_ h=>by cases h) (λ_ _ _ h=>by cases h) (h.aS.fx (Fx.pre L k) (Nw.refl L s))
theorem dV.afP (h:dV K s v L z1 p1 z2 p2 z3 p3 z4 p4 hd) (k:Fx [K.j] s s') (hs:fY s' false K.i K.j K.m W'):dV K s' { v with W:=W' } L z1 p1 z2 p2 z3 p3 z4 p4 hd:=by
 have dI:=h.ne;refine⟨k.2 _ _ (by simpa using dI.2.1) h.cell,h.e1,h.e2,h.e3,h.e4,h.o1.fx k λb hb=>?_,h.o2.fx k λb hb=>?_,h.o3.fx k λb hb=>?_,h.o4.fx k λb hb=>?_,h.aS.fx (k.mono λx hx=>by rw[cx.1 hx];exact h.vK) (Nw.refl L s),hs,Sl.fx h.img k λb o e hb=>h.off b o e (by rw[cx.1 hb];exact h.vK),h.off,h.own,h.nodup⟩
 all_goals simpa using (by grind)
def dP (K:bR) (k:Int) (v:bg):Option (Bp×bg):=bif ft K.m v.W k then some (ZX (ZB K.img k.toNat), { v with W:=bU K.m v.W k })else none
theorem dV.take {Bd:Zh} (hB:HA Bd) (n:Nat) (k:Int) (hm:K.sup.blocks=(K.m:Int)) (hi:K.m*64<=K.img.length) (hl:K.img.length<1000000) (hn:170<=n) (h:dV K s v L z1 p1 z2 p2 z3 p3 z4 p4 hd):
  Ok (λo=>match dP K k v with
   |none=>o=(.eV,s)
   |some (b,v')=>∃d s',o=(.val [d],s')/\dV K s' v' L z1 p1 z2 p2 z3 p3 z4 p4 hd/\Fx [K.j] s s'/\Ny s' b d) (run Bd n 228 [.ptr (some (K.w,0)),.int .i64 k] s):=by
 have dI:=h.ne;refine(ZwZ hB n K.w K.a K.img k s h.cell rfl (by rw[<-hm];rfl) rfl h.set dI.2.2.1 dI.2.1 h.img (λb o e hb=>h.off b o e (by rw[cx.1 hb];exact h.vK)) hi hl hn).mono ?_;intro o ho;unfold dP;cases hf:ft K.m v.W k with
 |false=>rw[hf]at ho;exact ho
 |true=>
  rw[hf]at ho;obtain⟨d,s',rfl,cF,hs,hb⟩:=ho;exact⟨d,s',rfl,h.afP cF hs,cF,hb⟩
theorem Kd: ∀ {l:List bw} {j:Nat} {x:bw},l[j]? =some x->((bP l).drop (j*3)).take 3=ee x
 |[],j,e,h=>by simp at h
 |x::l,0,e,h=>by
  simp only[lh,fQ]at h;subst h;rfl
 |x::l,j+1,e,h=>by
  have e2:bP (x::l)=ee x++bP l:=rfl;rw[e2,show(j+1)*3=(ee x).length+j*3 by show _=3+_;omega,<-kd,Bi];exact Kd (by simpa using h)
def qO (K:bR) (s:St) (L:al) (r:Option bg) (ds:ah) (o:Out ah×St):Prop:=match r with
 |none=>∃s',o=(.eV,s')/\Fx L s s'
 |some v=>∃s' L',o=(.val ds,s')/\Wk K s' v L'/\Fx L s s'/\Nw L s L'
theorem dV.afM (h:dV K s v L z1 p1 z2 p2 z3 p3 z4 p4 hd) (x:bw) (hl:v.aK.length<1000000):
  ∃b s1 s2 L',(∀Kc:ai->M β,(cd (ee x) λi=>bQ i 0 3 λcs'=>cj 3 p1 v.aK.length cs' 1 2932031007402 Kc) s=Kc (some (b,0)) s1)/\
   (∀Kc:M β,eI K.w 11 [.slice 3 (some (b,0)) (v.aK.length+1)] Kc s1=Kc s2)/\Wk K s2 { v with aK:=v.aK++[x] } L'/\Fx L s s2/\Nw L s L':=by
 obtain⟨b,s1,hb,ho,cF,he⟩:=xZ (β:=β) (lim:=2932031007402) h.o1 (sz:=3) (n:=v.aK.length) (ee x) (by omega) (Zx _) rfl;have dI:=h.ne;have cD:=cF.2 K.w _ (by grind) h.cell;have Cg: ∀x∈aM p1,x∈L:=λx hx=>by rw[h.own];simp[hx]
 let L':=K.w::K.i::K.j::(aM (some (b,0))++(aM p2++(aM p3++aM p4)))
 have fF:Fx L s (s1.set K.w (some ⟨false,qE K { v with aK:=v.aK++[x] } (dz 3 (some (b,0)) (v.aK.length+1)) (dz z2 p2 v.aS.length) (dz z3 p3 v.aG.length) (dz z4 p4 v.free.length)⟩)):=
  (cF.mono Cg).trans ((Fx.set s1 K.w _).mono λy hy=>by rw[cx.1 hy];exact h.CX)
 have jw:=h.nodup;rw[h.own]at jw;have CA:(K.w::K.i::K.j::(aM (some (b,0))++(aM p2++(aM p3++aM p4)))).Nodup:=J8 (A:=[K.w,K.i,K.j]) (B:=aM p1) jw (λy hy=>h.lt y (by rw[h.own];exact hy)) hb;have gM:Nw L s L':=λy hy=>by
  have CM:y∈K.w::K.i::K.j::([b]++(aM p2++(aM p3++aM p4))):=hy;rw[h.own];simp only[dW,gU,List.mem_nil_iff,oB]at CM⊢;grind
 have ag0: ∀y,y∉aM p1->y≠K.w->∀c,s[y]? =some c->(s1.set K.w (some ⟨false,qE K { v with aK:=v.aK++[x] } (dz 3 (some (b,0)) (v.aK.length+1)) (dz z2 p2 v.aS.length) (dz z3 p3 v.aG.length) (dz z4 p4 v.free.length)⟩))[y]? =some c:=λy h1 h2 c hc=>by
  rw[kJ (by omega)];exact cF.2 y c h1 hc
 have fe:Fx (K.w::aM p1) s (s1.set K.w (some ⟨false,qE K { v with aK:=v.aK++[x] } (dz 3 (some (b,0)) (v.aK.length+1)) (dz z2 p2 v.aS.length) (dz z3 p3 v.aG.length) (dz z4 p4 v.free.length)⟩)):=
  ⟨fF.1,by grind⟩
 have jb: ∀y,y∈aM p2++(aM p3++aM p4)->y∉K.w::aM p1:=λy hy hm=>by
  rcases dW.1 hm with e|e
  .grind
  .have vx:=jw
   simp only[zg,uI]at vx;grind
 have ua:b≠K.w:=λe=>by have:=(eK.1 h.cell).1;omega
 refine⟨b,s1,_,L',he,λKc=>?_,⟨3,some (b,0),z2,p2,z3,p3,z4,p4,hd,⟨?_,.inl rfl,h.e2,h.e3,h.e4,?_,?_,?_,?_,?_,?_,?_,?_,rfl,CA⟩⟩,fF,gM⟩
 .rw[uR cD (by show 11<19;omega)]
  rfl
 .rw[mc (by have:=(eK.1 cD).1;exact this),bA];rfl
 .rw[GD]
  exact(show bn [] s1 (some (b,0)) (bP v.aK++bP [x])from ho).fx (Fx.set s1 K.w _) (λy hy=>by
   rw[cx.1 hy,cx];exact ua)
 .exact h.o2.fx fe λy hy=>jb y (by simp[hy])
 .exact h.o3.fx fe λy hy=>jb y (by simp[hy])
 .exact h.o4.fx fe λy hy=>jb y (by simp[hy])
 .exact h.aS.fx fF gM
 .exact h.set.fx fe (λhm=>by
   grind) (λhm=>by
   grind)
 .exact Sl.fx h.img fF h.off
 .exact h.off.new h.img gM
def tM (sup:dY) (x:bw):Bool:=(bif decide (x.gen>=1)then decide (x.gen<=sup.g)else false)&&(bif (bif x.live then true else decide (x.gen<sup.g))then true else x.block==0)
def nh (x:bw):Bool:=(x.live==false)&&((x.gen==0)&&((x.block==0)&&true))
def qS (K:bR) (k:Int) (x:bw) (v:bg):Option bg:=
 bif decide (k>=K.sup.used)then(bif nh x then some v else none)
 else(bif tM K.sup x then some { v with aK:=v.aK++[x] } else none)
def nQ (K:bR):Int->List bw->bg->Option bg
 |_,[],v=>some v
 |k,x::r,v=>match qS K k x v with
  |none=>none
  |some v'=>nQ K (k+1) r v'
def nx (K:bR) (k slot:Int) (v:bg):Option bg:=match dP K k v with
 |some (.leaf x,v')=>nQ K slot x v'
 |_=>none
variable {K:bR} {v v':bg}
theorem ZrC {x:bw} (h:qS K k x v=some v'):v'.aK.length<=v.aK.length+1:=by
 grind[qS]
theorem ZnG {K:bR} : ∀ {x:List bw} {k:Int} {v v':bg},nQ K k x v=some v'->v'.aK.length<=v.aK.length+x.length
 |[],_,_,_,h=>by cases h;simp
 |x::r,k,v,v',h=>by
  unfold nQ at h;cases h1:qS K k x v with
  |none=>rw[h1]at h;cases h
  |some w=>
   rw[h1]at h;have:=ZrC h1;have:=ZnG h;simp;omega
structure Bz (K:bR):Prop where
 m:K.sup.blocks=(K.m:Int)
 El:K.m*64<=K.img.length
 len:K.img.length<1000000
theorem dV.wk (h:dV K s v L z1 p1 z2 p2 z3 p3 z4 p4 hd):Wk K s v L:=⟨_,_,_,_,_,_,_,_,_,h⟩
theorem Zw7 {Bd:Zh} (h:HA Bd) (n:Nat) (hK:Bz K) (k slot:Int) (Ip:0<=slot) (fH:slot<=100000) (hW:Wk K s v L) (hl:v.aK.length<100000) (hn:180<=n):
  Ok (qO K s L (nx K k slot v) []) (run Bd n 229 [.ptr (some (K.w,0)),.int .i64 k,.int .i64 slot] s):=by
 obtain⟨n,rfl⟩: ∃k,n=k+2:=⟨n-2,by omega⟩;rw[Ze,h.abS];unfold NS gK tm Q_ cH Zm C_ az mZ Li qN Lb nx;simp only[fV,av,aq,Za];obtain⟨z1,p1,z2,p2,z3,p3,z4,p4,hd,hW⟩:=hW;refine Ok.uZ (hW.take h (n+1) k hK.m hK.El hK.len (by omega)) ?_ ?_
 .intro s' hp
  cases ht:dP K k v with
  |none=>rw[ht]at hp;cases hp;exact⟨s,rfl,.refl L s⟩
  |some q=>rw[ht]at hp;grind
 intro ds s1 hp;cases ht:dP K k v with
 |none=>rw[ht]at hp;cases hp
 |some q=>
  obtain⟨b,v1⟩:=q;rw[ht]at hp;obtain⟨d,s2,e,iw,cF,hb⟩:=hp;cases e;have xp:v1.aK=v.aK:=by
   unfold dP at ht;grind
  have oR:Fx L s s1:=cF.mono λy hy=>by rw[cx.1 hy];exact hW.vK
  simp only[Bt,aq];cases b with
  |node x=>obtain⟨p,rfl,_⟩:=hb;exact .mk ⟨s1,rfl,oR⟩
  |bY x=>obtain⟨rfl,_⟩:=hb;exact .mk ⟨s1,rfl,oR⟩
  |queue x=>obtain⟨rfl,_⟩:=hb;exact .mk ⟨s1,rfl,oR⟩
  |dir x=>obtain⟨p,rfl,_⟩:=hb;exact .mk ⟨s1,rfl,oR⟩
  |none=>cases hb;exact .mk ⟨s1,rfl,oR⟩
  |leaf x=>
   obtain⟨rfl,hx⟩:=hb;have hlen:(bP x).length=21:=by rw[Zx,hx]
   show Ok (qO K s L (nQ K slot x v1) []) (bu (bP x) 21 _ _);obtain⟨R,hR⟩: ∃R,nQ K slot x v1=R:=⟨_,rfl⟩;rw[hR];rw[bD hlen,show(bP x).take 21=bP x from dH (by omega)];refine Zj _ (λq y t=>∃(i:Nat) (u:bg) (Lu:al),y=[.int .i64 i]/\i<=7/\7-i<=q/\Wk K t u Lu/\Fx L s t/\Nw L s Lu/\u.aK.length<=v.aK.length+i/\nQ K (slot+i) (x.drop i) u=R) ?_ 7 (n+1) _ _ ⟨0,v1,L,rfl,by omega,by omega,iw.wk,oR,.refl L s,by rw[xp];omega,by simp[hR]⟩ (by omega);rintro q _ t ⟨i,u,Lu,rfl,hi,hq,dL,fk,jx,xo,aN⟩ rec aQ;simp only[av,aq];by_cases ax:i<7
   .rw[aw (show(i:Int)<7 by omega),ae,Zb (show aP (i:Int) 7=true from Zi ax),br]
    have lY:x[i]? =some (x[i]'(by omega)):=by grind
    rw[Kd lY];have fE:x.drop i=(x[i]'(by omega))::x.drop (i+1):=iC (by omega);rw[fE]at aN;generalize x[i]'(by omega)=e at aN;obtain⟨z1,p1,z2,p2,z3,p3,z4,p4,hd,dL⟩:=dL;rw[bD (cs:=ee e) (n:=3) rfl,aZ,Zo dL.cell rfl];simp only[aX];have cD:ar (slot+(i:Int))=slot+i:=Zc;have fM:ar ((i:Int)+1)=((i+1:Nat):Int):=Zc;rw[cD,fM];unfold nQ qS at aN;have sR:slot+((i+1:Nat):Int)=slot+i+1:=by omega
    cases hk:decide (slot+(i:Int)>=K.sup.used)with
    |true=>
     rw[hk,ae]at aN;rw[ae];show Ok _ (cY (run Bd (n+1) 225 [.bool (nh e)]) _ t);cases h0:nh e with
     |true=>
      rw[h0]at aN;rw[sr h n rfl];simp only[aq];exact aQ (7-(i+1)) _ _ (by omega) ⟨i+1,u,Lu,rfl,by omega,aO _,dL.wk,fk,jx,by omega,by rw[sR];exact aN⟩
     |false=>
      rw[h0]at aN;rw[Z5 h n rfl];simp only[af]at aN;rw[<-aN];exact .mk ⟨t,rfl,fk⟩
    |false=>
     rw[hk,af]at aN;rw[af];have nr:qE K u (dz z1 p1 u.aK.length) (dz z2 p2 u.aS.length) (dz z3 p3 u.aG.length) (dz z4 p4 u.free.length)=qE K u (dz z1 p1 u.aK.length) (dz z2 p2 u.aS.length) (dz z3 p3 u.aG.length) (dz z4 p4 u.free.length):=rfl;clear nr;have mE:Ok (qO K s L R []) (cY (run Bd (n+1) 225 [.bool (tM K.sup e)]) (λds=>aJ ds<|bJ (some (K.w,0)) λi1 o1=>bF i1 (o1+11) λd3=>dB 3 d3 λx4 da=>bu (ee e) 3<|cd (ee e) λi2=>bQ i2 0 3 λbM=>cj 3 x4 da bM 1 2932031007402 λp=>bJ (some (K.w,0)) λi3 o2=>eI i3 (o2+11) [.slice 3 p (da+1)]<|rec [.int .i64 ((i+1:Nat):Int)]) t):=by
      cases h0:tM K.sup e with
      |true=>
       rw[h0]at aN;rw[sr h n rfl];simp only[aq,aZ];rw[Zo dL.cell rfl];show Ok _ (dB 3 (.slice z1 p1 u.aK.length) _ t);rw[tF 3 z1 p1 _ dL.e1,bD (cs:=ee e) (n:=3) rfl];obtain⟨b,t1,t2,L2,g1,g2,g3,g4,g5⟩:=dL.afM (β:=ah) e (by omega);rw[g1,eW,g2];exact aQ (7-(i+1)) _ _ (by omega) ⟨i+1,_,L2,rfl,by omega,aO _,g3,fk.step g4 jx,jx.trans fk.1 g5,by simp;omega,by rw[sR];exact aN⟩
      |false=>
       rw[h0]at aN;rw[Z5 h n rfl];simp only[af]at aN;rw[<-aN];exact .mk ⟨t,rfl,fk⟩
     unfold tM at mE;rw[gW (i:=1) (d:= .int .i64 e.gen) rfl];simp only[aX];have sW: ∀Kc:DV->M ah,bF K.w (0+4) Kc t=Kc (.int .i64 K.sup.g) t:=λKc=>Zo dL.cell rfl Kc
     cases nr:decide (e.gen>=1)with
     |false=>
      simp only[nr,af,fP]at mE;simp only[af,au,aq];exact mE
     |true=>
      simp only[nr,ae]at mE;rw[ae,gW (i:=1) (d:= .int .i64 e.gen) rfl];simp only[aX,aZ];rw[sW];simp only[aX,au,aq];cases oS:decide (e.gen<=K.sup.g)with
      |false=>
       simp only[oS,fP]at mE;simp only[af];exact mE
      |true=>
       simp only[oS,dx]at mE;rw[ae,gW (i:=0) (d:= .bool e.live) rfl];simp only[tq];cases fg:e.live with
       |true=>
        simp only[fg,ae]at mE;rw[ae];simp only[ae];exact mE
       |false=>
        simp only[fg,af]at mE;rw[af,gW (i:=1) (d:= .int .i64 e.gen) rfl];simp only[aX];rw[sW];simp only[aX];cases HP:decide (e.gen<K.sup.g)with
        |true=>
         simp only[HP,ae]at mE;rw[ae];exact mE
        |false=>
         simp only[HP,af]at mE;rw[af,gW (i:=2) (d:= .int .i64 e.block) rfl];simp only[aX];exact mE
   .rw[aD (show ¬(i:Int)<7 by omega),af]
    rw[ke (by omega)]at aN;simp only[Zd];rw[<-aN];exact .mk ⟨t,Lu,rfl,dL,fk,jx⟩
theorem ZmB {x:List bw} (h:ZX l= .leaf x):x.length=7:=by
 unfold ZX at h;split at h
 .cases h
 .split at h
  .rename_i e;cases h;exact Gk e
  grind
theorem sv {b:Bp} (h:dP K k v=some (b,v')):v'.aK=v.aK/\v'.aS=v.aS/\v'.aG=v.aG/\v'.free=v.free/\v'.nodes=v.nodes/\b=ZX (ZB K.img k.toNat):=by
 grind[dP]
theorem ZpG (h:nx K k slot v=some v'):v'.aK.length<=v.aK.length+7:=by
 unfold nx at h;cases ht:dP K k v with
 |none=>rw[ht]at h;cases h
 |some q=>
  obtain⟨b,v1⟩:=q;rw[ht]at h;obtain⟨h1,_,_,_,_,h2⟩:=sv ht;cases b with
  |leaf x=>
   have:=ZnG h;rw[h1,ZmB h2.symm]at this;exact this
  |node x=>cases h
  |bY x=>cases h
  |queue x=>cases h
  |dir x=>cases h
  |none=>cases h
def kR (K:bR) (cK x5:Int):Int->ak->bg->Option bg
 |_,[],v=>some v
 |k,y::r,v=>bif (!(y==0))==decide (x5*16+k<cK)then(bif !(y==0)then(match nx K y ((x5*16+k)*7) v with
   |none=>none
   |some v'=>kR K cK x5 (k+1) r v')else kR K cK x5 (k+1) r v)else none
def oM (K:bR) (cK:Int):Int->ak->bg->Option bg
 |_,[],v=>some v
 |k,y::r,v=>bif (!(y==0))==decide (k*16<cK)then(bif y==0 then oM K cK (k+1) r v else(match dP K y v with
   |some (.bY x,v')=>(match kR K cK k 0 x v' with
    |none=>none
    |some v''=>oM K cK (k+1) r v'')
   |_=>none))else none
def pO (K:bR) (v:bg):Option bg:=bif K.sup.used==0 then some v else(match dP K K.sup.bY v with
 |some (.bY x,v')=>oM K (zT K.sup.used) 0 x v'
 |_=>none)
theorem Qr {K:bR} {cK x5:Int} : ∀ {x:ak} {k:Int} {v v':bg},kR K cK x5 k x v=some v'->v'.aK.length<=v.aK.length+7*x.length
 |[],_,_,_,h=>by cases h;simp
 |y::r,k,v,v',h=>by
  unfold kR at h;cases h1:((!(y==0))==decide (x5*16+k<cK))with
  |false=>rw[h1]at h;cases h
  |true=>
   rw[h1,ae]at h;cases h2:(!(y==0))with
   |false=>
    rw[h2,af]at h;have:=Qr h;simp;omega
   |true=>
    rw[h2,ae]at h;cases h3:nx K y ((x5*16+k)*7) v with
    |none=>rw[h3]at h;cases h
    |some w=>
     rw[h3]at h;have:=Qr h;have:=ZpG h3;simp;omega
theorem Zxh {Bd:Zh} (hL:HA Bd) (hM:HA Bd) (n:Nat) (hK:Bz K) (cK:Int) (i5:Nat) (h5:i5<16) (x:ak) (hx:x.length=16) (hn:181<=n) (s:St) (L:al) (t0:St) (L0:al) (v0:bg)
  (hW:Wk K t0 v0 L0) (hf:Fx L s t0) (gM:Nw L s L0) (hl:v0.aK.length<10000)
  (R:Option bg) (Kn:M ah) (aN: ∀w,kR K cK (i5:Int) 0 x v0=some w->∀t Lw,Wk K t w Lw->Fx L s t->Nw L s Lw->Ok (qO K s L R []) (Kn t)) (cA:kR K cK (i5:Int) 0 x v0=none->R=none):
  Ok (qO K s L R []) (cW (λdt st=>
      aF .i64 st λx8 st=>
      aJ st<|
      bif decide (x8<16)then
       aB (aP x8 16)<|
      ej ((ints x).take 16) (x8.toNat*1) λd6=>
      cP .i64 d6 λx9=>
      cY (run Bd n 225 [.bool ((!(x9==0))==(decide (ar ((ar ((i5:Int)*16))+x8)<cK)))]) λds=>
      aJ ds<|
      bif !(x9==0)then
       cY (run Bd n 229 [.ptr (some (K.w,0)),.int .i64 x9,.int .i64 (ar ((ar ((ar ((i5:Int)*16))+x8))*7))]) λds=>
      aJ ds<|
      dt [.int .i64 (ar (x8+1))]
      else
       dt [.int .i64 (ar (x8+1))]
      else
       Kn) n [.int .i64 0] t0):=by
 obtain⟨n,rfl⟩: ∃k,n=k+1:=⟨n-1,by omega⟩;rw[show(ints x).take 16=ints x from dH (by simp[ints,hx])];obtain⟨G,hG⟩: ∃G,kR K cK (i5:Int) 0 x v0=G:=⟨_,rfl⟩;rw[hG]at aN cA;refine Zj _ (λq y t=>∃(i:Nat) (u:bg) (Lu:al),y=[.int .i64 i]/\i<=16/\16-i<=q/\Wk K t u Lu/\Fx L s t/\Nw L s Lu/\u.aK.length<=v0.aK.length+7*i/\kR K cK i5 i (x.drop i) u=G) ?_ 16 (n+1) _ _ (by grind) (by omega);rintro q _ t ⟨i,u,Lu,rfl,hi,hq,dL,fk,jx,xo,dM⟩ rec aQ;simp only[av,aq];by_cases ax:i<16
 .have fE:x.drop i=(x[i]'(by omega))::x.drop (i+1):=iC (by omega)
  rw[fE]at dM;rw[aw (show(i:Int)<16 by omega),ae,Zb (show aP (i:Int) 16=true from Zi ax),br,cT,gW (ZA)];simp only[aX];generalize x[i]'(by omega)=y at dM;have cD:ar ((i5:Int)*16)=(i5:Int)*16:=Zc;have fM:ar ((i5:Int)*16+i)=(i5:Int)*16+i:=Zc;have jI:ar (((i5:Int)*16+i)*7)=((i5:Int)*16+i)*7:=Zc;have j6:ar ((i:Int)+1)=((i+1:Nat):Int):=Zc;rw[cD,fM,jI,j6];have sR:((i+1:Nat):Int)=(i:Int)+1:=by omega
  unfold kR at dM;cases h1:((!(y==0))==decide ((i5:Int)*16+i<cK))with
  |false=>
   rw[h1,af]at dM;rw[Z5 hM n rfl];rw[cA dM.symm];exact .mk ⟨t,rfl,fk⟩
  |true=>
   rw[h1,ae]at dM;rw[sr hM n rfl];simp only[aq];cases h2:(!(y==0))with
   |false=>
    rw[h2,af]at dM;rw[af];exact aQ (16-(i+1)) _ _ (by omega) (by grind)
   |true=>
    rw[h2,ae]at dM;rw[ae];refine Ok.uZ (Zw7 hL (n+1) hK y (((i5:Int)*16+i)*7) (by omega) (by omega) dL (by omega) (by omega)) ?_ ?_
    .intro t' hp
     cases h3:nx K y (((i5:Int)*16+i)*7) u with
     |some w=>rw[h3]at hp;obtain⟨_,_,e,_⟩:=hp;cases e
     |none=>
      rw[h3]at hp dM;obtain⟨t2,e,nn⟩:=hp;cases e;rw[cA dM.symm];exact⟨t',rfl,fk.step nn jx⟩
    .intro ds t' hp
     cases h3:nx K y (((i5:Int)*16+i)*7) u with
     |none=>rw[h3]at hp;obtain⟨_,e,_⟩:=hp;cases e
     |some w=>
      rw[h3]at hp dM;obtain⟨t2,L2,e,mC,nn,vx⟩:=hp;cases e;simp only[aq];have gS:=ZpG h3;exact aQ (16-(i+1)) _ _ (by omega) ⟨i+1,w,L2,rfl,by omega,aO _,mC,fk.step nn jx,jx.trans fk.1 vx,by omega,by rw[sR];exact dM⟩
 .rw[aD (show ¬(i:Int)<16 by omega),af]
  rw[ke (by omega)]at dM;exact aN u dM.symm t Lu dL fk jx
theorem Zwn (n:Nat) (hK:Bz K) (hW:Wk K s v L) (hl:v.aK.length<1000) (hn:190<=n):
  Ok (qO K s L (pO K v) []) (run Bd n 226 [.ptr (some (K.w,0))] s):=by
 obtain⟨n,rfl⟩: ∃k,n=k+2:=⟨n-2,by omega⟩;rw[Ze,h.abP];unfold NV ji Zm cM tm Q_ cH C_ Li mZ Lb pO;simp only[fV,aq,Za,aZ];obtain⟨z1,p1,z2,p2,z3,p3,z4,p4,hd,hW⟩:=hW;rw[Zo hW.cell rfl];simp only[aX];cases hu:(K.sup.used==0)with
 |true=>
  rw[ae,ae,Zd];exact .mk ⟨s,L,rfl,hW.wk,.refl L s,.refl L s⟩
 |false=>
  rw[af,af,Zo hW.cell rfl];simp only[aX];have lC:=ZoU (n-1) K.sup.used s;rw[show n-1+2=n+1 by omega]at lC;rw[Zk lC];simp only[av,aq];rw[Zo hW.cell rfl];simp only[aX];generalize zT K.sup.used=cK;refine Ok.uZ (hW.take h (n+1) K.sup.bY hK.m hK.El hK.len (by omega)) ?_ ?_
  .intro s' hp
   cases ht:dP K K.sup.bY v with
   |none=>rw[ht]at hp;cases hp;exact⟨s,rfl,.refl L s⟩
   |some q=>rw[ht]at hp;grind
  intro ds s1 hp;cases ht:dP K K.sup.bY v with
  |none=>rw[ht]at hp;cases hp
  |some q=>
   obtain⟨b,v1⟩:=q;rw[ht]at hp;obtain⟨d,s2,e,iw,cF,hb⟩:=hp;cases e;have xp:=(sv ht).1;have oR:Fx L s s1:=cF.mono λy hy=>by rw[cx.1 hy];exact hW.vK
   simp only[Bt,aq];cases b with
   |node x=>obtain⟨p,rfl,_⟩:=hb;exact .mk ⟨s1,rfl,oR⟩
   |leaf x=>obtain⟨rfl,_⟩:=hb;exact .mk ⟨s1,rfl,oR⟩
   |queue x=>obtain⟨rfl,_⟩:=hb;exact .mk ⟨s1,rfl,oR⟩
   |dir x=>obtain⟨p,rfl,_⟩:=hb;exact .mk ⟨s1,rfl,oR⟩
   |none=>cases hb;exact .mk ⟨s1,rfl,oR⟩
   |bY x=>
    obtain⟨rfl,hx⟩:=hb;have hlen:(ints x).length=16:=by simp[ints,hx]
    show Ok (qO K s L (oM K cK 0 x v1) []) (bu (ints x) 16 _ _);obtain⟨R,hR⟩: ∃R,oM K cK 0 x v1=R:=⟨_,rfl⟩;rw[hR,bD hlen,show(ints x).take 16=ints x from dH (by omega)];refine Zj _ (λq y t=>∃(i:Nat) (u:bg) (Lu:al),y=[.int .i64 i]/\i<=16/\16-i<=q/\Wk K t u Lu/\Fx L s t/\Nw L s Lu/\u.aK.length<=v.aK.length+112*i/\oM K cK i (x.drop i) u=R) ?_ 16 (n+1) _ _ ⟨0,v1,L,rfl,by omega,by omega,iw.wk,oR,.refl L s,by rw[xp];omega,by simpa using hR⟩ (by omega);rintro q _ t ⟨i,u,Lu,rfl,hi,hq,dL,fk,jx,xo,aN⟩ rec aQ;simp only[av,aq];by_cases ax:i<16
    .have fE:x.drop i=(x[i]'(by omega))::x.drop (i+1):=iC (by omega)
     rw[fE]at aN;rw[aw (show(i:Int)<16 by omega),ae,Zb (show aP (i:Int) 16=true from Zi ax),br,cT,gW (ZA)];simp only[aX];generalize x[i]'(by omega)=y at aN;have cD:ar ((i:Int)*16)=(i:Int)*16:=Zc;have j6:ar ((i:Int)+1)=((i+1:Nat):Int):=Zc;have sR:((i+1:Nat):Int)=(i:Int)+1:=by omega
     rw[show decide (ar ((i:Int)*16)<cK)=decide ((i:Int)*16<cK) by rw[cD]];unfold oM at aN;cases h1:((!(y==0))==decide ((i:Int)*16<cK))with
     |false=>
      rw[h1,af]at aN;rw[Z5 h n rfl,<-aN];exact .mk ⟨t,rfl,fk⟩
     |true=>
      rw[h1,ae]at aN;rw[sr h n rfl];simp only[aq];cases h2:(y==0)with
      |true=>
       rw[h2,ae]at aN;rw[ae,j6];exact aQ (16-(i+1)) _ _ (by omega) (by grind)
      |false=>
       rw[h2,af]at aN;rw[af];obtain⟨z1,p1,z2,p2,z3,p3,z4,p4,hd,dL⟩:=dL;refine Ok.uZ (dL.take h (n+1) y hK.m hK.El hK.len (by omega)) ?_ ?_
       .intro s' hp
        cases ht:dP K y u with
        |none=>rw[ht]at hp aN;cases hp;rw[<-aN];exact⟨t,rfl,fk⟩
        |some q=>rw[ht]at hp;grind
       intro ds t1 hp;cases ht:dP K y u with
       |none=>rw[ht]at hp;cases hp
       |some q=>
        obtain⟨b,u1⟩:=q;rw[ht]at hp aN;obtain⟨d,s2,e,mC,fF,hb⟩:=hp;cases e;have yL:=(sv ht).1;have ry:Fx L s t1:=fk.step (fF.mono (T':=Lu) λy hy=>by rw[cx.1 hy];exact dL.vK) jx;simp only[Bt,aq];cases b with
        |node x=>obtain⟨p,rfl,_⟩:=hb;rw[<-aN];exact .mk ⟨t1,rfl,ry⟩
        |leaf x=>obtain⟨rfl,_⟩:=hb;rw[<-aN];exact .mk ⟨t1,rfl,ry⟩
        |queue x=>obtain⟨rfl,_⟩:=hb;rw[<-aN];exact .mk ⟨t1,rfl,ry⟩
        |dir x=>obtain⟨p,rfl,_⟩:=hb;rw[<-aN];exact .mk ⟨t1,rfl,ry⟩
        |none=>cases hb;rw[<-aN];exact .mk ⟨t1,rfl,ry⟩
        |bY x2=>
         obtain⟨rfl,CK⟩:=hb;have EX:(ints x2).length=16:=by simp[ints,CK]
         show Ok _ (bu (ints x2) 16 _ _);rw[bD EX];refine Zxh h h (n+1) hK cK i ax x2 CK (by omega) s L t1 Lu u1 mC.wk ry jx (by rw[yL];omega) R (rec [.int .i64 (ar ((i:Int)+1))]) ?_ ?_
         .intro w hw t2 Lw hWw Ma gM
          have gS:=Qr hw;simp only at aN;rw[hw]at aN;rw[j6];refine aQ (16-(i+1)) _ _ (by omega) ⟨i+1,w,Lw,rfl,by omega,aO _,hWw,Ma,gM,?_,by rw[sR];exact aN⟩;rw[yL]at gS;omega
         grind
    .rw[aD (show ¬(i:Int)<16 by omega),af]
     rw[ke (by omega)]at aN;rw[Zd,<-aN];exact .mk ⟨t,Lu,rfl,dL,fk,jx⟩
theorem Rw {B:al} (h:(A++(B++C)).Nodup): ∀y∈A++C,y∉B:=by
 rw[uI,uI]at h;grind
theorem dV.afJ (h:dV K s v L z1 p1 z2 p2 z3 p3 z4 p4 hd) (x:Int) (hl:v.free.length<1000000):
  ∃b s1 s2 L',(∀Kc:ai->M β,(cd [DV.int .i64 x] λi=>bQ i 0 1 λcs'=>cj 1 p4 v.free.length cs' 1 8796093022208 Kc) s=Kc (some (b,0)) s1)/\
   (∀Kc:M β,eI K.w 17 [.slice 1 (some (b,0)) (v.free.length+1)] Kc s1=Kc s2)/\dV K s2 { v with free:=v.free++[x] } L' z1 p1 z2 p2 z3 p3 1 (some (b,0)) (hd)/\Fx L s s2/\Nw L s L'/\Fx (K.w::aM p4) s s2:=by
 obtain⟨b,s1,hb,ho,cF,he⟩:=xZ (β:=β) (lim:=8796093022208) h.o4 (sz:=1) (n:=v.free.length) [DV.int .i64 x] (by omega) (by simp[ints]) rfl;have dI:=h.ne;have cD:=cF.2 K.w _ (by grind) h.cell;have Cg: ∀x∈aM p4,x∈L:=λx hx=>by rw[h.own];simp[hx]
 let L':=K.w::K.i::K.j::(aM p1++(aM p2++(aM p3++aM (some (b,0)))))
 let S':=s1.set K.w (some ⟨false,qE K { v with free:=v.free++[x] } (dz z1 p1 v.aK.length) (dz z2 p2 v.aS.length) (dz z3 p3 v.aG.length) (dz 1 (some (b,0)) (v.free.length+1))⟩)
 have fF:Fx L s S':=
  (cF.mono Cg).trans ((Fx.set s1 K.w _).mono λy hy=>by rw[cx.1 hy];exact h.CX)
 have jw:((K.w::K.i::K.j::(aM p1++(aM p2++aM p3)))++(aM p4++([]:al))).Nodup:=by
  have:=h.nodup;rw[h.own]at this;grind
 have H0: ∀y∈(K.w::K.i::K.j::(aM p1++(aM p2++aM p3)))++(aM p4++([]:al)),y<s.length:=λy hy=>h.lt y (by
  rw[h.own];grind)
 have CA:L'.Nodup:=by
  have:=J8 jw H0 hb;show(K.w::K.i::K.j::(aM p1++(aM p2++(aM p3++aM (some (b,0)))))).Nodup;simpa only[fA,mU,iL,gA,aM]using this
 have gM:Nw L s L':=λy hy=>by
  have CM:y∈K.w::K.i::K.j::(aM p1++(aM p2++(aM p3++aM (some (b,0))))):=hy;rw[h.own];by_cases e:y=b
  .exact .inr (by omega)
  .refine .inl ?_
   simp only[dW,gU,aM,List.mem_nil_iff,oB]at CM⊢;grind
 have fe:Fx (K.w::aM p4) s S':=
  ⟨fF.1,λy c hy hc=>by
   simp only[dW,not_or]at hy;show(s1.set K.w _)[y]? =_;rw[kJ (by omega)];exact cF.2 y c hy.2 hc⟩
 have H3:=Rw jw;have jb: ∀y,y∈aM p1++(aM p2++aM p3)->y∉K.w::aM p4:=λy hy hm=>by
  rcases dW.1 hm with e|e
  .grind
  .exact H3 y (by grind) e
 have ua:b≠K.w:=λe=>by have:=(eK.1 h.cell).1;omega
 refine⟨b,s1,S',L',he,λKc=>?_,⟨?_,h.e1,h.e2,h.e3,.inl rfl,?_,?_,?_,?_,?_,?_,?_,?_,rfl,CA⟩,fF,gM,fe⟩
 .rw[uR cD (by show 17<19;omega)]
  rfl
 .show(s1.set K.w _)[K.w]? =_
  rw[mc (by have:=(eK.1 cD).1;exact this),bA];rfl
 .exact h.o1.fx fe λy hy=>jb y (by simp[hy])
 .exact h.o2.fx fe λy hy=>jb y (by simp[hy])
 .exact h.o3.fx fe λy hy=>jb y (by simp[hy])
 .rw[show ints (v.free++[x])=ints v.free++[.int .i64 x] by unfold ints;rw[fB];rfl]
  exact(show bn [] s1 (some (b,0)) _ from ho).fx (Fx.set s1 K.w _) (λy hy=>by
   rw[cx.1 hy,cx];exact ua)
 .exact h.aS.fx fF gM
 .exact h.set.fx fe (λhm=>by
   grind) (λhm=>by
   grind)
 .exact Sl.fx h.img fF h.off
 .exact h.off.new h.img gM
theorem dV.afK (h:dV K s v L z1 p1 z2 p2 z3 p3 z4 p4 hd) (x:Int) (hl:v.aG.length<1000000):
  ∃b s1 s2 L',(∀Kc:ai->M β,(cd [DV.int .i64 x] λi=>bQ i 0 1 λcs'=>cj 1 p3 v.aG.length cs' 1 8796093022208 Kc) s=Kc (some (b,0)) s1)/\
   (∀Kc:M β,eI K.w 16 [.slice 1 (some (b,0)) (v.aG.length+1)] Kc s1=Kc s2)/\dV K s2 { v with aG:=v.aG++[x] } L' z1 p1 z2 p2 1 (some (b,0)) z4 p4 (hd)/\Fx L s s2/\Nw L s L'/\Fx (K.w::aM p3) s s2:=by
 obtain⟨b,s1,hb,ho,cF,he⟩:=xZ (β:=β) (lim:=8796093022208) h.o3 (sz:=1) (n:=v.aG.length) [DV.int .i64 x] (by omega) (by simp[ints]) rfl;have dI:=h.ne;have cD:=cF.2 K.w _ (by grind) h.cell;have Cg: ∀x∈aM p3,x∈L:=λx hx=>by rw[h.own];simp[hx]
 let L':=K.w::K.i::K.j::(aM p1++(aM p2++(aM (some (b,0))++aM p4)))
 let S':=s1.set K.w (some ⟨false,qE K { v with aG:=v.aG++[x] } (dz z1 p1 v.aK.length) (dz z2 p2 v.aS.length) (dz 1 (some (b,0)) (v.aG.length+1)) (dz z4 p4 v.free.length)⟩)
 have fF:Fx L s S':=
  (cF.mono Cg).trans ((Fx.set s1 K.w _).mono λy hy=>by rw[cx.1 hy];exact h.CX)
 have jw:((K.w::K.i::K.j::(aM p1++aM p2))++(aM p3++aM p4)).Nodup:=by
  have:=h.nodup;rw[h.own]at this;grind
 have H0: ∀y∈(K.w::K.i::K.j::(aM p1++aM p2))++(aM p3++aM p4),y<s.length:=λy hy=>h.lt y (by
  rw[h.own];grind)
 have CA:L'.Nodup:=by
  have:=J8 jw H0 hb;show(K.w::K.i::K.j::(aM p1++(aM p2++(aM (some (b,0))++aM p4)))).Nodup;simpa only[fA,mU,iL,gA,aM]using this
 have gM:Nw L s L':=λy hy=>by
  have CM:y∈K.w::K.i::K.j::(aM p1++(aM p2++(aM (some (b,0))++aM p4))):=hy;rw[h.own];by_cases e:y=b
  .exact .inr (by omega)
  .refine .inl ?_
   simp only[dW,gU,aM,List.mem_nil_iff,oB]at CM⊢;grind
 have fe:Fx (K.w::aM p3) s S':=
  ⟨fF.1,λy c hy hc=>by
   simp only[dW,not_or]at hy;show(s1.set K.w _)[y]? =_;rw[kJ (by omega)];exact cF.2 y c hy.2 hc⟩
 have H3:=Rw jw;have jb: ∀y,y∈aM p1++(aM p2++aM p4)->y∉K.w::aM p3:=λy hy hm=>by
  rcases dW.1 hm with e|e
  .grind
  .exact H3 y (by simp only[gU,dW]at hy⊢;rcases hy with e|e|e<;>simp[e]) e
 have ua:b≠K.w:=λe=>by have:=(eK.1 h.cell).1;omega
 refine⟨b,s1,S',L',he,λKc=>?_,⟨?_,h.e1,h.e2,.inl rfl,h.e4,?_,?_,?_,?_,?_,?_,?_,?_,rfl,CA⟩,fF,gM,fe⟩
 .rw[uR cD (by show 16<19;omega)]
  rfl
 .show(s1.set K.w _)[K.w]? =_
  rw[mc (by have:=(eK.1 cD).1;exact this),bA];rfl
 .exact h.o1.fx fe λy hy=>jb y (by simp[hy])
 .exact h.o2.fx fe λy hy=>jb y (by simp[hy])
 .rw[show ints (v.aG++[x])=ints v.aG++[.int .i64 x] by unfold ints;rw[fB];rfl]
  exact(show bn [] s1 (some (b,0)) _ from ho).fx (Fx.set s1 K.w _) (λy hy=>by
   rw[cx.1 hy,cx];exact ua)
 .exact h.o4.fx fe λy hy=>jb y (by simp[hy])
 .exact h.aS.fx fF gM
 .exact h.set.fx fe (λhm=>by
   rcases dW.1 hm with e|e
   .exact dI.1 e.symm
   .exact(dI.2.2.2 K.i (by simp only[gU];grind)).2.1 rfl) (λhm=>by
   rcases dW.1 hm with e|e
   .exact dI.2.1 e.symm
   .exact(dI.2.2.2 K.j (by simp only[gU];grind)).2.2 rfl)
 .exact Sl.fx h.img fF h.off
 .exact h.off.new h.img gM
theorem dV.afL (h:dV K s v L z1 p1 z2 p2 z3 p3 z4 p4 hd) (x:di) (hl:v.aS.length<1000000) {p:ai} (hz:z=4\/p=none) (hs:Sl s p (bK x.bS)) (Mz:lr L p):
  ∃b s1 s2 L',(∀Kc:ai->M β,(cd (ju x z p) λi=>bQ i 0 2 λcs'=>cj 2 p2 v.aS.length cs' 1 1759218604441 Kc) s=Kc (some (b,0)) s1)/\
   (∀Kc:M β,eI K.w 15 [.slice 2 (some (b,0)) (v.aS.length+1)] Kc s1=Kc s2)/\dV K s2 { v with aS:=v.aS++[x] } L' z1 p1 2 (some (b,0)) z3 p3 z4 p4 (hd++ju x z p)/\Fx L s s2/\Nw L s L'/\Fx (K.w::aM p2) s s2:=by
 obtain⟨b,s1,hb,ho,cF,he⟩:=xZ (β:=β) (lim:=1759218604441) h.o2 (sz:=2) (n:=v.aS.length) (ju x z p) (by omega) h.aS.aS.len rfl;have dI:=h.ne;have cD:=cF.2 K.w _ (by grind) h.cell;have Cg: ∀x∈aM p2,x∈L:=λx hx=>by rw[h.own];simp[hx]
 let L':=K.w::K.i::K.j::(aM p1++(aM (some (b,0))++(aM p3++aM p4)))
 let S':=s1.set K.w (some ⟨false,qE K { v with aS:=v.aS++[x] } (dz z1 p1 v.aK.length) (dz 2 (some (b,0)) (v.aS.length+1)) (dz z3 p3 v.aG.length) (dz z4 p4 v.free.length)⟩)
 have fF:Fx L s S':=
  (cF.mono Cg).trans ((Fx.set s1 K.w _).mono λy hy=>by rw[cx.1 hy];exact h.CX)
 have jw:((K.w::K.i::K.j::aM p1)++(aM p2++(aM p3++aM p4))).Nodup:=by
  have:=h.nodup;rw[h.own]at this;grind
 have H0: ∀y∈(K.w::K.i::K.j::aM p1)++(aM p2++(aM p3++aM p4)),y<s.length:=λy hy=>h.lt y (by
  rw[h.own];grind)
 have CA:L'.Nodup:=by
  have:=J8 jw H0 hb;show(K.w::K.i::K.j::(aM p1++(aM (some (b,0))++(aM p3++aM p4)))).Nodup;simpa only[fA,mU,iL,gA,aM]using this
 have gM:Nw L s L':=λy hy=>by
  have CM:y∈K.w::K.i::K.j::(aM p1++(aM (some (b,0))++(aM p3++aM p4))):=hy;rw[h.own];by_cases e:y=b
  .exact .inr (by omega)
  .refine .inl ?_
   simp only[dW,gU,aM,List.mem_nil_iff,oB]at CM⊢;grind
 have fe:Fx (K.w::aM p2) s S':=
  ⟨fF.1,λy c hy hc=>by
   simp only[dW,not_or]at hy;show(s1.set K.w _)[y]? =_;rw[kJ (by omega)];exact cF.2 y c hy.2 hc⟩
 have H3:=Rw jw;have jb: ∀y,y∈aM p1++(aM p3++aM p4)->y∉K.w::aM p2:=λy hy hm=>by
  rcases dW.1 hm with e|e
  .grind
  .exact H3 y (by simp only[gU,dW]at hy⊢;rcases hy with e|e|e<;>simp[e]) e
 have ua:b≠K.w:=λe=>by have:=(eK.1 h.cell).1;omega
 refine⟨b,s1,S',L',he,λKc=>?_,⟨?_,h.e1,.inl rfl,h.e3,h.e4,?_,?_,?_,?_,?_,?_,?_,?_,rfl,CA⟩,fF,gM,fe⟩
 .rw[uR cD (by show 15<19;omega)]
  rfl
 .show(s1.set K.w _)[K.w]? =_
  rw[mc (by have:=(eK.1 cD).1;exact this),bA];rfl
 .exact h.o1.fx fe λy hy=>jb y (by simp[hy])
 .skip
  exact(show bn [] s1 (some (b,0)) _ from ho).fx (Fx.set s1 K.w _) (λy hy=>by
   rw[cx.1 hy,cx];exact ua)
 .exact h.o3.fx fe λy hy=>jb y (by simp[hy])
 .exact h.o4.fx fe λy hy=>jb y (by simp[hy])
 .exact(h.aS.fx fF gM).push hz (hs.fx fF Mz) (Mz.new hs gM)
 .exact h.set.fx fe (λhm=>by
   grind) (λhm=>by
   grind)
 .exact Sl.fx h.img fF h.off
 .exact h.off.new h.img gM
def sw (K:bR) (v:bg) (k:Int):Prop:=(v.aK.length:Int)=(if k<=K.sup.used then k else K.sup.used)/\∀x∈v.aK,ZM x=true
theorem Zsx {x:bw} (hx:ZM x=true) (_h0:0<=K.sup.used) (h:qS K k x v=some v') (ha:sw K v k):sw K v' (k+1):=by
 unfold qS at h;by_cases hk:k>=K.sup.used
 .rw[aw hk,ae]at h
  cases h2:nh x with
  |false=>rw[h2]at h;cases h
  |true=>
   rw[h2]at h;cases h;refine⟨?_,ha.2⟩;rw[ha.1];split<;>split<;>omega
 .rw[aD hk,af]at h
  cases h2:tM K.sup x with
  |false=>rw[h2]at h;cases h
  |true=>
   rw[h2]at h;cases h;refine⟨?_,λy hy=>?_⟩
   .have:=ha.1
    rw[bG (by omega)]at this;rw[bG (by omega)];simp;omega
   .rcases gU.1 hy with h|h
    .exact ha.2 y h
    grind
theorem ZpF {K:bR} (h0:0<=K.sup.used): ∀ {x:List bw} {k:Int} {v v':bg},(∀y∈x,ZM y=true)->nQ K k x v=some v'->sw K v k->sw K v' (k+x.length)
 |[],k,_,_,_,h,ha=>by cases h;simpa using ha
 |y::r,k,v,v',hr,h,ha=>by
  unfold nQ at h;cases h1:qS K k y v with
  |none=>rw[h1]at h;cases h
  |some w=>
   rw[h1]at h;have:=ZpF h0 (by grind) h (Zsx (hr y (by simp)) h0 h1 ha);rwa [show k+((y::r).length:Int)=k+1+r.length by simp;omega]
theorem Zqd {x:List bw} (h:ZJ l=some x): ∀y∈x,ZM y=true:=by
 grind[ZJ]
theorem Zrs {x:List bw} (h:ZX l= .leaf x): ∀y∈x,ZM y=true:=by
 unfold ZX at h;split at h
 .cases h
 .split at h
  .rename_i e;cases h;exact Zqd e
  grind
theorem Zv8 (h0:0<=K.sup.used) (h:nx K k slot v=some v') (ha:sw K v slot):sw K v' (slot+7):=by
 unfold nx at h;cases ht:dP K k v with
 |none=>rw[ht]at h;cases h
 |some q=>
  obtain⟨b,v1⟩:=q;rw[ht]at h;obtain⟨h1,_,_,_,_,h2⟩:=sv ht;cases b with
  |leaf x=>
   have:=ZpF h0 (Zrs h2.symm) h (by grind[sw]);rwa [ZmB h2.symm]at this
  |node x=>cases h
  |bY x=>cases h
  |queue x=>cases h
  |dir x=>cases h
  |none=>cases h
theorem Rl {K:bR} (h0:0<=K.sup.used) {cK x5:Int} (hc:K.sup.used<=cK*7): ∀ {x:ak} {k:Int} {v v':bg},kR K cK x5 k x v=some v'->sw K v ((x5*16+k)*7)->sw K v' ((x5*16+k+x.length)*7)
 |[],_,_,_,h,ha=>by cases h;simpa using ha
 |y::r,k,v,v',h,ha=>by
  unfold kR at h;have e:(x5*16+k+((y::r).length:Int))*7=(x5*16+(k+1)+r.length)*7:=by simp;omega
  rw[e];cases h1:((!(y==0))==decide (x5*16+k<cK))with
  |false=>rw[h1]at h;cases h
  |true=>
   rw[h1,ae]at h;cases h2:(!(y==0))with
   |false=>
    rw[h2]at h h1;have hk: ¬(x5*16+k<cK):=by
     grind
    refine Rl h0 hc h ⟨?_,ha.2⟩;rw[ha.1];split<;>split<;>omega
   |true=>
    rw[h2,ae]at h;cases h3:nx K y ((x5*16+k)*7) v with
    |none=>rw[h3]at h;cases h
    |some w=>
     rw[h3]at h;have:=Zv8 h0 h3 ha;rw[show(x5*16+k)*7+7=(x5*16+(k+1))*7 by omega]at this;exact Rl h0 hc h this
theorem Qp {x:ak} (h:Z3 l=some x):x.length=16:=by
 unfold Z3 at h;split at h
 .cases h
 .rename_i k t b _
  cases e:(decide (k=3)&&(decide (t=0)&&ZG (b.drop 32)))with
  |false=>rw[e]at h;cases h
  |true=>
   rw[e]at h;cases e2:zL (dK b 16)with
   |false=>rw[e2]at h;cases h
   |true=>rw[e2]at h;cases h;exact nN b 16
theorem Zn4 {x:ak} (h:ZX l= .bY x):x.length=16:=by
 unfold ZX at h;split at h
 .cases h
 .split at h
  .cases h
  .split at h
   .rename_i e;cases h;exact Qp e
   grind
theorem RA {K:bR} (h0:0<=K.sup.used) {cK:Int} (hc:K.sup.used<=cK*7): ∀ {x:ak} {k:Int} {v v':bg},oM K cK k x v=some v'->sw K v (k*112)->sw K v' ((k+x.length)*112)
 |[],_,_,_,h,ha=>by cases h;simpa using ha
 |y::r,k,v,v',h,ha=>by
  unfold oM at h;have e:(k+((y::r).length:Int))*112=(k+1+r.length)*112:=by simp;omega
  rw[e];cases h1:((!(y==0))==decide (k*16<cK))with
  |false=>rw[h1]at h;cases h
  |true=>
   rw[h1,ae]at h;cases h2:(y==0)with
   |true=>
    rw[h2]at h h1;have hk: ¬(k*16<cK):=by
     grind
    refine RA h0 hc h ⟨?_,ha.2⟩;rw[ha.1];split<;>split<;>omega
   |false=>
    rw[h2,af]at h;cases ht:dP K y v with
    |none=>rw[ht]at h;cases h
    |some q=>
     obtain⟨b,v1⟩:=q;rw[ht]at h;obtain⟨g1,_,_,_,_,g2⟩:=sv ht;cases b with
     |leaf x=>cases h
     |node x=>cases h
     |queue x=>cases h
     |dir x=>cases h
     |none=>cases h
     |bY x2=>
      simp only at h;cases h3:kR K cK k 0 x2 v1 with
      |none=>rw[h3]at h;cases h
      |some w=>
       rw[h3]at h;have hb:=Zn4 g2.symm;have:=Rl h0 hc h3 (by grind[sw]);rw[hb,show(k*16+0+((16:Nat):Int))*7=(k+1)*112 by omega]at this;exact RA h0 hc h this
theorem Zt5 (h0:0<=u) (h1:u<=1792):u<=zT u*7:=by
 unfold zT pD;rw[aw (show u>=0 from h0),aw h1,y9,ae,Zc (x:=u+7),Zc (x:=u+7-1)];obtain⟨k,rfl⟩: ∃k:Nat,u=k:=⟨u.toNat,by omega⟩;rw[show(((k:Nat):Int)+7-1)=((k+6:Nat):Int) by omega,show(((k+6:Nat):Int).tdiv 7)=(((k+6)/7:Nat):Int)from rfl,Zc];omega
theorem Zup (h0:0<=K.sup.used) (h1:K.sup.used<=1792) (hv:v.aK=[]) (h:pO K v=some v'):(v'.aK.length:Int)=K.sup.used/\∀x∈v'.aK,ZM x=true:=by
 unfold pO at h;cases hu:(K.sup.used==0)with
 |true=>
  rw[hu]at h;grind
 |false=>
  rw[hu,af]at h;cases ht:dP K K.sup.bY v with
  |none=>rw[ht]at h;cases h
  |some q=>
   obtain⟨b,v1⟩:=q;rw[ht]at h;obtain⟨g1,_,_,_,_,g2⟩:=sv ht;cases b with
   |leaf x=>cases h
   |node x=>cases h
   |queue x=>cases h
   |dir x=>cases h
   |none=>cases h
   |bY x=>
    have:=RA h0 (Zt5 h0 h1) h (by grind[sw]);rw[Zn4 g2.symm]at this;have h2:=this.1;refine⟨?_,this.2⟩;rw[h2];split<;>omega
def qT (K:bR):Nat->List Bool->Int->bg->Option (List Bool×bg)
 |0,_,_,_=>none
 |f+1,fl,next,v=>bif next==0 then some (fl,v)else(bif decide (next<=K.sup.used)then
   (match v.aK[(next-1).toNat]? with
   |none=>none
   |some x=>bif (bif (bif !x.live then decide (x.gen<K.sup.g)else false)then !fl.getD (next-1).toNat false else false)then qT K f (fl.set (next-1).toNat true) x.block { v with free:=v.free++[next-1] } else none)
  else none)
def Ee (K:bR) (b:Bool) (x:bw):Bool:=bif (bif x.live then true else x.gen==K.sup.g)then true else b
def uT (K:bR):List Bool->List bw->Bool
 |_,[]=>true
 |fl,x::r=>Ee K (fl.getD 0 false) x&&uT K (fl.drop 1) r
def BW (K:bR):Option (List Bool×bg)->Option bg
 |none=>none
 |some (fl,v)=>bif uT K fl v.aK then some v else none
def tY (K:bR) (v:bg):Option bg:=BW K (qT K (K.sup.used.toNat+1) (List.replicate K.sup.used.toNat false) K.sup.free v)
theorem ZuG: ∀ {l:List Bool} {k:Nat},l.getD k true=false->(l.set k true).count false+1=l.count false
 |[],k,h=>by simp at h
 |b::l,0,h=>by
  grind
 |b::l,k+1,h=>by
  grind
theorem bn.cB {a:ai} (h:bn [] s a cs) (hn:0<cs.length): ∃b,a=some (b,0)/\s[b]? =some (some ⟨false,cs⟩):=by
 rcases h.2 with⟨_,rfl⟩|⟨i,rfl,_,h3⟩
 .cases hn
 grind
theorem JY {b:Nat} {l:List bw} {x:bw} {k:Nat} (h:s[b]? =some (some ⟨false,bP l⟩)) (hx:l[k]? =some x) (Kc:ah->M β):bQ b (k*3+0) 3 Kc s=Kc (ee x) s:=by
 have hk:k<l.length:=by grind
 rw[gV,ko h (by rw[Zx];omega),Kd hx]
theorem Zxq {Bd:Zh} (hM:HA Bd) (n:Nat) (i1:Nat) (fl:List Bool) (s0:St) (L0:al) (R:Option bg) (hW:Wk K s v L) (hf:s[i1]? =some (some ⟨false,fl.map .bool⟩)) (hl:fl.length=v.aK.length) (hlen:v.aK.length<2000) (cF:Fx L0 s0 s) (gM:Nw L0 s0 L) (hR:BW K (some (fl,v))=R) (X:Nat) (hX:X=v.aK.length) (hn:2010<=n):
  Ok (qO K s0 L0 R []) ((bJ (some (K.w,0)) λi3 o2=>
  bF i3 (o2+11) λd2=>
  dB 3 d2 λx2 dc=>
  cI (λst=>
   aJ st<|
   ay []) λaI=>
  cW (λaU st=>
   aF .i64 st λx3 st=>
   aJ st<|
   bif decide (x3<(dc:Int))then
    bJ x2 λi4 o3=>
    aB (aP x3 dc)<|
    bQ i4 (x3.toNat*3+o3) 3 λcs=>
    gP cs λx4 r=>
    aF .i64 r λx5 r=>
    aF .i64 r λ_x6 r=>
    aJ r<|
    cI (λst=>gP st λb1 st=>aJ st<|
     cI (λst=>gP st λb2 st=>aJ st<|
      cY (run Bd n 225 [.bool b2]) λds=>
      aJ ds<|
      aU [.int .i64 (ar (x3+1))]) λbz=>
     bif b1 then
      bz [.bool true]
     else
      aB (aP x3 X)<|
      bF i1 (x3.toNat*1) λd3=>
      sJ d3 λx7=>
      bz [.bool x7]) λaR=>
    bif x4 then
     aR [.bool true]
    else
     bJ (some (K.w,0)) λi5 o4=>
     bF i5 (o4+4) λd4=>
     cP .i64 d4 λx8=>
     aR [.bool (x5==x8)]
   else
    aI []) n [.int .i64 0]) s):=by
 subst hX;obtain⟨n,rfl⟩: ∃k,n=k+1:=⟨n-1,by omega⟩;obtain⟨z1,p1,z2,p2,z3,p3,z4,p4,hd,hW⟩:=hW;rw[aZ,Zo hW.cell rfl];show Ok _ (dB 3 (.slice z1 p1 v.aK.length) _ s);rw[tF 3 z1 p1 _ hW.e1];simp only[Za];refine Zj _ (λq y t=>∃i:Nat,y=[.int .i64 i]/\i<=v.aK.length/\v.aK.length-i<=q/\t=s/\(bif uT K (fl.drop i) (v.aK.drop i)then some v else none)=R) ?_ v.aK.length (n+1) _ _ ⟨0,rfl,cE _,by omega,rfl,hR⟩ (by omega);rintro q _ t ⟨i,rfl,hi,hq,rfl,aN⟩ rec aQ;simp only[av,aq];by_cases ax:i<v.aK.length
 .obtain⟨b,rfl,hb⟩:=hW.o1.cB (by rw[Zx];omega)
  have lY:v.aK[i]? =some v.aK[i]:=cg ax;have fE:v.aK.drop i=v.aK[i]::v.aK.drop (i+1):=iC ax;have EP:fl[i]? =some (fl[i]'(by omega)):=by grind
  rw[aw (show(i:Int)<(v.aK.length:Int) by omega),ae,aZ,Zb (Zi ax),br,JY hb lY];rw[fE]at aN;unfold uT at aN;rw[kd,show(fl.drop i).getD 0 false=fl[i]'(by omega) by rw[dZ,Bl,gV,EP];rfl]at aN;generalize v.aK[i]=x at aN;unfold ee;simp only[au,av,aq,aZ];have j6:ar ((i:Int)+1)=((i+1:Nat):Int):=Zc;rw[j6];have mE:Ok (qO K s0 L0 R []) (cY (run Bd (n+1) 225 [.bool (Ee K (fl[i]'(by omega)) x)]) (λds=>aJ ds<|rec [.int .i64 ((i+1:Nat):Int)]) t):=by
   cases h0:Ee K (fl[i]'(by omega)) x with
   |true=>
    rw[h0,dx]at aN;rw[sr hM n rfl];simp only[aq];exact aQ (v.aK.length-(i+1)) _ _ (by omega) (by grind)
   |false=>
    rw[h0,fP,af]at aN;rw[Z5 hM n rfl,<-aN];exact .mk ⟨t,rfl,cF⟩
  unfold Ee at mE;have EY: ∀Kc:DV->M ah,bF i1 (i*1) Kc t=Kc (.bool (fl[i]'(by omega))) t:=λKc=>Zo hf (by rw[cT,xN,EP];rfl) Kc
  have sW: ∀Kc:DV->M ah,bF K.w (0+4) Kc t=Kc (.int .i64 K.sup.g) t:=λKc=>Zo hW.cell rfl Kc
  cases fg:x.live with
  |true=>
   grind
  |false=>
   simp only[fg,af]at mE;rw[af,sW];simp only[aX];cases hg:(x.gen==K.sup.g)with
   |true=>
    grind
   |false=>
    simp only[hg,af]at mE;rw[af,Zb (Zi ax),EY];simp only[tq];exact mE
 .rw[aD (show ¬(i:Int)<(v.aK.length:Int) by omega),af]
  rw[Zd];rw[ke (as:=v.aK) (by omega)]at aN;have yA:some v=R:=aN;rw[<-yA];exact .mk ⟨t,L,rfl,hW.wk,cF,gM⟩
theorem Zxn (n:Nat) (hW:Wk K s v L) (h0:0<=K.sup.used) (h1:K.sup.used<=1792) (xb:0<=K.sup.free) (hs:(v.aK.length:Int)=K.sup.used) (hr: ∀x∈v.aK,ZM x=true) (hh:v.aS=[]) (eO:v.free=[]) (hn:2100<=n):
  Ok (qO K s L (tY K v) []) (run Bd n 230 [.ptr (some (K.w,0))] s):=by
 obtain⟨n,rfl⟩: ∃k,n=k+2:=⟨n-2,by omega⟩;rw[Ze,h.abT];unfold NZ ji Zm Q_ cH N_ pP az C_ sE Lb Li bE tY;simp only[fV,aq];rw[aZ];obtain⟨z1,p1,z2,p2,z3,p3,z4,p4,hd,hW⟩:=hW;rw[Zo hW.cell rfl];simp only[aX];rw[Zb (by rw[aW,aW,bC,bC,bC];omega),Zz,D9];have yF:=aC.new s (some (⟨false,List.replicate K.sup.used.toNat (.bool false)⟩:bT));have Xz:(s++[some (⟨false,List.replicate K.sup.used.toNat (.bool false)⟩:bT)])[s.length]? =some (some ⟨false,(List.replicate K.sup.used.toNat false).map .bool⟩):=by simp
 have rp:=hW.pre yF;have Xs:=rp.cell;generalize s++[some (⟨false,List.replicate K.sup.used.toNat (.bool false)⟩:bT)]=s0 at yF Xz rp Xs;rw[aZ,Zo Xs rfl];simp only[aX];rw[Za];obtain⟨R,hR⟩: ∃R,BW K (qT K (K.sup.used.toNat+1) (List.replicate K.sup.used.toNat false) K.sup.free v)=R:=⟨_,rfl⟩;rw[hR];have hX:K.sup.used.toNat=v.aK.length:=by omega
 have HR:s.length∉L:=λhm=>by have:=hW.lt _ hm;omega
 refine Zj _ (λq y t=>∃(f:Nat) (fl:List Bool) (next:Int) (u:bg) (Lu:al),y=[.int .i64 next]/\0<=next/\fl.length=v.aK.length/\fl.count false<=q/\fl.count false<f/\Wk K t u Lu/\u.aK=v.aK/\u.aS=[]/\u.free.length+fl.count false<=v.aK.length/\t[s.length]? =some (some ⟨false,fl.map .bool⟩)/\s.length∉Lu/\Fx L s t/\Nw L s Lu/\BW K (qT K f fl next u)=R) ?_ v.aK.length (n+1) _ _ ⟨K.sup.used.toNat+1,_,K.sup.free,v,L,rfl,xb,by simp[hX],by simp[hX],by simp,rp.wk,rfl,hh,by simp[eO,hX],Xz,HR,Fx.pre L yF,.refl L s,hR⟩ (by omega);rintro q _ t ⟨f,fl,next,u,Lu,rfl,E8,ew,hcq,ub,dL,kY,sY,huf,vp,hiL,cF,gM,aN⟩ rec aQ;simp only[av,aq];obtain⟨f,rfl⟩: ∃k,f=k+1:=⟨f-1,by omega⟩;unfold qT at aN;cases hz:(next==0)with
 |true=>
  rw[hz,ae]at aN;rw[bp,af];exact Zxq h (n+1) s.length fl s L R dL vp (by rw[kY];exact ew) (by rw[kY];omega) cF gM aN K.sup.used.toNat (by rw[kY];exact hX) (by omega)
 |false=>
  rw[hz,af]at aN;rw[bm,ae];have Cy:next≠0:=by grind
  obtain⟨z1,p1,z2,p2,z3,p3,z4,p4,hd,dL⟩:=dL;rw[aZ,Zo dL.cell rfl];simp only[aX];cases hle:decide (next<=K.sup.used)with
  |false=>
   rw[hle,af]at aN;rw[Z5 h n rfl];have yA:none=R:=aN;rw[<-yA];exact .mk ⟨t,rfl,cF⟩
  |true=>
   have agM:=qL hle;rw[hle,ae]at aN;rw[sr h n rfl];simp only[aq];obtain⟨k,hk⟩: ∃k:Nat,next-1=k:=⟨(next-1).toNat,by omega⟩;have gE:k<u.aK.length:=by rw[kY];omega
   have cD:ar (next-1)=(k:Int):=by rw[Zc,hk]
   rw[hk,br]at aN;simp only[cD,br];rw[aZ,Zo dL.cell rfl];show Ok _ (dB 3 (.slice z1 p1 u.aK.length) _ t);rw[tF 3 z1 p1 _ dL.e1];obtain⟨b,rfl,hb⟩:=dL.o1.cB (by rw[Zx];omega);have lY:u.aK[k]? =some u.aK[k]:=cg gE;have Fk:=hr u.aK[k] (by rw[<-kY];grind);rw[aZ,Zb (Zi gE),JY hb lY];rw[lY]at aN;simp only at aN;generalize u.aK[k]=x at aN Fk;unfold ee;simp only[au,av,aq,Za,aZ];have Ux:fl[k]? =some (fl[k]'(by omega)):=by grind
   rw[show fl.getD k false=fl[k]'(by omega) by rw[dZ,Ux];rfl]at aN;have sW: ∀Kc:DV->M ah,bF K.w (0+4) Kc t=Kc (.int .i64 K.sup.g) t:=λKc=>Zo dL.cell rfl Kc
   have EY: ∀Kc:DV->M ah,bF s.length (k*1) Kc t=Kc (.bool (fl[k]'(by omega))) t:=λKc=>Zo vp (by rw[cT,xN,Ux];rfl) Kc
   cases fg:x.live with
   |true=>
    simp only[fg,bp,af]at aN;rw[bp,af];simp only[af];rw[Z5 h n rfl];have yA:none=R:=aN;rw[<-yA];exact .mk ⟨t,rfl,cF⟩
   |false=>
    simp only[fg,bm,ae]at aN;rw[bm,ae,sW];simp only[aX];cases hg:decide (x.gen<K.sup.g)with
    |false=>
     simp only[hg,af]at aN;simp only[af];rw[Z5 h n rfl];have yA:none=R:=aN;rw[<-yA];exact .mk ⟨t,rfl,cF⟩
    |true=>
     simp only[hg,ae]at aN;simp only[ae];rw[hX,<-kY,Zb (Zi gE),EY];simp only[tq];cases Uy:fl[k]'(by omega)with
     |true=>
      simp only[Uy,bp,af]at aN;rw[bp,Z5 h n rfl];have yA:none=R:=aN;rw[<-yA];exact .mk ⟨t,rfl,cF⟩
     |false=>
      simp only[Uy,bm,ae]at aN;rw[bm,sr h n rfl];simp only[aq];rw[Zb (Zi gE),uR vp (by simp;omega)];have db:(fl.map DV.bool).set (k*1) (.bool true)=(fl.set k true).map DV.bool:=by rw[cT,List.map_set]
      rw[db];have UB:=Fx.set t s.length (some (⟨false,(fl.set k true).map DV.bool⟩:bT));have aeh:lr [s.length] K.a:=λb o e hm=>by
       have ax:=Sl.lt (e▸hW.img);rw[cx.1 hm]at ax;omega
      have LR:=dL.jy UB (by grind) aeh (by
       have:=dL.aS;rw[sY]at this⊢;exact this)
      have XB:(t.set s.length (some (⟨false,(fl.set k true).map DV.bool⟩:bT)))[s.length]? =some (some ⟨false,(fl.set k true).map .bool⟩):=by grind
      have UC:Fx L s (t.set s.length (some (⟨false,(fl.set k true).map DV.bool⟩:bT))):=cF.step UB λy hy=> .inr (by rw[cx.1 hy];exact aO _)
      generalize t.set s.length (some (⟨false,(fl.set k true).map DV.bool⟩:bT))=t1 at UB LR XB UC;rw[Zo LR.cell rfl];show Ok _ (dB 1 (.slice z4 p4 u.free.length) _ t1);rw[tF 1 z4 p4 _ LR.e4];have kU:=ZuG (l:=fl) (k:=k) (by rw[dZ,Ux,Uy];rfl);obtain⟨b2,t2,t3,L3,g1,g2,g3,g4,g5,g6⟩:=LR.afJ (β:=ah) (k:Int) (by omega);have agZ:s.length<t1.length:=by grind
      refine Eq.mpr (congrArg (Ok _) (g1 _)) ?_;refine Eq.mpr (congrArg (Ok _) (g2 _)) ?_;have hblk:0<=x.block:=by
       unfold ZM at Fk;rw[fg,af,aW,aW]at Fk;have h2:=Fk.2.1;unfold kO at h2;by_cases Au:x.block>=0
       .exact Au
       grind
      refine aQ ((fl.set k true).count false) _ _ (by omega) ⟨f,fl.set k true,x.block,_,L3,rfl,hblk,by simpa using ew,aO _,by omega,g3.wk,kY,sY,by simp;omega,?_,?_,UC.step g4 gM,gM.trans UC.1 g5,aN⟩
      .refine g4.2 _ _ hiL XB
      .intro hm
       rcases g5 _ hm with e|e
       .exact hiL e
       .omega
def uu (v:bg):bg:= { v with aG:=v.aG++v.aK.map (·.gen) }
def CW (v:bg):Nat:=(v.aK.filter (·.live)).length
theorem ZxD (n:Nat) (hW:Wk K s v L) (hl:v.aK.length<2000) (hg:v.aG.length<100000) (hn:2010<=n):
  Ok (λo=>∃s' L',o=(.val [.int .i64 (CW v:Nat)],s')/\Wk K s' (uu v) L'/\Fx L s s'/\Nw L s L') (run Bd n 234 [.ptr (some (K.w,0))] s):=by
 obtain⟨n,rfl⟩: ∃k,n=k+1:=⟨n-1,by omega⟩;rw[Ze,h.abX];unfold N1 ji nM gK N_ pP Li bE fW;simp only[fV,aq,aZ,Za];obtain⟨z1,p1,z2,p2,z3,p3,z4,p4,hd,hW⟩:=hW;rw[Zo hW.cell rfl];show Ok _ (dB 3 (.slice z1 p1 v.aK.length) _ s);rw[tF 3 z1 p1 _ hW.e1];refine Zj _ (λq y t=>∃(i:Nat) (z3:Nat) (p3:ai) (Lu:al),y=[.int .i64 (((v.aK.take i).filter (·.live)).length:Nat),.int .i64 i]/\i<=v.aK.length/\v.aK.length-i<=q/\dV K t { v with aG:=v.aG++(v.aK.take i).map (·.gen) } Lu z1 p1 z2 p2 z3 p3 z4 p4 hd/\Fx L s t/\Nw L s Lu) ?_ v.aK.length n _ _ ⟨0,z3,p3,L,rfl,cE _,by omega,by simpa using hW,.refl L s,.refl L s⟩ (by omega);rintro q _ t ⟨i,z3,p3,Lu,rfl,hi,hq,dL,fk,jx⟩ rec aQ;simp only[av,aq];by_cases ax:i<v.aK.length
 .obtain⟨b,rfl,hb⟩:=dL.o1.cB (by rw[Zx];grind)
  have lY:v.aK[i]? =some v.aK[i]:=cg ax;have fZ:v.aK.take (i+1)=v.aK.take i++[v.aK[i]]:=mV ax;rw[aw (show(i:Int)<(v.aK.length:Int) by omega),ae,aZ,Zb (Zi ax),br,JY hb lY];generalize v.aK[i]=x at fZ;unfold ee;simp only[au,av,aq];rw[Zo dL.cell rfl];show Ok _ (dB 1 (.slice z3 p3 (v.aG++(v.aK.take i).map (·.gen)).length) _ t);rw[tF 1 z3 p3 _ dL.e3];have lC:(v.aG++(v.aK.take i).map (·.gen)).length<1000000:=by
   rw[bA,uG,cV];omega
  obtain⟨b2,t2,t3,L3,g1,g2,g3,g4,g5,g6⟩:=dL.afK (β:=ah) x.gen lC;refine Eq.mpr (congrArg (Ok _) (g1 _)) ?_;refine Eq.mpr (congrArg (Ok _) (g2 _)) ?_;have j6:ar ((i:Int)+1)=((i+1:Nat):Int):=Zc;have ew:((v.aK.take i).filter (·.live)).length<=i:=by grind
  have qm:ar (((((v.aK.take i).filter (·.live)).length:Nat):Int)+1)=((((v.aK.take i).filter (·.live)).length+1:Nat):Int):=Zc;rw[j6,qm];have vu:dV K t3 { v with aG:=v.aG++(v.aK.take (i+1)).map (·.gen) } L3 z1 (some (b,0)) z2 p2 1 (some (b2,0)) z4 p4 hd:=by
   rw[fZ,fB,<-fA];exact g3
  cases fg:x.live with
  |true=>
   rw[ae];exact aQ (v.aK.length-(i+1)) _ _ (by omega) ⟨i+1,1,some (b2,0),L3,by rw[fZ,FM];simp[fg],by omega,aO _,vu,fk.step g4 jx,jx.trans fk.1 g5⟩
  |false=>
   rw[af];exact aQ (v.aK.length-(i+1)) _ _ (by omega) ⟨i+1,1,some (b2,0),L3,by rw[fZ,FM];simp[fg],by omega,aO _,vu,fk.step g4 jx,jx.trans fk.1 g5⟩
 .rw[aD (show ¬(i:Int)<(v.aK.length:Int) by omega),af]
  simp only[Zd];rw[dH (by omega)]at dL⊢;exact .mk ⟨t,Lu,rfl,dL.wk,fk,jx⟩
end Go.Gv.F
