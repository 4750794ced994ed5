/- A block of an image, taken once: the walker's first steps. -/
import Derived.Test.YtegglibipjjblaaGreatDoorGvZMa
set_option linter.all false
namespace Go.Gv.F
open Go.Gv
variable {Y:Type}
variable {k slot u:Int} {i j lim m n z:Nat} {s s':St} {α:Type} {cs:ah} {l:aj} {A C L L' L'' T W W':al}
theorem ZyU {m:M α} {K:α->M Y} (h:m s=some (.fH,s')):c9 m K s=some (.fH,s'):=by unfold c9;rw[h]
theorem Ok.xy {P:Out α×St->Prop} {Q:Out Y×St->Prop} {m:M α} {K:α->M Y} (h:Ok P (m s))
  (k1: ∀s',P (.fH,s')->Q (.fH,s')) (k2: ∀ds s',P (.val ds,s')->Ok Q (K ds s')):Ok Q (c9 m K s):=by
 have⟨⟨o,s'⟩,e,hp⟩:=h;unfold c9;rw[e];cases o with
 |val ds=>exact k2 ds s' hp
 |fH=>exact .mk (k1 s' hp)
theorem Mo (p:ai) (K:ai->M Y):Cl (.ptr p) K=K p:=rfl
theorem ZzP (s:St):lE s.length s=s:=by unfold lE;simp
variable {Bd:Zg} [h:HA Bd]
theorem Zvz (n:Nat) (b:Bool) (st:St):run Bd (n+1) 225 [.bool b] st=some (bif b then(.val [],st)else(.fH,st)):=by
 rw[Ze,h.agB];unfold TZ jN Q_
 try dsimp only
 rw[ar,ao,Za];cases b<;>rfl
theorem uS {Bd:Zg} (h:HA Bd) (n:Nat) {b:Bool} (hb:b=true) (st:St) (K:ah->M Y):c9 (run Bd (n+1) 225 [.bool b]) K st=K [] st:=by
 rw[hb];exact Zk (Zvz n true st)
theorem qk {Bd:Zg} (h:HA Bd) (n:Nat) {b:Bool} (hb:b=false) (st:St) (K:ah->M Y):c9 (run Bd (n+1) 225 [.bool b]) K st=some (.fH,st):=by
 rw[hb];exact ZyU (Zvz n false st)
def Zv (img:aj) (k:Nat):aj:=(img.drop (k*64)).take 64
theorem Zm1 (n:Nat) (a:ai) (len k:Nat) (st:St) (hl:len<1000000) (hk:(k+1)*64<=len:=by omega):
  run Bd (n+1) 203 [.slice 1 a len,.i k] st=some (.val [.slice 1 (cY true a (k*64)) 64],st):=by
 rw[Ze,h.agi];unfold T5 q9 bj
 try dsimp only
 rw[aZ,au,ao,Z8];have h1:aq ((k:Int)+1)=((k+1:Nat):Int):=Zb;have h2:aq (((k+1:Nat):Int)*64)=(((k+1)*64:Nat):Int):=by rw[Zb];omega
 have h3:aq ((k:Int)*64)=((k*64:Nat):Int):=by rw[Zb];omega
 simp only[h1,h2,h3,bn,cR];rw[Zc (by rw[aS,bq,bq];omega),Zc (by rw[aS,bq,bq];omega),Zs,ZzP,show(k+1)*64-k*64=64 by omega]
inductive xa where
 |node (x:jz)
 |leaf (x:List aX)
 |bY (x:ak)
 |queue (x:ZL)
 |dir (x:ak)
 |none
def ZA (l:aj):xa:=
 match iy l with
 |some x=> .node x
 |none=>match ZI l with
  |some x=> .leaf x
  |none=>match ZY l with
   |some x=> .bY x
   |none=>match ZH l with
    |some x=> .queue x
    |none=>match kl l with
     |some x=> .dir x
     |none=> .none
def QJ (s:St):xa->DV->Prop
 | .node x,d=>∃p,d= .iface 6 (.agg (pY x 1 p))/\Fz s p (ints x.kids)/\mb x=true/\x.kids.length<=12
 | .leaf x,d=>d= .iface 5 (.agg (bX x))/\x.length=7
 | .bY x,d=>d= .iface 2 (.agg (ints x))/\x.length=16
 | .queue x,d=>d= .iface 4 (.agg (Z0 x))/\x.cF.length=12
 | .dir x,d=>∃p,d= .iface 3 (.agg [.slice 1 p x.length])/\Fz s p (ints x)/\x.length<=16
 | .none,d=>d= .nilIface
theorem Iv {x:List aX} (h:ZI l=some x):x.length=7:=by
 unfold ZI at h;split at h
 .cases h
 .rename_i k t b _
  cases e:(decide (k=2)&&decide (t<128))
  .rw[e]at h;cases h
  .rw[e]at h;cases e2:(ZQ b t 7).all ZK
   .rw[e2]at h;cases h
   .rw[e2]at h;cases h;exact BZ b t 7
theorem Zr4 (n:Nat) (a:ai) (l:aj) (st:St) (ha:dD st a l) (hl:l.length<1000000) (hn:161<=n):
  Ok (λo=>∃d s',o=(.val [d],s')/\aB st s'/\QJ s' (ZA l) d) (run Bd n 256 [.slice 1 a l.length] st):=by
 obtain _|n:=n;omega;rw[Ze,h.ag5];unfold TB ck Gd jN bj ZA
 try dsimp only
 rw[aZ,ao];refine Ok.call (ZuI n a l st ha hl AC) ?_;rintro _ ⟨s1,aH,sF⟩;cases pS:iy l with
 |some x=>
  rw[pS]at sF;obtain⟨p,rfl,hf⟩:=sF;refine⟨_,s1,rfl,?_⟩;unfold pY fJ;simp only[oo,gR,cX,au,aZ,ar,ao,ae,Zd];exact .mk ⟨_,s1,rfl,aH,p,rfl,hf,(Nn pS).1,(Nn pS).2⟩
 |none=>
 rw[pS]at sF;subst sF;refine⟨_,s1,rfl,?_⟩;simp only[cX,au,ar,ao,Zh 1 0 none _ (.inr rfl),af];have vk:=ha.mono aH;refine Ok.call (ZoE n a l s1 vk hl AC) ?_;rintro _ ⟨s2,bd,du⟩;cases rr:ZI l with
 |some x=>
  rw[rr]at du;subst du;refine⟨_,s2,rfl,?_⟩;have hlen:(bX x).length=21:=by rw[ZE,Iv rr]
  rw[cX,ar,ao,ae,bN hlen,bN hlen,Zd];exact .mk ⟨_,s2,rfl,aH.trans bd,rfl,Iv rr⟩
 |none=>
 rw[rr]at du;subst du;refine⟨_,s2,rfl,?_⟩;rw[cX,ar,ao,af,bN (cs:=bX oQ) (n:=21) rfl,bN (cs:=bX oQ) (n:=21) rfl];have AU:=vk.mono bd;refine Ok.call (ZqQ n a l s2 AU hl AC) ?_;rintro _ ⟨s3,dh,oL⟩;cases Kb:ZY l with
 |some x=>
  rw[Kb]at oL;obtain⟨rfl,hx⟩:=oL;refine⟨_,s3,rfl,?_⟩;have hlen:(ints x).length=16:=by simp[ints,hx]
  rw[cX,ar,ao,ae,bN hlen,bN hlen,Zd];exact .mk ⟨_,s3,rfl,(aH.trans bd).trans dh,rfl,hx⟩
 |none=>
 rw[Kb]at oL;subst oL;refine⟨_,s3,rfl,?_⟩;rw[cX,ar,ao,af,bN (cs:=ints (List.replicate 16 0)) (n:=16) rfl,bN (cs:=ints (List.replicate 16 0)) (n:=16) rfl];have ha3:=AU.mono dh;refine Ok.call (Zni n a l s3 ha3 hl AC) ?_;rintro _ ⟨s4,hJ,ue⟩;cases hg4:ZH l with
 |some x=>
  rw[hg4]at ue;obtain⟨rfl,hx⟩:=ue;refine⟨_,s4,rfl,?_⟩;have hlen:(ints x.cF).length=12:=by simp[ints,hx]
  unfold Z0;rw[cX,bZ,au,ar,ao,ae,bN hlen,bN (by simp[hlen]),Zd];exact .mk ⟨_,s4,rfl,((aH.trans bd).trans dh).trans hJ,rfl,hx⟩
 |none=>
 rw[hg4]at ue;subst ue;refine⟨_,s4,rfl,?_⟩;unfold Z0;rw[cX,bZ,au,ar,ao,af,bN (cs:=ints Eh.cF) (n:=12) rfl,bN (n:=14) rfl];have ha4:=ha3.mono hJ;refine Ok.call (Zo4 n a l s4 ha4 hl AC) ?_;rintro _ ⟨s5,nC,rE⟩;cases hg5:kl l with
 |some x=>
  rw[hg5]at rE;obtain⟨p,rfl,hf,hx⟩:=rE;refine⟨_,s5,rfl,?_⟩;simp only[cX,aZ,ar,ao,ae,Zd];exact .mk ⟨_,s5,rfl,(((aH.trans bd).trans dh).trans hJ).trans nC,p,rfl,hf,hx⟩
 |none=>
 rw[hg5]at rE;subst rE;refine⟨_,s5,rfl,?_⟩;simp only[cX,Zh 1 0 none _ (.inr rfl),ar,ao,af,Zd];exact .mk ⟨_,s5,rfl,(((aH.trans bd).trans dh).trans hJ).trans nC,rfl⟩
def fK (m:Nat) (W:al) (k:Int):Bool:=decide (k>=2)&&(fe m k&& !cD W k.toNat)
theorem Zz1 {Bd:Zg} (h:HA Bd) (n w:Nat) (a:ai) (img:aj) (k:Int) (st:St)
  (hw:st[w]? =some (some ⟨false,cs⟩)) (h0:cs[0]? =some (.slice 1 a img.length)) (h2:cs[2]? =some (.i m)) (OS:cs[10]? =some (.ptr (some (i,0))))
  (hs:gP st false i j m W) (oI:i≠j) (hjw:w≠j) (ha:dD st a img) (EM:mG [j] a) (hm:m*64<=img.length) (hl:img.length<1000000) (hn:170<=n):
  Ok (λo=>bif fK m W k then ∃d s',o=(.val [d],s')/\Fx [j] st s'/\gP s' false i j m (bA m W k)/\QJ s' (ZA (Zv img k.toNat)) d else o=(.fH,st)) (run Bd n 228 [.ptr (some (w,0)),.i k] st):=by
 obtain⟨n,rfl⟩: ∃k,n=k+4:=⟨n-4,AC⟩;rw[Ze,h.agE];unfold Rp qU az C_ jL vK bF Zm Lb Li fj bj iT fK;simp only[fw,au,ao,Za,bh];by_cases jR:k>=2;rotate_left
 .rw[bP jR,af]
  simp only[ar,ao,af,gF];rw[qk h (n+2) rfl];exact .mk rfl
 rw[aQ jR,ae,Zn hw h2];simp only[bg,ar,ao,dt];have adt:fe m k=decide (k<(m:Int)):=by grind[fe]
 rw[adt];by_cases wF:k<(m:Int);rotate_left
 .rw[bP wF,af]
  simp only[gF,af];rw[qk h (n+2) rfl];exact .mk rfl
 rw[aQ wF,ae,Zn hw OS,Mo,dt,Zk (ZnJ (n+1) k st hs),adt,aQ wF,dt,ar,ao];cases fA:cD W k.toNat
 .simp only[bD,ae];rw[uS h (n+2) rfl,ao,Zn hw OS,Mo,ZD];have aH:=aB.new st (some (⟨false,[DV.int .i64 k]⟩:bQ));have fW:Sl (st++[some (⟨false,[DV.int .i64 k]⟩:bQ)]) (some (st.length,0)) (ints [k]):=Om st [DV.int .i64 k];have dR:mG [j] (some (st.length,0)):=by
   intro b o e hb;cases e;have:=(eE.1 hs.wd).1;rw[cH.1 hb]at this;omega
  generalize st++[some (⟨false,[DV.int .i64 k]⟩:bQ)]=s1 at aH fW;have nD:=hs.pre aH;have acM:=Iu (n+3) [k] (some (st.length,0)) s1 nD oI fW dR Do (by simp;omega);rw[show[k].length=1 from rfl]at acM;rw[Zk acM,ao];have adR:=nD.add oI (bA m W k) (np _ _ _) (Gt nD.lt);have cP:Fx [j] st (s1.set j (some ⟨false,Zu (bA m W k)⟩)):=(Fx.pre [j] aH).trans (Fx.set s1 j _);have e1:[k].foldl (bA m) W=bA m W k:=rfl;rw[e1];generalize s1.set j (some ⟨false,Zu (bA m W k)⟩)=s2 at adR cP;have gB:=cP.2 w _ (by simpa using hjw) hw;have AU:dD s2 a img:=Sl.fx ha cP EM;rw[Zn gB h0,kP];obtain⟨kk,rfl⟩: ∃kk:Nat,k=kk:=⟨k.toNat,AC⟩;rw[Zk (Zm1 (n+2) a img.length kk s2 hl),aZ,ao];have EG:dD s2 (cY true a (kk*64)) (Zv img kk):=(AU.cY (k:=kk*64) AC).mu 64;have Pr:(Zv img kk).length=64:=by unfold Zv;rw[cB,dY];omega
  have hb:=Zr4 (n+3) _ (Zv img kk) s2 EG AC AC;rw[Pr]at hb;refine Ok.call hb ?_;rintro _ ⟨d,s3,rfl,dh,hblk⟩;refine⟨_,s3,rfl,?_⟩;rw[DG,ao,Zd];exact .mk ⟨d,s3,rfl,cP.trans (Fx.pre [j] dh),adR.pre dh,hblk⟩
 .simp only[bI,af];rw[qk h (n+2) rfl];exact .mk rfl
structure cm where
 seq:Int
 blocks:Int
 cW:Int
 g:Int
 bY:Int
 used:Int
 free:Int
 dir:Int
 aK:ak
structure aI where
 W:al
 ay:List aX
 aD:List dw
 gens:ak
 free:ak
 nodes:Int
structure bu where
 w:Nat
 i:Nat
 j:Nat
 m:Nat
 a:ai
 img:aj
 sup:cm
 pc:ai
def dT (z:Nat) (p:ai) (n:Nat):DV:= .slice z p n
def tc (K:bu) (v:aI) (c11 c15 c16 c17:DV):ah:=
 [.slice 1 K.a K.img.length,.i K.sup.seq,.i K.sup.blocks,.i K.sup.cW,.i K.sup.g,.i K.sup.bY,.i K.sup.used,.i K.sup.free,.i K.sup.dir,.slice 1 K.pc K.sup.aK.length,
  .ptr (some (K.i,0)),c11,.i K.sup.blocks,.i K.sup.cW,.i K.sup.g,c15,c16,c17,.i v.nodes]
def aM:ai->al
 |none=>[]
 |some (b,_)=>[b]
theorem mG.aM {L:al} {a:ai} (h: ∀b∈aM a,b∉L):mG L a:=by
 intro b o e;grind[F.aM]
theorem bc.fx {a:ai} (h:bc [] s a cs) (k:Fx T s s') (n: ∀b∈aM a,b∉T):bc [] s' a cs:=by
 refine⟨⟨s',rfl⟩,?_⟩;rcases h.2 with h1|⟨i,rfl,h2,h3⟩
 .exact .inl h1
 .exact .inr ⟨i,rfl,h2,k.2 i _ (n i (by simp[aM])) h3⟩
theorem bc.GM {a:ai} (h:bc [] s a cs): ∀b∈aM a,b<s.length:=by
 rcases h.2 with⟨rfl,_⟩|⟨i,rfl,_,h3⟩
 .intro b hb;cases hb
 .intro b hb;rw[cH.1 hb];grind
theorem Av {a:ai} (h:bc [] s a cs) {sz:Nat} (ds:ah) (hz:0<sz) (hn:cs.length=n*sz) (hd:ds.length=sz) (hl:n+1<=lim:=by omega):
  ∃b s',s.length<=b/\bc [] s' (some (b,0)) (cs++ds)/\Fx (aM a) s s'/\∀K:ai->M Y,(cj ds λi=>bV i 0 sz λcs'=>cu sz a n cs' 1 lim K) s=K (some (b,0)) s':=by
 have⟨b,s',h1,h2,_,h4,h5⟩:=h.Qj (Y:=Y) ds hz hn hd hl;refine⟨b,s',h1,h2,⟨?_,λi x hi e=>h4 i x e ?_⟩,h5⟩
 .have:=bc.GM h2 b (by simp[aM]);omega
 grind[aM]
def rX (s:St) (L:al):ah->List dw->Prop
 |ds,[]=>ds=[]
 |ds,x::r=>∃z p t,(z=4\/p=none)/\ds=mS x z p++t/\Sl s p (bW x.bz)/\mG L p/\rX s L t r
theorem rX.fx {s s':St} {L L':al} (k:Fx L s s') (hL: ∀x∈L',x∈L\/s.length<=x): ∀ {ds:ah} {xs:List dw},rX s L ds xs->rX s' L' ds xs
 |_,[],h=>h
 |_,_::_,⟨z,p,t,hz,h1,h2,h3,h4⟩=>⟨z,p,t,hz,h1,h2.fx k h3,h3.new h2 hL,h4.fx k hL⟩
theorem rX.aD {s:St} {L:al} : ∀ {ds:ah} {xs:List dw},rX s L ds xs->kQ s ds xs
 |_,[],h=>h
 |_,_::_,⟨z,p,t,hz,h1,h2,_,h4⟩=>⟨z,p,t,hz,h1,h2,h4.aD⟩
theorem rX.push {s:St} {L:al} {x:dw} {z:Nat} {p:ai} (hz:z=4\/p=none) (hs:Sl s p (bW x.bz)) (ho:mG L p): ∀ {ds:ah} {xs:List dw},rX s L ds xs->rX s L (ds++mS x z p) (xs++[x])
 |ds,[],h=>⟨z,p,[],hz,by rw[show ds=[]from h];rfl,hs,ho,rfl⟩
 |_,_::_,⟨z',p',t,Dd,h1,h2,h3,h4⟩=>⟨z',p',t++mS x z p,Dd,by rw[h1,dL],h2,h3,h4.push hz hs ho⟩
structure eL (K:bu) (s:St) (v:aI) (L:List Nat) (z1:Nat) (p1:Option (Nat×Nat)) (z2:Nat) (p2:Option (Nat×Nat)) (z3:Nat) (p3:Option (Nat×Nat)) (z4:Nat) (p4:Option (Nat×Nat)) (hd:List DV):Prop where
 cell:s[K.w]? =some (some ⟨false,tc K v (dT z1 p1 v.ay.length) (dT z2 p2 v.aD.length) (dT z3 p3 v.gens.length) (dT z4 p4 v.free.length)⟩)
 e1:z1=3\/p1=none
 e2:z2=2\/p2=none
 e3:z3=1\/p3=none
 e4:z4=1\/p4=none
 o1:bc [] s p1 (bX v.ay)
 o2:bc [] s p2 hd
 o3:bc [] s p3 (ints v.gens)
 o4:bc [] s p4 (ints v.free)
 aD:rX s L hd v.aD
 set:gP s false K.i K.j K.m v.W
 img:dD s K.a K.img
 off:mG L K.a
 own:L=K.w::K.i::K.j::(aM p1++(aM p2++(aM p3++aM p4)))
 nodup:L.Nodup
def Wk (K:bu) (s:St) (v:aI) (L:al):Prop:=∃z1 p1 z2 p2 z3 p3 z4 p4 hd,eL K s v L z1 p1 z2 p2 z3 p3 z4 p4 hd
def Nw (L:al) (s:St) (L':al):Prop:=∀x∈L',x∈L\/s.length<=x
theorem Nw.refl (L:al) (s:St):Nw L s L:=λ_ h=> .inl h
theorem Nw.trans (h:Nw L s L') (hs:s.length<=s'.length) (k:Nw L' s' L''):Nw L s L'':=λx hx=>by
 rcases k x hx with h1|h1
 .exact h x h1
 omega
theorem M4 {B:al} {b:Nat} (h:(A++(B++C)).Nodup) (hl: ∀x∈A++(B++C),x<n) (hb:n<=b):(A++([b]++C)).Nodup:=by
 rw[jU]at h⊢;have⟨h1,h2,h3⟩:=h;rw[jU]at h2;have⟨_,h4,_⟩:=h2;refine⟨h1,?_,?_⟩
 .rw[List.singleton_append,qQ]
  refine⟨λhm=>?_,h4⟩;have:=hl b (by simp[hm]);omega
 .intro x hx y hy
  rcases ga.1 hy with hy|hy
  .rw[cH.1 hy]
   have:=hl x (by simp[hx]);omega
  grind
variable {K:bu} {s:St} {v:aI} {L:al} {z1 z2 z3 z4:Nat} {p1 p2 p3 p4:ai} {hd:ah}
theorem eL.lt (h:eL K s v L z1 p1 z2 p2 z3 p3 z4 p4 hd): ∀x∈L,x<s.length:=by
 intro x hx;rw[h.own]at hx;simp only[ep,ga]at hx;rcases hx with rfl|rfl|rfl|hx|hx|hx|hx
 .exact(eE.1 h.cell).1
 .exact(eE.1 h.set.hd).1
 .exact(eE.1 h.set.wd).1
 .exact bc.GM h.o1 x hx
 .exact bc.GM h.o2 x hx
 .exact bc.GM h.o3 x hx
 .exact bc.GM h.o4 x hx
theorem eL.Ff (h:eL K s v L z1 p1 z2 p2 z3 p3 z4 p4 hd):K.w∈L:=by rw[h.own];simp
theorem eL.xU (h:eL K s v L z1 p1 z2 p2 z3 p3 z4 p4 hd):K.j∈L:=by rw[h.own];simp
theorem eL.ne (h:eL K s v L z1 p1 z2 p2 z3 p3 z4 p4 hd):K.w≠K.i/\K.w≠K.j/\K.i≠K.j/\(∀x∈aM p1++(aM p2++(aM p3++aM p4)),x≠K.w/\x≠K.i/\x≠K.j):=by
 have hn:=h.nodup;rw[h.own]at hn;simp only[qQ,ep,not_or]at hn;grind
theorem eL.kE (h:eL K s v L z1 p1 z2 p2 z3 p3 z4 p4 hd) (k:Fx T s s') (hT: ∀x∈T,x∉L) (ha:mG T K.a) (hh:rX s' L hd v.aD):eL K s' v L z1 p1 z2 p2 z3 p3 z4 p4 hd:=by
 have hm: ∀x∈L,x∉T:=λx hx HG=>hT x HG hx
 have ho:=h.own;refine⟨k.2 _ _ (hm _ h.Ff) h.cell,h.e1,h.e2,h.e3,h.e4,h.o1.fx k λb hb=>hm b ?_,h.o2.fx k λb hb=>hm b ?_,h.o3.fx k λb hb=>hm b ?_,h.o4.fx k λb hb=>hm b ?_,hh,h.set.fx k (hm _ (by rw[ho];simp)) (hm _ h.xU),Sl.fx h.img k ha,h.off,ho,h.nodup⟩
 all_goals rw[ho];simp[hb]
theorem eL.pre {s':St} (h:eL K s v L z1 p1 z2 p2 z3 p3 z4 p4 hd) (k:aB s s'):eL K s' v L z1 p1 z2 p2 z3 p3 z4 p4 hd:=
 h.kE (Fx.pre [] k) (λ_ h=>by cases h) (λ_ _ _ h=>by cases h) (h.aD.fx (Fx.pre L k) (Nw.refl L s))
theorem eL.ak0 (h:eL K s v L z1 p1 z2 p2 z3 p3 z4 p4 hd) (k:Fx [K.j] s s') (hs:gP s' false K.i K.j K.m W'):eL K s' { v with W:=W' } L z1 p1 z2 p2 z3 p3 z4 p4 hd:=by
 have cV:=h.ne;refine⟨k.2 _ _ (by simpa using cV.2.1) h.cell,h.e1,h.e2,h.e3,h.e4,h.o1.fx k λb hb=>?_,h.o2.fx k λb hb=>?_,h.o3.fx k λb hb=>?_,h.o4.fx k λb hb=>?_,h.aD.fx (k.mono λx hx=>by rw[cH.1 hx];exact h.xU) (Nw.refl L s),hs,Sl.fx h.img k λb o e hb=>h.off b o e (by rw[cH.1 hb];exact h.xU),h.off,h.own,h.nodup⟩
 all_goals simpa using Fd
def dC (K:bu) (k:Int) (v:aI):Option (xa×aI):=bif fK K.m v.W k then some (ZA (Zv K.img k.toNat), { v with W:=bA K.m v.W k })else none
theorem eL.take {Bd:Zg} (hB:HA Bd) (n:Nat) (k:Int) (hm:K.sup.blocks=(K.m:Int)) (hi:K.m*64<=K.img.length) (hl:K.img.length<1000000) (hn:170<=n) (h:eL K s v L z1 p1 z2 p2 z3 p3 z4 p4 hd):
  Ok (λo=>match dC K k v with
   |none=>o=(.fH,s)
   |some (b,v')=>∃d s',o=(.val [d],s')/\eL K s' v' L z1 p1 z2 p2 z3 p3 z4 p4 hd/\Fx [K.j] s s'/\QJ s' b d) (run Bd n 228 [.ptr (some (K.w,0)),.i k] s):=by
 have cV:=h.ne;refine(Zz1 hB n K.w K.a K.img k s h.cell rfl (by rw[<-hm];rfl) rfl h.set cV.2.2.1 cV.2.1 h.img (λb o e hb=>h.off b o e (by rw[cH.1 hb];exact h.xU)) hi hl hn).mono ?_;intro o ho;unfold dC;cases hf:fK K.m v.W k with
 |false=>rw[hf]at ho;exact ho
 |true=>
  rw[hf]at ho;obtain⟨d,s',rfl,cP,hs,hb⟩:=ho;exact⟨d,s',rfl,h.ak0 cP hs,cP,hb⟩
theorem Na: ∀ {l:List aX} {j:Nat} {x:aX},l[j]? =some x->((bX l).drop (j*3)).take 3=eZ x
 |[],j,e,h=>by simp at h
 |x::l,0,e,h=>by
  simp only[ly,gf]at h;subst h;rfl
 |x::l,j+1,e,h=>by
  have e2:bX (x::l)=eZ x++bX l:=rfl;rw[e2,show(j+1)*3=(eZ x).length+j*3 by show _=3+_;omega,<-kd,uD];exact Na (by simpa using h)
def tz (K:bu) (s:St) (L:al) (r:Option aI) (ds:ah) (o:Out ah×St):Prop:=match r with
 |none=>∃s',o=(.fH,s')/\Fx L s s'
 |some v=>∃s' L',o=(.val ds,s')/\Wk K s' v L'/\Fx L s s'/\Nw L s L'
theorem eL.akW (h:eL K s v L z1 p1 z2 p2 z3 p3 z4 p4 hd) (x:aX) (hl:v.ay.length<1000000):
  ∃b s1 s2 L',(∀Kc:ai->M Y,(cj (eZ x) λi=>bV i 0 3 λcs'=>cu 3 p1 v.ay.length cs' 1 2932031007402 Kc) s=Kc (some (b,0)) s1)/\
   (∀Kc:M Y,dE K.w 11 [.slice 3 (some (b,0)) (v.ay.length+1)] Kc s1=Kc s2)/\Wk K s2 { v with ay:=v.ay++[x] } L'/\Fx L s s2/\Nw L s L':=by
 have⟨b,s1,hb,ho,cP,he⟩:=Av (Y:=Y) (lim:=2932031007402) h.o1 (sz:=3) (n:=v.ay.length) (eZ x) AC (ZE _) rfl;have cV:=h.ne;have cL:=cP.2 K.w _ Fd h.cell;have Er: ∀x∈aM p1,x∈L:=λx hx=>by rw[h.own];simp[hx]
 let L':=K.w::K.i::K.j::(aM (some (b,0))++(aM p2++(aM p3++aM p4)))
 have gu:Fx L s (s1.set K.w (some ⟨false,tc K { v with ay:=v.ay++[x] } (dT 3 (some (b,0)) (v.ay.length+1)) (dT z2 p2 v.aD.length) (dT z3 p3 v.gens.length) (dT z4 p4 v.free.length)⟩)):=
  (cP.mono Er).trans ((Fx.set s1 K.w _).mono λy hy=>by rw[cH.1 hy];exact h.Ff)
 have eJ:=h.nodup;rw[h.own]at eJ;have EJ:(K.w::K.i::K.j::(aM (some (b,0))++(aM p2++(aM p3++aM p4)))).Nodup:=M4 (A:=[K.w,K.i,K.j]) (B:=aM p1) eJ (λy hy=>h.lt y (by rw[h.own];exact hy)) hb;have iG:Nw L s L':=λy hy=>by
  have EZ:y∈K.w::K.i::K.j::([b]++(aM p2++(aM p3++aM p4))):=hy;rw[h.own];simp only[ep,ga,List.mem_nil_iff,pD]at EZ⊢;grind
 have amb: ∀y,y∉aM p1->y≠K.w->∀c,s[y]? =some c->(s1.set K.w (some ⟨false,tc K { v with ay:=v.ay++[x] } (dT 3 (some (b,0)) (v.ay.length+1)) (dT z2 p2 v.aD.length) (dT z3 p3 v.gens.length) (dT z4 p4 v.free.length)⟩))[y]? =some c:=λy h1 h2 c hc=>by
  rw[ig AC];exact cP.2 y c h1 hc
 have fR:Fx (K.w::aM p1) s (s1.set K.w (some ⟨false,tc K { v with ay:=v.ay++[x] } (dT 3 (some (b,0)) (v.ay.length+1)) (dT z2 p2 v.aD.length) (dT z3 p3 v.gens.length) (dT z4 p4 v.free.length)⟩)):=
  ⟨gu.1,Fd⟩
 have jE: ∀y,y∈aM p2++(aM p3++aM p4)->y∉K.w::aM p1:=λy hy hm=>by
  rcases ep.1 hm with e|e
  .grind
  .have uc:=eJ
   simp only[qQ,jU]at uc;grind
 have wv:b≠K.w:=λe=>by have:=(eE.1 h.cell).1;omega
 refine⟨b,s1,_,L',he,λKc=>?_,⟨3,some (b,0),z2,p2,z3,p3,z4,p4,hd,⟨?_,.inl rfl,h.e2,h.e3,h.e4,?_,?_,?_,?_,?_,?_,?_,?_,rfl,EJ⟩⟩,gu,iG⟩
 .rw[sa cL (by show 11<19;omega)]
  rfl
 .rw[ke (by have:=(eE.1 cL).1;exact this),ba];rfl
 .rw[IV]
  exact(show bc [] s1 (some (b,0)) (bX v.ay++bX [x])from ho).fx (Fx.set s1 K.w _) (λy hy=>by
   rw[cH.1 hy,cH];exact wv)
 .exact h.o2.fx fR λy hy=>jE y (by simp[hy])
 .exact h.o3.fx fR λy hy=>jE y (by simp[hy])
 .exact h.o4.fx fR λy hy=>jE y (by simp[hy])
 .exact h.aD.fx gu iG
 .exact h.set.fx fR (λhm=>by
   grind) (λhm=>by
   grind)
 .exact Sl.fx h.img gu h.off
 .exact h.off.new h.img iG
def nk (sup:cm) (x:aX):Bool:=(bif decide (x.gen>=1)then decide (x.gen<=sup.g)else false)&&(bif (bif x.live then true else decide (x.gen<sup.g))then true else x.block==0)
def oA (x:aX):Bool:=(x.live==false)&&((x.gen==0)&&((x.block==0)&&true))
def mO (K:bu) (k:Int) (x:aX) (v:aI):Option aI:=
 bif decide (k>=K.sup.used)then(bif oA x then some v else none)
 else(bif nk K.sup x then some { v with ay:=v.ay++[x] } else none)
def jY (K:bu):Int->List aX->aI->Option aI
 |_,[],v=>some v
 |k,x::r,v=>match mO K k x v with
  |none=>none
  |some v'=>jY K (k+1) r v'
def kG (K:bu) (k slot:Int) (v:aI):Option aI:=match dC K k v with
 |some (.leaf x,v')=>jY K slot x v'
 |_=>none
variable {v v':aI} {K:bu}
theorem ZsV {x:aX} (h:mO K k x v=some v'):v'.ay.length<=v.ay.length+1:=by
 grind[mO]
theorem ZpE {K:bu} : ∀ {x:List aX} {k:Int} {v v':aI},jY K k x v=some v'->v'.ay.length<=v.ay.length+x.length
 |[],_,_,_,h=>by cases h;simp
 |x::r,k,v,v',h=>by
  unfold jY at h;cases h1:mO K k x v
  .rw[h1]at h;cases h
  .rename_i w;rw[h1]at h;have:=ZsV h1;have:=ZpE h;simp;omega
structure DL (K:bu):Prop where
 m:K.sup.blocks=(K.m:Int)
 GL:K.m*64<=K.img.length
 len:K.img.length<1000000
theorem eL.wk (h:eL K s v L z1 p1 z2 p2 z3 p3 z4 p4 hd):Wk K s v L:=⟨_,_,_,_,_,_,_,_,_,h⟩
theorem ZzW {Bd:Zg} (h:HA Bd) (n:Nat) (hK:DL K) (k slot:Int) (KV:0<=slot) (fW:slot<=100000) (hW:Wk K s v L) (hl:v.ay.length<100000) (hn:180<=n):
  Ok (tz K s L (kG K k slot v) []) (run Bd n 229 [.ptr (some (K.w,0)),.i k,.i slot] s):=by
 obtain⟨n,rfl⟩: ∃k,n=k+2:=⟨n-2,AC⟩;rw[Ze,h.agF];unfold Rl GH vK Q_ dj Zm C_ az iT Li tw Lb kG;simp only[fw,au,ao,Za];have⟨z1,p1,z2,p2,z3,p3,z4,p4,hd,hW⟩:=hW;refine Ok.xy (hW.take h (n+1) k hK.m hK.GL hK.len AC) ?_ ?_
 .intro s' hp
  cases ht:dC K k v
  .rw[ht]at hp;cases hp;exact⟨s,rfl,.refl L s⟩
  .rename_i q;rw[ht]at hp;grind
 intro ds s1 hp;cases ht:dC K k v
 .rw[ht]at hp;cases hp
 .rename_i q;have⟨b,v1⟩:=q;rw[ht]at hp;have⟨d,s2,e,jo,cP,hb⟩:=hp;cases e;have kC:v1.ay=v.ay:=by
   unfold dC at ht;grind
  have rq:Fx L s s1:=cP.mono λy hy=>by rw[cH.1 hy];exact hW.xU
  rw[DG,ao];cases b with
  |node x=>obtain⟨p,rfl,_⟩:=hb;exact .mk ⟨s1,rfl,rq⟩
  |bY x=>obtain⟨rfl,_⟩:=hb;exact .mk ⟨s1,rfl,rq⟩
  |queue x=>obtain⟨rfl,_⟩:=hb;exact .mk ⟨s1,rfl,rq⟩
  |dir x=>obtain⟨p,rfl,_⟩:=hb;exact .mk ⟨s1,rfl,rq⟩
  |none=>cases hb;exact .mk ⟨s1,rfl,rq⟩
  |leaf x=>
   obtain⟨rfl,hx⟩:=hb;have hlen:(bX x).length=21:=by rw[ZE,hx]
   show Ok (tz K s L (jY K slot x v1) []) (bC (bX x) 21 _ _);have⟨R,hR⟩: ∃R,jY K slot x v1=R:=⟨_,rfl⟩;rw[hR,bN hlen,show(bX x).take 21=bX x from dG AC];refine Zj _ (λq y t=>∃(i:Nat) (u:aI) (Lu:al),y=[.i i]/\i<=7/\7-i<=q/\Wk K t u Lu/\Fx L s t/\Nw L s Lu/\u.ay.length<=v.ay.length+i/\jY K (slot+i) (x.drop i) u=R) ?_ 7 (n+1) _ _ ⟨0,v1,L,rfl,AC,AC,jo.wk,rq,.refl L s,by rw[kC];omega,by simp[hR]⟩ AC;rintro q _ t ⟨i,u,Lu,rfl,hi,hq,eB,gA,kB,zC,aL⟩ rec aN;rw[au,ao];by_cases av:i<7
   .rw[aR,Zc (show aO (i:Int) 7=true from Zi av),bn]
    have oi:x[i]? =some (x[i]' AC):=Fd
    rw[Na oi];have gr:x.drop i=(x[i]' AC)::x.drop (i+1):=iR AC;rw[gr]at aL;generalize x[i]' AC=e at aL;have⟨z1,p1,z2,p2,z3,p3,z4,p4,hd,eB⟩:=eB;rw[bN (cs:=eZ e) (n:=3) rfl,bh,Zn eB.cell rfl,bg];have cL:aq (slot+(i:Int))=slot+i:=Zb;have gB:aq ((i:Int)+1)=((i+1:Nat):Int):=Zb;rw[cL,gB];unfold jY mO at aL;have vn:slot+((i+1:Nat):Int)=slot+i+1:=AC
    cases hk:decide (slot+(i:Int)>=K.sup.used)
    .rw[hk,af]at aL;rw[af];have pS:tc K u (dT z1 p1 u.ay.length) (dT z2 p2 u.aD.length) (dT z3 p3 u.gens.length) (dT z4 p4 u.free.length)=tc K u (dT z1 p1 u.ay.length) (dT z2 p2 u.aD.length) (dT z3 p3 u.gens.length) (dT z4 p4 u.free.length):=rfl;clear pS;have oH:Ok (tz K s L R []) (c9 (run Bd (n+1) 225 [.bool (nk K.sup e)]) (λds=>aF ds<|bK (some (K.w,0)) λi1 o1=>bH i1 (o1+11) λd3=>dB 3 d3 λx4 dU=>bC (eZ e) 3<|cj (eZ e) λi2=>bV i2 0 3 λbU=>cu 3 x4 dU bU 1 2932031007402 λp=>bK (some (K.w,0)) λi3 o2=>dE i3 (o2+11) [.slice 3 p (dU+1)]<|rec [.i ((i+1:Nat):Int)]) t):=by
      cases h0:nk K.sup e
      .rw[h0]at aL;rw[qk h n rfl];simp only[af]at aL;rw[<-aL];exact .mk ⟨t,rfl,gA⟩
      .rw[h0]at aL;rw[uS h n rfl];simp only[ao,bh];rw[Zn eB.cell rfl];show Ok _ (dB 3 (.slice z1 p1 u.ay.length) _ t);rw[Z5 3 z1 p1 _ eB.e1,bN (cs:=eZ e) (n:=3) rfl];have⟨b,t1,t2,L2,g1,g2,g3,g4,g5⟩:=eB.akW (Y:=ah) e AC;rw[g1,fq,g2];exact aN (7-(i+1)) _ _ AC ⟨i+1,_,L2,rfl,AC,aJ _,g3,gA.step g4 kB,kB.trans gA.1 g5,by simp;omega,by rw[vn];exact aL⟩
     unfold nk at oH;rw[iI (i:=1) (d:= .i e.gen) rfl,bg];have rB: ∀Kc:DV->M ah,bH K.w (0+4) Kc t=Kc (.i K.sup.g) t:=λKc=>Zn eB.cell rfl Kc
     cases pS:decide (e.gen>=1)
     .simp only[pS,af,gF]at oH;rw[af,ar,ao];exact oH
     .simp only[pS,ae]at oH;rw[ae,iI (i:=1) (d:= .i e.gen) rfl];simp only[bg,bh];rw[rB];simp only[bg,ar,ao];cases rr:decide (e.gen<=K.sup.g)
      .simp only[rr,gF]at oH;rw[af];exact oH
      .simp only[rr,dt]at oH;rw[ae,iI (i:=0) (d:= .bool e.live) rfl,uI];cases eQ:e.live
       .simp only[eQ,af]at oH;rw[af,iI (i:=1) (d:= .i e.gen) rfl,bg,rB,bg];cases Kb:decide (e.gen<K.sup.g)
        .simp only[Kb,af]at oH;rw[af,iI (i:=2) (d:= .i e.block) rfl,bg];exact oH
        .simp only[Kb,ae]at oH;rw[ae];exact oH
       .simp only[eQ,ae]at oH;rw[ae,ae];exact oH
    .rw[hk,ae]at aL;rw[ae];show Ok _ (c9 (run Bd (n+1) 225 [.bool (oA e)]) _ t);cases h0:oA e
     .rw[h0]at aL;rw[qk h n rfl];simp only[af]at aL;rw[<-aL];exact .mk ⟨t,rfl,gA⟩
     .rw[h0]at aL;rw[uS h n rfl,ao];exact aN (7-(i+1)) _ _ AC ⟨i+1,u,Lu,rfl,AC,aJ _,eB.wk,gA,kB,AC,by rw[vn];exact aL⟩
   .rw[aU]
    rw[lx AC]at aL;rw[Zd,<-aL];exact .mk ⟨t,Lu,rfl,eB,gA,kB⟩
theorem Znw {x:List aX} (h:ZA l= .leaf x):x.length=7:=by
 unfold ZA at h;split at h
 .cases h
 .split at h
  .rename_i e;cases h;exact Iv e
  grind
theorem Z4 {b:xa} (h:dC K k v=some (b,v')):v'.ay=v.ay/\v'.aD=v.aD/\v'.gens=v.gens/\v'.free=v.free/\v'.nodes=v.nodes/\b=ZA (Zv K.img k.toNat):=by
 grind[dC]
theorem Zrr (h:kG K k slot v=some v'):v'.ay.length<=v.ay.length+7:=by
 unfold kG at h;cases ht:dC K k v
 .rw[ht]at h;cases h
 .rename_i q;have⟨b,v1⟩:=q;rw[ht]at h;have⟨h1,_,_,_,_,h2⟩:=Z4 ht;cases b with
  |leaf x=>
   have:=ZpE h;rw[h1,Znw h2.symm]at this;exact this
  |node x=>cases h
  |bY x=>cases h
  |queue x=>cases h
  |dir x=>cases h
  |none=>cases h
def jl (K:bu) (cnt x5:Int):Int->ak->aI->Option aI
 |_,[],v=>some v
 |k,y::r,v=>bif (!(y==0))==decide (x5*16+k<cnt)then(bif !(y==0)then(match kG K y ((x5*16+k)*7) v with
   |none=>none
   |some v'=>jl K cnt x5 (k+1) r v')else jl K cnt x5 (k+1) r v)else none
def lC (K:bu) (cnt:Int):Int->ak->aI->Option aI
 |_,[],v=>some v
 |k,y::r,v=>bif (!(y==0))==decide (k*16<cnt)then(bif y==0 then lC K cnt (k+1) r v else(match dC K y v with
   |some (.bY x,v')=>(match jl K cnt k 0 x v' with
    |none=>none
    |some v''=>lC K cnt (k+1) r v'')
   |_=>none))else none
def lD (K:bu) (v:aI):Option aI:=bif K.sup.used==0 then some v else(match dC K K.sup.bY v with
 |some (.bY x,v')=>lC K (Cb K.sup.used) 0 x v'
 |_=>none)
theorem U0 {K:bu} {cnt x5:Int} : ∀ {x:ak} {k:Int} {v v':aI},jl K cnt x5 k x v=some v'->v'.ay.length<=v.ay.length+7*x.length
 |[],_,_,_,h=>by cases h;simp
 |y::r,k,v,v',h=>by
  unfold jl at h;cases h1:((!(y==0))==decide (x5*16+k<cnt))
  .rw[h1]at h;cases h
  .rw[h1,ae]at h;cases h2:(!(y==0))
   .rw[h2,af]at h;have:=U0 h;simp;omega
   .rw[h2,ae]at h;cases h3:kG K y ((x5*16+k)*7) v
    .rw[h3]at h;cases h
    .rename_i w;rw[h3]at h;have:=U0 h;have:=Zrr h3;simp;omega
theorem Zz8 {Bd:Zg} (hL:HA Bd) (hM:HA Bd) (n:Nat) (hK:DL K) (cnt:Int) (i5:Nat) (h5:i5<16) (x:ak) (hx:x.length=16) (hn:181<=n) (s:St) (L:al) (t0:St) (L0:al) (v0:aI)
  (hW:Wk K t0 v0 L0) (hf:Fx L s t0) (iG:Nw L s L0) (hl:v0.ay.length<10000)
  (R:Option aI) (Kn:M ah) (aL: ∀w,jl K cnt (i5:Int) 0 x v0=some w->∀t Lw,Wk K t w Lw->Fx L s t->Nw L s Lw->Ok (tz K s L R []) (Kn t)) (cC:jl K cnt (i5:Int) 0 x v0=none->R=none):
  Ok (tz K s L R []) (dc (λdP st=>
      aC .i64 st λx8 st=>
      aF st<|
      bif decide (x8<16)then
       aA (aO x8 16)<|
      eW ((ints x).take 16) (x8.toNat*1) λd6=>
      db .i64 d6 λx9=>
      c9 (run Bd n 225 [.bool ((!(x9==0))==(decide (aq ((aq ((i5:Int)*16))+x8)<cnt)))]) λds=>
      aF ds<|
      bif !(x9==0)then
       c9 (run Bd n 229 [.ptr (some (K.w,0)),.i x9,.i (aq ((aq ((aq ((i5:Int)*16))+x8))*7))]) λds=>
      aF ds<|
      dP [.i (aq (x8+1))]
      else
       dP [.i (aq (x8+1))]
      else
       Kn) n [.i 0] t0):=by
 obtain _|n:=n;omega;rw[show(ints x).take 16=ints x from dG (by simp[ints,hx])];have⟨G,hG⟩: ∃G,jl K cnt (i5:Int) 0 x v0=G:=⟨_,rfl⟩;rw[hG]at aL cC;refine Zj _ (λq y t=>∃(i:Nat) (u:aI) (Lu:al),y=[.i i]/\i<=16/\16-i<=q/\Wk K t u Lu/\Fx L s t/\Nw L s Lu/\u.ay.length<=v0.ay.length+7*i/\jl K cnt i5 i (x.drop i) u=G) ?_ 16 (n+1) _ _ Fd AC;rintro q _ t ⟨i,u,Lu,rfl,hi,hq,eB,gA,kB,zC,eC⟩ rec aN;rw[au,ao];by_cases av:i<16
 .have gr:x.drop i=(x[i]' AC)::x.drop (i+1):=iR AC
  rw[gr]at eC;rw[aR,Zc (show aO (i:Int) 16=true from Zi av),bn,cR,iI (ZJ),bg];generalize x[i]' AC=y at eC;have cL:aq ((i5:Int)*16)=(i5:Int)*16:=Zb;have gB:aq ((i5:Int)*16+i)=(i5:Int)*16+i:=Zb;have kY:aq (((i5:Int)*16+i)*7)=((i5:Int)*16+i)*7:=Zb;have lN:aq ((i:Int)+1)=((i+1:Nat):Int):=Zb;rw[cL,gB,kY,lN];have vn:((i+1:Nat):Int)=(i:Int)+1:=AC
  unfold jl at eC;cases h1:((!(y==0))==decide ((i5:Int)*16+i<cnt))
  .rw[h1,af]at eC;rw[qk hM n rfl,cC eC.symm];exact .mk ⟨t,rfl,gA⟩
  .rw[h1,ae]at eC;rw[uS hM n rfl,ao];cases h2:(!(y==0))
   .rw[h2,af]at eC;rw[af];exact aN (16-(i+1)) _ _ AC Fd
   .rw[h2,ae]at eC;rw[ae];refine Ok.xy (ZzW hL (n+1) hK y (((i5:Int)*16+i)*7) AC AC eB AC AC) ?_ ?_
    .intro t' hp
     cases h3:kG K y (((i5:Int)*16+i)*7) u
     .rw[h3]at hp eC;have⟨t2,e,pO⟩:=hp;cases e;rw[cC eC.symm];exact⟨t',rfl,gA.step pO kB⟩
     .rename_i w;rw[h3]at hp;have⟨_,_,e,_⟩:=hp;cases e
    .intro ds t' hp
     cases h3:kG K y (((i5:Int)*16+i)*7) u
     .rw[h3]at hp;have⟨_,e,_⟩:=hp;cases e
     .rename_i w;rw[h3]at hp eC;have⟨t2,L2,e,ml,pO,uc⟩:=hp;cases e;rw[ao];have fV:=Zrr h3;exact aN (16-(i+1)) _ _ AC ⟨i+1,w,L2,rfl,AC,aJ _,ml,gA.step pO kB,kB.trans gA.1 uc,AC,by rw[vn];exact eC⟩
 .rw[aU]
  rw[lx AC]at eC;exact aL u eC.symm t Lu eB gA kB
theorem Zy4 (n:Nat) (hK:DL K) (hW:Wk K s v L) (hl:v.ay.length<1000) (hn:190<=n):
  Ok (tz K s L (lD K v) []) (run Bd n 226 [.ptr (some (K.w,0))] s):=by
 obtain⟨n,rfl⟩: ∃k,n=k+2:=⟨n-2,AC⟩;rw[Ze,h.agC];unfold Rg jO Zm cK vK Q_ dj C_ Li iT Lb lD;simp only[fw,ao,Za,bh];have⟨z1,p1,z2,p2,z3,p3,z4,p4,hd,hW⟩:=hW;rw[Zn hW.cell rfl,bg];cases hu:(K.sup.used==0)
 .rw[af,af,Zn hW.cell rfl,bg];have kV:=ZpS (n-1) K.sup.used s;rw[show n-1+2=n+1 by omega]at kV;rw[Zk kV,au,ao,Zn hW.cell rfl,bg];generalize Cb K.sup.used=cnt;refine Ok.xy (hW.take h (n+1) K.sup.bY hK.m hK.GL hK.len AC) ?_ ?_
  .intro s' hp
   cases ht:dC K K.sup.bY v
   .rw[ht]at hp;cases hp;exact⟨s,rfl,.refl L s⟩
   .rename_i q;rw[ht]at hp;grind
  intro ds s1 hp;cases ht:dC K K.sup.bY v
  .rw[ht]at hp;cases hp
  .rename_i q;have⟨b,v1⟩:=q;rw[ht]at hp;have⟨d,s2,e,jo,cP,hb⟩:=hp;cases e;have kC:=(Z4 ht).1;have rq:Fx L s s1:=cP.mono λy hy=>by rw[cH.1 hy];exact hW.xU
   rw[DG,ao];cases b with
   |node x=>obtain⟨p,rfl,_⟩:=hb;exact .mk ⟨s1,rfl,rq⟩
   |leaf x=>obtain⟨rfl,_⟩:=hb;exact .mk ⟨s1,rfl,rq⟩
   |queue x=>obtain⟨rfl,_⟩:=hb;exact .mk ⟨s1,rfl,rq⟩
   |dir x=>obtain⟨p,rfl,_⟩:=hb;exact .mk ⟨s1,rfl,rq⟩
   |none=>cases hb;exact .mk ⟨s1,rfl,rq⟩
   |bY x=>
    obtain⟨rfl,hx⟩:=hb;have hlen:(ints x).length=16:=by simp[ints,hx]
    show Ok (tz K s L (lC K cnt 0 x v1) []) (bC (ints x) 16 _ _);have⟨R,hR⟩: ∃R,lC K cnt 0 x v1=R:=⟨_,rfl⟩;rw[hR,bN hlen,show(ints x).take 16=ints x from dG AC];refine Zj _ (λq y t=>∃(i:Nat) (u:aI) (Lu:al),y=[.i i]/\i<=16/\16-i<=q/\Wk K t u Lu/\Fx L s t/\Nw L s Lu/\u.ay.length<=v.ay.length+112*i/\lC K cnt i (x.drop i) u=R) ?_ 16 (n+1) _ _ ⟨0,v1,L,rfl,AC,AC,jo.wk,rq,.refl L s,by rw[kC];omega,by simpa using hR⟩ AC;rintro q _ t ⟨i,u,Lu,rfl,hi,hq,eB,gA,kB,zC,aL⟩ rec aN;rw[au,ao];by_cases av:i<16
    .have gr:x.drop i=(x[i]' AC)::x.drop (i+1):=iR AC
     rw[gr]at aL;rw[aR,Zc (show aO (i:Int) 16=true from Zi av),bn,cR,iI (ZJ),bg];generalize x[i]' AC=y at aL;have cL:aq ((i:Int)*16)=(i:Int)*16:=Zb;have lN:aq ((i:Int)+1)=((i+1:Nat):Int):=Zb;have vn:((i+1:Nat):Int)=(i:Int)+1:=AC
     rw[show decide (aq ((i:Int)*16)<cnt)=decide ((i:Int)*16<cnt) by rw[cL]];unfold lC at aL;cases h1:((!(y==0))==decide ((i:Int)*16<cnt))
     .rw[h1,af]at aL;rw[qk h n rfl,<-aL];exact .mk ⟨t,rfl,gA⟩
     .rw[h1,ae]at aL;rw[uS h n rfl,ao];cases h2:(y==0)
      .rw[h2,af]at aL;rw[af];have⟨z1,p1,z2,p2,z3,p3,z4,p4,hd,eB⟩:=eB;refine Ok.xy (eB.take h (n+1) y hK.m hK.GL hK.len AC) ?_ ?_
       .intro s' hp
        cases ht:dC K y u
        .rw[ht]at hp aL;cases hp;rw[<-aL];exact⟨t,rfl,gA⟩
        .rename_i q;rw[ht]at hp;grind
       intro ds t1 hp;cases ht:dC K y u
       .rw[ht]at hp;cases hp
       .rename_i q;have⟨b,u1⟩:=q;rw[ht]at hp aL;have⟨d,s2,e,ml,gu,hb⟩:=hp;cases e;have zB:=(Z4 ht).1;have tY:Fx L s t1:=gA.step (gu.mono (T':=Lu) λy hy=>by rw[cH.1 hy];exact eB.xU) kB;rw[DG,ao];cases b with
        |node x=>obtain⟨p,rfl,_⟩:=hb;rw[<-aL];exact .mk ⟨t1,rfl,tY⟩
        |leaf x=>obtain⟨rfl,_⟩:=hb;rw[<-aL];exact .mk ⟨t1,rfl,tY⟩
        |queue x=>obtain⟨rfl,_⟩:=hb;rw[<-aL];exact .mk ⟨t1,rfl,tY⟩
        |dir x=>obtain⟨p,rfl,_⟩:=hb;rw[<-aL];exact .mk ⟨t1,rfl,tY⟩
        |none=>cases hb;rw[<-aL];exact .mk ⟨t1,rfl,tY⟩
        |bY x2=>
         obtain⟨rfl,qI⟩:=hb;have Hs:(ints x2).length=16:=by simp[ints,qI]
         show Ok _ (bC (ints x2) 16 _ _);rw[bN Hs];refine Zz8 h h (n+1) hK cnt i av x2 qI AC s L t1 Lu u1 ml.wk tY kB (by rw[zB];omega) R (rec [.i (aq ((i:Int)+1))]) ?_ ?_
         .intro w hw t2 Lw hWw Ph iG
          have fV:=U0 hw;simp only at aL;rw[hw]at aL;rw[lN];refine aN (16-(i+1)) _ _ AC ⟨i+1,w,Lw,rfl,AC,aJ _,hWw,Ph,iG,?_,by rw[vn];exact aL⟩;rw[zB]at fV;omega
         grind
      .rw[h2,ae]at aL;rw[ae,lN];exact aN (16-(i+1)) _ _ AC Fd
    .rw[aU]
     rw[lx AC]at aL;rw[Zd,<-aL];exact .mk ⟨t,Lu,rfl,eB,gA,kB⟩
 .rw[ae,ae,Zd];exact .mk ⟨s,L,rfl,hW.wk,.refl L s,.refl L s⟩
theorem Vy {B:al} (h:(A++(B++C)).Nodup): ∀y∈A++C,y∉B:=by
 rw[jU,jU]at h;grind
theorem eL.akT (h:eL K s v L z1 p1 z2 p2 z3 p3 z4 p4 hd) (x:Int) (hl:v.free.length<1000000):
  ∃b s1 s2 L',(∀Kc:ai->M Y,(cj [DV.int .i64 x] λi=>bV i 0 1 λcs'=>cu 1 p4 v.free.length cs' 1 8796093022208 Kc) s=Kc (some (b,0)) s1)/\
   (∀Kc:M Y,dE K.w 17 [.slice 1 (some (b,0)) (v.free.length+1)] Kc s1=Kc s2)/\eL K s2 { v with free:=v.free++[x] } L' z1 p1 z2 p2 z3 p3 1 (some (b,0)) (hd)/\Fx L s s2/\Nw L s L'/\Fx (K.w::aM p4) s s2:=by
 have⟨b,s1,hb,ho,cP,he⟩:=Av (Y:=Y) (lim:=8796093022208) h.o4 (sz:=1) (n:=v.free.length) [DV.int .i64 x] AC (by simp[ints]) rfl;have cV:=h.ne;have cL:=cP.2 K.w _ Fd h.cell;have Er: ∀x∈aM p4,x∈L:=λx hx=>by rw[h.own];simp[hx]
 let L':=K.w::K.i::K.j::(aM p1++(aM p2++(aM p3++aM (some (b,0)))))
 let S':=s1.set K.w (some ⟨false,tc K { v with free:=v.free++[x] } (dT z1 p1 v.ay.length) (dT z2 p2 v.aD.length) (dT z3 p3 v.gens.length) (dT 1 (some (b,0)) (v.free.length+1))⟩)
 have gu:Fx L s S':=
  (cP.mono Er).trans ((Fx.set s1 K.w _).mono λy hy=>by rw[cH.1 hy];exact h.Ff)
 have eJ:((K.w::K.i::K.j::(aM p1++(aM p2++aM p3)))++(aM p4++([]:al))).Nodup:=by
  have:=h.nodup;rw[h.own]at this;grind
 have Kv: ∀y∈(K.w::K.i::K.j::(aM p1++(aM p2++aM p3)))++(aM p4++([]:al)),y<s.length:=λy hy=>h.lt y (by
  rw[h.own];grind)
 have EJ:L'.Nodup:=by
  have:=M4 eJ Kv hb;show(K.w::K.i::K.j::(aM p1++(aM p2++(aM p3++aM (some (b,0)))))).Nodup;simpa only[dL,oo,gR,fP,aM]using this
 have iG:Nw L s L':=λy hy=>by
  have EZ:y∈K.w::K.i::K.j::(aM p1++(aM p2++(aM p3++aM (some (b,0))))):=hy;rw[h.own];by_cases e:y=b
  .exact .inr AC
  .refine .inl ?_
   simp only[ep,ga,aM,List.mem_nil_iff,pD]at EZ⊢;grind
 have fR:Fx (K.w::aM p4) s S':=
  ⟨gu.1,λy c hy hc=>by
   simp only[ep,not_or]at hy;show(s1.set K.w _)[y]? =_;rw[ig AC];exact cP.2 y c hy.2 hc⟩
 have Kx:=Vy eJ;have jE: ∀y,y∈aM p1++(aM p2++aM p3)->y∉K.w::aM p4:=λy hy hm=>by
  rcases ep.1 hm with e|e
  .grind
  .exact Kx y Fd e
 have wv:b≠K.w:=λe=>by have:=(eE.1 h.cell).1;omega
 refine⟨b,s1,S',L',he,λKc=>?_,⟨?_,h.e1,h.e2,h.e3,.inl rfl,?_,?_,?_,?_,?_,?_,?_,?_,rfl,EJ⟩,gu,iG,fR⟩
 .rw[sa cL (by show 17<19;omega)]
  rfl
 .show(s1.set K.w _)[K.w]? =_
  rw[ke (by have:=(eE.1 cL).1;exact this),ba];rfl
 .exact h.o1.fx fR λy hy=>jE y (by simp[hy])
 .exact h.o2.fx fR λy hy=>jE y (by simp[hy])
 .exact h.o3.fx fR λy hy=>jE y (by simp[hy])
 .rw[show ints (v.free++[x])=ints v.free++[.i x] by unfold ints;rw[eV];rfl]
  exact(show bc [] s1 (some (b,0)) _ from ho).fx (Fx.set s1 K.w _) (λy hy=>by
   rw[cH.1 hy,cH];exact wv)
 .exact h.aD.fx gu iG
 .exact h.set.fx fR (λhm=>by
   grind) (λhm=>by
   grind)
 .exact Sl.fx h.img gu h.off
 .exact h.off.new h.img iG
theorem eL.akU (h:eL K s v L z1 p1 z2 p2 z3 p3 z4 p4 hd) (x:Int) (hl:v.gens.length<1000000):
  ∃b s1 s2 L',(∀Kc:ai->M Y,(cj [DV.int .i64 x] λi=>bV i 0 1 λcs'=>cu 1 p3 v.gens.length cs' 1 8796093022208 Kc) s=Kc (some (b,0)) s1)/\
   (∀Kc:M Y,dE K.w 16 [.slice 1 (some (b,0)) (v.gens.length+1)] Kc s1=Kc s2)/\eL K s2 { v with gens:=v.gens++[x] } L' z1 p1 z2 p2 1 (some (b,0)) z4 p4 (hd)/\Fx L s s2/\Nw L s L'/\Fx (K.w::aM p3) s s2:=by
 have⟨b,s1,hb,ho,cP,he⟩:=Av (Y:=Y) (lim:=8796093022208) h.o3 (sz:=1) (n:=v.gens.length) [DV.int .i64 x] AC (by simp[ints]) rfl;have cV:=h.ne;have cL:=cP.2 K.w _ Fd h.cell;have Er: ∀x∈aM p3,x∈L:=λx hx=>by rw[h.own];simp[hx]
 let L':=K.w::K.i::K.j::(aM p1++(aM p2++(aM (some (b,0))++aM p4)))
 let S':=s1.set K.w (some ⟨false,tc K { v with gens:=v.gens++[x] } (dT z1 p1 v.ay.length) (dT z2 p2 v.aD.length) (dT 1 (some (b,0)) (v.gens.length+1)) (dT z4 p4 v.free.length)⟩)
 have gu:Fx L s S':=
  (cP.mono Er).trans ((Fx.set s1 K.w _).mono λy hy=>by rw[cH.1 hy];exact h.Ff)
 have eJ:((K.w::K.i::K.j::(aM p1++aM p2))++(aM p3++aM p4)).Nodup:=by
  have:=h.nodup;rw[h.own]at this;grind
 have Kv: ∀y∈(K.w::K.i::K.j::(aM p1++aM p2))++(aM p3++aM p4),y<s.length:=λy hy=>h.lt y (by
  rw[h.own];grind)
 have EJ:L'.Nodup:=by
  have:=M4 eJ Kv hb;show(K.w::K.i::K.j::(aM p1++(aM p2++(aM (some (b,0))++aM p4)))).Nodup;simpa only[dL,oo,gR,fP,aM]using this
 have iG:Nw L s L':=λy hy=>by
  have EZ:y∈K.w::K.i::K.j::(aM p1++(aM p2++(aM (some (b,0))++aM p4))):=hy;rw[h.own];by_cases e:y=b
  .exact .inr AC
  .refine .inl ?_
   simp only[ep,ga,aM,List.mem_nil_iff,pD]at EZ⊢;grind
 have fR:Fx (K.w::aM p3) s S':=
  ⟨gu.1,λy c hy hc=>by
   simp only[ep,not_or]at hy;show(s1.set K.w _)[y]? =_;rw[ig AC];exact cP.2 y c hy.2 hc⟩
 have Kx:=Vy eJ;have jE: ∀y,y∈aM p1++(aM p2++aM p4)->y∉K.w::aM p3:=λy hy hm=>by
  rcases ep.1 hm with e|e
  .grind
  .exact Kx y (by simp only[ga,ep]at hy⊢;rcases hy with e|e|e<;>simp[e]) e
 have wv:b≠K.w:=λe=>by have:=(eE.1 h.cell).1;omega
 refine⟨b,s1,S',L',he,λKc=>?_,⟨?_,h.e1,h.e2,.inl rfl,h.e4,?_,?_,?_,?_,?_,?_,?_,?_,rfl,EJ⟩,gu,iG,fR⟩
 .rw[sa cL (by show 16<19;omega)]
  rfl
 .show(s1.set K.w _)[K.w]? =_
  rw[ke (by have:=(eE.1 cL).1;exact this),ba];rfl
 .exact h.o1.fx fR λy hy=>jE y (by simp[hy])
 .exact h.o2.fx fR λy hy=>jE y (by simp[hy])
 .rw[show ints (v.gens++[x])=ints v.gens++[.i x] by unfold ints;rw[eV];rfl]
  exact(show bc [] s1 (some (b,0)) _ from ho).fx (Fx.set s1 K.w _) (λy hy=>by
   rw[cH.1 hy,cH];exact wv)
 .exact h.o4.fx fR λy hy=>jE y (by simp[hy])
 .exact h.aD.fx gu iG
 .exact h.set.fx fR (λhm=>by
   rcases ep.1 hm with e|e
   .exact cV.1 e.symm
   .exact(cV.2.2.2 K.i (by rw[ga];grind)).2.1 rfl) (λhm=>by
   rcases ep.1 hm with e|e
   .exact cV.2.1 e.symm
   .exact(cV.2.2.2 K.j (by rw[ga];grind)).2.2 rfl)
 .exact Sl.fx h.img gu h.off
 .exact h.off.new h.img iG
theorem eL.akV (h:eL K s v L z1 p1 z2 p2 z3 p3 z4 p4 hd) (x:dw) (hl:v.aD.length<1000000) {p:ai} (hz:z=4\/p=none) (hs:Sl s p (bW x.bz)) (PI:mG L p):
  ∃b s1 s2 L',(∀Kc:ai->M Y,(cj (mS x z p) λi=>bV i 0 2 λcs'=>cu 2 p2 v.aD.length cs' 1 1759218604441 Kc) s=Kc (some (b,0)) s1)/\
   (∀Kc:M Y,dE K.w 15 [.slice 2 (some (b,0)) (v.aD.length+1)] Kc s1=Kc s2)/\eL K s2 { v with aD:=v.aD++[x] } L' z1 p1 2 (some (b,0)) z3 p3 z4 p4 (hd++mS x z p)/\Fx L s s2/\Nw L s L'/\Fx (K.w::aM p2) s s2:=by
 have⟨b,s1,hb,ho,cP,he⟩:=Av (Y:=Y) (lim:=1759218604441) h.o2 (sz:=2) (n:=v.aD.length) (mS x z p) AC h.aD.aD.len rfl;have cV:=h.ne;have cL:=cP.2 K.w _ Fd h.cell;have Er: ∀x∈aM p2,x∈L:=λx hx=>by rw[h.own];simp[hx]
 let L':=K.w::K.i::K.j::(aM p1++(aM (some (b,0))++(aM p3++aM p4)))
 let S':=s1.set K.w (some ⟨false,tc K { v with aD:=v.aD++[x] } (dT z1 p1 v.ay.length) (dT 2 (some (b,0)) (v.aD.length+1)) (dT z3 p3 v.gens.length) (dT z4 p4 v.free.length)⟩)
 have gu:Fx L s S':=
  (cP.mono Er).trans ((Fx.set s1 K.w _).mono λy hy=>by rw[cH.1 hy];exact h.Ff)
 have eJ:((K.w::K.i::K.j::aM p1)++(aM p2++(aM p3++aM p4))).Nodup:=by
  have:=h.nodup;rw[h.own]at this;grind
 have Kv: ∀y∈(K.w::K.i::K.j::aM p1)++(aM p2++(aM p3++aM p4)),y<s.length:=λy hy=>h.lt y (by
  rw[h.own];grind)
 have EJ:L'.Nodup:=by
  have:=M4 eJ Kv hb;show(K.w::K.i::K.j::(aM p1++(aM (some (b,0))++(aM p3++aM p4)))).Nodup;simpa only[dL,oo,gR,fP,aM]using this
 have iG:Nw L s L':=λy hy=>by
  have EZ:y∈K.w::K.i::K.j::(aM p1++(aM (some (b,0))++(aM p3++aM p4))):=hy;rw[h.own];by_cases e:y=b
  .exact .inr AC
  .refine .inl ?_
   simp only[ep,ga,aM,List.mem_nil_iff,pD]at EZ⊢;grind
 have fR:Fx (K.w::aM p2) s S':=
  ⟨gu.1,λy c hy hc=>by
   simp only[ep,not_or]at hy;show(s1.set K.w _)[y]? =_;rw[ig AC];exact cP.2 y c hy.2 hc⟩
 have Kx:=Vy eJ;have jE: ∀y,y∈aM p1++(aM p3++aM p4)->y∉K.w::aM p2:=λy hy hm=>by
  rcases ep.1 hm with e|e
  .grind
  .exact Kx y (by simp only[ga,ep]at hy⊢;rcases hy with e|e|e<;>simp[e]) e
 have wv:b≠K.w:=λe=>by have:=(eE.1 h.cell).1;omega
 refine⟨b,s1,S',L',he,λKc=>?_,⟨?_,h.e1,.inl rfl,h.e3,h.e4,?_,?_,?_,?_,?_,?_,?_,?_,rfl,EJ⟩,gu,iG,fR⟩
 .rw[sa cL (by show 15<19;omega)]
  rfl
 .show(s1.set K.w _)[K.w]? =_
  rw[ke (by have:=(eE.1 cL).1;exact this),ba];rfl
 .exact h.o1.fx fR λy hy=>jE y (by simp[hy])
 .skip
  exact(show bc [] s1 (some (b,0)) _ from ho).fx (Fx.set s1 K.w _) (λy hy=>by
   rw[cH.1 hy,cH];exact wv)
 .exact h.o3.fx fR λy hy=>jE y (by simp[hy])
 .exact h.o4.fx fR λy hy=>jE y (by simp[hy])
 .exact(h.aD.fx gu iG).push hz (hs.fx gu PI) (PI.new hs iG)
 .exact h.set.fx fR (λhm=>by
   grind) (λhm=>by
   grind)
 .exact Sl.fx h.img gu h.off
 .exact h.off.new h.img iG
def uU (K:bu) (v:aI) (k:Int):Prop:=(v.ay.length:Int)=(if k<=K.sup.used then k else K.sup.used)/\∀x∈v.ay,ZK x=true
theorem ZuS {x:aX} (hx:ZK x=true) (_h0:0<=K.sup.used) (h:mO K k x v=some v') (ha:uU K v k):uU K v' (k+1):=by
 unfold mO at h;by_cases hk:k>=K.sup.used
 .rw[aR hk]at h
  cases h2:oA x
  .rw[h2]at h;cases h
  .rw[h2]at h;cases h;refine⟨?_,ha.2⟩;rw[ha.1];split<;>split<;>omega
 .rw[aU hk]at h
  cases h2:nk K.sup x
  .rw[h2]at h;cases h
  .rw[h2]at h;cases h;refine⟨?_,λy hy=>?_⟩
   .have:=ha.1
    rw[bx AC]at this;rw[bx AC];simp;omega
   .rcases ga.1 hy with h|h
    .exact ha.2 y h
    grind
theorem Zrs {K:bu} (h0:0<=K.sup.used): ∀ {x:List aX} {k:Int} {v v':aI},(∀y∈x,ZK y=true)->jY K k x v=some v'->uU K v k->uU K v' (k+x.length)
 |[],k,_,_,_,h,ha=>by cases h;simpa using ha
 |y::r,k,v,v',hr,h,ha=>by
  unfold jY at h;cases h1:mO K k y v
  .rw[h1]at h;cases h
  .rename_i w;rw[h1]at h;have:=Zrs h0 Fd h (ZuS (hr y Do) h0 h1 ha);rwa [show k+((y::r).length:Int)=k+1+r.length by simp;omega]
theorem Zsb {x:List aX} (h:ZI l=some x): ∀y∈x,ZK y=true:=by
 grind[ZI]
theorem Zul {x:List aX} (h:ZA l= .leaf x): ∀y∈x,ZK y=true:=by
 unfold ZA at h;split at h
 .cases h
 .split at h
  .rename_i e;cases h;exact Zsb e
  grind
theorem ZzO (h0:0<=K.sup.used) (h:kG K k slot v=some v') (ha:uU K v slot):uU K v' (slot+7):=by
 unfold kG at h;cases ht:dC K k v
 .rw[ht]at h;cases h
 .rename_i q;have⟨b,v1⟩:=q;rw[ht]at h;have⟨h1,_,_,_,_,h2⟩:=Z4 ht;cases b with
  |leaf x=>
   have:=Zrs h0 (Zul h2.symm) h (by grind[uU]);rwa [Znw h2.symm]at this
  |node x=>cases h
  |bY x=>cases h
  |queue x=>cases h
  |dir x=>cases h
  |none=>cases h
theorem Vx {K:bu} (h0:0<=K.sup.used) {cnt x5:Int} (hc:K.sup.used<=cnt*7): ∀ {x:ak} {k:Int} {v v':aI},jl K cnt x5 k x v=some v'->uU K v ((x5*16+k)*7)->uU K v' ((x5*16+k+x.length)*7)
 |[],_,_,_,h,ha=>by cases h;simpa using ha
 |y::r,k,v,v',h,ha=>by
  unfold jl at h;have e:(x5*16+k+((y::r).length:Int))*7=(x5*16+(k+1)+r.length)*7:=by simp;omega
  rw[e];cases h1:((!(y==0))==decide (x5*16+k<cnt))
  .rw[h1]at h;cases h
  .rw[h1,ae]at h;cases h2:(!(y==0))
   .rw[h2]at h h1;have hk: ¬(x5*16+k<cnt):=by
     grind
    refine Vx h0 hc h ⟨?_,ha.2⟩;rw[ha.1];split<;>split<;>omega
   .rw[h2,ae]at h;cases h3:kG K y ((x5*16+k)*7) v
    .rw[h3]at h;cases h
    .rename_i w;rw[h3]at h;have:=ZzO h0 h3 ha;rw[show(x5*16+k)*7+7=(x5*16+(k+1))*7 by omega]at this;exact Vx h0 hc h this
theorem Ut {x:ak} (h:ZY l=some x):x.length=16:=by
 unfold ZY at h;split at h
 .cases h
 .rename_i k t b _
  cases e:(decide (k=3)&&(decide (t=0)&&ZB (b.drop 32)))
  .rw[e]at h;cases h
  .rw[e]at h;cases e2:Am (dO b 16)
   .rw[e2]at h;cases h
   .rw[e2]at h;cases h;exact pG b 16
theorem ZoM {x:ak} (h:ZA l= .bY x):x.length=16:=by
 unfold ZA at h;split at h
 .cases h
 .split at h
  .cases h
  .split at h
   .rename_i e;cases h;exact Ut e
   grind
theorem Vl {K:bu} (h0:0<=K.sup.used) {cnt:Int} (hc:K.sup.used<=cnt*7): ∀ {x:ak} {k:Int} {v v':aI},lC K cnt k x v=some v'->uU K v (k*112)->uU K v' ((k+x.length)*112)
 |[],_,_,_,h,ha=>by cases h;simpa using ha
 |y::r,k,v,v',h,ha=>by
  unfold lC at h;have e:(k+((y::r).length:Int))*112=(k+1+r.length)*112:=by simp;omega
  rw[e];cases h1:((!(y==0))==decide (k*16<cnt))
  .rw[h1]at h;cases h
  .rw[h1,ae]at h;cases h2:(y==0)
   .rw[h2,af]at h;cases ht:dC K y v
    .rw[ht]at h;cases h
    .rename_i q;have⟨b,v1⟩:=q;rw[ht]at h;have⟨g1,_,_,_,_,g2⟩:=Z4 ht;cases b with
     |leaf x=>cases h
     |node x=>cases h
     |queue x=>cases h
     |dir x=>cases h
     |none=>cases h
     |bY x2=>
      simp only at h;cases h3:jl K cnt k 0 x2 v1
      .rw[h3]at h;cases h
      .rename_i w;rw[h3]at h;have hb:=ZoM g2.symm;have:=Vx h0 hc h3 (by grind[uU]);rw[hb,show(k*16+0+((16:Nat):Int))*7=(k+1)*112 by omega]at this;exact Vl h0 hc h this
   .rw[h2]at h h1;have hk: ¬(k*16<cnt):=by
     grind
    refine Vl h0 hc h ⟨?_,ha.2⟩;rw[ha.1];split<;>split<;>omega
theorem Zwh (h0:0<=u) (h1:u<=1792):u<=Cb u*7:=by
 unfold Cb p9;rw[aQ (show u>=0 from h0),aQ h1,BA,ae,Zb (x:=u+7),Zb (x:=u+7-1)];obtain⟨k,rfl⟩: ∃k:Nat,u=k:=⟨u.toNat,AC⟩;rw[show((k:Int)+7-1)=((k+6:Nat):Int) by omega,show(((k+6:Nat):Int).tdiv 7)=(((k+6)/7:Nat):Int)from rfl,Zb];omega
theorem ZrP (h0:0<=K.sup.used) (h1:K.sup.used<=1792) (hv:v.ay=[]) (h:lD K v=some v'):(v'.ay.length:Int)=K.sup.used/\∀x∈v'.ay,ZK x=true:=by
 unfold lD at h;cases hu:(K.sup.used==0)
 .rw[hu,af]at h;cases ht:dC K K.sup.bY v
  .rw[ht]at h;cases h
  .rename_i q;have⟨b,v1⟩:=q;rw[ht]at h;have⟨g1,_,_,_,_,g2⟩:=Z4 ht;cases b with
   |leaf x=>cases h
   |node x=>cases h
   |queue x=>cases h
   |dir x=>cases h
   |none=>cases h
   |bY x=>
    have:=Vl h0 (Zwh h0 h1) h (by grind[uU]);rw[ZoM g2.symm]at this;have h2:=this.1;refine⟨?_,this.2⟩;rw[h2];split<;>omega
 .rw[hu]at h;grind
def jZ (K:bu):Nat->List Bool->Int->aI->Option (List Bool×aI)
 |0,_,_,_=>none
 |f+1,fl,next,v=>bif next==0 then some (fl,v)else(bif decide (next<=K.sup.used)then
   (match v.ay[(next-1).toNat]? with
   |none=>none
   |some x=>bif (bif (bif !x.live then decide (x.gen<K.sup.g)else false)then !fl.getD (next-1).toNat false else false)then jZ K f (fl.set (next-1).toNat true) x.block { v with free:=v.free++[next-1] } else none)
  else none)
def vV (K:bu) (b:Bool) (x:aX):Bool:=bif (bif x.live then true else x.gen==K.sup.g)then true else b
def nj (K:bu):List Bool->List aX->Bool
 |_,[]=>true
 |fl,x::r=>vV K (fl.getD 0 false) x&&nj K (fl.drop 1) r
def xm (K:bu):Option (List Bool×aI)->Option aI
 |none=>none
 |some (fl,v)=>bif nj K fl v.ay then some v else none
def oa (K:bu) (v:aI):Option aI:=xm K (jZ K (K.sup.used.toNat+1) (List.replicate K.sup.used.toNat false) K.sup.free v)
theorem Zxs: ∀ {l:List Bool} {k:Nat},l.getD k true=false->(l.set k true).count false+1=l.count false
 |[],k,h=>by simp at h
 |b::l,0,h=>by
  grind
 |b::l,k+1,h=>by
  grind
theorem bc.cS {a:ai} (h:bc [] s a cs) (hn:0<cs.length): ∃b,a=some (b,0)/\s[b]? =some (some ⟨false,cs⟩):=by
 rcases h.2 with⟨_,rfl⟩|⟨i,rfl,_,h3⟩
 .cases hn
 grind
theorem MZ {b:Nat} {l:List aX} {x:aX} {k:Nat} (h:s[b]? =some (some ⟨false,bX l⟩)) (hx:l[k]? =some x) (Kc:ah->M Y):bV b (k*3+0) 3 Kc s=Kc (eZ x) s:=by
 have hk:k<l.length:=Fd
 rw[fE,kq h (by rw[ZE];omega),Na hx]
theorem ZAD {Bd:Zg} (hM:HA Bd) (n:Nat) (i1:Nat) (fl:List Bool) (s0:St) (L0:al) (R:Option aI) (hW:Wk K s v L) (hf:s[i1]? =some (some ⟨false,fl.map .bool⟩)) (hl:fl.length=v.ay.length) (hlen:v.ay.length<2000) (cP:Fx L0 s0 s) (iG:Nw L0 s0 L) (hR:xm K (some (fl,v))=R) (X:Nat) (hX:X=v.ay.length) (hn:2010<=n):
  Ok (tz K s0 L0 R []) ((bK (some (K.w,0)) λi3 o2=>
  bH i3 (o2+11) λd2=>
  dB 3 d2 λx2 di=>
  cO (λst=>
   aF st<|
   aw []) λaG=>
  dc (λaV st=>
   aC .i64 st λx3 st=>
   aF st<|
   bif decide (x3<(di:Int))then
    bK x2 λi4 o3=>
    aA (aO x3 di)<|
    bV i4 (x3.toNat*3+o3) 3 λcs=>
    gT cs λx4 r=>
    aC .i64 r λx5 r=>
    aC .i64 r λ_x6 r=>
    aF r<|
    cO (λst=>gT st λb1 st=>aF st<|
     cO (λst=>gT st λb2 st=>aF st<|
      c9 (run Bd n 225 [.bool b2]) λds=>
      aF ds<|
      aV [.i (aq (x3+1))]) λbG=>
     bif b1 then
      bG [.bool true]
     else
      aA (aO x3 X)<|
      bH i1 (x3.toNat*1) λd3=>
      uZ d3 λx7=>
      bG [.bool x7]) λaW=>
    bif x4 then
     aW [.bool true]
    else
     bK (some (K.w,0)) λi5 o4=>
     bH i5 (o4+4) λd4=>
     db .i64 d4 λx8=>
     aW [.bool (x5==x8)]
   else
    aG []) n [.i 0]) s):=by
 subst hX;obtain _|n:=n;omega;have⟨z1,p1,z2,p2,z3,p3,z4,p4,hd,hW⟩:=hW;rw[bh,Zn hW.cell rfl];show Ok _ (dB 3 (.slice z1 p1 v.ay.length) _ s);rw[Z5 3 z1 p1 _ hW.e1];simp only[Za];refine Zj _ (λq y t=>∃i:Nat,y=[.i i]/\i<=v.ay.length/\v.ay.length-i<=q/\t=s/\(bif nj K (fl.drop i) (v.ay.drop i)then some v else none)=R) ?_ v.ay.length (n+1) _ _ ⟨0,rfl,cN _,AC,rfl,hR⟩ AC;rintro q _ t ⟨i,rfl,hi,hq,rfl,aL⟩ rec aN;simp only[au,ao];by_cases av:i<v.ay.length
 .obtain⟨b,rfl,hb⟩:=hW.o1.cS (by rw[ZE];omega)
  have oi:v.ay[i]? =some v.ay[i]:=cc av;have gr:v.ay.drop i=v.ay[i]::v.ay.drop (i+1):=iR av;have Hj:fl[i]? =some (fl[i]' AC):=Fd
  rw[aR,bh,Zc (Zi av),bn,MZ hb oi];rw[gr]at aL;unfold nj at aL;rw[kd,show(fl.drop i).getD 0 false=fl[i]' AC by rw[cz,w4,fE,Hj];rfl]at aL;generalize v.ay[i]=x at aL;unfold eZ;simp only[ar,au,ao,bh];have lN:aq ((i:Int)+1)=((i+1:Nat):Int):=Zb;rw[lN];have oH:Ok (tz K s0 L0 R []) (c9 (run Bd (n+1) 225 [.bool (vV K (fl[i]' AC) x)]) (λds=>aF ds<|rec [.i ((i+1:Nat):Int)]) t):=by
   cases h0:vV K (fl[i]' AC) x
   .rw[h0,gF,af]at aL;rw[qk hM n rfl,<-aL];exact .mk ⟨t,rfl,cP⟩
   .rw[h0,dt]at aL;rw[uS hM n rfl,ao];exact aN (v.ay.length-(i+1)) _ _ AC Fd
  unfold vV at oH;have Ht: ∀Kc:DV->M ah,bH i1 (i*1) Kc t=Kc (.bool (fl[i]' AC)) t:=λKc=>Zn hf (by rw[cR,nf,Hj];rfl) Kc
  have rB: ∀Kc:DV->M ah,bH K.w (0+4) Kc t=Kc (.i K.sup.g) t:=λKc=>Zn hW.cell rfl Kc
  cases eQ:x.live
  .simp only[eQ,af]at oH;rw[af,rB,bg];cases hg:(x.gen==K.sup.g)
   .simp only[hg,af]at oH;rw[af,Zc (Zi av),Ht,uI];exact oH
   .grind
  .grind
 .rw[aU]
  rw[Zd];rw[lx (as:=v.ay) AC]at aL;have A9:some v=R:=aL;rw[<-A9];exact .mk ⟨t,L,rfl,hW.wk,cP,iG⟩
theorem Zz2 (n:Nat) (hW:Wk K s v L) (h0:0<=K.sup.used) (h1:K.sup.used<=1792) (wz:0<=K.sup.free) (hs:(v.ay.length:Int)=K.sup.used) (hr: ∀x∈v.ay,ZK x=true) (hh:v.aD=[]) (ec:v.free=[]) (hn:2100<=n):
  Ok (tz K s L (oa K v) []) (run Bd n 230 [.ptr (some (K.w,0))] s):=by
 obtain⟨n,rfl⟩: ∃k,n=k+2:=⟨n-2,AC⟩;rw[Ze,h.agG];unfold Rn jO Zm Q_ dj N_ se az C_ si Lb Li bj oa
 try dsimp only
 rw[fw,ao,bh];have⟨z1,p1,z2,p2,z3,p3,z4,p4,hd,hW⟩:=hW;rw[Zn hW.cell rfl,bg,Zc (by rw[aS,aS,bq,bq,bq];omega),ZD,D4];have pU:=aB.new s (some (⟨false,List.replicate K.sup.used.toNat (.bool false)⟩:bQ));have ac5:(s++[some (⟨false,List.replicate K.sup.used.toNat (.bool false)⟩:bQ)])[s.length]? =some (some ⟨false,(List.replicate K.sup.used.toNat false).map .bool⟩):=Do
 have tV:=hW.pre pU;have acV:=tV.cell;generalize s++[some (⟨false,List.replicate K.sup.used.toNat (.bool false)⟩:bQ)]=s0 at pU ac5 tV acV;rw[bh,Zn acV rfl,bg,Za];have⟨R,hR⟩: ∃R,xm K (jZ K (K.sup.used.toNat+1) (List.replicate K.sup.used.toNat false) K.sup.free v)=R:=⟨_,rfl⟩;rw[hR];have hX:K.sup.used.toNat=v.ay.length:=AC
 have Ke:s.length∉L:=λhm=>by have:=hW.lt _ hm;omega
 refine Zj _ (λq y t=>∃(f:Nat) (fl:List Bool) (next:Int) (u:aI) (Lu:al),y=[.i next]/\0<=next/\fl.length=v.ay.length/\fl.count false<=q/\fl.count false<f/\Wk K t u Lu/\u.ay=v.ay/\u.aD=[]/\u.free.length+fl.count false<=v.ay.length/\t[s.length]? =some (some ⟨false,fl.map .bool⟩)/\s.length∉Lu/\Fx L s t/\Nw L s Lu/\xm K (jZ K f fl next u)=R) ?_ v.ay.length (n+1) _ _ ⟨K.sup.used.toNat+1,_,K.sup.free,v,L,rfl,wz,by simp[hX],by simp[hX],Do,tV.wk,rfl,hh,by simp[ec,hX],ac5,Ke,Fx.pre L pU,.refl L s,hR⟩ AC;rintro q _ t ⟨f,fl,next,u,Lu,rfl,Hw,dZ,hcq,y8,eB,j7,vy,huf,xI,hiL,cP,iG,aL⟩ rec aN;rw[au,ao];obtain⟨f,rfl⟩: ∃k,f=k+1:=⟨f-1,AC⟩;unfold jZ at aL;cases hz:(next==0)with
 |true=>
  rw[hz,ae]at aL;rw[bI,af];exact ZAD h (n+1) s.length fl s L R eB xI (by rw[j7];exact dZ) (by rw[j7];omega) cP iG aL K.sup.used.toNat (by rw[j7];exact hX) AC
 |false=>
  rw[hz,af]at aL;rw[bD,ae];have EI:next≠0:=Fd
  have⟨z1,p1,z2,p2,z3,p3,z4,p4,hd,eB⟩:=eB;rw[bh,Zn eB.cell rfl,bg];cases hle:decide (next<=K.sup.used)
  .rw[hle,af]at aL;rw[qk h n rfl];have A9:none=R:=aL;rw[<-A9];exact .mk ⟨t,rfl,cP⟩
  .have alX:=ng hle;rw[hle,ae]at aL;rw[uS h n rfl,ao];have⟨k,hk⟩: ∃k:Nat,next-1=k:=⟨(next-1).toNat,AC⟩;have fM:k<u.ay.length:=by rw[j7];omega
   have cL:aq (next-1)=(k:Int):=by rw[Zb,hk]
   rw[hk,bn]at aL;rw[cL,bn,bh,Zn eB.cell rfl];show Ok _ (dB 3 (.slice z1 p1 u.ay.length) _ t);rw[Z5 3 z1 p1 _ eB.e1];obtain⟨b,rfl,hb⟩:=eB.o1.cS (by rw[ZE];omega);have oi:u.ay[k]? =some u.ay[k]:=cc fM;have zy:=hr u.ay[k] (by rw[<-j7];grind);rw[bh,Zc (Zi fM),MZ hb oi];rw[oi]at aL;simp only at aL;generalize u.ay[k]=x at aL zy;unfold eZ;simp only[ar,au,ao,Za,bh];have YD:fl[k]? =some (fl[k]' AC):=Fd
   rw[show fl.getD k false=fl[k]' AC by rw[cz,YD];rfl]at aL;have rB: ∀Kc:DV->M ah,bH K.w (0+4) Kc t=Kc (.i K.sup.g) t:=λKc=>Zn eB.cell rfl Kc
   have Ht: ∀Kc:DV->M ah,bH s.length (k*1) Kc t=Kc (.bool (fl[k]' AC)) t:=λKc=>Zn xI (by rw[cR,nf,YD];rfl) Kc
   cases eQ:x.live
   .simp only[eQ,bD,ae]at aL;rw[bD,ae,rB,bg];cases hg:decide (x.gen<K.sup.g)
    .simp only[hg,af]at aL;rw[af,qk h n rfl];have A9:none=R:=aL;rw[<-A9];exact .mk ⟨t,rfl,cP⟩
    .simp only[hg,ae]at aL;rw[ae,hX,<-j7,Zc (Zi fM),Ht,uI];cases YE:fl[k]' AC
     .simp only[YE,bD,ae]at aL;rw[bD,uS h n rfl,ao,Zc (Zi fM),sa xI (by simp;omega)];have dy:(fl.map DV.bool).set (k*1) (.bool true)=(fl.set k true).map DV.bool:=by rw[cR,List.map_set]
      rw[dy];have YH:=Fx.set t s.length (some (⟨false,(fl.set k true).map DV.bool⟩:bQ));have ajm:mG [s.length] K.a:=λb o e hm=>by
       have av:=Sl.lt (e▸hW.img);rw[cH.1 hm]at av;omega
      have O6:=eB.kE YH Fd ajm (by
       have:=eB.aD;rw[vy]at this⊢;exact this)
      have ac7:(t.set s.length (some (⟨false,(fl.set k true).map DV.bool⟩:bQ)))[s.length]? =some (some ⟨false,(fl.set k true).map .bool⟩):=Fd
      have YI:Fx L s (t.set s.length (some (⟨false,(fl.set k true).map DV.bool⟩:bQ))):=cP.step YH λy hy=> .inr (by rw[cH.1 hy];exact aJ _)
      generalize t.set s.length (some (⟨false,(fl.set k true).map DV.bool⟩:bQ))=t1 at YH O6 ac7 YI;rw[Zn O6.cell rfl];show Ok _ (dB 1 (.slice z4 p4 u.free.length) _ t1);rw[Z5 1 z4 p4 _ O6.e4];have mR:=Zxs (l:=fl) (k:=k) (by rw[cz,YD,YE];rfl);have⟨b2,t2,t3,L3,g1,g2,g3,g4,g5,g6⟩:=O6.akT (Y:=ah) (k:Int) AC;have ama:s.length<t1.length:=Fd
      refine Eq.mpr (congrArg (Ok _) (g1 _)) ?_;refine Eq.mpr (congrArg (Ok _) (g2 _)) ?_;have hblk:0<=x.block:=by
       unfold ZK at zy;rw[eQ,af,aS,aS]at zy;have h2:=zy.2.1;unfold kR at h2;by_cases yX:x.block>=0
       .exact yX
       grind
      refine aN ((fl.set k true).count false) _ _ AC ⟨f,fl.set k true,x.block,_,L3,rfl,hblk,by simpa using dZ,aJ _,AC,g3.wk,j7,vy,by simp;omega,?_,?_,YI.step g4 iG,iG.trans YI.1 g5,aL⟩
      .refine g4.2 _ _ hiL ac7
      .intro hm
       rcases g5 _ hm with e|e
       .exact hiL e
       .omega
     .simp only[YE,bI,af]at aL;rw[bI,qk h n rfl];have A9:none=R:=aL;rw[<-A9];exact .mk ⟨t,rfl,cP⟩
   .simp only[eQ,bI,af]at aL;rw[bI,af,af,qk h n rfl];have A9:none=R:=aL;rw[<-A9];exact .mk ⟨t,rfl,cP⟩
def sR (v:aI):aI:= { v with gens:=v.gens++v.ay.map (·.gen) }
def vB (v:aI):Nat:=(v.ay.filter (·.live)).length
theorem ZAc (n:Nat) (hW:Wk K s v L) (hl:v.ay.length<2000) (hg:v.gens.length<100000) (hn:2010<=n):
  Ok (λo=>∃s' L',o=(.val [.i (vB v:Nat)],s')/\Wk K s' (sR v) L'/\Fx L s s'/\Nw L s L') (run Bd n 234 [.ptr (some (K.w,0))] s):=by
 obtain _|n:=n;omega;rw[Ze,h.agK];unfold Ro jO qg jx N_ se Li bj gG;simp only[fw,ao,bh,Za];have⟨z1,p1,z2,p2,z3,p3,z4,p4,hd,hW⟩:=hW;rw[Zn hW.cell rfl];show Ok _ (dB 3 (.slice z1 p1 v.ay.length) _ s);rw[Z5 3 z1 p1 _ hW.e1];refine Zj _ (λq y t=>∃(i:Nat) (z3:Nat) (p3:ai) (Lu:al),y=[.i (((v.ay.take i).filter (·.live)).length:Nat),.i i]/\i<=v.ay.length/\v.ay.length-i<=q/\eL K t { v with gens:=v.gens++(v.ay.take i).map (·.gen) } Lu z1 p1 z2 p2 z3 p3 z4 p4 hd/\Fx L s t/\Nw L s Lu) ?_ v.ay.length n _ _ ⟨0,z3,p3,L,rfl,cN _,AC,by simpa using hW,.refl L s,.refl L s⟩ AC;rintro q _ t ⟨i,z3,p3,Lu,rfl,hi,hq,eB,gA,kB⟩ rec aN;simp only[au,ao];by_cases av:i<v.ay.length
 .obtain⟨b,rfl,hb⟩:=eB.o1.cS (by rw[ZE];grind)
  have oi:v.ay[i]? =some v.ay[i]:=cc av;have hY:v.ay.take (i+1)=v.ay.take i++[v.ay[i]]:=oq av;rw[aR,bh,Zc (Zi av),bn,MZ hb oi];generalize v.ay[i]=x at hY;unfold eZ;simp only[ar,au,ao];rw[Zn eB.cell rfl];show Ok _ (dB 1 (.slice z3 p3 (v.gens++(v.ay.take i).map (·.gen)).length) _ t);rw[Z5 1 z3 p3 _ eB.e3];have kV:(v.gens++(v.ay.take i).map (·.gen)).length<1000000:=by
   rw[ba,mC,cB];omega
  have⟨b2,t2,t3,L3,g1,g2,g3,g4,g5,g6⟩:=eB.akU (Y:=ah) x.gen kV;refine Eq.mpr (congrArg (Ok _) (g1 _)) ?_;refine Eq.mpr (congrArg (Ok _) (g2 _)) ?_;have lN:aq ((i:Int)+1)=((i+1:Nat):Int):=Zb;have dZ:((v.ay.take i).filter (·.live)).length<=i:=Fd
  have sP:aq (((((v.ay.take i).filter (·.live)).length:Nat):Int)+1)=((((v.ay.take i).filter (·.live)).length+1:Nat):Int):=Zb;rw[lN,sP];have vr:eL K t3 { v with gens:=v.gens++(v.ay.take (i+1)).map (·.gen) } L3 z1 (some (b,0)) z2 p2 1 (some (b2,0)) z4 p4 hd:=by
   rw[hY,eV,<-dL];exact g3
  cases eQ:x.live
  .rw[af];exact aN (v.ay.length-(i+1)) _ _ AC ⟨i+1,1,some (b2,0),L3,by rw[hY,HY];simp[eQ],AC,aJ _,vr,gA.step g4 kB,kB.trans gA.1 g5⟩
  .rw[ae];exact aN (v.ay.length-(i+1)) _ _ AC ⟨i+1,1,some (b2,0),L3,by rw[hY,HY];simp[eQ],AC,aJ _,vr,gA.step g4 kB,kB.trans gA.1 g5⟩
 .rw[aU]
  rw[Zd];rw[dG AC]at eB⊢;exact .mk ⟨t,Lu,rfl,eB.wk,gA,kB⟩
