/- The document's device: rickyardref05. -/
import Derived.Test.YtjcghijjmhhldaaGreatDoorGvZDa
import Derived.Test.YtjcghijjmhhldaaGreatDoorGvZMi
set_option linter.all false
namespace Go.Gv.F
open Go.Gv
variable {β:Type}
def eE (V:ay):Int:=bif V.off then 0 else bif V.fN then V.left else-1
def mH (b zp:Nat) (p:ah) (since:Nat) (lf:Int) (steps n m:Nat):af:=[.slice 1 (some (b,0)) n,.slice 1 (some (b+1,0)) n,.slice 1 (some (b+2,0)) n,.slice 1 (some (b+3,0)) n,.slice zp p m,.i since,.i lf,.i (aq steps)]
def RB (b:Nat):al:=[b,b+1,b+2,b+3,b+4]
structure jh (s:St) (b zp:Nat) (p:Option (Nat×Nat)) (since:Nat) (lf:Int) (steps:Nat) (cs:List aU) (bT:List Int):Prop where
 hd:s[b+4]? =some (some ⟨false,mH b zp p since lf steps cs.length bT.length⟩)
 hl:s[b]? =some (some ⟨false,Zm (cs.map aU.l)⟩)
 hs:s[b+1]? =some (some ⟨false,Zm (cs.map aU.s)⟩)
 ht:s[b+2]? =some (some ⟨false,Zm (cs.map aU.t)⟩)
 hf:s[b+3]? =some (some ⟨false,cs.map λc=> .bool c.f⟩)
 hp:zp=1\/p=none
 pl:Sl s p (ints bT)
 off:dF (RB b) p
structure RDx (s:St) (b q zp:Nat) (p:Option (Nat×Nat)) (since:Nat) (V:ay):Prop where
 dv:jh s b zp p since (eE V) V.steps V.cs V.bT
 ai:V.bT.isEmpty=false->since%V.bT.length=V.at_
 le:since<=V.steps
 bl: ∀x∈aC p,x=q
def dS (s:St) (b q:Nat) (V:ay):Prop:=∃zp p since,RDx s b q zp p since V
variable {st:St} {b q zp since steps:Nat} {p:ah} {lf:Int} {cs:List aU} {bT:ak} {V:ay}
variable {K X:M af} {i j k' k1:Nat} {s s' s0 st:St} {f g:ay->ay×Int} {r:ay×Int}
theorem jh.sl (h:jh st b zp p since lf steps cs bT) (hj:j∈RB b) (x:Option aH):Sl (st.set j x) p (ints bT):=by
 refine Sl.fx h.pl (Fx.set st j x) λb' o e hm=>?_
 rw[cA]at hm;subst hm;exact h.off b' o e hj
theorem jh.fx {T:al} {s':St} (h:jh st b zp p since lf steps cs bT) (k:Fx T st s') (hT: ∀x∈RB b,x∉T) (hp:dF T p):jh s' b zp p since lf steps cs bT:=
 ⟨k.2 _ _ (hT _ (by simp[RB])) h.hd,k.2 _ _ (hT _ (by simp[RB])) h.hl,k.2 _ _ (hT _ (by simp[RB])) h.hs,k.2 _ _ (hT _ (by simp[RB])) h.ht,k.2 _ _ (hT _ (by simp[RB])) h.hf,h.hp,h.pl.fx k hp,h.off⟩
theorem dS.fx {T:al} {s':St} (h:dS st b q V) (k:Fk T st s') (hT: ∀x∈RB b,x∉T) (hq:q∉T):dS s' b q V:=by
 have⟨zp,p,since,h1,h2,h3,h4⟩:=h;exact⟨zp,p,since,h1.fx k.1 hT (dF.aC λx hx hm=>hq (h4 x hx▸hm)),h2,h3,h4⟩
theorem dS.pre {s':St} (h:dS st b q V) (k:ax st s'):dS s' b q V:=h.fx (T:=[]) (.pre k) Do Do
theorem jh.ou (h:jh st b zp p since lf steps cs bT) (OD:Nat) (Oi:Int) (OH:Nat):jh (st.set (b+4) (some ⟨false,mH b zp p OD Oi OH cs.length bT.length⟩)) b zp p OD Oi OH cs bT/\Fk (RB b) st (st.set (b+4) (some ⟨false,mH b zp p OD Oi OH cs.length bT.length⟩)):=by
 refine⟨⟨eJ (cF.1 h.hd).1,?_,?_,?_,?_,h.hp,h.sl (by simp[RB]) _,h.off⟩,(Fk.set h.hd _).mono (by simp[RB])⟩
 .rw[cz AC];exact h.hl
 .rw[cz AC];exact h.hs
 .rw[cz AC];exact h.ht
 .rw[cz AC];exact h.hf
theorem xU (W:al) (i w:Nat):(Zm W).set i (.w w)=Zm (W.set i w):=by
 unfold Zm;rw[pD]
theorem uw {α:Type} {f:aU->α} {c x:aU} (h:cs[i]? =some x) (e:f c=f x):(cs.set i c).map f=cs.map f:=by
 rw[pD,e];exact AW (by rw[jJ,h];rfl)
theorem jh.cells (h:jh st b zp p since lf steps cs bT) (cs':List aU) (hl:cs'.length=cs.length) (s':St) (hlen:s'.length=st.length) (h1:s'[b]? =some (some ⟨false,Zm (cs'.map aU.l)⟩)) (h2:s'[b+1]? =some (some ⟨false,Zm (cs'.map aU.s)⟩)) (h3:s'[b+2]? =some (some ⟨false,Zm (cs'.map aU.t)⟩)) (h4:s'[b+3]? =some (some ⟨false,cs'.map λc=> .bool c.f⟩))
  (ho: ∀j,j∉[b,b+1,b+2,b+3]->s'[j]? =st[j]?):jh s' b zp p since lf steps cs' bT/\Fk (RB b) st s':=by
 have hx:Fx [b,b+1,b+2,b+3] st s':=⟨AC,λj x hj e=>by rw[ho j hj];exact e⟩;refine⟨⟨?_,h1,h2,h3,h4,h.hp,h.pl.fx hx λb' o e hm=>h.off b' o e (by simp[RB]at hm⊢;omega),h.off⟩,hx.mono (by simp[RB]),λj all e=>?_⟩
 .rw[ho _ Do,hl];exact h.hd
 .rw[ho j];exact e
  intro hm;simp at hm;rcases hm with rfl|rfl|rfl|rfl
  .rw[h.hl]at e;cases e
  .rw[h.hs]at e;cases e
  .rw[h.ht]at e;cases e
  .rw[h.hf]at e;cases e
variable {Bd:Ze} [h:HA Bd]
theorem Zjq (n i w:Nat) (st:St) (hd:jh st b zp p since lf steps cs bT) {x:aU} (hx:cs[i]? =some x):
  ∃s',run Bd (n+1) 420 [.ptr (some (b+4,0)),.i i,.w w] st=some (.val [],s')/\jh s' b zp p since lf steps (cs.set i (tN x w)) bT/\Fk (RB b) st s':=by
 have hi:i<cs.length:=(cF.1 hx).1;have l0:b<st.length:=(cF.1 hd.hl).1;have l2:b+2<st.length:=(cF.1 hd.ht).1;have l3:b+3<st.length:=(cF.1 hd.hf).1;have wl: ∀f:aU->Nat,(Zm (cs.map f)).length=cs.length:=λf=>by rw[Z8,dE]
 rw[Zb,h.UH];unfold Hv uy N_ cV Lb
 try dsimp only
 rw[bF,ar,ar,ao,aD,Zf hd.hd (d:= .slice 1 (some (b,0)) cs.length) rfl,eH,aD,Zg (Zo hi),bw,cL,dK,Zs hd.hl (by rw[wl];exact hi),xU,aD];have g1:(st.set b (some (⟨false,Zm ((cs.map aU.l).set i w)⟩:aH)))[b+4]? =_:=(cz AC).trans hd.hd;rw[Zf g1 (d:= .slice 1 (some (b+2,0)) cs.length) rfl,eH,aD,Zg (Zo hi)];have g2:(st.set b (some (⟨false,Zm ((cs.map aU.l).set i w)⟩:aH)))[b+2]? =_:=(cz AC).trans hd.ht;rw[dK i,Zs g2 (by rw[wl];exact hi),show(DV.int .u64 0)=DV.int .u64 ((0:Nat):Int)from rfl,xU,aD];have g3:((st.set b (some (⟨false,Zm ((cs.map aU.l).set i w)⟩:aH))).set (b+2) (some ⟨false,Zm ((cs.map aU.t).set i 0)⟩))[b+4]? =_:=(cz AC).trans g1;rw[Zf g3 (d:= .slice 1 (some (b+3,0)) cs.length) rfl,eH,aD,Zg (Zo hi)];have g4:((st.set b (some (⟨false,Zm ((cs.map aU.l).set i w)⟩:aH))).set (b+2) (some ⟨false,Zm ((cs.map aU.t).set i 0)⟩))[b+3]? =_:=(cz AC).trans ((cz AC).trans hd.hf);rw[dK i,Zs g4 (by rw[dE];exact hi),Zh];refine⟨_,rfl,hd.cells _ Do _ Do ?_ ?_ ?_ ?_ ?_⟩
 .rw[cz AC,cz AC,eJ l0,pD];rfl
 .rw[cz AC,cz AC,cz AC,uw (f:=aU.s) (c:=tN x w) hx rfl];exact hd.hs
 .rw[cz AC,eJ (by rw[kH];exact l2),pD];rfl
 .rw[eJ (by rw[kH,kH];exact l3),pD];rfl
 .intro j hj
  simp at hj;rw[cz AC,cz AC,cz AC]
theorem D6 (hw:V.W):(eE V==0)=V.off:=by
 unfold eE;cases ho:V.off with
 |true=>rfl
 |false=>
  cases ha:V.fN with
  |true=>
   have:=hw.lf ha ho;exact iG.2 (by rw[ae,aa];omega)
  |false=>rfl
theorem H5 (n:Nat) (x y:Int) (st:St) (hd:jh st b zp p since lf steps cs bT):
  run Bd (n+1) 418 [.ptr (some (b+4,0)),.i x,.i y] st=some (.val [.i (bif lf==0 then 3 else bif decide (x<0)||decide (x>=y)then 2 else 0)],st):=by
 rw[Zb,h.UF];unfold HI uD Zl aB Li Lb;simp only[bF,ar,ao,aD];rw[Zf hd.hd (d:= .i lf) rfl];simp only[bm,Zi,aA,ao];cases lf==0 with
 |true=>rfl
 |false=>
  rw[ae,ae];cases decide (x<0)with
  |true=>rfl
  |false=>
   rw[ae,ue];cases decide (x>=y)<;>rfl
theorem Zrh (hw:V.W) (ho:V.off=false):eE V.step=bif decide (eE V>0)then eE V-1 else eE V:=by
 unfold eE ay.step;dsimp only;rw[ho];cases ha:V.fN with
 |false=>rfl
 |true=>
  have hl:=hw.lf ha ho;rw[aa,aa,aa,ae,aa,aI hl,aa];cases e:V.left-1==0 with
  |false=>rfl
  |true=>rw[aa];exact(beq_iff_eq.1 e).symm
theorem ZnT (n:Nat) (st:St) (hd:dS st b q V) (hw:V.W) (ho:V.off=false) (hk:V.steps<1000000):
  Ok (λo=>∃s',o=(.val [],s')/\Fk (RB b) st s'/\dS s' b q V.step) (run Bd (n+2) 419 [.ptr (some (b+4,0))] st):=by
 have⟨zp,p,since,⟨h0,ml,hle,gr⟩⟩:=hd;have jj:=hw.cn;have jZ:=hw.pn;rw[Zb,h.UG];unfold Hu ck aB Q_ Zl ZL C_ Li kQ Lb
 try dsimp only
 rw[bF,ao,aD,Zf h0.hd (d:= .slice 1 (some (b,0)) V.cs.length) rfl,eH,aD,Zf h0.hd (d:= .slice zp p V.bT.length) rfl,Zu 1 zp p _ h0.hp];refine Ok.join λav e1=>?_
 have A: ∀(s:St) (cs':List aU),cs'=V.ev->Fk (RB b) st s->jh s b zp p since (eE V) V.steps cs' V.bT->Ok (λo=>∃s',o=(.val [],s')/\Fk (RB b) st s'/\dS s' b q V.step)
   ((aF (some (b+4,0)) λi2 o2=>bc i2 (o2+5) λd3=>dj .i64 d3 λx2=>aF (some (b+4,0)) λi3 o3=>bB i3 (o3+5) [.i (aq (x2+1))]<|
    aF (some (b+4,0)) λi4 o4=>bc i4 (o4+7) λd4=>dj .i64 d4 λx3=>aF (some (b+4,0)) λi5 o5=>bB i5 (o5+7) [.i (aq (x3+1))]<|
    aF (some (b+4,0)) λi6 o6=>bc i6 (o6+6) λd5=>dj .i64 d5 λx4=>dU (λst=>aL st<|au []) λbp=>bif decide (x4>0)then
     aF (some (b+4,0)) λi7 o7=>bc i7 (o7+6) λd6=>dj .i64 d6 λx5=>aF (some (b+4,0)) λi8 o8=>bB i8 (o8+6) [.i (aq (x5-1))]<|bp []else bp []:M af) s):=by
  intro s cs' ec ks hs;rw[aD,Zf hs.hd (d:= .i since) rfl,bm,aD,Zs hs.hd (by show 5<8;decide),Zc,aD];have⟨g1,k1⟩:=hs.ou (since+1) (eE V) V.steps;rw[show(mH b zp p since (eE V) V.steps cs'.length V.bT.length).set (0+5) (.i ((since:Int)+1))=mH b zp p (since+1) (eE V) V.steps cs'.length V.bT.length from rfl]
  replace k1:=ks.trans k1
  generalize s.set (b+4) (some ⟨false,mH b zp p (since+1) (eE V) V.steps cs'.length V.bT.length⟩)=s1 at g1 k1;rw[Zf g1.hd (d:= .i (aq V.steps)) rfl,bm,aD,Zs g1.hd (by show 7<8;decide),Znh,aD];have⟨g2,k2⟩:=g1.ou (since+1) (eE V) (V.steps+1);rw[show(mH b zp p (since+1) (eE V) V.steps cs'.length V.bT.length).set (0+7) (.i (aq ((V.steps:Int)+1)))=mH b zp p (since+1) (eE V) (V.steps+1) cs'.length V.bT.length from rfl]
  replace k2:=k1.trans k2
  generalize s1.set (b+4) (some ⟨false,mH b zp p (since+1) (eE V) (V.steps+1) cs'.length V.bT.length⟩)=s2 at g2 k2;rw[Zf g2.hd (d:= .i (eE V)) rfl,bm,Zi];have fin: ∀s3,Fk (RB b) st s3->jh s3 b zp p (since+1) (eE V.step) (V.steps+1) cs' V.bT->Ok (λo=>∃s',o=(.val [],s')/\Fk (RB b) st s'/\dS s' b q V.step) ((au []:M af) s3):=by
   intro s3 k3 g3;refine .mk ⟨s3,rfl,k3,zp,p,since+1,⟨?_,λe=>?_,by show _<=V.steps+1;omega,gr⟩⟩
   .subst ec;exact g3
   .show(since+1)%V.bT.length=(bif V.bT.isEmpty then V.at_ else(V.at_+1)%V.bT.length)
    rw[show V.bT.isEmpty=false from e,ae,<-ml e,Nat.mod_add_mod]
  have wK:=Zrh hw ho;have hlr:=hw.lr;cases tB:decide (eE V>0)with
  |false=>
   rw[tB,ae]at wK;rw[ae];dsimp only;rw[ao];exact fin s2 k2 (by rw[wK];exact g2)
  |true=>
   rw[tB,aa]at wK;have Cj:=oA tB;have hub:eE V<4611686018427387904:=by
    unfold eE;rw[ho,ae];cases V.fN with
    |true=>exact hlr.2
    |false=>rw[ae];decide
   rw[aa,aD,Zf g2.hd (d:= .i (eE V)) rfl,bm,aD,Zs g2.hd (by show 6<8;decide),Zc];have⟨g3,k3⟩:=g2.ou (since+1) (eE V-1) (V.steps+1);dsimp only;rw[ao];exact fin _ (k2.trans k3) (by rw[wK];exact g3)
 have B: ∀r,r=(decide (0<V.bT.length)&&decide (0<V.cs.length))->Ok (λo=>∃s',o=(.val [],s')/\Fk (RB b) st s'/\dS s' b q V.step) (av [.bool r] st):=by
  intro r er;rw[e1];dsimp only;rw[aA,ao,Zi];cases r with
  |false=>
   rw[ae];dsimp only;rw[ao];refine A st V.cs ?_ (.refl _ _) h0;unfold ay.ev ay.pl;cases Gb:V.bT.isEmpty with
   |true=>rfl
   |false=>
    have:=DM Gb;rw[aI this,ez]at er;rw[<-er,zW];rfl
  |true=>
   have⟨q1,q2⟩:=Bool.and_eq_true_iff.1 er.symm;have fY:=oA q1;have eu:=oA q2;have Gb:V.bT.isEmpty=false:=by cases e:V.bT with|nil=>rw[e]at fY;cases fY|cons a l=>rfl
   have oS:=ml Gb;have aw:V.at_<V.bT.length:=by rw[<-oS];exact vy _ fY
   have Vj:((V.bT.length:Int)==0)=false:=iG.2 AC;have Qb:((V.cs.length:Int)==0)=false:=iG.2 AC;obtain⟨i1,o1,rfl⟩:=h0.pl.dP (by simpa [ints]using fY);rw[aa,aD,Zf h0.hd (d:= .slice zp (some (i1,o1)) V.bT.length) rfl,Zu 1 zp _ _ h0.hp,aD,Zf h0.hd (d:= .i since) rfl,bm,aD,Zf h0.hd (d:= .slice zp (some (i1,o1)) V.bT.length) rfl,Zu 1 zp _ _ h0.hp,Zg (by rw[Vj];rfl),aD,show(since:Int).tmod (V.bT.length:Int)=((since%V.bT.length:Nat):Int)from rfl,oS,Zg (Zo aw),bw,h0.pl.fj (ZN aw),bm,Zi];have hpv:V.pl=V.bT[V.at_]:=by
    unfold ay.pl;rw[Gb,ae,gF,dt aw];rfl
   rw[<-hpv];by_cases wD:0<=V.pl
   .have⟨m,hm⟩: ∃m:Nat,V.pl=m:=⟨V.pl.toNat,AC⟩
    have nu:m%V.cs.length<V.cs.length:=vy _ eu;have hx:V.cs[m%V.cs.length]? =some (V.cs.getD (m%V.cs.length) c0):=yF nu;have hxs:(Zm (V.cs.map aU.s))[m%V.cs.length]? =some (.w ((V.cs.getD (m%V.cs.length) c0).s:Nat)):=by
     unfold Zm;rw[jJ,jJ,hx];rfl
    rw[aI (show V.pl>=0 from wD),aa,Zg (by rw[Qb];rfl),aD,Zf h0.hd (d:= .slice 1 (some (b+1,0)) V.cs.length) rfl,eH,Zg (by rw[Qb];rfl),aD,hm,show(m:Int).tmod (V.cs.length:Int)=((m%V.cs.length:Nat):Int)from rfl,Zg (Zo nu),bw,cL,dK (m%V.cs.length),Zf h0.hs hxs,bm];have⟨s',hr,g1,k1⟩:=Zjq n (m%V.cs.length) (V.cs.getD (m%V.cs.length) c0).s st h0 hx;rw[Zj hr,ao];dsimp only;rw[ao,ao];refine A s' _ ?_ k1 g1;unfold ay.ev CE;rw[aI wD,aI eu,hm,bw];rfl
   .rw[aK (show ¬V.pl>=0 from wD),ae]
    dsimp only;rw[ao,ao];refine A st V.cs ?_ (.refl _ _) h0;unfold ay.ev;rw[aK wD];rfl
 by_cases fY:0<V.bT.length
 .rw[aI (AC:(V.bT.length:Int)>0),aa]
  exact B _ (by rw[aI fY,ez];exact decide_eq_decide.2 AC)
 .rw[aK (AC:¬(V.bT.length:Int)>0),ae]
  exact B _ (by rw[aK fY];rfl)
def gz (st:St) (b q m k:Nat) (r:ay×Int) (o:Out af×St):Prop:=∃s',o=(.val [.i r.2],s')/\Fk (RB b) st s'/\dS s' b q r.1/\r.1.W/\r.1.cs.length=m/\r.1.steps<=k
variable {m k:Nat}
theorem LX (n:Nat) (cs:List aU) (hl:cs.length=V.cs.length) (hw:V.W) (ho:V.off=false) (hk:V.steps<k) (fQ:k<1000000) (kk:Fk (RB b) st s) (hd:dS s b q { V with cs:=cs }) (r:ay×Int) (hr:r=(({ V with cs:=cs } :ay).step,0)) (K:M af) (hK:K=au [.i 0]):
  Ok (gz st b q V.cs.length k r) (cK (run Bd (n+2) 419 [.ptr (some (b+4,0))]) (λds=>aL ds K) s):=by
 have eZ:=hw.cs cs hl;refine Ok.cv (ZnT n s hd eZ ho (by show V.steps<_;omega)) λs' ⟨k',hp⟩=>?_
 rw[ao,hK,Zh,hr];exact .mk ⟨s',rfl,kk.trans k',hp,eZ.step ho,by show(ay.ev _).length=_;rw[ay.MM];exact hl,by show V.steps+1<=k;omega⟩
theorem Lr {Q:List aU->List aU} (hd:dS st b q V) (hw:V.W) (ho:V.off=true) (hk:V.steps<k) (r:ay×Int) (hr:r=V.op Q):Ok (gz st b q V.cs.length k r) ((au [.i 3]:M af) st):=by
 rw[hr,Zh];unfold ay.op;rw[ho];exact .mk ⟨st,rfl,.refl _ _,hd,hw,rfl,Nat.le_of_lt hk⟩
theorem ZnF {cs:List aU} {f:aU->Nat} {x:aU} (h:cs[i]? =some x):(Zm (cs.map f))[i]? =some (.w (f x:Nat)):=by
 unfold Zm;rw[jJ,jJ,h];rfl
theorem H6 (n i w:Nat) (st:St) (hd:dS st b q V) (hw:V.W) (hi:i<V.cs.length:=by omega) (hk:V.steps<k:=by omega) (fQ:k<1000000:=by omega):
  Ok (gz st b q V.cs.length k (V.sg i w)) (run Bd (n+3) 411 [.ptr (some (b+4,0)),.i i,.w w] st):=by
 have⟨zp,p,since,⟨h0,ml,hle,gr⟩⟩:=hd;rw[Zb,h.Uy];unfold Hr uy aX Q_ N_ C_ kf Li cV Lp
 try dsimp only
 rw[bF,ar,ar,ao,aD,Zf h0.hd (d:= .slice 1 (some (b,0)) V.cs.length) rfl,eH,Zj (H5 (n+1) i V.cs.length st h0),ar,ao,D6 hw,Zi];cases ho:V.off with
 |true=>exact Lr hd hw ho hk _ rfl
 |false=>
  rw[ae,aK (AC:¬(i:Int)<0),aK (AC:¬(i:Int)>=(V.cs.length:Int)),xl,ae,show((0:Int)==0)=true from rfl,aa,aD,Zf h0.hd (d:= .slice 1 (some (b+1,0)) V.cs.length) rfl,eH,aD,Zg (Zo hi),bw,cL,dK];have hx:=yF hi;rw[Zs h0.hs (by rw[Z8,dE];exact hi),xU];have⟨g1,k1⟩:=h0.cells (sh i w V.cs) (K5 _ _ _) (st.set (b+1) (some ⟨false,Zm ((V.cs.map aU.s).set i w)⟩)) Do
   (by rw[cz AC];unfold sh;rw[uw (f:=aU.l) (c:= { V.cs.getD i c0 with s:=w }) hx rfl];exact h0.hl)
   (by rw[eJ (cF.1 h0.hs).1];unfold sh;rw[pD])
   (by rw[cz AC];unfold sh;rw[uw (f:=aU.t) (c:= { V.cs.getD i c0 with s:=w }) hx rfl];exact h0.ht)
   (by rw[cz AC];unfold sh;rw[uw (f:=λc=>DV.bool c.f) (c:= { V.cs.getD i c0 with s:=w }) hx rfl];exact h0.hf)
   (λj hj=>by simp at hj;rw[cz AC])
  refine LX n (sh i w V.cs) (K5 _ _ _) hw ho hk fQ k1 ⟨zp,p,since,⟨g1,ml,hle,gr⟩⟩ _ ?_ _ rfl;unfold ay.sg ay.op;rw[ho];rfl
theorem I6 (n i:Nat) (st:St) (hd:dS st b q V) (hw:V.W) (hi:i<V.cs.length/8) (hk:V.steps<k) (fQ:k<1000000) (hn:20<=n:=by omega):
  Ok (gz st b q V.cs.length k (V.rE i)) (run Bd n 410 [.ptr (some (b+4,0)),.i i] st):=by
 obtain⟨n,rfl⟩: ∃m,n=m+3:=⟨n-3,AC⟩;have⟨zp,p,since,⟨h0,ml,hle,gr⟩⟩:=hd;have jj:=hw.cn;rw[Zb,h.Ux];unfold Hq gy aX Q_ C_ bY ZF N_ kf Li Lp cV Lb
 try dsimp only
 have tt:aq ((V.cs.length:Int).tdiv 8)=((V.cs.length/8:Nat):Int):=by
  rw[show(V.cs.length:Int).tdiv 8=((V.cs.length/8:Nat):Int)from rfl];exact Zc
 rw[bF,ar,ao,aD,Zf h0.hd (d:= .slice 1 (some (b,0)) V.cs.length) rfl,eH,tt,Zj (H5 (n+1) i _ st h0),ar,ao,D6 hw,Zi];cases ho:V.off with
 |true=>exact Lr hd hw ho hk _ rfl
 |false=>
  rw[ae,aK (AC:¬(i:Int)<0),aK (AC:¬(i:Int)>=((V.cs.length/8:Nat):Int)),xl,ae,show((0:Int)==0)=true from rfl,aa];have e8:aq (8*(i:Int))=((i*8:Nat):Int):=by
   rw[show 8*(i:Int)=((i*8:Nat):Int) by omega];exact Zc
  have e9:aq (((i*8:Nat):Int)+8)=((i*8+8:Nat):Int):=by rw[Zc];omega
  rw[e8,e9];refine Ok.join λav e1=>?_
  refine Zn _ (λr y s=>∃j:Nat,y=[.i (i*8+j:Nat)]/\j<=8/\8-j<=r/\Fk (RB b) st s/\jh s b zp p since (eE V) V.steps (eo i j V.cs) V.bT) ?_ 8 (n+2) _ _ ⟨0,rfl,AC,AC,.refl _ _,h0⟩ AC;rintro r _ s ⟨j,rfl,hj,hr,ks,hs⟩ rec aQ;rw[ar,ao];have nu:=vV i V.cs j;by_cases aw:j<8
  .have ky:i*8+j<(eo i j V.cs).length:=AC
   have hx:=yF ky;have w1:=ZnF (f:=aU.s) hx;have hlT:(Zm ((eo i j V.cs).map aU.t)).length=V.cs.length:=by rw[Z8,dE,nu]
   rw[aI (AC:((i*8+j:Nat):Int)<((i*8+8:Nat):Int)),aa,aD,Zf hs.hd (d:= .slice 1 (some (b+2,0)) (eo i j V.cs).length) rfl,eH,aD,Zf hs.hd (d:= .slice 1 (some (b+1,0)) (eo i j V.cs).length) rfl,eH,aD,Zg (Zo ky),bw,cL,dK (i*8+j),Zf hs.hs w1,bm,aD,Zg (Zo ky),dK (i*8+j),Zs hs.ht AC,xU,aD];have g1:(s.set (b+2) (some (⟨false,Zm (((eo i j V.cs).map aU.t).set (i*8+j) ((eo i j V.cs).getD (i*8+j) c0).s)⟩:aH)))[b+4]? =_:=(cz AC).trans hs.hd;have g2:(s.set (b+2) (some (⟨false,Zm (((eo i j V.cs).map aU.t).set (i*8+j) ((eo i j V.cs).getD (i*8+j) c0).s)⟩:aH)))[b+3]? =_:=(cz AC).trans hs.hf;rw[Zf g1 (d:= .slice 1 (some (b+3,0)) (eo i j V.cs).length) rfl,eH,aD,Zg (Zo ky),dK (i*8+j),Zs g2 (by rw[dE];exact ky),Zc];have⟨p1,p2⟩:=hs.cells (eo i (j+1) V.cs) (by rw[vV,vV]) ((s.set (b+2) (some (⟨false,Zm (((eo i j V.cs).map aU.t).set (i*8+j) ((eo i j V.cs).getD (i*8+j) c0).s)⟩:aH))).set (b+3) (some ⟨false,((eo i j V.cs).map λc=>DV.bool c.f).set (i*8+j) (.bool true)⟩)) Do
    (by rw[cz AC,cz AC,AH,uw (f:=aU.l) (c:=yQ ((eo i j V.cs).getD (i*8+j) c0)) hx rfl];exact hs.hl)
    (by rw[cz AC,cz AC,AH,uw (f:=aU.s) (c:=yQ ((eo i j V.cs).getD (i*8+j) c0)) hx rfl];exact hs.hs)
    (by rw[cz AC,eJ (cF.1 hs.ht).1,AH,pD];rfl)
    (by rw[eJ (by rw[kH];exact(cF.1 hs.hf).1),AH,pD];rfl)
    (λj hj=>by simp at hj;rw[cz AC,cz AC])
   exact aQ (8-(j+1)) _ _ AC ⟨j+1,rfl,AC,AC,ks.trans p2,p1⟩
  .have:j=8:=AC
   subst this;rw[aK (AC:¬((i*8+8:Nat):Int)<((i*8+8:Nat):Int)),ae,e1];dsimp only;rw[ao];refine LX n (eo i 8 V.cs) nu hw ho hk fQ ks ⟨zp,p,since,⟨hs,ml,hle,gr⟩⟩ _ ?_ _ rfl;unfold ay.rE ay.op;rw[ho];rfl
theorem Ia (n:Nat) (st:St) (hd:dS st b q V) (hw:V.W) (hk:V.steps<k:=by omega) (fQ:k<1000000:=by omega) (hn:V.cs.length+20<=n:=by omega):
  Ok (gz st b q V.cs.length k V.fP) (run Bd n 408 [.ptr (some (b+4,0))] st):=by
 obtain⟨n,rfl⟩: ∃m,n=m+3:=⟨n-3,AC⟩;have⟨zp,p,since,⟨h0,ml,hle,gr⟩⟩:=hd;have jj:=hw.cn;rw[Zb,h.Uv];unfold HG ck aX Q_ C_ bY N_ lW ZF kf Li Lp kQ
 try dsimp only
 rw[bF,ao,Zj (H5 (n+1) 0 1 st h0),ar,ao,D6 hw,Zi];cases ho:V.off with
 |true=>exact Lr hd hw ho hk _ rfl
 |false=>
  rw[ae,show(bif decide ((0:Int)<0)||decide ((0:Int)>=1)then(2:Int)else 0)=0 from rfl,show((0:Int)==0)=true from rfl,aa];refine Ok.join λav e1=>?_
  have nu: ∀j,((V.cs.take j).map fw++V.cs.drop j).length=V.cs.length:=λj=>by
   rw[cq,dE,dh,ft];omega
  refine Zn _ (λr y s=>∃j:Nat,y=[.i j]/\j<=V.cs.length/\V.cs.length-j<=r/\Fk (RB b) st s/\jh s b zp p since (eE V) V.steps ((V.cs.take j).map fw++V.cs.drop j) V.bT) ?_ V.cs.length (n+2) _ _ ⟨0,rfl,AC,AC,.refl _ _,h0⟩ AC;rintro r _ s ⟨j,rfl,hj,hr,ks,hs⟩ rec aQ;rw[ar,ao,aD,Zf hs.hd (d:= .slice 1 (some (b,0)) ((V.cs.take j).map fw++V.cs.drop j).length) rfl,eH];have hl:=nu j;by_cases aw:j<V.cs.length
  .have hx:((V.cs.take j).map fw++V.cs.drop j)[j]? =some V.cs[j]:=by
    rw[iO (by rw[dE,dh];omega),dE,dh,je AC,mO,xq,dK,dt aw]
   have bN:((V.cs.take j).map fw++V.cs.drop j).set j (fw V.cs[j])=(V.cs.take (j+1)).map fw++V.cs.drop (j+1):=by
    rw[xx _ _ (by rw[dE,dh];omega),dE,dh,je AC,mO,il aw,List.set_cons_zero,pE aw,fb,gX];rfl
   generalize V.cs[j]=x at hx bN;have cH:(((V.cs.take j).map fw++V.cs.drop j).map λc=>DV.bool c.f)[j]? =some (.bool x.f):=by rw[jJ,hx];rfl
   have w1:aq ((j:Int)+1)=((j+1:Nat):Int):=Zc;rw[hl,aI (AC:(j:Int)<(V.cs.length:Int)),aa,aD,Zf hs.hd (d:= .slice 1 (some (b+3,0)) ((V.cs.take j).map fw++V.cs.drop j).length) rfl,eH,aD,hl,Zg (Zo aw),bw,cL,dK j,Zf hs.hf cH,qQ,Zi];cases hf:x.f with
   |true=>
    have tw:fw x=tN x x.t:=by unfold fw;rw[hf];rfl
    have⟨s',cm,g1,k1⟩:=Zjq (n+1) j x.t s hs hx;rw[aa,aD,Zf hs.hd (d:= .slice 1 (some (b+2,0)) ((V.cs.take j).map fw++V.cs.drop j).length) rfl,eH,aD,hl,Zg (Zo aw),dK j,Zf hs.ht (ZnF (f:=aU.t) hx),bm,Zj cm,ao];dsimp only;rw[ao,w1];rw[<-tw,bN]at g1;exact aQ (V.cs.length-(j+1)) _ _ AC ⟨j+1,rfl,AC,AC,ks.trans k1,g1⟩
   |false=>
    have tw:fw x=x:=by unfold fw;rw[hf];rfl
    rw[tw,AW hx]at bN;rw[ae];dsimp only;rw[ao,w1];exact aQ (V.cs.length-(j+1)) _ _ AC ⟨j+1,rfl,AC,AC,ks,by rw[<-bN];exact hs⟩
  .have:j=V.cs.length:=AC
   subst this;rw[hl,aK (AC:¬(V.cs.length:Int)<(V.cs.length:Int)),ae,e1];dsimp only;rw[ao];rw[lO,zY,gE]at hs;refine LX n (V.cs.map fw) Do hw ho hk fQ ks ⟨zp,p,since,⟨hs,ml,hle,gr⟩⟩ _ ?_ _ rfl;unfold ay.fP ay.op;rw[ho];rfl
theorem gz.pre (kk:Fk (RB b) st s) {o:Out af×St} (h:gz s b q m k r o):gz st b q m k r o:=by
 have⟨s',e,k',h⟩:=h;exact⟨s',e,kk.trans k',h⟩
theorem EN (kk:Fk (RB b) st s) (h:Ok (gz s b q m k r) (X s)):Ok (gz st b q m k r) (cK X (λds=>az .i64 ds λx ds=>aL ds<|au [.i x]) s):=by
 refine Ok.call h ?_;rintro _ ⟨s',rfl,k',h⟩;refine⟨_,s',rfl,?_⟩;rw[ar,ao,Zh];exact .mk ⟨s',rfl,kk.trans k',h⟩
theorem Bb (Nx:k<=k') (kk:Fk (RB b) st s) (h:Ok (gz s b q m k r) (X s))
  (hK: ∀s',(r.2==0)=true->Fk (RB b) st s'->dS s' b q r.1->r.1.W->r.1.cs.length=m->r.1.steps<=k->Ok (gz st b q m k' (f r.1)) (K s')):
  Ok (gz st b q m k' (cZ r f)) (cK X (λds=>az .i64 ds λx ds=>aL ds<|bif !(x==0)then au [.i x]else K) s):=by
 refine Ok.call h ?_;rintro _ ⟨s',rfl,k',h1,h2,h3,h4⟩;refine⟨_,s',rfl,?_⟩;rw[ar,ao];cases e:r.2==0 with
 |false=>
  rw[cy,aa,Zh,sU e];exact .mk ⟨s',rfl,kk.trans k',h1,h2,h3,fF h4 Nx⟩
 |true=>
  rw[bU,ae,lA e];exact hK s' e (kk.trans k') h1 h2 h3 h4
theorem I5 (n:Nat) (st:St) (hd:dS st b q V) (hw:V.W):run Bd (n+1) 384 [.ptr (some (b+4,0))] st=some (.val [.i ((V.cs.length/8:Nat):Int)],st):=by
 have⟨zp,p,since,⟨h0,_,_,_⟩⟩:=hd;have jj:=hw.cn;rw[Zb,h.T9];unfold IB ck Li
 try dsimp only
 rw[bF,ao,aD,Zf h0.hd (d:= .slice 1 (some (b,0)) V.cs.length) rfl,eH,Zh,show(V.cs.length:Int).tdiv 8=((V.cs.length/8:Nat):Int)from rfl,Zc]
theorem Ztj (V:ay) (i w:Nat):V.put i 0 [w]=cZ (V.sg (i*8) w) λV=>V.rE i:=by
 unfold ay.put;show cZ (cZ (V.sg (i*8+0) w) λV=>(V,0)) _=_;rw[rf];rfl
theorem Jx (n i w:Nat) (st:St) (hd:dS st b q V) (hw:V.W) (hi:i<V.cs.length/8:=by omega) (hk:V.steps+1<k:=by omega) (fQ:k<1000000:=by omega) (hn:50<=n:=by omega):
  Ok (gz st b q V.cs.length k (V.put i 0 [w])) (run Bd n 407 [.ptr (some (b+4,0)),.i i,.i 0,.w w] st):=by
 obtain⟨n,rfl⟩: ∃m,n=m+4:=⟨n-4,AC⟩;have jj:=hw.cn;have e8:aq (aq (8*(i:Int))+0)=((i*8:Nat):Int):=by
  rw[show 8*(i:Int)=((i*8:Nat):Int) by omega,Zc (x:=((i*8:Nat):Int)),Int.add_zero];exact Zc
 rw[Zb,h.Uu,Ztj];unfold Jj Es aB aX Li kQ cP Lb Lp
 try dsimp only
 rw[bF,ar,ar,ar,ao,Zi,aK (AC:¬(i:Int)<0),ae,Zj (I5 (n+2) st hd hw),ar,ao,aK (AC:¬(i:Int)>=((V.cs.length/8:Nat):Int))];dsimp only;rw[aA,ao,Zi,ae,show decide ((0:Int)<0)=false from rfl];dsimp only;rw[aA,ao,Zi,ae,show decide ((0:Int)>7)=false from rfl];dsimp only;rw[aA,ao,ae,e8];refine Bb (k:=V.steps+1) AC (.refl _ _) (H6 n (i*8) w st hd hw) λs' _ k1 h1 h2 h3 h4=>?_
 rw[<-h3];exact EN k1 (I6 (n+3) i s' h1 h2 AC AC fQ)
theorem ZsI (V:ay) (i:Nat):V.jb i []=(V,0):=rfl
theorem ZmZ (n i:Nat) (a:ah) (l:aj) (st:St) (hd:dS st b q V) (hw:V.W) (hi:i<V.cs.length/8) (ha:cC st a l) (ho:dF (RB b) a) (hl:l.length=64) (hk:V.steps+8<k) (fQ:k<1000000) (hn:60<=n):
  Ok (gz st b q V.cs.length k (V.put i 0 (Zy l 8))) (run Bd n 409 [.ptr (some (b+4,0)),.i i,.slice 1 a 64] st):=by
 obtain⟨n,rfl⟩: ∃m,n=m+4:=⟨n-4,AC⟩;have jj:=hw.cn;have e8:aq (8*(i:Int))=((i*8:Nat):Int):=by
  rw[show 8*(i:Int)=((i*8:Nat):Int) by omega];exact Zc
 rw[Zb,h.Uw];unfold IU bG aB Q_ aX bY kR Li cP Ls kQ Lb Lp
 try dsimp only
 rw[bF,ar,bd,ao,Zi,aK (AC:¬(i:Int)<0),ae,Zj (I5 (n+2) st hd hw),ar,ao,aK (AC:¬(i:Int)>=((V.cs.length/8:Nat):Int))];dsimp only;rw[aA,ao,Zi,ae,show(!(((64:Nat):Int)==64))=false from rfl];dsimp only;rw[aA,ao,ae];have⟨ws,pb⟩: ∃ws,Zy l 8=ws:=⟨_,rfl⟩;have mB:ws.length=8:=by rw[<-pb,Z1]
 rw[pb];refine Ok.join λav e1=>?_
 refine Zn _ (λr y s=>∃(j:Nat) (V':ay),y=[.i j]/\j<=8/\8-j<=r/\Fk (RB b) st s/\dS s b q V'/\V'.W/\V'.cs.length=V.cs.length/\V'.steps<=V.steps+j/\V.jb (i*8+0) ws=V'.jb (i*8+0+j) (ws.drop j)) ?_ 8 (n+3) _ _ ⟨0,V,rfl,AC,AC,.refl _ _,hd,hw,rfl,AC,rfl⟩ AC;rintro r _ s ⟨j,V',rfl,hj,hr,ks,dO,eZ,fy,Xi,hV⟩ rec aQ;rw[ar,ao];unfold ay.put;by_cases aw:j<8
 .have e9:aq (8*(j:Int))=((8*j:Nat):Int):=by
   rw[show 8*(j:Int)=((8*j:Nat):Int) by omega];exact Zc
  have rB:aq (((8*j:Nat):Int)+8)=((8*j+8:Nat):Int):=by rw[Zc];omega
  have MK:aq (((i*8:Nat):Int)+(j:Int))=((i*8+0+j:Nat):Int):=by rw[Zc];omega
  have nl:cC s a l:=Sl.fx ha ks.1 ho;have fV:=(nl.cR (k:=8*j) AC).js 8;have h8:((l.drop (8*j)).take 8).length=8:=by rw[dh,ft];omega
  have dG:=kA (β:=af) fV;rw[Zp,h8]at dG;have bx:=KM (ws:=ws) AC hV;have Gp:ws[j]' AC=da ((l.drop (8*j)).take 8):=by
   have:=xW (l:=l) aw;rw[pb,dt AC]at this;exact xE this
  rw[Gp]at bx;rw[bx,rf,aI (AC:(j:Int)<8),aa,e9,rB,Zg (by rw[aZ,bD,bD];omega),bw,bw,Zg (by rw[aZ,bD,bD];omega),cL,show 8*j+8-8*j=8 by omega,dG,show gI (aN ((l.drop (8*j)).take 8))=λK=>K ((l.drop (8*j)).take 8)from funext λK=>by unfold gI;rw[As]];refine Ok.call (Dx (n+3) _ s) ?_;rintro _ rfl;refine⟨_,s,rfl,?_⟩;rw[ar,ao,e8,MK,<-fy];refine Bb (k:=V'.steps+1) AC ks (H6 n (i*8+0+j) _ s dO eZ) λs' e0 k1 h1 h2 h3 h4=>?_
  rw[lA e0]at bx;rw[Zc];have hr:=aQ (8-(j+1)) [.i (j+1:Nat)] s' AC ⟨j+1,_,rfl,AC,AC,k1,h1,h2,h3.trans fy,AC,bx⟩;unfold ay.put at hr;rw[bx]at hr;rw[fy];exact hr
 .have:j=8:=AC
  subst this;rw[sF AC]at hV;rw[aK (AC:¬((8:Nat):Int)<8),ae,e1];dsimp only;rw[ao,hV,ZsI,lA (r:=(V',0)) rfl,<-fy];exact EN ks (I6 (n+3) i s dO eZ AC AC fQ)
def pG (st:St) (b q m k k':Nat) (f:ay->ay×Int) (F:Int->M af):Prop:=∀(r:ay×Int) (s':St),Fk (RB b) st s'->dS s' b q r.1->r.1.W->r.1.cs.length=m->r.1.steps<=k->Ok (gz st b q m k' (cZ r f)) (F r.2 s')
theorem EJ (r:ay×Int):cZ r (λV=>(V,0))=r:=by
 cases h:r.2==0 with
 |false=>rw[sU h]
 |true=>rw[lA h,<-beq_iff_eq.1 h]
theorem ZoP (hk:k<=k'):pG st b q m k k' (λV=>(V,0)) (λe=>au [.i e]):=by
 intro r s' h1 h2 h3 h4 h5;rw[EJ];dsimp only;rw[Zh];exact .mk ⟨s',rfl,h1,h2,h3,h4,AC⟩
theorem yd {F:Int->M af} (hk:k<=k1)
  (hX: ∀V s',Fk (RB b) st s'->dS s' b q V->V.W->V.cs.length=m->V.steps<=k->Ok (gz s' b q m k1 (g V)) (X s')) (hJ:pG st b q m k1 k' f F):
  pG st b q m k k' (λV=>cZ (g V) f) (λe=>bif e==0 then cK X (λds=>az .i64 ds λx ds=>aL ds<|F x)else F e):=by
 intro r s' h1 h2 h3 h4 h5;dsimp only;cases e:r.2==0 with
 |false=>
  have:=hJ r s' h1 h2 h3 h4 AC;rw[sU e]at this⊢;rw[ae];exact this
 |true=>
  rw[aa,lA e];refine Ok.call (hX r.1 s' h1 h2 h3 h4 h5) ?_;rintro _ ⟨s2,rfl,g1,g2,g3,g4,g5⟩;refine⟨_,s2,rfl,?_⟩;rw[ar,ao];exact hJ (g r.1) s2 (h1.trans g1) g2 g3 g4 g5
theorem Zmu (n:Nat) (st:St) (hd:dS st b q V) (hw:V.W) (hi:2<=V.cs.length/8) (hk:V.steps+5<=k) (fQ:k<1000000) (hn:V.cs.length+80<=n):
  Ok (gz st b q V.cs.length k V.yH) (run Bd n 385 [.ptr (some (b+4,0))] st):=by
 obtain _|n:=n;omega;rw[Zb,h.Ua];unfold IQ ck aX jg rh Li Lp ay.yH
 try dsimp only
 rw[bF,ao];refine Ok.call (Jx n 0 0 st hd hw AC (k:=V.steps+2)) ?_;rintro _ ⟨s1,rfl,k1,d1,w1,l1,t1⟩;refine⟨_,s1,rfl,?_⟩;rw[ar,ao];refine Ok.join λav e1=>?_
 have C1:pG st b q V.cs.length (V.steps+4) k ay.fP (λe=>av [.i e]):=by
  intro r s' g1 g2 g3 g4 g5;rw[e1];dsimp only;rw[ar,ao];refine Ok.join λaG e2=>?_
  have C2:pG st b q V.cs.length (V.steps+5) k (λV=>(V,0)) (λe=>aG [.i e]):=by
   rw[e2];simp only[ar,ao];exact ZoP hk
  have:=yd (g:=ay.fP) (X:=run Bd n 408 [.ptr (some (b+4,0))]) (k:=V.steps+4) AC (λV' s' _ g2 g3 g4 g5=>by
   have:=Ia n (k:=V.steps+5) s' g2 g3;rwa [g4]at this) C2 r s' g1 g2 g3 g4 g5
  rw[show(λV:ay=>cZ V.fP λV=>(V,0))=ay.fP from funext λV=>EJ _]at this;exact this
 exact yd (g:=λV=>V.put 1 0 [0]) (X:=run Bd n 407 [.ptr (some (b+4,0)),.i 1,.i 0,.w 0]) (k:=V.steps+2) AC (λV' s' _ g2 g3 g4 g5=>by
   have:=Jx n 1 0 (k:=V.steps+4) s' g2 g3;rwa [g4]at this) C1 (V.put 0 0 [0]) s1 k1 d1 w1 l1 t1
theorem Zpf (n i:Nat) (x:db) (p:ah) (st:St) (hd:dS st b q V) (hw:V.W) (hi:i<2) (h2:2<=V.cs.length/8) (hs:Sl st p (ints x.bg)) (hx:vJ x) (hk:V.steps+15<=k) (fQ:k<1000000) (hn:V.cs.length+2700<=n):
  Ok (gz st b q V.cs.length k (V.lay i (Zy (oI x) 8))) (run Bd n 387 [.ptr (some (b+4,0)),.i i,.agg (cN x p)] st):=by
 obtain⟨n,rfl⟩: ∃m,n=m+3:=⟨n-3,AC⟩;have iN:=ZoD (n+2) x p st hs (by have:=Ky hx;omega) AC;have jj:=hw.cn;rw[Zb,h.Uc];unfold JY DD sH aX jg kR bQ aB ZO rh Li Lp Ls cP kQ gH Lb
 try dsimp only
 rw[bF,ar,cU];unfold cN at iN⊢;simp only[ar,bd,ao];refine Ok.cv iN λs0 jY=>?_
 rw[fL,ao];have⟨t,ht⟩: ∃t,oI x=t:=⟨_,rfl⟩;have wR:t.length=64:=by rw[<-ht];exact D3 hx
 have⟨ws,pb⟩: ∃ws,Zy t 8=ws:=⟨_,rfl⟩;have mB:ws.length=8:=by rw[<-pb,Z1]
 have Gp: ∀j,j<8->ws[j]? =some (da ((t.drop (8*j)).take 8)):=λj hj=>by rw[<-pb];exact xW hj
 rw[ht,pb];have rI:=hd.pre jY;refine Ok.mono (P:=gz s0 b q V.cs.length k (V.lay i ws)) ?_ λo=>gz.pre (.pre jY)
 have e8:aq (8*(i:Int))=((i*8:Nat):Int):=by
  rw[show 8*(i:Int)=((i*8:Nat):Int) by omega];exact Zc
 have FX: ∀(k1:Nat),k1<1000000->∀(V':ay) s',Fk (RB b) s0 s'->dS s' b q V'->V'.W->V'.cs.length=V.cs.length->V'.steps+1<=k1->Ok (gz s' b q V.cs.length k1 V'.fP) (run Bd (n+2) 408 [.ptr (some (b+4,0))] s'):=λk1 jl V' s' _ g2 g3 g4 g5=>by
  have:=Ia (n+2) (k:=k1) s' g2 g3;rwa [g4]at this
 have WX: ∀(k1 w:Nat),k1<1000000->∀(V':ay) s',Fk (RB b) s0 s'->dS s' b q V'->V'.W->V'.cs.length=V.cs.length->V'.steps+2<=k1->Ok (gz s' b q V.cs.length k1 (V'.put i 0 [w])) (run Bd (n+2) 407 [.ptr (some (b+4,0)),.i i,.i 0,.w w] s'):=λk1 w jl V' s' _ g2 g3 g4 g5=>by
  have:=Jx (n+2) i w (k:=k1) s' g2 g3;rwa [g4]at this
 have w0:=WX (V.steps+2) 0 AC V s0 (.refl _ _) rI hw rfl AC;refine Ok.call w0 ?_;rintro _ ⟨s1,rfl,k1,d1,w1,l1,t1⟩;refine⟨_,s1,rfl,?_⟩;rw[ar,ao];refine Ok.join λav e1=>?_
 have C1:pG s0 b q V.cs.length (V.steps+3) k (λV=>cZ (V.tail i ws) λV=>V.head i (ws.getD 0 0)) (λe=>av [.i e]):=by
  intro r s' g1 g2 g3 g4 g5;rw[e1];dsimp only;rw[ar,ao];refine Ok.join λaG e2=>?_
  have C2:pG s0 b q V.cs.length (V.steps+10) k (λV=>cZ (V.rE i) λV=>cZ V.fP λV=>cZ (V.put i 0 [ws.getD 0 0]) ay.fP) (λe=>aG [.i e]):=by
   intro r s' g1 g2 g3 g4 g5;rw[e2];dsimp only;rw[ar,ao];refine Ok.join λbp e3=>?_
   have C3:pG s0 b q V.cs.length (V.steps+11) k (λV=>cZ V.fP λV=>cZ (V.put i 0 [ws.getD 0 0]) ay.fP) (λe=>bp [.i e]):=by
    intro r s' g1 g2 g3 g4 g5;rw[e3];dsimp only;rw[ar,ao];refine Ok.join λbR e4=>?_
    have C4:pG s0 b q V.cs.length (V.steps+12) k (λV=>cZ (V.put i 0 [ws.getD 0 0]) ay.fP) (λe=>bR [.i e]):=by
     intro r s' g1 g2 g3 g4 g5;rw[e4];dsimp only;rw[ar,ao];refine Ok.join λdC e5=>?_
     have C5:pG s0 b q V.cs.length (V.steps+14) k ay.fP (λe=>dC [.i e]):=by
      intro r s' g1 g2 g3 g4 g5;rw[e5];dsimp only;rw[ar,ao];refine Ok.join λic e6=>?_
      have C6:pG s0 b q V.cs.length k k (λV=>(V,0)) (λe=>ic [.i e]):=by
       rw[e6];simp only[ar,ao];exact ZoP (aW _)
      have:=yd (g:=ay.fP) (k:=V.steps+14) AC (λV' s' q1 q2 q3 q4 q5=>FX k fQ V' s' q1 q2 q3 q4 AC) C6 r s' g1 g2 g3 g4 g5;rw[show(λV:ay=>cZ V.fP λV=>(V,0))=ay.fP from funext λV=>EJ _]at this;exact this
     cases e:r.2==0 with
     |false=>
      have:=C5 r s' g1 g2 g3 g4 AC;rw[sU e]at this⊢;rw[ae];exact this
     |true=>
      rw[aa,lA e,Zg (by rw[wR];rfl)];refine Ok.call (Dx (n+2) (t.take 8) s' (by rw[dh];omega) (by rw[dh];omega)) ?_;rintro _ rfl;refine⟨_,s',rfl,?_⟩;rw[ar,ao];have wS:da (t.take 8)=ws.getD 0 0:=by
       rw[gF,Gp 0 EQ];rfl
      rw[wS];refine Ok.call (WX (V.steps+14) (ws.getD 0 0) AC r.1 s' g1 g2 g3 g4 AC) ?_;rintro _ ⟨s2,rfl,q1,q2,q3,q4,q5⟩;refine⟨_,s2,rfl,?_⟩;rw[ar,ao];exact C5 (r.1.put i 0 [ws.getD 0 0]) s2 (g1.trans q1) q2 q3 q4 q5
    exact yd (g:=ay.fP) (k:=V.steps+11) AC (λV' s' q1 q2 q3 q4 q5=>FX (V.steps+12) AC V' s' q1 q2 q3 q4 AC) C4 r s' g1 g2 g3 g4 g5
   exact yd (g:=λV=>V.rE i) (k:=V.steps+10) AC (λV' s' q1 q2 q3 q4 q5=>by
    have:=I6 (n+2) i (k:=V.steps+11) s' q2 q3 AC AC AC;rwa [q4]at this) C3 r s' g1 g2 g3 g4 g5
  have hF: ∀r:ay×Int,(cZ r λV=>cZ (V.tail i ws) λV=>V.head i (ws.getD 0 0))=cZ (cZ r λV=>V.jb (i*8+1) (ws.drop 1)) λV=>cZ (V.rE i) λV=>cZ V.fP λV=>cZ (V.put i 0 [ws.getD 0 0]) ay.fP:=by
   intro r;rw[rf];congr 1;funext V;unfold ay.tail ay.put ay.head ay.put;rw[rf,rf]
  rw[hF];have iy:(ws.drop 1).length=7:=by rw[ft];omega
  refine Zn _ (λy0 y s=>∃(j:Nat) (r':ay×Int),y=[.i r'.2,.i (j+1:Nat)]/\j<=7/\7-j<=y0/\Fk (RB b) s0 s/\dS s b q r'.1/\r'.1.W/\r'.1.cs.length=V.cs.length/\r'.1.steps<=V.steps+3+j/\(cZ r λV=>V.jb (i*8+1) (ws.drop 1))=cZ r' λV=>V.jb (i*8+1+j) ((ws.drop 1).drop j)) ?_ 7 (n+2) _ _ ⟨0,r,rfl,AC,AC,g1,g2,g3,g4,g5,rfl⟩ AC;rintro y0 _ s ⟨j,r',rfl,hj,hy,ks,dO,eZ,fy,mu,hV⟩ rec aQ;rw[ar,ar,ao,hV];refine Ok.join λpe e7=>?_
  have F5:j=7\/(r'.2==0)=false->Ok (gz s0 b q V.cs.length k (cZ (cZ r' λV=>V.jb (i*8+1+j) ((ws.drop 1).drop j)) λV=>cZ (V.rE i) λV=>cZ V.fP λV=>cZ (V.put i 0 [ws.getD 0 0]) ay.fP)) (pe [.bool false] s):=by
   intro hc;rw[e7];dsimp only;rw[aA,ao,ae];have h9:(cZ r' λV=>V.jb (i*8+1+j) ((ws.drop 1).drop j))=r':=by
    rcases hc with rfl|hc
    .rw[show(ws.drop 1).drop 7=[]from sF AC]
     exact EJ r'
    .exact sU hc _
   rw[h9];exact C2 r' s ks dO eZ fy AC
  by_cases aw:j<7
  .rw[aI (AC:((j+1:Nat):Int)<8),aa]
   cases e:r'.2==0 with
   |false=>exact F5 (.inr e)
   |true=>
    rw[e7];dsimp only;rw[aA,ao,aa];have e9:aq (8*((j+1:Nat):Int))=((8*(j+1):Nat):Int):=by
     rw[show 8*((j+1:Nat):Int)=((8*(j+1):Nat):Int) by omega];exact Zc
    have rB:aq (((8*(j+1):Nat):Int)+8)=((8*(j+1)+8:Nat):Int):=by rw[Zc];omega
    have MK:aq (((i*8:Nat):Int)+((j+1:Nat):Int))=((i*8+1+j:Nat):Int):=by rw[Zc];omega
    rw[e9,rB,Zg (by rw[aZ,bD,bD];omega),bw,bw,Zg (by rw[aZ,bD,bD];omega),xm,show 8*(j+1)+8-8*(j+1)=8 by omega];have h8:((t.drop (8*(j+1))).take 8).length=8:=by rw[dh,ft];omega
    refine Ok.call (Dx (n+2) _ s) ?_;rintro _ rfl;refine⟨_,s,rfl,?_⟩;rw[ar,ao,e8,MK];have hg:=Gp (j+1) AC;generalize da ((t.drop (8*(j+1))).take 8)=w at hg;have jU:(ws.drop 1).drop j=w::(ws.drop 1).drop (j+1):=by
     rw[il AC];congr 1;rw[dt AC]at hg;rw[List.getElem_drop];have:=xE hg;rw[<-this];congr 1;omega
    have hV2:(cZ r' λV=>V.jb (i*8+1+j) ((ws.drop 1).drop j))=cZ (r'.1.sg (i*8+1+j) w) λV=>V.jb (i*8+1+(j+1)) ((ws.drop 1).drop (j+1)):=by
     rw[lA e,jU];rfl
    refine Ok.call (H6 (n-1) (i*8+1+j) w s dO eZ AC (k:=V.steps+3+(j+1))|>λz=>by rwa [show n-1+3=n+2 by omega]at z) ?_;rintro _ ⟨s2,rfl,q1,q2,q3,q4,q5⟩;refine⟨_,s2,rfl,?_⟩;rw[ar,ao,Zc];have:=aQ (7-(j+1)) [.i (r'.1.sg (i*8+1+j) w).2,.i (j+1+1:Nat)] s2 AC ⟨j+1,_,rfl,AC,AC,ks.trans q1,q2,q3,q4.trans fy,q5,hV.trans hV2⟩;rw[<-hV];exact this
  .have h7:j=7:=AC
   rw[aK (AC:¬((j+1:Nat):Int)<8),ae];exact F5 (.inl h7)
 have:=yd (g:=ay.fP) (k:=V.steps+2) AC (λV' s' q1 q2 q3 q4 q5=>FX (V.steps+3) AC V' s' q1 q2 q3 q4 AC) C1 (V.put i 0 [0]) s1 k1 d1 w1 l1 t1;unfold ay.lay ay.head;rw[rf];exact this
theorem ZmT (n:Nat) (l ats:ak) (pl pa:ah) (st:St) (hd:dS st b q V) (hw:V.W) (hl:Sl st pl (ints l)) (ha:Sl st pa (ints ats)) (dY:dF (RB b) pl) (hoa:dF (RB b) pa) (iL:l.length<1000) (hlx: ∀x∈l,0<=x/\x<1000000) (tq:ats.length<=8)
  (oS: ∀x∈ats,0<=x/\x.toNat<V.cs.length/8) (hk:V.steps+9*ats.length+1<=k) (fQ:k<1000000) (hn:V.cs.length+1500<=n):
  Ok (gz st b q V.cs.length k (V.oe ((List.range ats.length).map λi=>fB i l) ats)) (run Bd n 386 [.ptr (some (b+4,0)),.slice 1 pl l.length,.slice 1 pa ats.length] st):=by
 obtain _|n:=n;omega;rw[Zb,h.Ub];unfold Jz bG Q_ aX bY Zw mR Lp Li lu
 try dsimp only
 rw[bF,bd,bd,ao];have⟨L,hL⟩: ∃L,((List.range ats.length).map λi=>fB i l)=L:=⟨_,rfl⟩;have FK:L.length=ats.length:=by rw[<-hL];simp
 rw[hL];refine Ok.join λav e1=>?_
 refine Zn _ (λq' y s=>∃(j:Nat) (V':ay),y=[.i j]/\j<=ats.length/\ats.length-j<=q'/\Fk (RB b) st s/\dS s b q V'/\V'.W/\V'.cs.length=V.cs.length/\V'.steps<=V.steps+9*j/\V.oe L ats=V'.oe (L.drop j) (ats.drop j)) ?_ ats.length n _ _ ⟨0,V,rfl,AC,AC,.refl _ _,hd,hw,rfl,AC,rfl⟩ AC;rintro q' _ s ⟨j,V',rfl,hj,hq,ks,dO,eZ,fy,mu,hV⟩ rec aQ;rw[ar,ao];by_cases aw:j<ats.length
 .have hsa:=Sl.fx ha ks.1 hoa
  have eD:=Sl.fx hl ks.1 dY;have bx:=Zpr AC aw hV;have BI:=oS _ (nP aw);have hc:L[j]' AC=fB j l:=by
   have:L[j]? =some (fB j l):=by rw[<-hL,jJ,List.getElem?_range aw];rfl
   rw[dt AC]at this;exact xE this
  rw[hc]at bx;have uU:=yf j l;have zs:(aN (fB j l).cE).length=48:=by rw[Zp,uU]
  have BU:=ZN aw;obtain⟨i2,o2,rfl⟩:=hsa.dP (by simp[ints];omega);generalize ats[j]=x at bx BI BU;obtain⟨xa,rfl⟩: ∃xa:Nat,x=(xa:Int):=⟨x.toNat,AC⟩;rw[bw]at bx BI;rw[bx,aI (AC:(j:Int)<(ats.length:Int)),aa,aD,Zg (Zo aw),bw,hsa.fj BU,bm];refine Ok.wm (ZnW n j l pl 1 s (.inl rfl) eD AC AC hlx AC) ?_;rintro _ rfl;refine⟨_,s,rfl,.refl s,?_⟩;rw[cU];have Cg:=Zos n (fB j l) uU s AC;unfold Zz at Cg⊢;rw[ar,bV zs,ao];refine Ok.cx Cg λs2 bC=>?_
  rw[fL,ao,Zv,vX];have jZ:=ax.new s2 (some (⟨false,aN (pL (fB j l))⟩:aH));have nl:cC (s2++[some (⟨false,aN (pL (fB j l))⟩:aH)]) (some (s2.length,0)) (pL (fB j l)):=pY s2 _;have lD:dF (RB b) (some (s2.length,0)):=by
   have⟨zp,p,since,⟨g0,_,_,_⟩⟩:=dO;have:=(cF.1 g0.hd).1;have:=bC.len;intro b' o e hm;cases e;simp[RB]at hm;omega
  generalize (s2++[some (⟨false,aN (pL (fB j l))⟩:aH)])=s3 at jZ nl;have hp:=bC.trans jZ;rw[Jb uU,<-fy];refine Bb (k:=V.steps+9*(j+1)) AC (ks.trans (.pre hp)) (ZmZ n xa _ (pL (fB j l)) s3 (dO.pre hp) eZ AC nl lD (Jb uU) AC AC AC) λs' e0 k' h1 h2 h3 h4=>?_
  rw[lA e0]at bx;rw[Zc];have hr:=aQ (ats.length-(j+1)) [.i (j+1:Nat)] s' AC ⟨j+1,_,rfl,AC,AC,k',h1,h2,h3.trans fy,h4,bx⟩;rw[bx]at hr;rw[fy];exact hr
 .have:j=ats.length:=AC
  subst this;rw[sF (AC:L.length<=ats.length),zY]at hV;rw[aK (AC:¬(ats.length:Int)<(ats.length:Int)),ae,e1];dsimp only;rw[ao,hV,show V'.oe [] []=V'.fP from rfl,<-fy];exact EN ks (Ia n s dO eZ AC fQ)
theorem dS.lt (h:dS st b q V): ∀x∈RB b,x<st.length:=by
 have⟨zp,p,since,⟨g0,_,_,_⟩⟩:=h;have:=(cF.1 g0.hd).1;intro x hx;simp[RB]at hx;omega
theorem bn.Mv {a:ah} {cs:af} (h:bn s0 s a cs): ∀x∈aC a,s0.length<=x:=by
 intro x hx;rcases h.2 with⟨rfl,_⟩|⟨y,rfl,g,_⟩
 .cases hx
 .rw[show x=y from cA.1 hx];exact g
theorem bn.fxP {T:al} {a:ah} {cs:af} (h:bn s0 s a cs) (k:Fx T s s') (hp:ax s0 s') (hT: ∀x∈aC a,x∉T):bn s0 s' a cs:=
 ⟨hp,h.2.imp id λ⟨i,g1,g2,g3⟩=>⟨i,g1,g2,k.2 i _ (hT i (by rw[g1];simp[aC])) g3⟩⟩
theorem bn.Ph {a:ah} {cs:af} (h:bn s0 s a cs): ∀x∈aC a,x<s.length:=by
 intro x hx;rcases h.2 with⟨rfl,_⟩|⟨y,rfl,_,g⟩
 .cases hx
 .rw[show x=y from cA.1 hx];exact(cF.1 g).1
theorem Zlv (n:Nat) (g gs gn:Int) (st:St) (hd:dS st b q V) (hw:V.W) (hk:V.steps+100<=k) (fQ:k<1000000) (hn:V.cs.length+8000<=n):
  Ok (gz st b q V.cs.length k (V.fmt g gs gn)) (run Bd n 357 [.ptr (some (b+4,0)),.agg [.i g,.i gs,.i gn]] st):=by
 obtain⟨n,rfl⟩: ∃m,n=m+3:=⟨n-3,AC⟩;rw[Zb,h.TT];unfold Ic pK bA nR aX ZA bG bQ p6 Li Lp gH Ah ay.fmt
 try dsimp only
 rw[bF,cU];simp only[ar,ao];rw[Zj (Zm6 (n+1) g gs gn st),aA,ao];cases hg:kq g gs gn with
 |false=>exact .mk ⟨st,rfl,.refl _ _,hd,hw,rfl,by show V.steps<=k;omega⟩
 |true=>
 have hgp:=uu hg;obtain⟨m,rfl⟩: ∃m:Nat,g=(m:Int):=⟨g.toNat,AC⟩;rw[bU,ae,ae,vU (I5 (n+1) st hd hw),ar,ao];by_cases aw:((V.cs.length/8:Nat):Int)<(m:Int)
 .rw[aI aw]
  exact .mk ⟨st,rfl,.refl _ _,hd,hw,rfl,by show V.steps<=k;omega⟩
 rw[aK aw,ae,ae,bw];refine Bb (k:=V.steps+5) AC (.refl _ _) (Zmu (n+2) st hd hw AC AC AC AC) λs1 _ k1 d1 w1 l1 t1=>?_
 generalize V.yH.1=U at d1 w1 l1 t1⊢;have⟨K,hK⟩: ∃K,(m+383)/384=K:=⟨_,rfl⟩;rw[hK,Zv];have jZ:=ax.new s1 (some (⟨false,ints (ZB 0 2)⟩:aH));have wN:bn s1 (s1++[some (⟨false,ints (ZB 0 2)⟩:aH)]) (some (s1.length,0)) (ints (ZB 0 2)):=⟨jZ,Do⟩;rw[show(s1++[some (⟨false,[.i 0,.i 1]⟩:aH)])=s1++[some (⟨false,ints (ZB 0 2)⟩:aH)]from rfl];refine Ok.join λav e1=>?_
 refine Zn _ (λq' y s=>∃(j z:Nat) (r r2:ah),y=[.agg [.i 1,.i m,.i gs,.i gn,.i 0,.i 0,.i 0,.i 0,.slice z r j],.slice 1 r2 (2+j),.i j]/\(z=1\/r=none)/\j<=K/\K-j<=q'/\bn s1 s r (ints (ZB 2 j))/\bn s1 s r2 (ints (ZB 0 (2+j)))/\∀x∈aC r,x∉aC r2) ?_ K (n+2) _ _ ⟨0,0,none,_,rfl,.inr rfl,AC,AC,bn.nil jZ,wN,by simp[aC]⟩ AC;rintro q' _ s ⟨j,z,r,r2,rfl,iV,hj,hq,ho,dA,Gg⟩ rec aQ;rw[cU];simp only[ar,Zr 1 z r _ iV,bd,ao];have oU:=ZlY (n+2) m gs gn AC s AC;refine Ok.call oU ?_;rintro _ rfl;refine⟨_,s,rfl,?_⟩;rw[ar,ao,hK];have kW: ∀a n:Nat,(ints (ZB a n)).length=n:=λa n=>by rw[show(ints (ZB a n)).length=(ZB a n).length by simp[ints],Z9]
 by_cases aw:j<K
 .rw[aI (AC:(j:Int)<(K:Int)),aa,Zc,show(2+(j:Int))=((2+j:Nat):Int) by omega]
  have⟨r',s3,a1,a2,a3,a4⟩:=ho.OA (β:=af) (sz:=1) (n:=j) (lim:=8796093022208) [.i ((2+j:Nat):Int)] AC (by rw[kW,cL]) rfl AC;rw[a4];have om:=dA.fxP a2 a1.1 λx hx hm=>Gg x hm hx
  have⟨r3,s4,b1,b2,b3,b4⟩:=om.OA (β:=af) (sz:=1) (n:=2+j) (lim:=8796093022208) [.i ((2+j:Nat):Int)] AC (by rw[kW,cL]) rfl AC;rw[b4,Zc];refine aQ (K-(j+1)) _ _ AC ⟨j+1,1,r',r3,rfl,.inl rfl,AC,AC,?_,?_,λx hx hm=>?_⟩
  .rw[JT]
   unfold ints at a1⊢;rw[fb];refine a1.fxP b2 b1.1 λx hx hm=>?_
   have:=a3 x hx;have:=dA.Ph x hm;omega
  .rw[show 2+(j+1)=(2+j)+1 by omega,JT,ei]
   unfold ints at b1⊢;rw[fb];exact b1
  .have:=a1.Ph x hx
   have:=b3 x hm;omega
 .have:j=K:=AC
  subst this;rw[aK (AC:¬(j:Int)<(j:Int)),ae,e1];dsimp only;rw[cU];simp only[ar,Zr 1 z r _ iV,bd,ao];have P7:=d1.lt;have Qf:dF (RB b) r:=dF.aC λx hx hm=>by have:=ho.Mv x hx;have:=P7 x hm;omega
  have Vr:dF (RB b) r2:=dF.aC λx hx hm=>by have:=dA.Mv x hx;have:=P7 x hm;omega
  have hc:=ZmT (n+2) (k:=V.steps+80) (ZB 0 (2+j)) (ZB 2 j) r2 r s (d1.pre ho.1) w1 dA.sl ho.sl Vr Qf (by rw[Z9];omega) (λx hx=>by have:=Kz hx;omega) (by rw[Z9];omega) (λx hx=>by have:=Kz hx;omega) (by rw[Z9];omega) AC AC;rw[Z9,Z9]at hc;have zg:=k1.trans (.pre ho.1);refine Ok.mono (P:=gz s b q U.cs.length k _) ?_ λo hq=>l1▸gz.pre zg hq
  have eu:sV m (ZB 0 (j+2))=(List.range j).map λi=>fB i (ZB 0 (2+j)):=by
   unfold sV;rw[hK,oz j 2]
  rw[eu];refine Bb (k:=V.steps+80) AC (.refl _ _) hc λs7 _ k7 d7 w7 l7 t7=>?_
  have hL:=Zpf (n+2) 0 (k:=k) (pX m gs gn) r s7 d7 w7 EQ AC (Sl.fx (cs:=ints (pX m gs gn).bg) (by
   show Sl s r (ints (ZB 2 ((m+383)/384)));rw[hK];exact ho.sl) k7.1 Qf) (ZnP hg) AC fQ AC
  rw[show cN (pX (m:Int) gs gn) r=[.i 1,.i m,.i gs,.i gn,.i 0,.i 0,.i 0,.i 0,.slice 1 r j]from by
   unfold cN;rw[show(pX (m:Int) gs gn).bg.length=(m+383)/384 from Z9 _ _,hK];rfl]at hL
  rw[<-l7];exact EN k7 hL
theorem Zo2 (n k q:Nat) (st:St) (hk:k<=4096):
  ∃s',run Bd (n+1) 378 [.i k] st=some (.val [.ptr (some (st.length+4,0))],s')/\ax st s'/\dS s' st.length q (mg (List.replicate (8*k) c0)):=by
 rw[Zb,h.T3];unfold JO bQ cV Lb Lp
 try dsimp only
 have e8:aq (8*(k:Int))=((8*k:Nat):Int):=by
  rw[show 8*(k:Int)=((8*k:Nat):Int) by omega];exact Zc
 have hc: ∀L:Int,((32768:Int)<=L)->(decide (0<=((8*k:Nat):Int))&&decide (((8*k:Nat):Int)<=((8*k:Nat):Int))&&decide (((8*k:Nat):Int)<=L))=true:=λL hL=>by
  rw[aZ,aZ,bD,bD,bD];omega
 rw[ar,ao,e8,Zg (hc _ EQ),bw,qZ,Zv,Zg (hc _ EQ),Zv,Zg (hc _ EQ),Zv,Zg (hc _ EQ),qZ,Zv,Zv,Zh];have hw:(List.replicate (8*k) (.w 0):af)=Zm (List.replicate (8*k) 0):=by simp[Zm]
 rw[hw];have hm: ∀ {α:Type} (f:aU->α),(List.replicate (8*k) c0).map f=List.replicate (8*k) (f c0):=λf=>List.map_replicate
 simp only[cq,eK,List.length_nil,ei,oy,Nat.reduceAdd,gX,qN,mN];have fH:(mg (List.replicate (8*k) c0)).cs=List.replicate (8*k) c0:=rfl;have hg: ∀(L:St) (i:Nat),(st++L)[st.length+i]? =L[i]? :=λL i=>by
  rw[iO AC,Nat.add_sub_cancel_left]
 refine⟨_,rfl,⟨_,rfl⟩,0,none,0,⟨⟨?_,?_,?_,?_,?_,.inr rfl,rfl,λ_ _ e=>(by cases e)⟩,λe=>absurd (show true=false from e) EQ,aW _,by simp[aC]⟩⟩
 .rw[hg,fH]
  simp[mH,mg,eE];decide
 .refine Eq.trans (hg _ 0) ?_
  rw[fH,hm];rfl
 .rw[hg,fH,hm];rfl
 .rw[hg,fH,hm];rfl
 .rw[hg,fH,hm];rfl
theorem Zpm (n:Nat) (x:Int) (st:St) (hd:dS st b q V) (hw:V.W):
  ∃s',run Bd (n+1) 360 [.ptr (some (b+4,0)),.i x] st=some (.val [],s')/\Fk (RB b) st s'/\dS s' b q (V.arm x):=by
 have⟨zp,p,since,⟨h0,ml,hle,gr⟩⟩:=hd;have hz:=D6 hw;rw[Zb,h.TW];unfold HZ gy Zl Q_ Li
 try dsimp only
 rw[bF,ar,ao,aD,Zf h0.hd (d:= .i (eE V)) rfl,bm,Zi,hz];cases ho:V.off with
 |true=>
  rw[bU,ae];dsimp only;rw[ao,Zh];exact⟨st,rfl,.refl _ _,by unfold ay.arm;rw[ho];exact hd⟩
 |false=>
  rw[cy,aa,aD,Zs h0.hd (by show 6<8;decide)];dsimp only;rw[ao,Zh];have e:(if x< -1 then(-1:Int)else x)=eE (V.arm x):=by
   unfold ay.arm eE;rw[ho];dsimp only[ae];by_cases h1:x=0
   .subst h1;rfl
   .rw[show(x==0)=false from iG.2 h1,ae]
    by_cases h2:x>=0
    .rw[aI h2,aa,cG AC]
    .rw[aK h2,ae]
     by_cases h3:x< -1
     .rw[bO h3]
     .rw[cG h3];omega
  have⟨g1,k1⟩:=h0.ou since (eE (V.arm x)) V.steps;rw[e];refine⟨_,rfl,k1,zp,p,since,⟨?_,?_,?_,gr⟩⟩
  all_goals unfold ay.arm at*
  all_goals rw[ho]at*
  .exact g1
  .exact ml
  .exact hle
theorem ZoQ (n:Nat) (l:ak) (a:ah) (st:St) (hd:dS st b q V) (hw:V.W) (ha:Sl st a (ints l)) (hl:l.length<100000):
  ∃q' s',run Bd (n+1) 355 [.ptr (some (b+4,0)),.slice 1 a l.length] st=some (.val [],s')/\Fk (RB b) st s'/\st.length<=q'/\dS s' b q' (V.zJ l):=by
 have⟨zp,p,since,⟨h0,ml,hle,gr⟩⟩:=hd;have aw:=hd.lt;have kW:(ints l).length=l.length:=by simp[ints]
 rw[Zb,h.TR];unfold HR bG bh Li
 try dsimp only
 rw[bF,bd,ao,Zv];have hp:=ax.new st (some (⟨false,[]⟩:aH));have dG:=kA (β:=af) (ha.mono hp);rw[kW]at dG;rw[cL,dG];have wN:bn st (st++[some (⟨false,[]⟩:aH)]) (some (st.length,0)) []:=⟨hp,Do⟩;have key: ∀(r:ah) (s1:St),bn st s1 r (ints l)->r≠none->∃q' s',(aF (some (b+4,0)) λi1 o=>bB i1 (o+4) [.slice 1 r (0+l.length)]<|aF (some (b+4,0)) λi2 o1=>bB i2 (o1+5) [.i 0]<|(au []:M af)) s1=some (.val [],s')/\Fk (RB b) st s'/\st.length<=q'/\dS s' b q' (V.zJ l):=by
  intro r s1 hr cS;obtain⟨⟨j,o⟩,rfl⟩: ∃x,r=some x:=by cases r with|none=>exact absurd rfl cS|some x=>exact⟨x,rfl⟩
  have hg:=hr.Mv j (by simp[aC]);have g0:=h0.fx (T:=[]) (.pre _ hr.1) Do (λ_ _ _ hm=>by cases hm);have hnb:j∉RB b:=λhm=>by have:=aw j hm;omega
  rw[aD,Zs g0.hd (by show 4<8;decide),aD];have x1:jh (s1.set (b+4) (some ⟨false,mH b 1 (some (j,o)) since (eE V) V.steps V.cs.length l.length⟩)) b 1 (some (j,o)) since (eE V) V.steps V.cs l:=by
   refine⟨eJ (cF.1 g0.hd).1,?_,?_,?_,?_,.inl rfl,?_,λ_ _ e hm=>?_⟩
   .rw[cz AC];exact g0.hl
   .rw[cz AC];exact g0.hs
   .rw[cz AC];exact g0.ht
   .rw[cz AC];exact g0.hf
   .refine Sl.fx hr.sl (Fx.set s1 (b+4) _) λ_ _ e hm=>?_
    cases e;rw[cA]at hm;exact hnb (by rw[hm];simp[RB])
   .cases e;exact hnb hm
  have k1:Fk (RB b) s1 (s1.set (b+4) (some ⟨false,mH b 1 (some (j,o)) since (eE V) V.steps V.cs.length l.length⟩)):=(Fk.set g0.hd _).mono (by simp[RB]);rw[show(mH b zp p since (eE V) V.steps V.cs.length V.bT.length).set (0+4) (.slice 1 (some (j,o)) (0+l.length))=mH b 1 (some (j,o)) since (eE V) V.steps V.cs.length l.length from by rw[ei l.length];rfl];generalize s1.set (b+4) (some ⟨false,mH b 1 (some (j,o)) since (eE V) V.steps V.cs.length l.length⟩)=s2 at x1 k1;rw[Zs x1.hd (by show 5<8;decide),Zh];have⟨x2,k2⟩:=x1.ou 0 (eE V) V.steps;exact⟨j,_,rfl,((Fk.pre hr.1).trans k1).trans k2,hg,1,some (j,o),0,⟨x2,λe=>Nat.zero_mod _,eB _,by simp[aC]⟩⟩
 by_cases BY:l.length=0
 .have e:ints l=[]:=vv AC
  rw[show(cB 1 (some (st.length,0)) 0 (ints l) l.length 8796093022208:(ah->M af)->M af)=λK=>K (some (st.length,0))from by rw[e,BY];rfl];dsimp only;exact key _ _ (by rw[e];exact wN) Do
 .have⟨r,s1,h1,h2⟩:=wN.app (β:=af) (sz:=1) (n:=0) (m:=l.length) (lim:=8796093022208) (ds:=ints l) EQ rfl AC AC
  rw[h2];refine key r s1 h1 λe=>?_
  rcases h1.2 with⟨_,e2⟩|⟨_,e2,_⟩
  .rw[mN]at e2
   rw[e2]at kW;exact BY kW.symm
  .rw[e]at e2;cases e2
def iJ (W:al) (i:Nat):List aU:=(W.take i).map lG++List.replicate (W.length-i) c0
theorem ZnJ {W:al} (h:i<=W.length:=by omega):(iJ W i).length=W.length:=by
 unfold iJ;rw[cq,dE,dh,qO];omega
theorem ZrX {W:al} (h:i<W.length):(iJ W i)[i]? =some c0/\(iJ W i).set i (lG W[i])=iJ W (i+1):=by
 have hl:((W.take i).map lG).length=i:=by rw[dE,dh];omega
 have hr:List.replicate (W.length-i) c0=c0::List.replicate (W.length-(i+1)) c0:=by
  rw[show W.length-i=(W.length-(i+1))+1 by omega,List.replicate_succ]
 unfold iJ;constructor
 .rw[iO AC,hl,mO,hr];rfl
 .rw[xx _ _ AC,hl,mO,hr,List.set_cons_zero,pE h,fb,gX]
  rfl
theorem ZnZ (n q:Nat) (a:ah) (l:aj) (st:St) (ha:cC st a l) (hl:l.length<262144) (hn:40000<=n):
  Ok (λo=>∃s',o=(.val [.ptr (some (st.length+4,0))],s')/\ax st s'/\dS s' st.length q (mg ((Zy l (8*(l.length/64))).map lG))) (run Bd n 353 [.slice 1 a l.length] st):=by
 obtain _|n:=n;omega;rw[Zb,h.TP];unfold Je bG jg iH Q_ bY sT N_ ZF Li Lp Ls cV
 try dsimp only
 have⟨K,hK⟩: ∃K,l.length/64=K:=⟨_,rfl⟩;have e1:aq ((l.length:Int).tdiv 64)=(K:Int):=by
  rw[show(l.length:Int).tdiv 64=((l.length/64:Nat):Int)from rfl,hK];exact Zc
 have e8:aq (8*(K:Int))=((8*K:Nat):Int):=by
  rw[show 8*(K:Int)=((8*K:Nat):Int) by omega];exact Zc
 have⟨s1,hr,bj,qj⟩:=Zo2 (n-1) K q st AC;rw[show n-1+1=n by omega]at hr;rw[bd,ao,Zi,e1,aK (AC:¬(K:Int)>4096),ae];dsimp only;rw[ar,ao,Zj hr,bF,ao,hK];have⟨W,hW⟩: ∃W,Zy l (8*K)=W:=⟨_,rfl⟩;have qg:W.length=8*K:=by rw[<-hW,Z1]
 rw[hW];have⟨zp,p,since,⟨h0,_,hle,gr⟩⟩:=qj;have Gj:since=0:=Nat.le_zero.1 hle;subst Gj;rw[show eE (mg (List.replicate (8*K) c0))= -1 from rfl]at h0;have aw:=qj.lt;refine Ok.join λaG e2=>?_
 refine Zn _ (λq' y s=>∃i:Nat,y=[.i i]/\i<=8*K/\8*K-i<=q'/\ax st s/\jh s st.length zp p 0 (-1) 0 (iJ W i) []) ?_ (8*K) n _ _ ⟨0,rfl,AC,AC,bj,by
  have:iJ W 0=List.replicate (8*K) c0:=by unfold iJ;simp[qg]
  rw[this];exact h0⟩ AC
 rintro q' _ s ⟨i,rfl,hi,hq,hp,hs⟩ rec aQ;rw[ar,ao,e8];have iz:=ZnJ (W:=W) (i:=i);by_cases kX:i<8*K
 .have e9:aq (8*(i:Int))=((8*i:Nat):Int):=by
   rw[show 8*(i:Int)=((8*i:Nat):Int) by omega];exact Zc
  have rB:aq (((8*i:Nat):Int)+8)=((8*i+8:Nat):Int):=by rw[Zc];omega
  have fV:=((cC.mono hp ha).cR (k:=8*i) AC).js 8;have h8:((l.drop (8*i)).take 8).length=8:=by rw[dh,ft];omega
  have dG:=kA (β:=af) fV;rw[Zp,h8]at dG;have hwi:W[i]' AC=da ((l.drop (8*i)).take 8):=by
   have:=xW (l:=l) kX;rw[hW,dt AC]at this;exact xE this
  have⟨hx,bN⟩:=ZrX (W:=W) (i:=i) AC;rw[hwi]at bN;have FK: ∀f:aU->Nat,(Zm ((iJ W i).map f)).length=8*K:=λf=>by rw[Z8,dE];omega
  rw[aI (AC:(i:Int)<((8*K:Nat):Int)),aa,aD,Zf hs.hd (d:= .slice 1 (some (st.length,0)) (iJ W i).length) rfl,eH,e9,rB,Zg (by rw[aZ,bD,bD];omega),bw,bw,Zg (by rw[aZ,bD,bD];omega),cL,show 8*i+8-8*i=8 by omega,dG,show gI (aN ((l.drop (8*i)).take 8))=λK=>K ((l.drop (8*i)).take 8)from funext λK=>by unfold gI;rw[As]];refine Ok.wm (Dx n _ s) ?_;rintro _ rfl;refine⟨_,s,rfl,.refl s,?_⟩;generalize da ((l.drop (8*i)).take 8)=w at bN;rw[ar,ao,aD,iz,Zg (Zo),bw,cL,dK i,Zs hs.hl (by rw[FK];omega),xU,aD];have g1:(s.set st.length (some (⟨false,Zm (((iJ W i).map aU.l).set i w)⟩:aH)))[st.length+4]? =_:=(cz AC).trans hs.hd;have g2:(s.set st.length (some (⟨false,Zm (((iJ W i).map aU.l).set i w)⟩:aH)))[st.length+1]? =_:=(cz AC).trans hs.hs;have g0:(s.set st.length (some (⟨false,Zm (((iJ W i).map aU.l).set i w)⟩:aH)))[st.length]? =some (some ⟨false,Zm (((iJ W i).map aU.l).set i w)⟩):=eJ (cF.1 hs.hl).1;have F0:(Zm (((iJ W i).map aU.l).set i w))[i]? =some (.w (w:Nat)):=by
   unfold Zm;rw[jJ,eJ (by rw[dE];omega)];rfl
  rw[Zf g1 (d:= .slice 1 (some (st.length+1,0)) (iJ W i).length) rfl,eH,aD,Zf g1 (d:= .slice 1 (some (st.length,0)) (iJ W i).length) rfl,eH,aD,iz,Zg (Zo),dK i,Zf g0 F0,bm,aD,Zg (Zo),dK i,Zs g2 (by rw[FK];omega),xU,Zc];have⟨x1,_⟩:=hs.cells (iJ W (i+1)) (by rw[iz,ZnJ]) ((s.set st.length (some (⟨false,Zm (((iJ W i).map aU.l).set i w)⟩:aH))).set (st.length+1) (some ⟨false,Zm (((iJ W i).map aU.s).set i w)⟩)) Do
   (by rw[cz AC,g0,<-bN,pD];rfl)
   (by rw[eJ (cF.1 g2).1,<-bN,pD];rfl)
   (by rw[cz AC,cz AC,<-bN,uw (f:=aU.t) (c:=lG w) hx rfl];exact hs.ht)
   (by rw[cz AC,cz AC,<-bN,uw (f:=λc=>DV.bool c.f) (c:=lG w) hx rfl];exact hs.hf)
   (λj hj=>by simp at hj;rw[cz AC,cz AC])
  exact aQ (8*K-(i+1)) _ _ AC ⟨i+1,rfl,AC,AC,kP (kP hp (aW _) _) AC _,x1⟩
 .have:i=8*K:=AC
  subst this;rw[aK (AC:¬((8*K:Nat):Int)<((8*K:Nat):Int)),ae,e2];dsimp only;rw[ao,Zh];have:iJ W (8*K)=W.map lG:=by unfold iJ;rw[dJ AC,qg,mO];simp
  rw[this]at hs;exact .mk ⟨s,rfl,hp,zp,p,0,⟨hs,λe=>absurd (show true=false from e) EQ,aW _,gr⟩⟩
variable {d c:Nat}
theorem Zt3 (w k:Nat) (hk:k<8):IntKind.wrap .u8 ((w:Int).fdiv (2^(min (8*k) 64)))=((UInt8.ofNat (w/256^k)).toNat:Int):=by
 rw[je AC,show((2:Int)^(8*k))=((256^k:Nat):Int) by rw[L7];push_cast;rfl,vY,Zqs]
theorem Zjj (n:Nat) (a:ah) (W:al) (st:St) (ha:Sl st a (Zm W)) (hl:W.length<1000000) (hn:W.length+30<=n):
  Ok (λo=>∃s',o=(.val [.str (df W)],s')/\ax st s') (run Bd n 388 [.slice 1 a W.length] st):=by
 obtain _|n:=n;omega;rw[Zb,h.Ud];unfold Jq bG jx oG ZF Ls gj bh iP lT
 try dsimp only
 rw[bd,ao];refine Ok.join λav e1=>?_
 refine Zn _ (λq' y s=>∃(i z:Nat) (p:ah),y=[.slice z p (8*i),.i i]/\(z=1\/p=none)/\i<=W.length/\W.length-i<=q'/\bn st s p (aN (df (W.take i)))) ?_ W.length n _ _ ⟨0,0,none,rfl,.inr rfl,AC,AC,bn.nil (.refl st)⟩ AC;rintro q' _ s ⟨i,z,p,rfl,hz,hi,hq,ho⟩ rec aQ;rw[Zr 1 z p _ hz,ar,ao];have dY:(df (W.take i)).length=8*i:=by rw[ye,dh];omega
 by_cases aw:i<W.length
 .rw[aI (AC:(i:Int)<(W.length:Int)),aa]
  refine Ok.join λaG e2=>?_
  refine Ok.join λbp e3=>?_
  refine Zn _ (λq' y s=>∃(j z:Nat) (p:ah),y=[.slice z p (8*i+j),.i j]/\(z=1\/p=none)/\j<=8/\8-j<=q'/\bn st s p (aN (df (W.take i)++cI W[i] j))) ?_ 8 n _ _ ⟨0,1,p,by cases p<;>rfl,.inl rfl,AC,AC,by rw[show cI W[i] 0=[]from rfl,gE];exact ho⟩ AC;rintro q2 _ s2 ⟨j,z2,p2,rfl,mD,hj,zw,dA⟩ gv Co;rw[Zr 1 z2 p2 _ mD,ar,ao];by_cases kX:j<8
  .have tp:=ha.mono dA.1
   obtain⟨i1,o1,rfl⟩:=tp.dP (by rw[Z8];omega);have hg:(Zm W)[i]? =some (.w (W[i]:Nat)):=by simp[Zm,aw]
   have e8:aq (8*(j:Int))=((8*j:Nat):Int):=by
    rw[show 8*(j:Int)=((8*j:Nat):Int) by omega];exact Zc
   rw[aI (AC:(j:Int)<8),aa,aD,Zg (Zo aw),bw,tp.fj hg,bm,e8,Zg (aI AC),bw,Zt3 _ _ kX];have⟨p3,s3,h1,h2⟩:=dA.push (β:=af) (sz:=1) (n:=8*i+j) (lim:=70368744177664) [.u (UInt8.ofNat (W[i]/256^j)).toNat] EQ (by rw[Zp,cq,dY,ZH,cL]) rfl AC;rw[h2,Zc];refine Co (8-(j+1)) _ _ AC ⟨j+1,1,p3,rfl,.inl rfl,AC,AC,?_⟩;rw[Zqf,<-gX,pJ];exact h1
  .have:j=8:=AC
   subst this;rw[aK (AC:¬((8:Nat):Int)<8),ae,e3];dsimp only;rw[bd,ao,e2];dsimp only;rw[bd,ao,Zc];refine aQ (W.length-(i+1)) _ _ AC ⟨i+1,1,p2,rfl,.inl rfl,AC,AC,?_⟩;rw[xy,dt aw,Znp,show df (some W[i]).toList=cI W[i] 8 by simp[df]];exact dA
 .have:i=W.length:=AC
  subst this;rw[lO]at ho dY;rw[aK (AC:¬(W.length:Int)<(W.length:Int)),ae,e1];dsimp only;have dG:=kA (β:=af) ho.sl;rw[Zp,dY]at dG;rw[bd,ao,dG,show gI (aN (df W))=λK=>K (df W)from funext λK=>by unfold gI;rw[As]];dsimp only;rw[Zh];exact .mk ⟨s,rfl,ho.1⟩
theorem Znd (n:Nat) (st:St) (hd:cQ st d c V) (hr:dS st b q V) (hw:V.W) (hn:V.cs.length+100<=n):
  Ok (λo=>∃s',o=(.val [.bool true],s')/\ax st s') (run Bd n 358 [.ptr (some (d,0)),.ptr (some (b+4,0))] st):=by
 obtain⟨n,rfl⟩: ∃m,n=m+2:=⟨n-2,AC⟩;have jj:=hw.cn;have⟨zp,p,since,⟨h0,_,_,_⟩⟩:=hr;have tF: ∀f:aU->Nat,(aN (df (V.cs.map f))).length=8*V.cs.length:=λf=>by rw[Zp,ye,dE]
 rw[Zb,h.TU];unfold Iz ck bQ Zl aB vD mR Lp Lb bh
 try dsimp only
 rw[bF,bF,ao,sL (Zl7 n st hd) (.refl st),ar,ao,aD,Zf h0.hd (d:= .i (aq V.steps)) rfl,bm];refine Ok.join λav e1=>?_
 rw[show(aq V.steps==aq V.steps)=true from Ad _,aa];refine Ok.wm (Zig (n+1) st hd hw) ?_;rintro _ ⟨p1,s1,rfl,nv⟩;refine⟨_,s1,rfl,nv.1,?_⟩;have dG:=kA (β:=af) nv.sl;rw[tF]at dG;have h1:=h0.fx (T:=[]) (.pre _ nv.1) Do (λ_ _ _ hm=>by cases hm);rw[bd,ao,dG,show gI (aN (df (V.cs.map aU.s)))=λK=>K (df (V.cs.map aU.s))from funext λK=>by unfold gI;rw[As]];dsimp only;rw[aD,Zf h1.hd (d:= .slice 1 (some (b+1,0)) V.cs.length) rfl,eH];have t1:=Zjj (n+1) (some (b+1,0)) (V.cs.map aU.s) s1 ⟨false,_,h1.hs,Do,Do⟩ (by rw[dE];exact jj) (by rw[dE];omega);rw[dE]at t1;refine Ok.cx t1 λs2 bC=>?_
 rw[fL,ao,show(df (V.cs.map aU.s)==df (V.cs.map aU.s))=true from Ad _,e1];dsimp only;rw[aA,ao,Zi,aa];have hp:=nv.1.trans bC;refine Ok.wm (ZlT (n+1) s2 (hd.pre hp) hw AC) ?_;rintro _ ⟨p3,s3,rfl,om⟩;refine⟨_,s3,rfl,om.1,?_⟩;have Qn:=kA (β:=af) om.sl;rw[tF]at Qn;have h3:=h0.fx (T:=[]) (.pre _ (hp.trans om.1)) Do (λ_ _ _ hm=>by cases hm);rw[bd,ao,Qn,show gI (aN (df (V.cs.map aU.l)))=λK=>K (df (V.cs.map aU.l))from funext λK=>by unfold gI;rw[As]];dsimp only;rw[aD,Zf h3.hd (d:= .slice 1 (some (b,0)) V.cs.length) rfl,eH];have t3:=Zjj (n+1) (some (b,0)) (V.cs.map aU.l) s3 ⟨false,_,h3.hl,Do,Do⟩ (by rw[dE];exact jj) (by rw[dE];omega);rw[dE]at t3;refine Ok.cx t3 λs4 fI=>?_
 rw[fL,ao,show(df (V.cs.map aU.l)==df (V.cs.map aU.l))=true from Ad _,aA,ao,Zh];exact .mk ⟨s4,rfl,(hp.trans om.1).trans fI⟩
theorem Zug (n:Nat) (x:Int) (z:Nat) (s:St):run Bd n 177 [.i x,.slice z none 0] s=run Bd n 177 [.i x,.slice 1 none 0] s:=by
 cases n with
 |zero=>rfl
 |succ n=>
  rw[Zb,Zb,h.ML];unfold Ej bG C_ cV lu jM Lp
  try dsimp only
  rw[ar,ar,OW,OW]
theorem Zko (n m:Nat) (l:aj) (a:ah) (st:St) (hd:qR st d (Zy l (8*(l.length/64)))) (hl:l.length<262144) (hm:m<=3072) (hr:la l 1=none) (hn:500<=n):
  Ok (λo=>∃i j s',o=(.val [.ptr (some (i,0))],s')/\ax st s'/\dT s' false i j m (nH m [])) (run Bd n 395 [.ptr (some (d,0)),.slice 1 a l.length,.i 0,.i m] st):=by
 obtain _|n:=n;omega;rw[Zb,h.Ui];unfold J7 qY iH xN xM dZ C_ cP Lp xO jM
 try dsimp only
 rw[bF,bd,ar,ar,ao];have⟨s1,cm,bj,_,bN⟩:=xS n m [] none st hm (Sl.nil st) EQ (by show 0+4<=n;omega);rw[show([]:ak).length=0 from rfl,<-Zug n m 0]at cm;rw[Zj cm,bF,ao,show aq (1-0)=((1:Nat):Int)from rfl];have dG:=ZjY n d l 1 s1 (hd.mono bj) hl EQ;rw[hr]at dG;refine Ok.call dG ?_;rintro _ ⟨s2,bC,z,rfl⟩;refine⟨_,s2,rfl,?_⟩;rw[pZ];unfold Da;simp only[ar,Zr 1 z none _ (.inr rfl),aA,ao];rw[cy,aa,Zh];exact .mk ⟨_,_,s2,rfl,bj.trans bC,bN.pre bC⟩
theorem Zkf (hz:uq Bd) (n:Nat) (l:aj) {x:db} {v:bu} (st:St) (ht:kL st) (hd:cQ st d b V) (hw:V.W) (ho:V.off=false)
  (hl:df (V.cs.map aU.s)=l) (wT:Zy l (8*(l.length/64))=V.cs.map aU.s) (iL:l.length<262144) (oS:ng l 2=0) (Ci:zO l=some x) (gu:la l 1=none) (Gq:mJ (pq l x)=some (some v)) (oU:A9 l x v.W=true) (hxb:0<x.blocks/\x.blocks<=3072) (eu:x.bg.length<1000) (hn:V.cs.length+60000<=n):
  Ok (λo=>∃q i j i2 j2 s',o=(.val [.agg [.i x.seq,.i x.blocks,.i x.ef,.i x.g,.i x.de,.i x.used,.i x.free,.i x.dir,.slice 1 q x.bg.length,.i 0,.ptr (some (i,0)),.ptr (some (i2,0))],.i 0],s')/\ax st s'/\
   dT s' false i j x.blocks.toNat ((iD (nH x.blocks.toNat x.bg)).foldl (ej x.blocks.toNat) v.W)/\dT s' false i2 j2 x.blocks.toNat (nH x.blocks.toNat [])) (run Bd n 367 [.ptr (some (d,0))] st):=by
 obtain _|n:=n;omega;have hdm:qR st d (Zy l (8*(l.length/64))):=by rw[wT];exact hd.RR ho
 have⟨m,hm⟩: ∃m:Nat,x.blocks=(m:Int):=⟨x.blocks.toNat,AC⟩;have hup: ∀s,cQ s d b V->run Bd n 394 [.ptr (some (d,0))] s=some (.val [.bool true],s):=λs hs=>by
  have⟨z,zp,c,p,h0⟩:=hs.out;obtain _|n:=n;omega;rw[Zb,h.Uh];unfold Iu ck lW Lb
  try dsimp only
  rw[bF,ao,aD,Zf h0.hd (d:= .bool V.off) rfl,qQ,Zh,ho];rfl
 rw[Zb,h.TZ];unfold I8 ck bA ZA jK dZ xM DB iH ZP Lp xO Dw DC lu pH
 try dsimp only
 rw[bF,ao,pF,ae,Zj (hup st hd),aA,ao,bU,ae];have hp:=Zo0 n d l st hdm iL AC;rw[Ci,oS]at hp;refine Ok.call hp ?_;rintro _ ⟨s1,cs,b1,rfl,bj,q,rfl,rfl,hq⟩;refine⟨_,s1,rfl,?_⟩;rw[pZ];unfold cN;simp only[ar,bd,aA,ao];rw[bU,ae];refine Ok.call (Zig n s1 (hd.pre bj) hw) ?_;rintro _ ⟨a,s2,rfl,dA⟩;refine⟨_,s2,rfl,?_⟩;have hlen:8*V.cs.length=l.length:=by rw[<-hl,ye,dE]
 rw[hl]at dA;have nl:cC s2 a l:=dA.sl;have zz:([.i x.seq,.i x.blocks,.i x.ef,.i x.g,.i x.de,.i x.used,.i x.free,.i x.dir,.slice 1 q x.bg.length]:af)=cN x q:=rfl;rw[bd,ao,hlen,zz];have zw:=hq.mono dA.1;have QB:=Zjw n a l x q s2 nl zw AC AC;rw[Gq]at QB;refine Ok.call QB ?_;rintro _ ⟨s3,z2,p2,z3,p3,z4,p4,i,j,rfl,eC,mD,Cy,Cz,_,bN,hj,ky⟩;refine⟨_,s3,rfl,?_⟩;rw[pZ];unfold jH;simp only[ar,Zr 2 z2 p2 _ mD,Zr 1 z3 p3 _ Cy,Zr 1 z4 p4 _ Cz,bF,ao];rw[show(!((0:Int)==0))=false from rfl,ae];have zu:=bj.trans (dA.1.trans eC);have FW:=Zko n m l a s3 (hdm.mono zu) iL AC gu AC;have hmt:x.blocks.toNat=m:=AC
 rw[hmt]at bN⊢;rw[<-hm]at FW;refine Ok.wm FW ?_;rintro _ ⟨i2,j2,s4,rfl,fI,nx⟩;refine⟨_,s4,rfl,fI,?_⟩;rw[bF,ao];have Cq:=bN.pre fI;have y8:AN l x (some (x.blocks.toNat,v.W))=true:=by
  unfold AN;rw[Gq];simp[oU]
 have PM:=Zlp n a l x q (some (x.blocks.toNat,v.W)) (some (i,0)) s4 (ht.mono (zu.trans fI)) (cC.mono (eC.trans fI) nl) (zw.mono (eC.trans fI)) ⟨false,i,j,rfl,by rw[hmt];exact Cq⟩ AC AC AC;rw[y8]at PM;refine Ok.cv PM λs5 iA=>?_
 rw[aA,ao,bU,ae];have VA:=(dA.1.trans eC).trans (fI.trans iA);have⟨s6,cm,u4,_,VS⟩:=xS n m x.bg q s5 AC (hq.mono VA);rw[<-hm]at cm;rw[Zj cm,bF,ao];refine Ok.call (ZjV hz n s6 (ht.mono ((zu.trans fI).trans (iA.trans u4))) (Cq.pre (iA.trans u4)) VS) ?_;rintro _ ⟨i7,j7,s7,rfl,tH,VT⟩;refine⟨_,s7,rfl,?_⟩;rw[bF,ao,Zh];exact .mk ⟨q,i7,j7,i2,j2,s7,rfl,(zu.trans fI).trans ((iA.trans u4).trans tH),VT,nx.pre ((iA.trans u4).trans tH)⟩
def gf:ay×Int:=(mg (List.replicate 128 c0)).fmt 16 4 2
def Ra:Bool:=
 bif gf.2==0&& !gf.1.off&&decide (Zy (df (gf.1.cs.map aU.s)) 128=gf.1.cs.map aU.s)&&decide (ng (df (gf.1.cs.map aU.s)) 2=0)&&(la (df (gf.1.cs.map aU.s)) 1).isNone then
  match zO (df (gf.1.cs.map aU.s))with
  |none=>false
  |some x=>match mJ (pq (df (gf.1.cs.map aU.s)) x)with
   |some (some v)=>A9 (df (gf.1.cs.map aU.s)) x v.W&&decide (yw ((iD (nH x.blocks.toNat x.bg)).foldl (ej x.blocks.toNat) v.W)=3)&&decide (yw (nH x.blocks.toNat [])=0)&&decide (x.seq=1)&&decide (0<x.blocks/\x.blocks<=3072)&&decide (x.bg.length<1000)
   |_=>false
 else false
theorem Zq9:Ra=true:=by decide+kernel
end Go.Gv.F
