/- The document's maker of images: its blocks, one behind the other. -/
import Derived.Test.YtegglibipjjblaaGreatDoorGvZMd
set_option linter.all false
namespace Go.Gv.F
open Go.Gv
variable {Y:Type}
structure cd where
 B:aj
 next:Nat
 At:ak
structure iJ (s:St) (i ib ia:Nat) (m:cd):Prop where
 cell:s[i]? =some (some ⟨false,[.slice 1 (some (ib,0)) m.B.length,.i m.next,.slice 1 (some (ia,0)) m.At.length]⟩)
 bb:s[ib]? =some (some ⟨false,bT m.B⟩)
 aa:s[ia]? =some (some ⟨false,ints m.At⟩)
 d1:i≠ib
 d2:i≠ia
 d3:ib≠ia
variable {f g:Bool} {i i2 ia ib j j2 k m2 n:Nat} {Q:Out ah×St->Prop} {s s':St} {p p1 p2 p3:ai} {T V W:al} {m:cd}
theorem iJ.fx (h:iJ s i ib ia m) (k:Fx T s s') (hT: ∀x∈T,x≠i/\x≠ib/\x≠ia):iJ s' i ib ia m:=
 ⟨k.2 _ _ (λe=>(hT _ e).1 rfl) h.cell,k.2 _ _ (λe=>(hT _ e).2.1 rfl) h.bb,k.2 _ _ (λe=>(hT _ e).2.2 rfl) h.aa,h.d1,h.d2,h.d3⟩
theorem iJ.pre {s s':St} {i ib ia:Nat} {m:cd} (h:iJ s i ib ia m) (k:aB s s'):iJ s' i ib ia m:=h.fx (Fx.pre [] k) λ_ h=>by cases h
theorem iJ.lt (h:iJ s i ib ia m):i<s.length/\ib<s.length/\ia<s.length:=
 ⟨(eE.1 h.cell).1,(eE.1 h.bb).1,(eE.1 h.aa).1⟩
theorem iJ.kp (h:iJ s i ib ia m) (k:Fx [i,ib,ia] s s'):Kp s s':=by
 intro j all e;refine k.2 j _ (λhm=>?_) e;simp only[ep,tk,pD]at hm;grind[h.cell,h.bb,h.aa]
def qK (B:aj) (k:Nat) (s:aj):aj:=B.take k++(s.take (B.length-k)++B.drop (k+s.length))
theorem NZ {B:aj} (s:aj) (h:k<=B.length:=by omega):(qK B k s).length=B.length:=by
 grind[qK]
theorem Zvv {B:aj} (s:aj) (h:k<=B.length:=by omega):cG (bT B) k (bT (s.take (B.length-k)))=bT (qK B k s):=by
 have e:bT B=bT (B.take k)++(bT ((B.drop k).take s.length)++bT (B.drop (k+s.length))):=by
  rw[<-B2,<-B2,<-kd,mD,mD]
 have hl:(bT (B.take k)).length=k:=by rw[Zw,cB];omega
 have:=tC (bT (B.take k)) (bT ((B.drop k).take s.length)) (bT (B.drop (k+s.length))) (bT (s.take (B.length-k))) (by
  rw[Zw,Zw,cB,cB,dY,Nat.min_comm])
 rw[hl,<-e]at this;rw[this];simp[qK,B2]
def gx (m:cd) (s:aj):cd:=⟨bif decide (64*m.next+64<=m.B.length)then qK m.B (64*m.next) s else m.B,m.next+1,m.At⟩
theorem uT (m:cd) (s:aj):(gx m s).B.length=m.B.length:=by
 unfold gx;by_cases h:64*m.next+64<=m.B.length
 .rw[aR h];exact NZ s
 grind
variable {Bd:Zg} [h:HA Bd]
theorem Ec (n:Nat) (s:aj) (st:St) (hm:iJ st i ib ia m) (hn:m.next<1000000:=by omega) (_hB:m.B.length<1000000:=by omega):
  Ok (λo=>∃gL,o=(.val [.i m.next],gL)/\iJ gL i ib ia (gx m s)/\Fx [i,ib] st gL) (run Bd (n+1) 194 [.ptr (some (i,0)),.str s] st):=by
 rw[Ze,h.aga];unfold Ra mF Zm Q_ Li;simp only[fw,bZ,ao,bh];rw[Zn hm.cell rfl,bg,Zn hm.cell rfl,bg,fq,sa hm.cell (by show 1<3;omega)];have hw:aq ((m.next:Int)+1)=((m.next+1:Nat):Int):=Zb;have cL:aq (64*(m.next:Int))=((64*m.next:Nat):Int):=by rw[Zb];omega
 have gB:aq (((64*m.next:Nat):Int)+64)=((64*m.next+64:Nat):Int):=Zb;rw[hw,cL,gB];have⟨h1,h2,h3⟩:=hm.lt;have dy:([.slice 1 (some (ib,0)) m.B.length,.i m.next,.slice 1 (some (ia,0)) m.At.length]:ah).set 1 (.i ((m.next+1:Nat):Int))=[.slice 1 (some (ib,0)) m.B.length,.i ((m.next+1:Nat):Int),.slice 1 (some (ia,0)) m.At.length]:=rfl;rw[dy];have⟨s1,fW⟩: ∃s1,st.set i (some (⟨false,[.slice 1 (some (ib,0)) m.B.length,.i ((m.next+1:Nat):Int),.slice 1 (some (ia,0)) m.At.length]⟩:bQ))=s1:=⟨_,rfl⟩;have fS:iJ s1 i ib ia ⟨m.B,m.next+1,m.At⟩:=by
  rw[<-fW];have d1:=hm.d1;have d2:=hm.d2;exact⟨ke h1,by rw[ig d1];exact hm.bb,by rw[ig d2];exact hm.aa,d1,d2,hm.d3⟩
 have CP:Fx [i,ib] st s1:=by rw[<-fW];exact(Fx.set st i _).mono λy hy=>by rw[cH.1 hy];simp
 rw[fW,Zn fS.cell rfl,kP,Za];by_cases hb:64*m.next+64<=m.B.length
 .rw[aQ (AC:(m.B.length:Int)>=((64*m.next+64:Nat):Int)),ae,Zn fS.cell rfl]
  simp only[kP];rw[Zc (by rw[aS,bq,bq];omega),bn,cR];show Ok _ (dE ib (64*m.next+0) _ _ s1);rw[fE,qi,NN fS.bb (by rw[Zw,Zw,cB];grind)];have ja:=Zvv (B:=m.B) (k:=64*m.next) s;show Ok _ ((aF [] (aw [DV.int .i64 m.next])) (s1.set ib (some ⟨false,cG (bT m.B) (64*m.next) (bT (s.take (m.B.length-64*m.next)))⟩)));rw[ja,ao,Zd];have hl:=NZ (B:=m.B) (k:=64*m.next) s;refine .mk ⟨_,rfl,?_,CP.trans ((Fx.set s1 ib _).mono λy hy=>by rw[cH.1 hy];simp)⟩;unfold gx;rw[aR hb];have d1:=hm.d1;have d3:=hm.d3;refine⟨?_,?_,?_,d1,hm.d2,d3⟩
  .rw[ig (Ne.symm d1),hl];exact fS.cell
  .grind
  .rw[ig d3];exact fS.aa
 .rw[bP (AC:¬(m.B.length:Int)>=((64*m.next+64:Nat):Int)),af]
  simp only[ao,Zd];refine .mk ⟨s1,rfl,?_,CP⟩;grind[gx]
def nZ (es:List aP) (r:ak×cd):Nat×cd:=match es with
 |[]=>(0,r.2)
 |e::_=>(r.2.next, { gx r.2 (oU ⟨e,r.1⟩)with At:=r.2.At.set e.slot.toNat (r.2.next:Int) })
def cM:Nat->List aP->cd->ak×cd
 |0,_,m=>([],m)
 |j+1,es,m=>(λr:ak×cd=>(λf:Nat×cd=>(r.1++[(f.1:Int)],f.2)) (nZ ((es.drop (2^j)).take (2^j)) (cM j ((es.drop (2^j)).take (2^j)) r.2))) (cM j es m)
def gM (j:Nat) (es:List aP) (m:cd):Nat×cd:=nZ es (cM j es m)
theorem ZrR (es:List aP) (r:ak×cd):(nZ es r).2.B.length=r.2.B.length/\(nZ es r).2.At.length=r.2.At.length/\(nZ es r).2.next<=r.2.next+1/\r.2.next<=(nZ es r).2.next:=by
 unfold nZ;cases es with
 |nil=>simp
 |cons e r'=>exact⟨uT _ _,Do,aJ _,Nat.le_succ _⟩
theorem xl: ∀(j:Nat) (es:List aP) (m:cd),(cM j es m).2.B.length=m.B.length/\(cM j es m).2.At.length=m.At.length/\(cM j es m).2.next+1<=m.next+2^j/\m.next<=(cM j es m).2.next/\(cM j es m).1.length=j
 |0,_,m=>⟨rfl,rfl,by simp[cM],aJ _,rfl⟩
 |j+1,es,m=>by
  have⟨a1,a2,a3,a4,a5⟩:=xl j es m;have⟨b1,b2,b3,b4,_⟩:=xl j ((es.drop (2^j)).take (2^j)) (cM j es m).2;have⟨c1,c2,c3,c4⟩:=ZrR ((es.drop (2^j)).take (2^j)) (cM j ((es.drop (2^j)).take (2^j)) (cM j es m).2);have e:2^(j+1)=2*2^j:=by rw[tn];omega
  refine⟨c1.trans (b1.trans a1),c2.trans (b2.trans a2),?_,?_,?_⟩
  .show(nZ _ _).2.next+1<=_
   omega
  .show m.next<=(nZ _ _).2.next
   omega
  .show((cM j es m).1++[_]).length=j+1
   rw[ba,a5];rfl
theorem M1 (j:Nat) (es:List aP) (m:cd):(gM j es m).2.B.length=m.B.length/\(gM j es m).2.At.length=m.At.length/\(gM j es m).2.next<=m.next+2^j/\m.next<=(gM j es m).2.next:=by
 have⟨a1,a2,a3,a4,_⟩:=xl j es m;have⟨c1,c2,c3,c4⟩:=ZrR es (cM j es m);grind[gM]
theorem Zno (l:List aP): ∀(k:Nat),(bW l).drop (k*4)=bW (l.drop k):=by
 induction l with
 |nil=>intro k;simp[bW]
 |cons e l ih=>
  intro k;cases k with
  |zero=>rfl
  |succ k=>
   have e2:bW (e::l)=fJ e++bW l:=rfl;rw[e2,show(k+1)*4=(fJ e).length+k*4 by show _=4+_;omega,<-kd,uD,ih k];rfl
theorem ZnH (l:List aP) (k:Nat):(bW l).take (k*4)=bW (l.take k):=by
 induction l generalizing k with
 |nil=>simp[bW]
 |cons e l ih=>
  cases k with
  |zero=>rfl
  |succ k=>
   have e2:bW (e::l)=fJ e++bW l:=rfl;rw[e2,show(k+1)*4=(fJ e).length+k*4 by show _=4+_;omega,List.take_length_add_append,ih k];rfl
theorem Fz.afJ {es:List aP} (h:Fz s p (bW es)) (k n:Nat) (hk:k+n<=es.length) (hn:0<n):Fz s (cY true p (k*4)) (bW ((es.drop k).take n)):=by
 obtain⟨i,o,rfl⟩:=h.1.cS (by rw[Zt];omega);refine⟨?_,λb o' e=>?_⟩
 .have h1:=h.1.cY (k:=k*4) (by rw[Zt];omega)
  rw[Zno]at h1;have h2:=h1.mu (n*4);rw[ZnH]at h2;exact h2
 .have e':some (i,k*4+o)=some (b,o'):=e
  cases e';exact h.2 i o rfl
theorem Zr6 {Bd:Zg} (h:HA Bd): ∀(j n:Nat) {i ib ia:Nat} {m:cd} (es:List aP) (p:ai) (st:St),iJ st i ib ia m->Fz st p (bW es)->es.length=2^j->(∀e∈es,0<=e.slot/\e.slot<(m.At.length:Int))->j<20->m.next+2^j<=900000->m.B.length<1000000->m.At.length<100000->3000+j<=n->
  Ok (λo=>∃gL,o=(.val [.i (gM j es m).1],gL)/\iJ gL i ib ia (gM j es m).2/\Fx [i,ib,ia] st gL) (run Bd n 217 [.ptr (some (i,0)),.slice 4 p es.length] st):=by
 intro j;induction j using Nat.strongRecOn with
 |_ j ih=>
 intro n i ib ia m es p st hm hs hl dR hj Hw hB G4 hn;obtain _|n:=n;omega;rw[Ze,h.agu];unfold Ri xo Gb jM cK Zm N_ F0 nh yy xc Li Ge F5
 try dsimp only
 have xN:0<es.length:=by rw[hl];exact Ab j
 obtain⟨bi,bo,rfl⟩:=hs.1.cS (by rw[Zt];omega);have⟨e0,er,Pe⟩: ∃e0 er,es=e0::er:=by
  cases es with
  |nil=>cases xN
  |cons a b=>exact⟨a,b,rfl⟩
 have he0:es[0]? =some e0:=by rw[Pe];rfl
 rw[fw,aZ,ao,bh,Zc (show aO 0 es.length=true from Zi (i:=0) xN)];have rB: ∀(s:St),Fz s (some (bi,bo)) (bW es)->∀K:ah->M ah,bV bi (0+bo) 4 K s=K (fJ e0) s:=λs hs K=>by
  have:=V5 hs.1 he0 K;rwa [rU]at this
 rw[rB st hs];unfold fJ;simp only[au,ao];refine Ok.join λax zj=>?_
 have⟨T,hT⟩: ∃T,gM j es m=T:=⟨_,rfl⟩;rw[hT];have⟨l1,l2,l3⟩:=hm.lt;refine Zj _ (λq y t=>∃(a z:Nat) (k:ai),y=[.agg [.i e0.slot,.i e0.gen,.i e0.key,.i e0.value,.slice z k (cM a es m).1.length],.i ((2^a:Nat):Int)]/\(z=1\/k=none)/\a<=j/\j-a<=q/\iJ t i ib ia (cM a es m).2/\Fx [i,ib,ia] st t/\bc [] t k (ints (cM a es m).1)/\∀b∈aM k,st.length<=b) ?_ j n _ _ ⟨0,0,none,rfl,.inr rfl,cN _,AC,hm,.refl _ _,bc.nil ⟨st,rfl⟩,λ_ h=>by cases h⟩ AC;rintro q _ t ⟨a,z,k,rfl,hz,ha,hq,kA,cP,fG,AW⟩ rec aN;rw[cX];simp only[au,Zh 1 z k _ hz,ao];have cq:=hs.kp (hm.kp cP);have⟨g1,g2,g3,g4,g5⟩:=xl a es m;by_cases av:a<j
 .have h2b:2^(a+1)<=2^j:=pB EQ av
  have bd:0<2^a:=Ab a;have hw:aq (2*((2^a:Nat):Int))=((2^(a+1):Nat):Int):=by rw[Zb];omega
  rw[aR];simp only[hw,bn];rw[Zc (by rw[aS,bq,bq];omega),Zc (by rw[aS,bq,bq];omega)];have vw:=cq.afJ (2^a) (2^a) AC bd;have adQ:((es.drop (2^a)).take (2^a)).length=2^a:=by rw[cB,dY];omega
  have EG:2^(a+1)-2^a=((es.drop (2^a)).take (2^a)).length:=by rw[adQ];omega
  rw[EG];refine Ok.XD (ih a av n ((es.drop (2^a)).take (2^a)) _ t kA vw adQ (λe he=>by rw[g2];exact dR e (Me (Mf he))) AC AC (by rw[g1];exact hB) (by rw[g2];exact G4) AC) ?_;rintro _ ⟨t1,rfl,fS,ny⟩;refine⟨_,t1,rfl,?_⟩;rw[au,ao];have zn: ∀b∈aM k,b∉[i,ib,ia]:=λb hb mn=>by
   have:=AW b hb;simp only[ep,tk,pD]at mn;omega
  have PC:=fG.fx ny zn;have⟨b,t2,r1,r2,r3,r4⟩:=Av (Y:=ah) (lim:=8796093022208) PC (sz:=1) (n:=(cM a es m).1.length) [.i ((gM a ((es.drop (2^a)).take (2^a)) (cM a es m).2).1:Int)] AC (by simp[ints]) rfl;refine Eq.mpr (congrArg (Ok _) (r4 _)) ?_;have eG:=fS.fx r3 λy hy=>by
   have:=AW y hy;omega
  have gu:Fx [i,ib,ia] st t2:=(cP.trans ny).step r3 λy hy=> .inr (AW y hy)
  refine aN (j-(a+1)) _ _ AC ⟨a+1,1,some (b,0),?_,.inl rfl,AC,aJ _,eG,gu,?_,λy hy=>?_⟩
  .have⟨_,_,_,_,g6⟩:=xl (a+1) es m
   rw[g5,g6]
  .show bc [] t2 (some (b,0)) (ints ((cM a es m).1++[_]))
   unfold ints;rw[eV];exact r2
  .rw[cH.1 hy]
   have:=(cP.trans ny).1;omega
 .have haj:a=j:=AC
  subst haj;rw[aU,zj];show Ok _ (bp [.agg [.i e0.slot,.i e0.gen,.i e0.key,.i e0.value,.slice 1 k (cM a es m).1.length]] _ t);rw[cX];simp only[au,aZ,ao];refine Ok.cv (Zmc n ⟨e0,(cM a es m).1⟩ 1 k t (.inl rfl) fG.sl Fd) λt1 aH=>?_
  rw[bZ,ao];obtain _|n:=n;omega;refine Ok.call (Ec n (oU ⟨e0,(cM a es m).1⟩) t1 (kA.pre aH) AC (by rw[g1];exact hB)) ?_;rintro _ ⟨t2,rfl,eG,gu⟩;refine⟨_,t2,rfl,?_⟩;simp only[au,ao,bh];have fR:Fx [i,ib,ia] st t2:=(cP.trans (Fx.pre _ aH)).trans (gu.mono λy hy=>by simp only[ep,tk,pD]at hy⊢;omega);have K0:=hs.kp (hm.kp fR);rw[Zn eG.cell rfl,kP,Zc (show aO 0 es.length=true from Zi (i:=0) xN)];have YJ:(bW es)[0]? =some (.i e0.slot):=by rw[Pe];rfl
  rw[K0.1.get YJ,bg];have KV:=dR e0 (by rw[Pe];simp);have⟨ks,zm⟩: ∃ks:Nat,e0.slot=ks:=⟨e0.slot.toNat,AC⟩;have iX:(gx (cM a es m).2 (oU ⟨e0,(cM a es m).1⟩)).At=(cM a es m).2.At:=rfl;rw[bh,zm,Zc (show aO (ks:Int) _=true from Zi (by rw[iX,g2];omega)),bn,cR,fE,sa eG.aa (by rw[ints,mC,iX,g2];omega),Zd];have hTe:T=(((cM a es m).2.next, { gx (cM a es m).2 (oU ⟨e0,(cM a es m).1⟩)with At:=(cM a es m).2.At.set ks ((cM a es m).2.next:Int) }):Nat×cd):=by
   rw[<-hT];unfold gM nZ;rw[Pe];simp only;rw[zm,bn]
  rw[hTe];have dy:(ints (gx (cM a es m).2 (oU ⟨e0,(cM a es m).1⟩)).At).set ks (.i ((cM a es m).2.next:Int))=ints ((cM a es m).2.At.set ks ((cM a es m).2.next:Int)):=by
   rw[iX];unfold ints;rw[List.map_set]
  rw[dy];have⟨m1,m2,m3⟩:=eG.lt;have d2:=eG.d2;have d3:=eG.d3;refine .mk ⟨_,rfl,⟨?_,?_,?_,eG.d1,d2,d3⟩,fR.trans ((Fx.set t2 ia _).mono λy hy=>by rw[cH.1 hy];simp)⟩
  .rw[ig (Ne.symm d2),lz]
   exact eG.cell
  .rw[ig (Ne.symm d3)]
   exact eG.bb
  .exact ke m3
def xb (s:St):ah->List dw->Prop
 |ds,[]=>ds=[]
 |ds,x::r=>∃z p t,(z=4\/p=none)/\ds=mS x z p++t/\Fz s p (bW x.bz)/\xb s t r
theorem xb.kp {s s':St} (k:Kp s s'): ∀ {ds:ah} {xs:List dw},xb s ds xs->xb s' ds xs
 |_,[],h=>h
 |_,_::_,⟨z,p,t,hz,h1,h2,h3⟩=>⟨z,p,t,hz,h1,h2.kp k,h3.kp k⟩
theorem xb.aD {s:St} : ∀ {ds:ah} {xs:List dw},xb s ds xs->kQ s ds xs
 |_,[],h=>h
 |_,_::_,⟨z,p,t,hz,h1,h2,h3⟩=>⟨z,p,t,hz,h1,h2.1,h3.aD⟩
theorem xb.get {s:St} : ∀ {ds:ah} {xs:List dw},xb s ds xs->∀ {j:Nat} {x:dw},xs[j]? =some x->∃z p,(z=4\/p=none)/\ds[j*2]? =some (.str x.name)/\ds[j*2+1]? =some (.slice z p x.bz.length)/\Fz s p (bW x.bz)
 |_,[],_,j,x,e=>by simp at e
 |ds,y::r,⟨zq,q,t,Le,h1,h2,h3⟩,0,x,e=>by
  simp only[ly,gf]at e;subst e;subst h1;exact⟨zq,q,Le,rfl,rfl,h2⟩
 |ds,y::r,⟨zq,q,t,Le,h1,h2,h3⟩,j+1,x,e=>by
  have⟨z,p,hz,g2,g3,g4⟩:=h3.get (j:=j) (x:=x) (by simpa using e);refine⟨z,p,hz,?_,?_,g4⟩
  .rw[h1,kO (by rw[yw];omega),yw,show(j+1)*2-2=j*2 by omega]
   exact g2
  .rw[h1,kO (by rw[yw];omega),yw,show(j+1)*2+1-2=j*2+1 by omega]
   exact g3
structure BN (s:St) (x:dW) (p1 p2 p3:Option (Nat×Nat)):Prop where
 hp: ∃ds,Fz s p1 ds/\xb s ds x.aD
 gn:Fz s p2 (ints x.gens)
 fr:Fz s p3 (ints x.free)
theorem BN.kp {s s':St} {x:dW} {p1 p2 p3:ai} (h:BN s x p1 p2 p3) (k:Kp s s'):BN s' x p1 p2 p3:=
 let ⟨ds,h1,h2⟩:=h.hp
 ⟨⟨ds,h1.kp k,h2.kp k⟩,h.gn.kp k,h.fr.kp k⟩
theorem BN.str {x:dW} (h:BN s x p1 p2 p3):qh s x p1 p2 p3:=
 let ⟨ds,h1,h2⟩:=h.hp
 ⟨⟨ds,h1.1,h2.aD⟩,h.gn.1,h.fr.1⟩
def eR (cnt:Nat):Nat->Nat->ak->List aP->cd->ak×cd
 |0,_,hs,_,m=>(hs,m)
 |c+1,k,hs,rest,m=>bif eN cnt k then(λt:Nat×cd=>eR cnt c (k+1) (hs.set k (t.1:Int)) (rest.drop (2^k)) t.2) (gM k (rest.take (2^k)) m)else eR cnt c (k+1) hs rest m
def roots (es:List aP) (m:cd):ak×cd:=eR es.length 12 0 (List.replicate 12 0) es m
def gz:List dw->ak->cd->ak×cd
 |[],eM,m=>(eM,m)
 |x::r,eM,m=>(λt:ak×cd=>gz r (eM++[(t.2.next:Int)]) (gx t.2 (pZ ⟨x.name,x.bz.length,t.1⟩))) (roots x.bz m)
def ri (l:List dw) (m:cd):Nat×cd:=(λt:ak×cd=>match sf t.1 with
 |none=>(0,t.2)
 |some s=>(t.2.next,gx t.2 s)) (gz l [] m)
theorem mod_pow_succ (a k:Nat):a%2^(k+1)=a%2^k+(if a/2^k%2=1 then 2^k else 0):=by
 rw[tn,Nat.mod_mul];grind
theorem Zy9 {a:Nat} (h:eN a k=true):a%2^k+2^k<=a:=by
 have h1:a/2^k%2=1:=ng h;have h2:a%2^(k+1)<=a:=Nat.mod_le _ _;rw[mod_pow_succ,bx h1]at h2;exact h2
theorem MR (cnt:Nat): ∀(c k:Nat) (hs:ak) (rest:List aP) (m:cd),(eR cnt c k hs rest m).2.B.length=m.B.length/\(eR cnt c k hs rest m).2.At.length=m.At.length/\(eR cnt c k hs rest m).2.next+cnt%2^k<=m.next+cnt%2^(k+c)/\m.next<=(eR cnt c k hs rest m).2.next/\(eR cnt c k hs rest m).1.length=hs.length
 |0,k,hs,rest,m=>⟨rfl,rfl,aJ _,aJ _,rfl⟩
 |c+1,k,hs,rest,m=>by
  unfold eR;have e:=mod_pow_succ cnt k;have e2:k+(c+1)=k+1+c:=AC
  rw[e2];cases hb:eN cnt k
  .rw[af];have⟨b1,b2,b3,b4,b5⟩:=MR cnt c (k+1) hs rest m;rw[aY (DD hb)]at e;omega
  .rw[ae];have⟨a1,a2,a3,a4⟩:=M1 k (rest.take (2^k)) m;have⟨b1,b2,b3,b4,b5⟩:=MR cnt c (k+1) (hs.set k ((gM k (rest.take (2^k)) m).1:Int)) (rest.drop (2^k)) (gM k (rest.take (2^k)) m).2;rw[bx (ng hb)]at e;grind
theorem IK (es:List aP) (m:cd):(roots es m).2.B.length=m.B.length/\(roots es m).2.At.length=m.At.length/\(roots es m).2.next<=m.next+es.length/\m.next<=(roots es m).2.next/\(roots es m).1.length=12:=by
 have⟨b1,b2,b3,b4,b5⟩:=MR es.length 12 0 (List.replicate 12 0) es m;rw[pw]at b5;grind[roots]
def mg (l:List dw):Nat:=(l.map λx=>x.bz.length).sum
theorem FY: ∀(l:List dw) (eM:ak) (m:cd),(gz l eM m).2.B.length=m.B.length/\(gz l eM m).2.At.length=m.At.length/\(gz l eM m).2.next<=m.next+mg l+l.length/\m.next<=(gz l eM m).2.next/\(gz l eM m).1.length=eM.length+l.length
 |[],eM,m=>⟨rfl,rfl,aJ _,aJ _,rfl⟩
 |x::r,eM,m=>by
  have⟨a1,a2,a3,a4,a5⟩:=IK x.bz m;have⟨b1,b2,b3,b4,b5⟩:=FY r (eM++[((roots x.bz m).2.next:Int)]) (gx (roots x.bz m).2 (pZ ⟨x.name,x.bz.length,(roots x.bz m).1⟩));have hn:(gx (roots x.bz m).2 (pZ ⟨x.name,x.bz.length,(roots x.bz m).1⟩)).next=(roots x.bz m).2.next+1:=rfl;rw[hn]at b3 b4;have e:mg (x::r)=x.bz.length+mg r:=FS
  unfold gz;refine⟨b1.trans ((uT _ _).trans a1),b2.trans a2,?_,?_,?_⟩
  .rw[e,cQ];simp only;omega
  .simp only;omega
  grind
theorem Zxn (l:List dw) (m:cd):(ri l m).2.B.length=m.B.length/\(ri l m).2.At.length=m.At.length/\(ri l m).2.next<=m.next+mg l+l.length+1/\m.next<=(ri l m).2.next:=by
 have⟨a1,a2,a3,a4,a5⟩:=FY l [] m;unfold ri;simp only;cases sf (gz l [] m).1 with
 |none=>grind
 |some s=>exact⟨(uT _ _).trans a1,a2,by show _+1<=_;omega,by show _<=_+1;omega⟩
theorem ZyN (a k:Nat) (hk:k<64):(((a:Int).fdiv (2^(min k 64))).tmod 2==1)=eN a k:=by
 rw[pA AC,show((2:Int)^k)=((2^k:Nat):Int) by push_cast;rfl,Ea];have e:((a/2^k:Nat):Int).tmod 2=((a/2^k%2:Nat):Int):=rfl;rw[e];grind[eN]
theorem ZzK {Bd:Zg} (hT:HA Bd) {Kn:ah->M ah} (n:Nat) (nm:aj) (es:List aP) (p:ai) (z0:Nat) (xS:z0=4\/p=none) (st:St) (hm:iJ st i ib ia m) (hs:Fz st p (bW es)) (dR: ∀e∈es,0<=e.slot/\e.slot<(m.At.length:Int)) (Hw:m.next+es.length<=800000) (hB:m.B.length<1000000) (G4:m.At.length<100000) (hle:es.length<100000) (hn:3020<=n)
  (aL: ∀t,iJ t i ib ia (roots es m).2->Fx [i,ib,ia] st t->Ok Q (Kn [.agg (.str nm:: .i (es.length:Int)::ints (roots es m).1)] t)):
  Ok Q (dc (λdP st=>
    bp st λcE st=>
    ft cE λq2 r3=>
    aC .i64 r3 λq3 r4=>
    bC r4 12<|
    ca 4 st λrest Bs st=>
    aC .i64 st λk st=>
    aF st<|
    bif decide (k<12)then
     aA (decide (0<=k))<|
     cO (λst=>
      bp st λfQ st=>
      ft fQ λq4 r5=>
      aC .i64 r5 λq5 r6=>
      bC r6 12<|
      ca 4 st λabn abo st=>
      aF st<|
      dP [.agg ((.str q4)::(.i q5)::r6),.slice 4 abn abo,.i (aq (k+1))]) λbG=>
     bif ((q3.fdiv (2^(min k.toNat 64))).tmod 2)==1 then
      aA (decide (0<=k))<|
      aA (decide (0<=aq (1*2^(min k.toNat 64)))&&decide (aq (1*2^(min k.toNat 64))<=(Bs:Int)))<|
      c9 (run Bd n 217 [.ptr (some (i,0)),.slice 4 rest ((aq (1*2^(min k.toNat 64))).toNat)]) λds=>
      aC .i64 ds λx8 ds=>
      aF ds<|
      aA (aO k 12)<|
      aA (Nat.ble (k.toNat*1+2+1) 14)<|
      aA (decide (0<=k))<|
      aA (decide (0<=aq (1*2^(min k.toNat 64)))&&decide (aq (1*2^(min k.toNat 64))<=(Bs:Int)))<|
      bG [.agg ((.str q2)::(.i q3)::(cG r4 (k.toNat*1) [.i x8])),.slice 4 (cY true rest (((aq (1*2^(min k.toNat 64))).toNat)*4)) (Bs-((aq (1*2^(min k.toNat 64))).toNat))]
     else
      bG [.agg ((.str q2)::(.i q3)::r4),.slice 4 rest Bs]
    else
     Kn [.agg ((.str q2)::(.i q3)::r4)]) n [.agg (.str nm:: .i (es.length:Int)::ints (List.replicate 12 0)),.slice z0 p es.length,.i 0] st):=by
 have⟨G,hG⟩: ∃G,roots es m=G:=⟨_,rfl⟩;rw[hG]at aL;unfold roots at hG;refine Zj _ (λq y t=>∃(k z:Nat) (p':ai) (jt:ak) (m':cd),y=[.agg (.str nm:: .i (es.length:Int)::ints jt),.slice z p' (es.length-es.length%2^k),.i (k:Int)]/\(z=4\/p'=none)/\k<=12/\12-k<=q/\jt.length=12/\iJ t i ib ia m'/\Fx [i,ib,ia] st t/\Fz t p' (bW (es.drop (es.length%2^k)))/\m'.next<=m.next+es.length%2^k/\m'.B.length=m.B.length/\m'.At.length=m.At.length/\eR es.length (12-k) k jt (es.drop (es.length%2^k)) m'=G) ?_ 12 n _ _ ⟨0,z0,p,List.replicate 12 0,m,by rw[Nat.pow_zero,Nat.mod_one,w9];rfl,xS,cN _,AC,pw,hm,.refl _ _,by rw[Nat.pow_zero,Nat.mod_one,dF];exact hs,AC,rfl,rfl,by rw[Nat.pow_zero,Nat.mod_one,dF];exact hG⟩ AC;rintro q _ t ⟨k,z,p',jt,m',rfl,hzp,hk,hq,EE,kA,cP,cJ,Hx,vi,CD,eC⟩ rec aN;have iz:(ints jt).length=12:=by simp[ints,EE]
 rw[cX,bZ,au,bN iz,Zh 4 z p' _ hzp,au,ao];by_cases av:k<12
 .have hw:aq ((k:Int)+1)=((k+1:Nat):Int):=Zb
  have h2k:2^k<=2^11:=pB EQ AC;have KY:aq (1*2^(min k 64))=((2^k:Nat):Int):=by
   rw[pA AC,Int.one_mul,show((2:Int)^k)=((2^k:Nat):Int) by push_cast;rfl];exact Zb
  rw[aR,Zc (aQ AC)];simp only[bn,KY,hw];rw[Za,ZyN _ _ AC];have XM:12-k=(12-(k+1))+1:=AC
  rw[XM]at eC;unfold eR at eC;have emod:=mod_pow_succ es.length k;cases hb:eN es.length k
  .rw[hb,af]at eC;rw[aY (DD hb),fE]at emod;rw[af];show Ok _ (bp [.agg (.str nm:: .i (es.length:Int)::ints jt),.slice 4 p' (es.length-es.length%2^k)] _ t);rw[cX,bZ,au,bN iz,aZ,ao];exact aN (12-(k+1)) _ _ AC ⟨k+1,4,p',jt,m',by rw[emod];rfl,.inl rfl,AC,aJ _,EE,kA,cP,by rw[emod];exact cJ,by rw[emod];exact Hx,vi,CD,by rw[emod];exact eC⟩
  .rw[hb,ae]at eC;have pP:=Zy9 hb;rw[bx (ng hb)]at emod;rw[ae,Zc (aQ AC),Zc (by rw[aS,bq,bq];omega)];have⟨A,hA⟩: ∃A,es.drop (es.length%2^k)=A:=⟨_,rfl⟩;have iX:A.length=es.length-es.length%2^k:=by rw[<-hA,dY]
   rw[hA]at cJ eC;have hAk:(A.take (2^k)).length=2^k:=by rw[cB];omega
   have vw:Fz t p' (bW (A.take (2^k))):=⟨by
    have:=cJ.1.mu (2^k*4);rwa [ZnH]at this,cJ.2⟩
   have vm:(DV.slice 4 p' (2^k))= .slice 4 p' (A.take (2^k)).length:=by rw[hAk]
   rw[vm];refine Ok.call (Zr6 hT k n (A.take (2^k)) p' t kA vw hAk (λe he=>by rw[CD];grind) AC AC (by rw[vi];exact hB) (by rw[CD];exact G4) AC) ?_;rintro _ ⟨t1,rfl,fS,ny⟩;refine⟨_,t1,rfl,?_⟩;rw[au,ao,Zc (show aO (k:Int) 12=true from Zi av),Z9 AC,Zc (aQ AC),Zc (by rw[aS,bq,bq];omega)];have⟨k1,k2,k3,k4⟩:=M1 k (A.take (2^k)) m';have dy:cG (ints jt) (k*1) [.i ((gM k (A.take (2^k)) m').1:Int)]=ints (jt.set k ((gM k (A.take (2^k)) m').1:Int)):=by
    rw[cR,B6 _ _ _ AC];unfold ints;rw[List.map_set]
   rw[dy];have Hy:(ints (jt.set k ((gM k (A.take (2^k)) m').1:Int))).length=12:=by simp[ints,EE]
   show Ok _ (bp [.agg (.str nm:: .i (es.length:Int)::ints (jt.set k ((gM k (A.take (2^k)) m').1:Int))),.slice 4 (cY true p' (2^k*4)) (es.length-es.length%2^k-2^k)] _ t1);rw[cX,bZ,au,bN Hy,aZ,ao];have KZ:=cJ.kp (kA.kp ny);have gr:es.drop (es.length%2^(k+1))=A.drop (2^k):=by rw[<-hA,kd,emod]
   have hlen:es.length-es.length%2^(k+1)=es.length-es.length%2^k-2^k:=AC
   refine aN (12-(k+1)) _ _ AC ⟨k+1,4,cY true p' (2^k*4),_,_,by rw[hlen],.inl rfl,AC,aJ _,by rw[lz,EE],fS,cP.trans ny,?_,AC,k1.trans vi,k2.trans CD,by rw[gr];exact eC⟩;rw[gr];refine⟨?_,?_⟩
   .have:=KZ.1.cY (k:=2^k*4) (by rw[Zt];omega)
    rwa [Zno]at this
   .obtain⟨bi,bo,rfl⟩:=KZ.1.cS (by rw[Zt];omega)
    intro b o' e;have e':some (bi,2^k*4+bo)=some (b,o'):=e;cases e';exact KZ.2 bi bo rfl
 .have:k=12:=AC
  subst this;rw[aU];have hG2:(jt,m')=G:=eC;rw[<-hG2]at aL;exact aL t kA cP
theorem fh (cs r:ah) (K:ah->ah->M Y):bp (.agg cs::r) K=K cs r:=rfl
theorem Zs4 (n:Nat) (l:List dw) (p:ai) (z:Nat) (ds:ah) (st:St) (hz:z=2\/p=none) (hm:iJ st i ib ia m) (hs:Fz st p ds) (hh:xb st ds l) (dR: ∀x∈l,∀e∈x.bz,0<=e.slot/\e.slot<(m.At.length:Int)) (C0: ∀x∈l,x.name.length+600<=n/\x.name.length<60000/\x.bz.length<100000) (Hw:m.next+mg l+l.length<=700000) (hl:l.length<1000) (hB:m.B.length<1000000) (G4:m.At.length<100000) (hn:4000<=n):
  Ok (λo=>∃gL,o=(.val [.i (ri l m).1],gL)/\iJ gL i ib ia (ri l m).2/\Fx [i,ib,ia] st gL) (run Bd n 189 [.ptr (some (i,0)),.slice z p l.length] st):=by
 obtain⟨n,rfl⟩: ∃k,n=k+2:=⟨n-2,AC⟩;rw[Ze,h.af5];unfold Rb gj vL cK l9 Aj N_ jM cT bj Li xc fj FV jy
 try dsimp only
 rw[fw,Zh 2 z p _ hz,ao];have⟨T,hT⟩: ∃T,ri l m=T:=⟨_,rfl⟩;rw[hT];unfold ri at hT;have⟨l1,l2,l3⟩:=hm.lt;refine Ok.join λax zj=>?_
 refine Zj _ (λq y t=>∃(k zk:Nat) (a:ai) (eM:ak) (m':cd),y=[.slice zk a eM.length,.i (k:Int)]/\(zk=1\/a=none)/\k<=l.length/\l.length-k<=q/\iJ t i ib ia m'/\Fx [i,ib,ia] st t/\bc [] t a (ints eM)/\(∀b∈aM a,st.length<=b)/\eM.length=k/\m'.B.length=m.B.length/\m'.At.length=m.At.length/\m'.next+mg (l.drop k)+(l.length-k)<=m.next+mg l+l.length/\gz (l.drop k) eM m'=gz l [] m) ?_ l.length (n+1) _ _ ⟨0,0,none,[],m,rfl,.inr rfl,cN _,AC,hm,.refl _ _,bc.nil ⟨st,rfl⟩,(λ_ h=>by cases h),rfl,rfl,rfl,aJ _,rfl⟩ AC;rintro q _ t ⟨k,zk,a,eM,m',rfl,hzk,hk,hq,kA,cP,nB,rp,AV,vi,CD,Hx,aL⟩ rec aN;simp only[au,Zh 1 zk a _ hzk,ao];have sD:=hm.kp cP;have cq:=hs.kp sD;have hht:=hh.kp sD;by_cases av:k<l.length
 .have qD:=hht.aD.len
  obtain⟨bi,bo,rfl⟩:=cq.1.cS (by rw[qD];omega);have oi:l[k]? =some l[k]:=cc av;have gr:l.drop k=l[k]::l.drop (k+1):=iR av;have iL:l[k]∈l:=jj av;rw[gr]at aL Hx;generalize l[k]=x at oi aL Hx iL;have⟨zx,px,hzx,pS,rr,ny⟩:=hht.get oi;have tW:mg (x::l.drop (k+1))=x.bz.length+mg (l.drop (k+1)):=by unfold mg;rw[kf,List.sum_cons]
  rw[tW]at Hx;have rB: ∀K:DV->M ah,bH bi (k*2+bo+1) K t=K (.slice zx px x.bz.length) t:=λK=>by
   have:=cq.1.get rr K;rw[<-this];congr 1;omega
  rw[aR,Za,bh,Zc (Zi av),bn,cq.1.get pS,BI,bh,Zc (Zi av),rB,Z5 4 zx px _ hzx,bh,Zc (Zi av),rB,Z5 4 zx px _ hzx];refine Ok.join λaW zl=>?_
  have⟨n1,n2,n3⟩:=C0 x iL;refine ZzK h (n+1) x.name x.bz px 4 (.inl rfl) t kA ny Fd AC AC AC n3 AC (Kn:=aW) ?_;intro t1 fS gu;rw[zl];have⟨k1,k2,k3,k4,k5⟩:=IK x.bz m';have iz:(ints (roots x.bz m').1).length=12:=by simp[ints,k5]
  show Ok _ (bp [.agg (.str x.name:: .i (x.bz.length:Int)::ints (roots x.bz m').1)] _ t1);rw[cX,bZ,au,bN iz,ao];refine Ok.cv (Zmf (n+1) ⟨x.name,x.bz.length,(roots x.bz m').1⟩ k5 n2 t1 Fd) λt2 bd=>?_
  rw[bZ,ao];refine Ok.call (Ec n (pZ ⟨x.name,x.bz.length,(roots x.bz m').1⟩) t2 (fS.pre bd)) ?_;rintro _ ⟨t3,rfl,xL,fR⟩;refine⟨_,t3,rfl,?_⟩;rw[au,ao];have hw:aq ((k:Int)+1)=((k+1:Nat):Int):=Zb;rw[hw];have tZ:Fx [i,ib,ia] t t3:=(gu.trans (Fx.pre _ bd)).trans (fR.mono λy hy=>by simp only[ep,tk,pD]at hy⊢;omega);have zn: ∀b∈aM a,b∉[i,ib,ia]:=λb hb mn=>by
   have:=rp b hb;simp only[ep,tk,pD]at mn;omega
  have EL:=nB.fx tZ zn;have⟨b,t4,r1,r2,r3,r4⟩:=Av (Y:=ah) (lim:=8796093022208) EL (sz:=1) (n:=eM.length) [.i ((roots x.bz m').2.next:Int)] AC (by simp[ints]) rfl;refine Eq.mpr (congrArg (Ok _) (r4 _)) ?_;simp only[aZ,ao];have Pw:=xL.fx r3 λy hy=>by
   have:=rp y hy;omega
  refine aN (l.length-(k+1)) _ _ AC ⟨k+1,1,some (b,0),eM++[((roots x.bz m').2.next:Int)],_,?_,.inl rfl,AC,aJ _,Pw,(cP.trans tZ).step r3 λy hy=> .inr (rp y hy),?_,λy hy=>?_,?_,(uT _ _).trans (k1.trans vi),k2.trans CD,?_,aL⟩
  .rw[ba];rfl
  .unfold ints
   rw[eV];exact r2
  .rw[cH.1 hy]
   have:=(cP.trans tZ).1;omega
  .rw[ba,AV];rfl
  .show(roots x.bz m').2.next+1+_+_<=_
   omega
 .rw[aU,zj]
  rw[lx AC]at aL;have eC:gz l [] m=(eM,m'):=aL.symm;rw[eC]at hT;simp only at hT;have⟨d1,d2,d3,d4,d5⟩:=FY l [] m;rw[eC]at d3;simp only at d3;simp only[aZ,ao];refine Ok.cv (ZmN (n+1) eM 1 a t (.inl rfl) nB.sl) λt1 aH=>?_
  cases C3:sf eM
  .rw[C3]at hT;unfold zS;rw[bZ,ar,ao,bD,ae,Zd,<-hT];exact .mk ⟨t1,rfl,kA.pre aH,cP.trans (Fx.pre _ aH)⟩
  .rename_i s;rw[C3]at hT;unfold zS;rw[bZ,ar,ao,bI,af];refine Ok.call (Ec n s t1 (kA.pre aH)) ?_;rintro _ ⟨t2,rfl,eG,gu⟩;refine⟨_,t2,rfl,?_⟩;rw[au,ao,Zd,<-hT];exact .mk ⟨t2,rfl,eG,(cP.trans (Fx.pre _ aH)).trans (gu.mono λy hy=>Fd)⟩
theorem ZqY: ∀(l:List aX) (i:Nat) (x:aX),i<l.length->cG (bX l) (i*3) (eZ x)=bX (l.set i x)
 |[],i,x,h=>by cases h
 |y::l,0,x,h=>by
  rw[rU];exact tC [] (eZ y) (bX l) (eZ x) rfl
 |y::l,i+1,x,h=>by
  have e:=ZqY l i x (by simpa using h);rw[w8];show(.bool y.live:: .i y.gen:: .i y.block::cG (bX l) (i*3) (eZ x):ah)=_;rw[e];rfl
theorem Zpg: ∀(l:List aX) (i:Nat) (x:aX) (b:Bool),l[i]? =some x->cG (bX l) (i*3) [.bool b]=bX (l.set i { x with live:=b })
 |[],i,x,b,h=>by simp at h
 |y::l,0,x,b,h=>by
  simp only[ly,gf]at h;subst h;rw[rU];rfl
 |y::l,i+1,x,b,h=>by
  have e:=Zpg l i x b (by simpa using h);rw[w8];show(.bool y.live:: .i y.gen:: .i y.block::cG (bX l) (i*3) [.bool b]:ah)=_;rw[e];rfl
theorem UE: ∀(l:List aX) (i:Nat) (x:aX) (b:Int),l[i]? =some x->cG (bX l) (i*3+2) [.i b]=bX (l.set i { x with block:=b })
 |[],i,x,b,h=>by simp at h
 |y::l,0,x,b,h=>by
  simp only[ly,gf]at h;subst h;rw[rU];exact tC [.bool y.live,.i y.gen] [.i y.block] (bX l) [.i b] rfl
 |y::l,i+1,x,b,h=>by
  have e:=UE l i x b (by simpa using h);rw[w8,Nat.add_right_comm];show(.bool y.live:: .i y.gen:: .i y.block::cG (bX l) (i*3+2) [.i b]:ah)=_;rw[e];rfl
def nX (k:Int):ak->Int->Int
 |a::b::r,c=>nX k (b::r) (bif a==k then aq (b+1)else c)
 |_,c=>c
def gC (gens At free:ak) (k:Nat):aX:=⟨!(At.getD k 0==0),gens.getD k 0,nX (k:Int) free (At.getD k 0)⟩
theorem ZzU {Kn:ah->M ah} (n:Nat) (free:ak) (pf:ai) (K i:Nat) (l:List aX) (x:aX) (s:St) (hf:Sl s pf (ints free)) (hl:l.length=7) (hi:i<7) (hx:l[i]? =some x) (dZ:free.length<100000) (hn:free.length+1<n)
  (aL:Ok Q (Kn [.agg (bX (l.set i { x with block:=nX (K:Int) free x.block }))] s)):
  Ok Q (dc (λLG st=>
       bp st λqw st=>
      bC qw 21<|
      aC .i64 st λk1 st=>
      aF st<|
      bif decide (aq (k1+1)<(free.length:Int))then
       bK pf λi7 o4=>
      aA (aO k1 free.length)<|
      bH i7 (k1.toNat*1+o4) λd4=>
      db .i64 d4 λll=>
      cO (λst=>
       bp st λCt st=>
      bC Ct 21<|
      aF st<|
      LG [.agg Ct,.i (aq (k1+1))]) λoP=>
      bif ll==(K:Int)then
       bK pf λi8 o5=>
      aA (aO (aq (k1+1)) free.length)<|
      bH i8 (((aq (k1+1)).toNat)*1+o5) λd5=>
      db .i64 d5 λmA=>
      aA (aO (i:Int) 7)<|
      aA (Nat.ble (i*3+2+1) 21)<|
      oP [.agg (cG qw (i*3+2) [.i (aq (mA+1))])]
      else
       oP [.agg qw]
      else
       Kn [.agg qw]) n [.agg (bX l),.i 0] s):=by
 have aj3:l.set i { x with block:=x.block } =l:=by
  have Ho:i<l.length:=AC
  rw[cc Ho]at hx;cases hx;simp
 have⟨G,hG⟩: ∃G,nX (K:Int) free x.block=G:=⟨_,rfl⟩;rw[hG]at aL;refine Zj _ (λq y t=>∃(k:Nat) (c:Int),y=[.agg (bX (l.set i { x with block:=c })),.i (k:Int)]/\k<=free.length/\free.length-k<=q/\t=s/\nX (K:Int) (free.drop k) c=G) ?_ free.length n _ _ ⟨0,x.block,by rw[aj3];rfl,cN _,AC,rfl,hG⟩ AC;rintro q _ t ⟨k,c,rfl,hk,hq,rfl,eC⟩ rec aN;have cU:(bX (l.set i { x with block:=c })).length=21:=by rw[ZE,lz,hl]
 have hw:aq ((k:Int)+1)=((k+1:Nat):Int):=Zb;rw[cX,bN cU,au,ao,hw];by_cases av:k+1<free.length
 .have og:k<free.length:=AC
  have vo:free.drop k=free[k]::free.drop (k+1):=iR og;have jE:free.drop (k+1)=free[k+1]::free.drop (k+2):=iR av;rw[vo,jE]at eC;unfold nX at eC;rw[<-jE]at eC;obtain⟨bi,bo,rfl⟩:=hf.cS (by simp[ints];omega);have pS:(ints free)[k]? =some (.i free[k]):=ZJ og;have rr:(ints free)[k+1]? =some (.i free[k+1]):=ZJ av;rw[aR,bh,Zc (Zi og)];simp only[bn];rw[hf.dX pS,bg,Za];cases he:(free[k]==(K:Int))
  .rw[he,af]at eC;rw[af];show Ok _ (bp [.agg (bX (l.set i { x with block:=c }))] _ t);rw[cX,bN cU,ao];exact aN (free.length-(k+1)) _ _ AC Fd
  .rw[he,ae]at eC;rw[ae,bh,Zc (Zi av),hf.dX rr,bg,Zc (show aO (i:Int) 7=true from Zi hi),Z9 AC];have ja:cG (bX (l.set i { x with block:=c })) (i*3+2) [.i (aq (free[k+1]+1))]=bX (l.set i { x with block:=aq (free[k+1]+1) }):=by
    rw[UE _ i { x with block:=c } _ (by rw[ke AC]),List.set_set]
   rw[ja];have J5:(bX (l.set i { x with block:=aq (free[k+1]+1) })).length=21:=by rw[ZE,lz,hl]
   show Ok _ (bp [.agg (bX (l.set i { x with block:=aq (free[k+1]+1) }))] _ t);rw[cX,bN J5,ao];exact aN (free.length-(k+1)) _ _ AC Fd
 .rw[aU]
  have:nX (K:Int) (free.drop k) c=c:=by
   have j1:(free.drop k).length<=1:=by rw[dY];omega
   cases hdk:free.drop k with
   |nil=>unfold nX;rfl
   |cons a r=>
    rw[hdk]at j1;have:r=[]:=z8.1 (by rw[cQ]at j1;omega);subst this;unfold nX;rfl
  rw[this]at eC;rw[eC];exact aL
def pW (gens At free:ak) (f i:Nat):List aX:=(List.range 7).map λt=>bif decide (t<i)&&decide (f+t<gens.length)then gC gens At free (f+t)else gQ
def mY (gens At free:ak) (f:Nat):List aX:=pW gens At free f 7
theorem An (gens At free:ak) (f i:Nat):(pW gens At free f i).length=7:=by unfold pW;simp
theorem Vr (gens At free:ak) (f i t:Nat) (h:t<7):(pW gens At free f i)[t]? =some (bif decide (t<i)&&decide (f+t<gens.length)then gC gens At free (f+t)else gQ):=by
 grind[pW]
theorem ZvY (gens At free:ak) (f i:Nat) (hi:i<7) (hf:f+i<gens.length):pW gens At free f (i+1)=(pW gens At free f i).set i (gC gens At free (f+i)):=by
 refine th λt=>?_
 by_cases ht:t<7
 .rw[Vr _ _ _ _ _ _ ht]
  by_cases h:t=i
  .subst h
   rw[ke (by rw[An];exact ht),aQ (AC:t<t+1),aQ hf];rfl
  .rw[ig AC,Vr _ _ _ _ _ _ ht]
   grind
 .rw[Dx (by rw[An];omega),Dx (by rw[lz,An];omega)]
theorem ZwU (gens At free:ak) (f i:Nat) (h:gens.length<=f+i):pW gens At free f i=mY gens At free f:=by
 unfold mY pW;refine FB λt ht=>?_
 by_cases h2:f+t<gens.length
 .rw[aQ (AC:t<i),aQ (uG.1 ht)]
 grind
theorem ZwH (gens At free:ak) (f:Nat):pW gens At free f 0=oQ:=by
 rfl
theorem ZzC {Kn:ah->M ah} (n:Nat) (gens free:ak) (pg pf:ai) (f:Nat) (s:St) (hm:iJ s i ib ia m) (hg:Sl s pg (ints gens)) (ec:Sl s pf (ints free)) (kV:gens.length<100000) (dZ:free.length<100000) (G4:m.At.length=gens.length) (hf:f<100000) (hn:free.length+10<n) (uc:10<n)
  (aL:Ok Q (Kn [.agg (bX (mY gens m.At free f))] s)):
  Ok Q (dc (λDr st=>
    bp st λxA st=>
    bC xA 21<|
    aC .i64 st λi3 st=>
    aF st<|
    cO (λst=>gT st λb3 st=>aF st<|
     bif b3 then
      cO (λst=>
       bp st λJH st=>
      bC JH 21<|
      aF st<|
      Dr [.agg JH,.i (aq (i3+1))]) λkZ=>
      bK pg λi4 o1=>
      aA (aO (aq ((f:Int)+i3)) gens.length)<|
      bH i4 (((aq ((f:Int)+i3)).toNat)*1+o1) λd1=>
      db .i64 d1 λgX=>
      aA (aO i3 7)<|
      aA (Nat.ble (i3.toNat*3+3) 21)<|
      bK (some (i,0)) λi5 o2=>
      bH i5 (o2+2) λd2=>
      dB 1 d2 λjf zY=>
      bK jf λi6 o3=>
      aA (aO (aq ((f:Int)+i3)) zY)<|
      bH i6 (((aq ((f:Int)+i3)).toNat)*1+o3) λd3=>
      db .i64 d3 λkM=>
      cO (λst=>
       bp st λEl st=>
      bC El 21<|
      aF st<|
      cO (λst=>
       bp st λJG st=>
      bC JG 21<|
      aF st<|
      kZ [.agg JG]) λrI=>
      dc (λLG st=>
       bp st λqw st=>
      bC qw 21<|
      aC .i64 st λk1 st=>
      aF st<|
      bif decide (aq (k1+1)<(free.length:Int))then
       bK pf λi7 o4=>
      aA (aO k1 free.length)<|
      bH i7 (k1.toNat*1+o4) λd4=>
      db .i64 d4 λll=>
      cO (λst=>
       bp st λCt st=>
      bC Ct 21<|
      aF st<|
      LG [.agg Ct,.i (aq (k1+1))]) λoP=>
      bif ll==(aq ((f:Int)+i3))then
       bK pf λi8 o5=>
      aA (aO (aq (k1+1)) free.length)<|
      bH i8 (((aq (k1+1)).toNat)*1+o5) λd5=>
      db .i64 d5 λmA=>
      aA (aO i3 7)<|
      aA (Nat.ble (i3.toNat*3+2+1) 21)<|
      oP [.agg (cG qw (i3.toNat*3+2) [.i (aq (mA+1))])]
      else
       oP [.agg qw]
      else
       rI [.agg qw]) n [.agg El,.i 0]) λlO=>
      bif !(kM==0)then
       aA (aO i3 7)<|
      aA (Nat.ble (i3.toNat*3+1) 21)<|
      bK (some (i,0)) λi9 o6=>
      bH i9 (o6+2) λd6=>
      dB 1 d6 λqO abS=>
      bK qO λi10 o7=>
      aA (aO (aq ((f:Int)+i3)) abS)<|
      bH i10 (((aq ((f:Int)+i3)).toNat)*1+o7) λd7=>
      db .i64 d7 λuA=>
      aA (aO i3 7)<|
      aA (Nat.ble (i3.toNat*3+2+1) 21)<|
      lO [.agg (cG (cG (cG xA (i3.toNat*3) [.bool false,.i gX,.i 0]) (i3.toNat*3) [.bool true]) (i3.toNat*3+2) [.i uA])]
      else
       lO [.agg (cG xA (i3.toNat*3) [.bool false,.i gX,.i 0])]
     else
      Kn [.agg xA]) λjc=>
    bif decide (i3<7)then
     jc [.bool (decide (aq ((f:Int)+i3)<(gens.length:Int)))]
    else
     jc [.bool false]) n [.agg (bX oQ),.i 0] s):=by
 refine Zj _ (λq y t=>∃(a:Nat),y=[.agg (bX (pW gens m.At free f a)),.i (a:Int)]/\a<=7/\7-a<=q/\t=s) ?_ 7 n _ _ ⟨0,by rw[ZwH];rfl,cN _,AC,rfl⟩ AC;rintro q _ t ⟨a,rfl,ha,hq,rfl⟩ rec aN;have cU:(bX (pW gens m.At free f a)).length=21:=by rw[ZE,An]
 rw[cX,bN cU,au,ao];have hw:aq ((f:Int)+(a:Int))=((f+a:Nat):Int):=Zb;have cL:aq ((a:Int)+1)=((a+1:Nat):Int):=Zb;simp only[hw,cL,bn];refine Ok.join λjc Po=>?_
 have nE:pW gens m.At free f a=mY gens m.At free f->Ok Q (jc [.bool false] t):=λe=>by
  rw[Po];simp only[ar,ao];rw[af,e];exact aL
 by_cases h7:a<7
 .rw[aR]
  by_cases av:f+a<gens.length
  .rw[aQ (AC:((f+a:Nat):Int)<(gens.length:Int)),Po]
   simp only[ar,ao];rw[ae];refine Ok.join λkZ YU=>?_
   obtain⟨bi,bo,rfl⟩:=hg.cS (by simp[ints];omega);have vr:(ints gens)[f+a]? =some (.i gens[f+a]):=ZJ av;rw[bh,Zc (Zi av),hg.dX vr,bg,Zc (show aO (a:Int) 7=true from Zi h7),Z9 AC,bh,Zn hm.cell rfl,kP];have Pt:f+a<m.At.length:=AC
   have Y2: ∀K:DV->M ah,bH ia ((f+a)*1+0) K t=K (.i m.At[f+a]) t:=λK=>Zn hm.aa (by rw[cR,fE];exact ZJ Pt) K
   rw[bh,Zc (Zi Pt),Y2,bg];have⟨L,hL⟩: ∃L,pW gens m.At free f a=L:=⟨_,rfl⟩;have hLl:L.length=7:=by rw[<-hL];exact An _ _ _ _ _
   have hsB:gC gens m.At free (f+a)=⟨!(m.At[f+a]==0),gens[f+a],nX ((f+a:Nat):Int) free m.At[f+a]⟩:=by
    unfold gC;rw[cz,cc Pt,cz,cc av];rfl
   have sL:=ZvY gens m.At free f a h7 av;rw[hL,hsB]at sL;rw[hL]at cU⊢;generalize m.At[f+a]=at' at Y2 sL;generalize gens[f+a]=g at vr sL;refine Ok.join λlO ai0=>?_
   have hA:Ok Q (lO [.agg (bX (L.set a ⟨!(at'==0),g,at'⟩))] t):=by
    rw[ai0];have J5:(bX (L.set a ⟨!(at'==0),g,at'⟩)).length=21:=by rw[ZE,lz,hLl]
    show Ok _ (bp [.agg (bX (L.set a ⟨!(at'==0),g,at'⟩))] _ t);rw[cX,bN J5,ao];refine Ok.join λrI ai1=>?_
    refine ZzU n free pf (f+a) a (L.set a ⟨!(at'==0),g,at'⟩) ⟨!(at'==0),g,at'⟩ t ec (by rw[lz,hLl]) h7 (by rw[ke AC]) dZ AC (Kn:=rI) ?_;rw[List.set_set,<-sL,ai1];have acW:(bX (pW gens m.At free f (a+1))).length=21:=by rw[ZE,An]
    show Ok _ (bp [.agg (bX (pW gens m.At free f (a+1)))] _ t);rw[cX,bN acW,ao,YU];show Ok _ (bp [.agg (bX (pW gens m.At free f (a+1)))] _ t);rw[cX,bN acW,ao];exact aN (7-(a+1)) _ _ AC Fd
   have fW:cG (bX L) (a*3) [.bool false,.i g,.i 0]=bX (L.set a ⟨false,g,0⟩):=ZqY L a ⟨false,g,0⟩ AC;cases h0:(at'==0)
   .rw[h0]at hA;rw[bD,ae,Zc (show aO (a:Int) 7=true from Zi h7),Z9 AC,bh,Zn hm.cell rfl,kP,bh,Zc (Zi Pt),Y2,bg,Zc (show aO (a:Int) 7=true from Zi h7),Z9 AC,fW,Zpg _ a ⟨false,g,0⟩ true (by rw[ke AC]),List.set_set,UE _ a ⟨true,g,0⟩ at' (by rw[ke AC]),List.set_set];exact hA
   .grind
  .rw[bP (AC:¬((f+a:Nat):Int)<(gens.length:Int))]
   exact nE (ZwU _ _ _ _ _ AC)
 .rw[aU]
  have:a=7:=AC
  subst this;exact nE rfl
def lT (o:Option (aj)):aj:=o.getD []
theorem UG (o:Option (aj)):zS o=[.str (lT o),.bool o.isSome]:=by cases o<;>rfl
def su (leaves:ak) (i k:Nat):ak:=(List.range 16).map λt=>bif decide (t<k)&&decide (16*i+t<leaves.length)then leaves.getD (16*i+t) 0 else 0
def lG (leaves:ak) (i:Nat):ak:=su leaves i 16
theorem D0 (leaves:ak) (i k:Nat):(su leaves i k).length=16:=by unfold su;simp
theorem VL (leaves:ak) (i k t:Nat) (h:t<16):(su leaves i k)[t]? =some (bif decide (t<k)&&decide (16*i+t<leaves.length)then leaves.getD (16*i+t) 0 else 0):=by
 grind[su]
theorem Zxb (leaves:ak) (i k:Nat) (hk:k<16) (hf:16*i+k<leaves.length):su leaves i (k+1)=(su leaves i k).set k (leaves.getD (16*i+k) 0):=by
 refine th λt=>?_
 by_cases ht:t<16
 .rw[VL _ _ _ _ ht]
  by_cases h:t=k
  .subst h
   rw[ke (by rw[D0];exact ht),aQ (AC:t<t+1),aQ hf];rfl
  .rw[ig AC,VL _ _ _ _ ht]
   grind
 .rw[Dx (by rw[D0];omega),Dx (by rw[lz,D0];omega)]
theorem Zyv (leaves:ak) (i k:Nat) (h:leaves.length<=16*i+k):su leaves i k=lG leaves i:=by
 unfold lG su;refine FB λt ht=>?_
 by_cases h2:16*i+t<leaves.length
 .rw[aQ (AC:t<k),aQ (uG.1 ht)]
 grind
theorem ZyE (leaves:ak) (i:Nat):su leaves i 0=List.replicate 16 0:=by
 rfl
theorem ZAm {Kn:ah->M ah} (n:Nat) (leaves:ak) (pl:ai) (i:Nat) (s:St) (hl:Sl s pl (ints leaves)) (fV:leaves.length<100000) (hi:i<1000) (hn:20<n)
  (aL:Ok Q (Kn [.agg (ints (lG leaves i))] s)):
  Ok Q (dc (λdP st=>
       bp st λoC st=>
      bC oC 16<|
      aC .i64 st λk st=>
      aF st<|
      cO (λst=>gT st λb2 st=>aF st<|
       bif b2 then
       bK pl λi1 o=>
      aA (aO (aq (((16*i:Nat):Int)+k)) leaves.length)<|
      bH i1 (((aq (((16*i:Nat):Int)+k)).toNat)*1+o) λd=>
      db .i64 d λfZ=>
      aA (aO k 16)<|
      aA (Nat.ble (k.toNat*1+1) 16)<|
      dP [.agg (cG oC (k.toNat*1) [.i fZ]),.i (aq (k+1))]
      else
       Kn [.agg oC]) λdS=>
      bif decide (k<16)then
       dS [.bool (decide (aq (((16*i:Nat):Int)+k)<(leaves.length:Int)))]
      else
       dS [.bool false]) n [.agg (ints (List.replicate 16 0)),.i 0] s):=by
 refine Zj _ (λq y t=>∃(k:Nat),y=[.agg (ints (su leaves i k)),.i (k:Int)]/\k<=16/\16-k<=q/\t=s) ?_ 16 n _ _ ⟨0,by rw[ZyE];rfl,cN _,AC,rfl⟩ AC;rintro q _ t ⟨k,rfl,hk,hq,rfl⟩ rec aN;have cU: ∀k,(ints (su leaves i k)).length=16:=λk=>by simp[ints,D0]
 rw[cX,bN (cU k),au,ao];have hw:aq (((16*i:Nat):Int)+(k:Int))=((16*i+k:Nat):Int):=Zb;have cL:aq ((k:Int)+1)=((k+1:Nat):Int):=Zb;simp only[hw,cL,bn];refine Ok.join λdS hj6=>?_
 have nE:su leaves i k=lG leaves i->Ok Q (dS [.bool false] t):=λe=>by
  rw[hj6];simp only[ar,ao];rw[af,e];exact aL
 by_cases qB:k<16
 .rw[aR]
  by_cases av:16*i+k<leaves.length
  .rw[aQ (AC:((16*i+k:Nat):Int)<(leaves.length:Int)),hj6]
   simp only[ar,ao];obtain⟨bi,bo,rfl⟩:=hl.cS (by simp[ints];omega);have hg:(ints leaves)[16*i+k]? =some (.i leaves[16*i+k]):=ZJ av;rw[ae,bh,Zc (Zi av),hl.dX hg,bg,Zc (show aO (k:Int) 16=true from Zi qB),Z9 AC];have ja:cG (ints (su leaves i k)) (k*1) [.i leaves[16*i+k]]=ints (su leaves i (k+1)):=by
    rw[cR,B6 _ _ _ (by rw[cU];exact qB),Zxb _ _ _ qB av,cz,cc av];unfold ints;rw[List.map_set];rfl
   rw[ja];exact aN (16-(k+1)) _ _ AC Fd
  .rw[bP (AC:¬((16*i+k:Nat):Int)<(leaves.length:Int))]
   exact nE (Zyv _ _ _ AC)
 .rw[aU]
  have:k=16:=AC
  subst this;exact nE rfl
def iA (gens free:ak):Nat->Nat->ak->cd->ak×cd
 |0,_,ls,m=>(ls,m)
 |c+1,f,ls,m=>bif decide (f<gens.length)then iA gens free c (f+7) (ls++[(m.next:Int)]) (gx m (lT (qo (mY gens m.At free f))))else(ls,m)
def jn (leaves:ak):Nat->Nat->ak->cd->ak×cd
 |0,_,top,m=>(top,m)
 |c+1,i,top,m=>bif decide (16*i<leaves.length)then jn leaves c (i+1) (top.set i (m.next:Int)) (gx m (lT (mM (lG leaves i))))else(top,m)
def kI (gens free:ak) (m:cd):Nat×cd:=(λr:ak×cd=>bif Nat.beq r.1.length 0 then(0,r.2)else
 (λt:ak×cd=>(t.2.next,gx t.2 (lT (mM t.1)))) (jn r.1 16 0 (List.replicate 16 0) r.2)) (iA gens free gens.length 0 [] m)
theorem ZmD (gens free:ak): ∀(c f:Nat) (ls:ak) (m:cd),(iA gens free c f ls m).2.B.length=m.B.length/\(iA gens free c f ls m).2.At=m.At/\(iA gens free c f ls m).2.next<=m.next+c/\m.next<=(iA gens free c f ls m).2.next
 |0,f,ls,m=>⟨rfl,rfl,aJ _,aJ _⟩
 |c+1,f,ls,m=>by
  unfold iA;cases decide (f<gens.length)
  .simp
  .rw[ae];have⟨b1,b2,b3,b4⟩:=ZmD gens free c (f+7) (ls++[(m.next:Int)]) (gx m (lT (qo (mY gens m.At free f))));have hn:(gx m (lT (qo (mY gens m.At free f)))).next=m.next+1:=rfl;exact⟨b1.trans (uT _ _),b2,AC,AC⟩
theorem Zpr (leaves:ak): ∀(c i:Nat) (top:ak) (m:cd),(jn leaves c i top m).2.B.length=m.B.length/\(jn leaves c i top m).2.At=m.At/\(jn leaves c i top m).2.next<=m.next+c/\m.next<=(jn leaves c i top m).2.next/\(jn leaves c i top m).1.length=top.length
 |0,i,top,m=>⟨rfl,rfl,aJ _,aJ _,rfl⟩
 |c+1,i,top,m=>by
  unfold jn;cases decide (16*i<leaves.length)
  .simp
  .rw[ae];have⟨b1,b2,b3,b4,b5⟩:=Zpr leaves c (i+1) (top.set i (m.next:Int)) (gx m (lT (mM (lG leaves i))));have hn:(gx m (lT (mM (lG leaves i)))).next=m.next+1:=rfl;exact⟨b1.trans (uT _ _),b2,AC,AC,by rw[b5,lz]⟩
theorem ZuE (gens free:ak) (m:cd):(kI gens free m).2.B.length=m.B.length/\(kI gens free m).2.At=m.At/\(kI gens free m).2.next<=m.next+gens.length+17/\m.next<=(kI gens free m).2.next:=by
 have⟨b1,b2,b3,b4⟩:=ZmD gens free gens.length 0 [] m;unfold kI;simp only;cases Nat.beq (iA gens free gens.length 0 [] m).1.length 0
 .have⟨c1,c2,c3,c4,_⟩:=Zpr (iA gens free gens.length 0 [] m).1 16 0 (List.replicate 16 0) (iA gens free gens.length 0 [] m).2;rw[af];exact⟨(uT _ _).trans (c1.trans b1),c2.trans b2,by show _+1<=_;omega,by show _<=_+1;omega⟩
 .grind
theorem ZqI (n:Nat) (x:dW) (z1 z2 z3:Nat) (p1 p2 p3:ai) (st:St) (kD:z1=2\/p1=none) (iN:z2=1\/p2=none) (nF:z3=1\/p3=none) (hm:iJ st i ib ia m) (hg:Fz st p2 (ints x.gens)) (ec:Fz st p3 (ints x.free)) (kV:x.gens.length<90000) (dZ:x.free.length<90000) (G4:m.At.length=x.gens.length) (Hw:m.next+x.gens.length<=700000) (hB:m.B.length<1000000) (hn:x.gens.length+x.free.length+1000<=n):
  Ok (λo=>∃gL,o=(.val [.i (kI x.gens x.free m).1],gL)/\iJ gL i ib ia (kI x.gens x.free m).2/\Fx [i,ib,ia] st gL) (run Bd n 190 [.ptr (some (i,0)),.agg (fa x z1 p1 z2 p2 z3 p3)] st):=by
 obtain⟨n,rfl⟩: ∃k,n=k+2:=⟨n-2,AC⟩;rw[Ze,h.af6];unfold Rc yq gj vL cK cT az Zm l9 Zo Li xc Lb fj bj tw DN jy
 try dsimp only
 rw[fw,cX];unfold fa;simp only[au,Zh 2 z1 p1 _ kD,Zh 1 z2 p2 _ iN,Zh 1 z3 p3 _ nF,ao];have⟨l1,l2,l3⟩:=hm.lt;have⟨T,hT⟩: ∃T,kI x.gens x.free m=T:=⟨_,rfl⟩;rw[hT];unfold kI at hT;have⟨RL,hRL⟩: ∃RL,iA x.gens x.free x.gens.length 0 [] m=RL:=⟨_,rfl⟩;rw[hRL]at hT;simp only at hT;have fR: ∀ {a b:St},Fx [i,ib] a b->Fx [i,ib,ia] a b:=λk=>k.mono λy hy=>by grind
 have zn: ∀ {a:ai},(∀b∈aM a,st.length<=b)->∀b∈aM a,b∉[i,ib,ia]:=λrp b hb mn=>by
  grind
 refine Ok.join λax zj=>?_
 refine Zj _ (λq y t=>∃(c f zk:Nat) (a:ai) (ls:ak) (m':cd),y=[.slice zk a ls.length,.i (f:Int)]/\(zk=1\/a=none)/\f<=x.gens.length+7/\x.gens.length+7-f<=q/\iJ t i ib ia m'/\Fx [i,ib,ia] st t/\bc [] t a (ints ls)/\(∀b∈aM a,st.length<=b)/\m'.B.length=m.B.length/\m'.At.length=m.At.length/\m'.next<=m.next+f/\ls.length<=f/\x.gens.length<=c+f/\iA x.gens x.free c f ls m'=RL) ?_ (x.gens.length+7) (n+1) _ _ ⟨x.gens.length,0,0,none,[],m,rfl,.inr rfl,cN _,AC,hm,.refl _ _,bc.nil ⟨st,rfl⟩,(λ_ h=>by cases h),rfl,rfl,AC,cN _,AC,hRL⟩ AC;rintro q _ t ⟨c,f,zk,a,ls,m',rfl,hzk,hf,hq,kA,cP,nB,rp,vi,CD,Hx,fV,hc,aL⟩ rec aN;simp only[au,Zh 1 zk a _ hzk,ao];have sD:=hm.kp cP;have Kd:=hg.kp sD;have xI:=ec.kp sD;by_cases av:f<x.gens.length
 .obtain⟨c,rfl⟩: ∃c',c=c'+1:=⟨c-1,AC⟩
  unfold iA at aL;rw[aR av]at aL;rw[aR];refine Ok.join λhZ YW=>?_
  refine Ok.join λjb YX=>?_
  refine ZzC (n+1) x.gens x.free p2 p3 f t kA Kd.1 xI.1 AC AC AC AC AC AC (Kn:=jb) ?_;rw[YX];have cU:(bX (mY x.gens m'.At x.free f)).length=21:=by rw[ZE];show(pW _ _ _ _ _).length*3=_;rw[An]
  show Ok _ (bp [.agg (bX (mY x.gens m'.At x.free f))] _ t);rw[cX,bN cU,ao];refine Ok.cv (Zlz (n+1) (mY x.gens m'.At x.free f) (An _ _ _ _ _) t) λt1 aH=>?_
  rw[UG,bZ,ar,ao];refine Ok.call (Ec n (lT (qo (mY x.gens m'.At x.free f))) t1 (kA.pre aH)) ?_;rintro _ ⟨t2,rfl,eG,gu⟩;refine⟨_,t2,rfl,?_⟩;rw[au,ao];have tZ:Fx [i,ib,ia] t t2:=(Fx.pre _ aH).trans (fR gu);have EL:=nB.fx tZ (zn rp);have⟨b,t4,r1,r2,r3,r4⟩:=Av (Y:=ah) (lim:=8796093022208) EL (sz:=1) (n:=ls.length) [.i (m'.next:Int)] AC (by simp[ints]) rfl;refine Eq.mpr (congrArg (Ok _) (r4 _)) ?_;rw[YW];simp only[aZ,ao];have hw:aq ((f:Int)+7)=((f+7:Nat):Int):=Zb;rw[hw];have Pw:=eG.fx r3 λy hy=>by
   have:=rp y hy;omega
  refine aN (x.gens.length+7-(f+7)) _ _ AC ⟨c,f+7,1,some (b,0),ls++[(m'.next:Int)],_,?_,.inl rfl,AC,aJ _,Pw,(cP.trans tZ).step r3 λy hy=> .inr (rp y hy),?_,λy hy=>?_,(uT _ _).trans vi,CD,?_,?_,AC,aL⟩
  .rw[ba];rfl
  .unfold ints
   rw[eV];exact r2
  .rw[cH.1 hy]
   have:=(cP.trans tZ).1;omega
  .show m'.next+1<=_
   omega
  .rw[ba];show _+1<=_;omega
 .rw[aU,zj]
  have hRe:RL=(ls,m'):=by
   rw[<-aL];cases c with
   |zero=>rfl
   |succ c=>unfold iA;rw[bP av];rfl
  rw[hRe]at hT;simp only at hT;simp only[aZ,ao];by_cases h0:ls.length=0
  .rw[h0]at hT⊢
   have hT2:(0,m')=T:=hT;rw[kT FS,Zd,<-hT2];exact .mk ⟨t,rfl,kA,cP⟩
  .have yX:Nat.beq ls.length 0=false:=by
    cases hb:Nat.beq ls.length 0
    .rfl
    .exact absurd (dQ hb) h0
   rw[yX,af]at hT;rw[show((ls.length:Int)==0)=false from dM.2 AC,af];have⟨RF,hRF⟩: ∃RF,jn ls 16 0 (List.replicate 16 0) m'=RF:=⟨_,rfl⟩;rw[hRF]at hT;refine Ok.join λaG xJ=>?_
   refine Zj _ (λq y u=>∃(k:Nat) (top:ak) (m2:cd),y=[.agg (ints top),.i (k:Int)]/\k<=16/\16-k<=q/\iJ u i ib ia m2/\Fx [i,ib,ia] t u/\top.length=16/\m2.B.length=m.B.length/\m2.next<=m'.next+k/\jn ls (16-k) k top m2=RF) ?_ 16 (n+1) _ _ ⟨0,List.replicate 16 0,m',rfl,cN _,AC,kA,.refl _ _,pw,vi,AC,hRF⟩ AC;rintro q2 _ u ⟨k,top,m2,rfl,hk,HC,hmu,gA,rG,XW,al4,eC⟩ dP mW;have cU:(ints top).length=16:=by simp[ints,rG]
   rw[cX,bN cU,au,ao];have hw:aq (16*(k:Int))=((16*k:Nat):Int):=by rw[Zb];omega
   have cL:aq ((k:Int)+1)=((k+1:Nat):Int):=Zb;rw[hw,cL];have hou:=nB.fx gA (zn rp);refine Ok.join λaW zl=>?_
   have nE:RF=(top,m2)->Ok (λo=>∃gL,o=(.val [.i T.1],gL)/\iJ gL i ib ia T.2/\Fx [i,ib,ia] st gL) (aW [.bool false] u):=λe=>by
    rw[zl];simp only[ar,ao];rw[af,xJ];show Ok _ (bp [.agg (ints top)] _ u);rw[cX,bN cU,ao];rw[e]at hT;simp only at hT;refine Ok.cv (S9 (n+1) top rG u) λu1 aH=>?_
    rw[UG,bZ,ar,ao];refine Ok.call (Ec n (lT (mM top)) u1 (hmu.pre aH)) ?_;rintro _ ⟨u2,rfl,xL,CT⟩;refine⟨_,u2,rfl,?_⟩;rw[au,ao,Zd,<-hT];exact .mk ⟨u2,rfl,xL,((cP.trans gA).trans (Fx.pre _ aH)).trans (fR CT)⟩
   by_cases qB:k<16
   .rw[aR]
    have XN:16-k=(16-(k+1))+1:=AC
    rw[XN]at eC;unfold jn at eC;by_cases fM:16*k<ls.length
    .rw[aR fM]at eC
     rw[aQ AC,zl];simp only[ar,ao];rw[ae];refine Ok.join λbG Pn=>?_
     refine Ok.join λcA YV=>?_
     refine ZAm (n+1) ls a k u hou.sl AC AC AC (Kn:=cA) ?_;rw[YV];have y8:(ints (lG ls k)).length=16:=by rw[ints,mC];exact D0 _ _ _
     show Ok _ (bp [.agg (ints (lG ls k))] _ u);rw[cX,bN y8,ao];refine Ok.cv (S9 (n+1) (lG ls k) (D0 _ _ _) u) λu1 aH=>?_
     rw[UG,bZ,ar,ao];refine Ok.call (Ec n (lT (mM (lG ls k))) u1 (hmu.pre aH)) ?_;rintro _ ⟨u2,rfl,xL,CT⟩;refine⟨_,u2,rfl,?_⟩;rw[au,ao,Zc (show aO (k:Int) 16=true from Zi qB),bn,Z9 AC];have ja:cG (ints top) (k*1) [.i (m2.next:Int)]=ints (top.set k (m2.next:Int)):=by
      rw[cR,B6 _ _ _ AC];unfold ints;rw[List.map_set]
     rw[ja,Pn];have J5:(ints (top.set k (m2.next:Int))).length=16:=by simp[ints,rG]
     show Ok _ (bp [.agg (ints (top.set k (m2.next:Int)))] _ u2);rw[cX,bN J5,ao];exact mW (16-(k+1)) _ _ AC ⟨k+1,_,_,rfl,AC,aJ _,xL,(gA.trans (Fx.pre _ aH)).trans (fR CT),by rw[lz,rG],(uT _ _).trans XW,by show m2.next+1<=_;omega,eC⟩
    .rw[aU fM]at eC
     rw[bP AC];exact nE eC.symm
   .have:k=16:=AC
    subst this;rw[aU];exact nE eC.symm
def zT (x:cm):aj:=bB (bM x.seq) 8++bB (bM x.blocks) 4++bB (bM x.cW) 4++bB (bM x.g) 4++bB (bM x.used) 4++bB (bM x.free) 4++bB (bM x.bY) 2++bB (bM x.dir) 2++dJ x.aK
def wb (x:cm):aj:=gK 7 x.aK.length (zT x)
theorem Zs5 (n:Nat) (x:cm) (p:ai) (st:St) (hs:Sl st p (ints x.aK)) (hl:x.aK.length<1000) (hn:2600<=n):
  Ok (λo=>∃s',o=(.val [.str (wb x)],s')/\aB st s') (run Bd n 191 [.agg (dI x p)] st):=by
 obtain⟨n,rfl⟩: ∃k,n=k+2:=⟨n-2,AC⟩;rw[Ze,h.af7];unfold TT yp lV DE uL jM vQ Zo ZF qW Ls fF dI
 try dsimp only
 rw[cX];simp only[au,aZ,ao,Gm];have lay:=λv k (hk:k<=20) s=>uO (n+1) (bM v) k (tF v) s
 refine Ok.cx (lay x.seq 8 AC st) λs1 aH=>?_
 rw[bZ,ao];refine Ok.cx (lay x.blocks 4 AC s1) λs2 bd=>?_
 rw[bZ,ao,Z9 (by simp[Zr])];refine Ok.cx (lay x.cW 4 AC s2) λs3 dh=>?_
 rw[bZ,ao,Z9 (by simp[ba,Zr])];refine Ok.cx (lay x.g 4 AC s3) λs4 hJ=>?_
 rw[bZ,ao,Z9 (by simp[ba,Zr])];refine Ok.cx (lay x.used 4 AC s4) λs5 nC=>?_
 rw[bZ,ao,Z9 (by simp[ba,Zr])];refine Ok.cn (lay x.free 4 AC s5) λs6 hp6=>?_
 rw[bZ,ao,Z9 (by simp[ba,Zr])];refine Ok.cx (lay x.bY 2 AC s6) λs7 hp7=>?_
 rw[bZ,ao,Z9 (by simp[ba,Zr])];refine Ok.cn (lay x.dir 2 AC s7) λs8 hp8=>?_
 rw[bZ,ao,Z9 (by simp[ba,Zr]),Za];have hP:=((((((aH.trans bd).trans dh).trans hJ).trans nC).trans hp6).trans hp7).trans hp8;unfold wb zT;have⟨A,hA⟩: ∃A,bB (bM x.seq) 8++bB (bM x.blocks) 4++bB (bM x.cW) 4++bB (bM x.g) 4++bB (bM x.used) 4++bB (bM x.free) 4++bB (bM x.bY) 2++bB (bM x.dir) 2=A:=⟨_,rfl⟩;have iX:A.length=32:=by rw[<-hA];simp only[ba,Zr]
 rw[hA];refine Zj _ (λq y s=>∃i:Nat,y=[.str (A++dJ (x.aK.take i)),.i (i:Int)]/\i<=x.aK.length/\x.aK.length-i<=q/\aB st s) ?_ x.aK.length (n+1) _ _ ⟨0,by rw[List.take_zero];show _=[DV.str (A++[]),_];rw[fP];rfl,cN _,AC,hP⟩ AC;rintro q _ s ⟨i,rfl,hi,hq,iZ⟩ rec aN;rw[bZ,au,ao];by_cases av:i<x.aK.length
 .have dR:=hs.mono iZ
  obtain⟨i1,o1,rfl⟩:=dR.cS (by simp[ints];omega);rw[aR,bh,Zc (Zi av),bn,dR.dX (ZJ av),bg];refine Ok.cv (lay x.aK[i] 2 AC s) λs5 nC=>?_
  rw[bZ,ao,Z9 (by rw[ba,pF,Zr,cB,iX];omega),Zb];exact aN (x.aK.length-(i+1)) _ _ AC ⟨i+1,by rw[ID _ av,dL];rfl,AC,aJ _,iZ.trans nC⟩
 .rw[aU]
  rw[dG AC];refine Ok.cv (BV (n+1) 7 x.aK.length (A++dJ x.aK) (by rw[ba,pF];omega) s (by rw[ba,pF];omega)) λs5 nC=>?_
  rw[bZ,ao,Zd];exact .mk ⟨s5,rfl,iZ.trans nC⟩
def ZC (a n:Nat):ak:=(List.range n).map λi=>((a+i:Nat):Int)
theorem uN (a n:Nat):(ZC a n).length=n:=by unfold ZC;simp
theorem ZnB (a n:Nat):ZC a (n+1)=ZC a n++[((a+n:Nat):Int)]:=by simp[ZC,tl,eV]
theorem Zwv {a:Nat} {x:Int} (h:x∈ZC a n):(a:Int)<=x/\x<((a+n:Nat):Int):=by
 grind[ZC]
def ku (used:ak):Nat->Nat->cd->cd
 |0,_,m=>m
 |c+1,i,m=>ku used c (i+1) (gx m (uQ (gI i used)))
theorem ZlX (used:ak): ∀(c i:Nat) (m:cd),(ku used c i m).B.length=m.B.length/\(ku used c i m).next=m.next+c
 |0,i,m=>⟨rfl,rfl⟩
 |c+1,i,m=>by
  have⟨a,b⟩:=ZlX used c (i+1) (gx m (uQ (gI i used)));unfold ku;refine⟨a.trans (uT _ _),?_⟩;rw[b];show m.next+1+c=_;omega
def jd (x:dW):cd:=⟨ZR (64*x.blocks.toNat),2,List.replicate x.gens.length 0⟩
def lP (x:dW):Nat:=(x.blocks.toNat+383)/384
def xu (l:ak):Int:=match l with
 |[]=>0
 |k::_=>aq (k+1)
def lh (x:dW):Nat×cd:=ri x.aD (jd x)
def fN (x:dW):Nat×cd:=kI x.gens x.free (lh x).2
def eS (x:dW) (dx:Int):cm:=⟨dx,x.blocks,x.cW,x.g,(fN x).1,x.gens.length,xu x.free,(lh x).1,ZC (fN x).2.next (lP x)⟩
def kL (x:dW):ak:=ZC 0 ((fN x).2.next+lP x)
def vY (x:dW) (dx place:Int):Option (aj×cm):=
 bif decide (((kL x).length:Int)>x.blocks)|| !ZP (eS x dx)then none else
  some (qK (ku (kL x) (lP x) 0 (fN x).2).B (64*(place%2).toNat) (wb (eS x dx)),eS x dx)
theorem Zxa (n:Nat):iO n [.i 0]=ints (List.replicate n 0):=by
 simp[iO,ints]
def ZvA:ah:=[.slice 0 none 0,.agg [.i 0,.i 0,.i 0,.i 0,.i 0,.i 0,.i 0,.i 0,.slice 0 none 0],.bool false]
structure aeV (st gL:St) (B:List UInt8) (s:cm) (ib:Nat) (q:Option (Nat×Nat)):Prop where
 new:st.length<=ib
 fu:gL[ib]? =some (some ⟨false,bT B⟩)
 own:bc [] gL q (ints s.aK)
 q: ∀b∈aM q,st.length<=b/\b≠ib
def W9 (st:St) (x:dW) (dx place:Int) (o:Out ah×St):Prop:=∃gL,aB st gL/\
 ((∃B s ib q,lY x/\vY x dx place=some (B,s)/\o=(.val [.slice 1 (some (ib,0)) B.length,.agg (dI s q),.bool true],gL)/\aeV st gL B s ib q)\/
  ((lY x->vY x dx place=none)/\o=(.val ZvA,gL)))
theorem Zsk (l:List dw):mg l=((l.map (·.bz)).flatten).length:=by
 unfold mg;induction l with
 |nil=>rfl
 |cons x l ih=>rw[kf,List.sum_cons,ih,kf,vH,ba]
theorem Zkp (n:Nat) (x:dW) (z1 z2 z3:Nat) (p1 p2 p3:ai) (dx place:Int) (st:St) (kD:z1=2\/p1=none) (iN:z2=1\/p2=none) (nF:z3=1\/p3=none) (hx:BN st x p1 p2 p3) (sz:FR x) (jT: -9223372036854775808<=place/\place<=9223372036854775807:=by omega) (hn:60000<=n:=by omega):
  Ok (W9 st x dx place) (run Bd n 170 [.agg (fa x z1 p1 z2 p2 z3 p3),.i dx,.i place] st):=by
 obtain⟨n,rfl⟩: ∃k,n=k+3:=⟨n-3,AC⟩;rw[Ze,h.afY];unfold SQ qZ jx bF cK R8 gj az Q_ rW lV dj jM l9 Zm ZU cT BP lA Li gG yr xc Lb fj bj jy vX
 try dsimp only
 have ag: ∀(l:ah) (K:ah->ah->M ah),bp (.agg (fa x z1 p1 z2 p2 z3 p3)::l) K=K (fa x z1 p1 z2 p2 z3 p3) l:=λ_ _=>rfl
 rw[ag];unfold fa;simp only[au,Zh 2 z1 p1 _ kD,Zh 1 z2 p2 _ iN,Zh 1 z3 p3 _ nF,ao];refine Ok.call (Zuk (n+2) x 2 1 1 p1 p2 p3 st (.inl rfl) (.inl rfl) (.inl rfl) hx.str sz AC) ?_;rintro _ ⟨b,s1,rfl,aH,hb⟩;refine⟨_,s1,rfl,?_⟩;rw[ar,ao];cases b with
 |false=>
  rw[bD,ae,Zd];exact .mk ⟨s1,aH,.inr ⟨λhm=>(by cases hb.2 hm),rfl⟩⟩
 |true=>
 have hm:=hb.1 rfl;rw[bI,af];have⟨g1,g2,g3,g4,g5,g6⟩:=ZM hm.Cz;have⟨bl,js⟩: ∃bl:Nat,x.blocks=bl:=⟨x.blocks.toNat,AC⟩;have kV:x.gens.length<=1792:=by have:=hm.cW;omega
 have sv:x.blocks.toNat=bl:=AC
 have hw:aq (64*x.blocks)=((64*bl:Nat):Int):=by rw[js,Zb];omega
 simp only[hw,bn];rw[Zc (by rw[aS,aS,bq,bq,bq];omega),ZD,Zc (by rw[aS,aS,bq,bq,bq];omega),ZD,ZD,ZrC,Zxa];have l1: ∀c,(s1++[some (c:bQ)]).length=s1.length+1:=λc=>by simp
 have l2: ∀c d,((s1++[some (c:bQ)])++[some (d:bQ)]).length=s1.length+2:=λc d=>by simp
 rw[l1,l2];have⟨S0,Es⟩: ∃S0,((s1++[some (⟨false,bT (ZR (64*bl))⟩:bQ)])++[some (⟨false,ints (List.replicate x.gens.length 0)⟩:bQ)])++[some (⟨false,[.slice 1 (some (s1.length,0)) (64*bl),.i 2,.slice 1 (some (s1.length+1,0)) x.gens.length]⟩:bQ)]=S0:=⟨_,rfl⟩;rw[Es];have hpS:aB s1 S0:=by rw[<-Es];exact(((aB.new _ _).trans (aB.new _ _)).trans (aB.new _ _))
 have hlS:S0.length=s1.length+3:=by rw[<-Es];simp
 have sQ:(ZR (64*bl)).length=64*bl:=by unfold ZR;simp
 have X4:iJ S0 (s1.length+2) s1.length (s1.length+1) (jd x):=by
  unfold jd;rw[sv];refine⟨?_,?_,?_,AC,AC,AC⟩
  .rw[<-Es,sQ,pw];simp
  .rw[<-Es];simp
  .rw[<-Es];simp
 clear Es;have PF:=aH.trans hpS;have hxS:=hx.kp PF.kp;have⟨ds,vo,jE⟩:=hxS.hp;have iL: ∀g∈x.aD,∀e∈g.bz,e∈Zp x:=λg hg e he=>List.mem_flatten.2 Fd
 have iX:(jd x).At.length=x.gens.length:=pw;have OV:(jd x).B.length=64*bl:=by show(ZR _).length=_;rw[sv,sQ]
 have tW:=Zsk x.aD;have alP:mg x.aD<=50000:=by rw[tW];exact sz.e
 have sB:=hm.En;have EI:(jd x).next=2:=rfl;refine Ok.call (Zs4 (n+2) x.aD p1 2 ds S0 (.inl rfl) X4 vo jE (λg hg e he=>by
  have:=hm.range e.slot Fd;rw[iX];exact this) (λg hg=>⟨by have:=sz.h.name g hg;omega,by have:=sz.h.name g hg;omega,by have:=sz.h.bz g hg;omega⟩) AC AC AC AC AC) ?_
 rintro _ ⟨S1,rfl,hM1,CP⟩;refine⟨_,S1,rfl,?_⟩;rw[au,ao];have⟨k1,k2,k3,k4⟩:=Zxn x.aD (jd x);have ai8:ri x.aD (jd x)=lh x:=rfl;rw[ai8]at hM1 k1 k2 k3 k4⊢;have oN:=hxS.kp (X4.kp CP);refine Ok.call (ZqI (n+2) x 2 1 1 p1 p2 p3 S1 (.inl rfl) (.inl rfl) (.inl rfl) hM1 oN.gn oN.fr AC (by have:=sz.f;omega) AC AC AC (by have:=sz.f;omega)) ?_;rintro _ ⟨S2,rfl,hM2,pO⟩;refine⟨_,S2,rfl,?_⟩;rw[au,ao];have⟨q1,q2,q3,q4⟩:=ZuE x.gens x.free (lh x).2;have ai9:kI x.gens x.free (lh x).2=fN x:=rfl;rw[ai9]at hM2 q1 q2 q3 q4⊢;have hfA:Fx [s1.length+2,s1.length,s1.length+1] S0 S2:=CP.trans pO;have qI:=hxS.kp (X4.kp hfA);have XW:(fN x).2.B.length=64*bl:=AC
 have ER: ∀t,Fx [s1.length+2,s1.length,s1.length+1] S0 t->aB st t:=λt k=>by
  refine Fx.aev ((Fx.pre [] PF).step k λy hy=> .inr ?_);have:=aH.len;grind
 have zn: ∀ {a:ai},(∀b∈aM a,S0.length<=b)->∀b∈aM a,b∉[s1.length+2,s1.length,s1.length+1]:=λrp b hb mn=>by
  grind
 refine Ok.join λax zj=>?_
 have A1:Ok (W9 st x dx place) (ax [.agg [.i dx,.i x.blocks,.i x.cW,.i x.g,.i (fN x).1,.i (x.gens.length:Int),.i (xu x.free),.i (lh x).1,.slice 0 none 0]] S2):=by
  rw[zj];show Ok _ (bp [.agg [.i dx,.i x.blocks,.i x.cW,.i x.g,.i (fN x).1,.i (x.gens.length:Int),.i (xu x.free),.i (lh x).1,.slice 0 none 0]] _ S2);rw[fh [.i dx,.i x.blocks,.i x.cW,.i x.g,.i (fN x).1,.i (x.gens.length:Int),.i (xu x.free),.i (lh x).1,.slice 0 none 0] []];simp only[au,Zh 1 0 none _ (.inr rfl),ao];refine Ok.join λaG xJ=>?_
  have⟨N,hN⟩: ∃N,(fN x).2.next=N:=⟨_,rfl⟩;have⟨C,hC⟩: ∃C,lP x=C:=⟨_,rfl⟩;have hCe:(bl+383)/384=C:=by rw[<-hC];unfold lP;rw[sv]
  refine Zj _ (λq y t=>∃(k z:Nat) (a:ai),y=[.agg [.i dx,.i x.blocks,.i x.cW,.i x.g,.i (fN x).1,.i (x.gens.length:Int),.i (xu x.free),.i (lh x).1,.slice z a (ZC N k).length],.i (k:Int)]/\(z=1\/a=none)/\k<=C/\C-k<=q/\iJ t (s1.length+2) s1.length (s1.length+1) (fN x).2/\Fx [s1.length+2,s1.length,s1.length+1] S0 t/\bc [] t a (ints (ZC N k))/\∀b∈aM a,S0.length<=b) ?_ C (n+2) _ _ ⟨0,1,none,rfl,.inr rfl,cN _,AC,hM2,hfA,bc.nil ⟨S2,rfl⟩,λ_ h=>by cases h⟩ AC;rintro q _ t ⟨k,z,a,rfl,hz,hk,hq,X5,xI,nB,rp⟩ rec aN;rw[cX];simp only[au,Zh 1 z a _ hz,ao];rw[js];refine Ok.call (Zjl (n+2) bl x.cW x.g AC t) ?_;rintro _ rfl;refine⟨_,t,rfl,?_⟩;simp only[au,ao];rw[hCe,<-js];by_cases av:k<C
  .rw[aR,Zn X5.cell (d:= .i (fN x).2.next) rfl]
   simp only[bg];have K7:aq (((fN x).2.next:Int)+(k:Int))=((N+k:Nat):Int):=by rw[hN,Zb];omega
   have cL:aq ((k:Int)+1)=((k+1:Nat):Int):=Zb;rw[K7,cL];have⟨b,t2,r1,r2,r3,r4⟩:=Av (Y:=ah) (lim:=8796093022208) nB (sz:=1) (n:=(ZC N k).length) [.i ((N+k:Nat):Int)] AC (by simp[ints]) rfl (by rw[uN];omega);refine Eq.mpr (congrArg (Ok _) (r4 _)) ?_;have hM3:=X5.fx r3 λy hy=>by
    have:=rp y hy;omega
   refine aN (C-(k+1)) _ _ AC ⟨k+1,1,some (b,0),?_,.inl rfl,AC,aJ _,hM3,xI.step r3 λy hy=> .inr (rp y hy),?_,λy hy=>?_⟩
   .rw[uN,uN]
   .rw[ZnB]
    unfold ints;rw[eV];exact r2
   .rw[cH.1 hy]
    have:=xI.1;omega
  have hkC:k=C:=AC
  subst hkC;rw[aU,xJ];have C9:([.i dx,.i x.blocks,.i x.cW,.i x.g,.i (fN x).1,.i (x.gens.length:Int),.i (xu x.free),.i (lh x).1,.slice 1 a (ZC N k).length]:ah)=dI (eS x dx) a:=by
   unfold dI eS;rw[hN,hC]
  have wx:(eS x dx).aK=ZC N k:=by unfold eS;rw[hN,hC]
  rw[C9];show Ok _ (bp [.agg (dI (eS x dx) a)] _ t);rw[fh (dI (eS x dx) a) []];unfold dI;simp only[au,aZ,ao];have akb:([.i (eS x dx).seq,.i (eS x dx).blocks,.i (eS x dx).cW,.i (eS x dx).g,.i (eS x dx).bY,.i (eS x dx).used,.i (eS x dx).free,.i (eS x dx).dir,.slice 1 a (eS x dx).aK.length]:ah)=dI (eS x dx) a:=rfl;simp only[akb];have cU:(eS x dx).aK.length=k:=by rw[wx,uN]
  have j7:kL x=ZC 0 (N+k):=by unfold kL;rw[hN,hC]
  rw[cU];refine Ok.join λaW zl=>?_
  refine Zj _ (λq y u=>∃(i z:Nat) (c:ai),y=[.slice z c (ZC 0 i).length,.i (i:Int)]/\(z=1\/c=none)/\i<=N+k/\N+k-i<=q/\iJ u (s1.length+2) s1.length (s1.length+1) (fN x).2/\Fx [s1.length+2,s1.length,s1.length+1] S0 u/\bc [] u c (ints (ZC 0 i))/\(∀b∈aM c,S0.length<=b)/\bc [] u a (ints (ZC N k))/\∀b∈aM a,b∉aM c) ?_ (N+k) (n+2) _ _ ⟨0,0,none,rfl,.inr rfl,cN _,AC,X5,xI,bc.nil ⟨t,rfl⟩,(λ_ h=>by cases h),nB,λ_ _ h=>by cases h⟩ AC;rintro q2 _ u ⟨i,z,c,rfl,hz,hi,HC,X6,gA,hoc,Yh,PA,hac⟩ dP mW;simp only[au,Zh 1 z c _ hz,ao];rw[Zn X6.cell (d:= .i (fN x).2.next) rfl];simp only[bg];have hwN:aq (((fN x).2.next:Int)+(k:Int))=((N+k:Nat):Int):=by rw[hN,Zb];omega
  rw[hwN];by_cases av:i<N+k
  .rw[aR]
   have cL:aq ((i:Int)+1)=((i+1:Nat):Int):=Zb;rw[cL];have⟨b,t2,r1,r2,r3,r4⟩:=Av (Y:=ah) (lim:=8796093022208) hoc (sz:=1) (n:=(ZC 0 i).length) [.i (i:Int)] AC (by simp[ints]) rfl (by rw[uN];omega);refine Eq.mpr (congrArg (Ok _) (r4 _)) ?_;refine mW (N+k-(i+1)) _ _ AC ⟨i+1,1,some (b,0),?_,.inl rfl,AC,aJ _,X6.fx r3 λy hy=>?_,gA.step r3 λy hy=> .inr (Yh y hy),?_,λy hy=>?_,PA.fx r3 hac,λy hy eG=>?_⟩
   .rw[uN,uN]
   .have:=Yh y hy
    omega
   .rw[ZnB,fq]
    unfold ints;rw[eV];exact r2
   .rw[cH.1 hy]
    have:=gA.1;omega
   .rw[cH.1 eG]at hy
    have:=bc.GM PA b hy;omega
  have hiN:i=N+k:=AC
  subst hiN;rw[aU,zl];simp only[aZ,ao];refine Ok.join λbG Pn=>?_
  have He:vY x dx place=bif decide (((kL x).length:Int)>x.blocks)|| !ZP (eS x dx)then none else some (qK (ku (kL x) k 0 (fN x).2).B (64*(place%2).toNat) (wb (eS x dx)),eS x dx):=by
   unfold vY;rw[hC]
  have A4: ∀(v:St) (bb:Bool),(decide (((kL x).length:Int)>x.blocks)|| !ZP (eS x dx))=bb->aB u v->Ok (W9 st x dx place) (bG [.bool bb] v):=by
   intro v bb yZ wI;rw[yZ]at He;rw[Pn];simp only[ar,ao];cases bb with
   |true=>
    rw[ae,Zd];exact .mk ⟨v,ER v (gA.trans (Fx.pre _ wI)),.inr ⟨λ_=>He,rfl⟩⟩
   |false=>
   rw[af];rw[af]at He;refine Ok.join λcA YV=>?_
   have⟨G,hG⟩: ∃G,ku (kL x) k 0 (fN x).2=G:=⟨_,rfl⟩;rw[hG]at He;refine Zj _ (λq y w=>∃(i:Nat) (m':cd),y=[.i (i:Int)]/\i<=k/\k-i<=q/\iJ w (s1.length+2) s1.length (s1.length+1) m'/\Fx [s1.length+2,s1.length,s1.length+1] S0 w/\bc [] w c (ints (ZC 0 (N+k)))/\bc [] w a (ints (ZC N k))/\m'.B.length=64*bl/\m'.next=N+i/\ku (kL x) (k-i) i m'=G) ?_ k (n+2) _ _ ⟨0,(fN x).2,rfl,cN _,AC,X6.pre wI,gA.trans (Fx.pre _ wI),hoc.fx (Fx.pre [] wI) (λ_ _ h=>by cases h),PA.fx (Fx.pre [] wI) (λ_ _ h=>by cases h),XW,hN,hG⟩ AC;rintro q3 _ w ⟨i,m',rfl,hi,hq3,X7,Ph,adA,EL,hB3,hN3,aL⟩ wP PM;simp only[au,ao];by_cases av:i<k
   .rw[aR]
    refine Ok.call (Zr5 (n+2) i (ZC 0 (N+k)) c 1 w (.inl rfl) adA.sl AC (by rw[uN];omega) (λy hy=>by have:=Zwv hy;omega) (by rw[uN];omega)) ?_;rintro _ rfl;refine⟨_,w,rfl,?_⟩;have Ky:(gI i (ZC 0 (N+k))).fu.length=48:=by unfold gI;rw[Gc];exact pw
    have iz:(bT (gI i (ZC 0 (N+k))).fu).length=48:=by rw[Zw,Ky]
    show Ok _ (bp [.agg (.i (gI i (ZC 0 (N+k))).no::bT (gI i (ZC 0 (N+k))).fu)] _ w);rw[cX];simp only[au];rw[bN iz];simp only[ao];refine Ok.cv (ZtZ (n+2) (gI i (ZC 0 (N+k))) Ky w AC) λw1 KM=>?_
    simp only[bZ,ao];refine Ok.call (Ec (n+1) (uQ (gI i (ZC 0 (N+k)))) w1 (X7.pre KM)) ?_;rintro _ ⟨w2,rfl,aik,aiP⟩;refine⟨_,w2,rfl,?_⟩;simp only[au,ao];rw[Zb];have Yz:Fx [s1.length+2,s1.length] w w2:=(Fx.pre _ KM).trans aiP;have Ka:Fx [s1.length+2,s1.length,s1.length+1] w w2:=Yz.mono λy hy=>by simp only[ep,tk,pD]at hy⊢;omega
    have eki:k-i=(k-(i+1))+1:=AC
    rw[eki]at aL;unfold ku at aL;rw[j7,<-j7]at aL;exact PM (k-(i+1)) _ _ AC ⟨i+1,_,rfl,AC,aJ _,aik,Ph.trans Ka,adA.fx Ka (zn Yh),EL.fx Ka (zn rp),(uT _ _).trans hB3,by show m'.next+1=_;omega,by rw[<-j7];exact aL⟩
   have Hp:i=k:=AC
   subst Hp;rw[yg]at aL;have hmG:m'=G:=aL;subst hmG;rw[aU,YV];simp only[ao];rw[Zn X7.cell rfl];simp only[kP];have sJ:run Bd (n+2) 179 [.i place,.i 2] w=some (.val [.i (place%2)],w):=ZlI (n+1) place 2 EQ EQ jT w;rw[qY sJ (.refl w)];simp only[au,ao];have⟨pl,adH⟩: ∃pl:Nat,place%2=(pl:Int):=⟨(place%2).toNat,AC⟩;rw[adH,bn]at He;rw[adH];have hwp:aq (64*(pl:Int))=((64*pl:Nat):Int):=by rw[Zb];omega
   simp only[hwp,bn,cR];rw[Zc (by rw[aS,bq,bq];omega)];refine Ok.cx (Zs5 (n+2) (eS x dx) a w (by rw[wx];exact EL.sl) AC AC) λw1 KM=>?_
   simp only[bZ,ao];have X8:=X7.pre KM;have⟨e1,e2,e3⟩:=X8.lt;show Ok _ (dE s1.length (64*pl+0) _ _ w1);rw[fE,qi,NN X8.bb (by rw[Zw,Zw,cB];omega),Zvv _];have hlB:=NZ (B:=m'.B) (k:=64*pl) (wb (eS x dx));rw[Zn (i:=s1.length+2) (f:=false) (by rw[ig AC];exact X8.cell) rfl];simp only[kP,Zd];have CQ:Fx [s1.length+2,s1.length,s1.length+1] w (w1.set s1.length (some ⟨false,bT (qK m'.B (64*pl) (wb (eS x dx)))⟩)):=(Fx.pre _ KM).trans ((Fx.set w1 s1.length _).mono λy hy=>by rw[cH.1 hy];simp);have nz:=aH.len;refine .mk ⟨_,ER _ (Ph.trans CQ),.inl ⟨_,_,s1.length,a,hm,He,by rw[hlB],nz,ke AC,?_,λy hy=>?_⟩⟩
   .rw[wx]
    exact EL.fx CQ (zn rp)
   .have:=rp y hy
    omega
  rw[uN];have zC:((kL x).length:Int)=((N+k:Nat):Int):=by rw[j7,uN]
  by_cases zu:((N+k:Nat):Int)>x.blocks
  .rw[aR zu]
   refine A4 u true ?_ (.refl u);rw[zC,aQ zu,Bool.true_or]
  .rw[aU zu]
   refine Ok.cv (ZkF (n+2) (eS x dx) a u (by rw[wx];exact PA.sl) AC) λv wI=>?_
   simp only[ar,ao];refine A4 v _ ?_ wI;rw[zC,bP zu,wX]
 by_cases wz:0<x.free.length
 .have⟨k0,kr,Hq⟩: ∃k0 kr,x.free=k0::kr:=by
   cases tX:x.free with
   |nil=>rw[tX]at wz;cases wz
   |cons a b=>exact⟨a,b,rfl⟩
  have YJ:(ints x.free)[0]? =some (.i k0):=by rw[Hq];rfl
  have⟨bi,bo,e⟩:=qI.fr.1.cS (by simp[ints];omega);have xQ:=qI.fr.1;rw[e]at xQ⊢;rw[aR,bh,Zc (show aO 0 x.free.length=true from Zi (i:=0) wz),xQ.get YJ];simp only[bg];rw[Hq]at A1;exact A1
 .have tX:x.free=[]:=z8.1 AC
  rw[aU];rw[tX]at A1;exact A1
theorem Zp4 (n:Nat) (W:al) (j:Nat) (f:Bool) (st:St) (hw:st[j]? =some (some ⟨f,Zu W⟩)) (h0:0<W.length) (hl:W.length<100000):
  Ok (λo=>∃j' s',o=(.val [.slice 1 (some (j',0)) W.length],s')/\aB st s'/\st.length<=j'/\s'[j']? =some (some ⟨false,Zu W⟩)) (run Bd (n+1) 263 [.slice 1 (some (j,0)) W.length] st):=by
 rw[Ze,h.aha];unfold Q2 ck bj
 try dsimp only
 rw[aZ,ao,show(some (j,0):ai).isNone=false from rfl,af,ZD];have cL:(st++[some (⟨false,[]⟩:bQ)])[j]? =some (some ⟨f,Zu W⟩):=(aB.new _ _).get hw;have dR:Sl (st++[some (⟨false,[]⟩:bQ)]) (some (j,0)) (Zu W):=⟨f,Zu W,cL,AC,by rw[dF,rQ]⟩;have j5:=j9 (Y:=ah) dR;rw[Uo]at j5;rw[cR,j5];have gW:bc st (st++[some (⟨false,[]⟩:bQ)]) (some (st.length,0)) []:=⟨aB.new _ _,Do⟩;have⟨p,s',ho,he⟩:=gW.app (Y:=ah) (sz:=1) (n:=0) (m:=W.length) (lim:=8796093022208) (ds:=Zu W) AC rfl h0 AC;rw[he,Zd,fq];rw[gR]at ho;rcases ho.2 with⟨_,e⟩|⟨i,rfl,h1,h2⟩
 .have:=congrArg List.length e
  rw[Uo]at this;grind
 .exact .mk ⟨i,s',rfl,ho.1,h1,h2⟩
theorem ZrS (n:Nat) {m:Nat} (st:St) (hs:gP st f i j m W) (hm:0<m):
  Ok (λo=>∃i' j' s',o=(.val [.ptr (some (i',0))],s')/\aB st s'/\st.length<=i'/\st.length<=j'/\i'≠j'/\gP s' false i' j' m W) (run Bd (n+2) 241 [.ptr (some (i,0))] st):=by
 rw[Ze,h.agQ];unfold RE jO Zm ck bj Lp;simp only[fw,ao,bh];have hlen:=hs.len;have hle:=hs.le;rw[Zn hs.hd rfl,bg,Zn hs.hd rfl,kP];refine Ok.XE (Zp4 n W j f st hs.wd AC AC) ?_;rintro _ ⟨j',s1,rfl,aH,hj,hw⟩;refine⟨_,s1,rfl,aH,?_⟩;rw[aZ,ao,ZD,Zd];have vt:=(eE.1 hw).1;exact .mk ⟨s1.length,j',_,rfl,aH.trans (aB.new _ _),aH.len,hj,AC,⟨Do,(aB.new _ _).get hw,hs.len,hs.lt,hs.le⟩⟩
theorem ZsM (hz:QT Bd) (n:Nat) {m:Nat} (st:St) (ht:xe st) (hs:gP st f i j m W) (mo:gP st g i2 j2 m2 V) (hm:0<m) (hn:4000<=n):
  Ok (λo=>∃i' j' s',o=(.val [.ptr (some (i',0))],s')/\aB st s'/\gP s' false i' j' m ((dz V).foldl (bA m) W)) (run Bd n 201 [.ptr (some (i,0)),.ptr (some (i2,0))] st):=by
 obtain⟨n,rfl⟩: ∃k,n=k+3:=⟨n-3,AC⟩;rw[Ze,h.agf];unfold Rq jO Ae jL C_ Lp;simp only[fw,ao];refine Ok.call (ZrS n st hs hm) ?_;rintro _ ⟨i',j',s1,rfl,aH,Ho,wD,oI,PR⟩;refine⟨_,s1,rfl,?_⟩;rw[fw,ao];refine Ok.call (ZtR hz (n+2) s1 (ht.mono aH) (mo.pre aH) AC) ?_;rintro _ ⟨p,s2,rfl,bd,dR,js⟩;refine⟨_,s2,rfl,?_⟩;rw[aZ,ao];have zA:=PR.pre bd;have vt:j'<s1.length:=(eE.1 PR.wd).1;have fV:=SM V V.length;rw[rQ]at fV;have hV:=mo.len;have hV2:=mo.le;rw[Zk (Iu (n+2) (dz V) p s2 zA oI dR (mG.aM λb hb mn=>by
  have:=js b hb;rw[cH.1 mn]at this;omega))]
 rw[ao,Zd];exact .mk ⟨i',j',_,rfl,tH (aH.trans bd) wD _,zA.add oI _ (by rw[(ZG m _ _).1]) ((ZG m _ _).2 zA.lt)⟩
def vh (img:aj) (m:Nat) (W:al):ak->Option (List ZS)
 |[]=>some []
 |k::r=>match yC (Zv img k.toNat)with
  |none=>none
  |some c=>bif fe m k&&cD W k.toNat then none else(vh img m W r).map (c:: ·)
def uP (img:aj) (x:cm) (W:al):Bool:=match vh img x.blocks.toNat W x.aK with
 |none=>false
 |some cs=>match AL x.blocks.toNat cs with
  |none=>false
  |some F=>decide (F=(dz (gD x.blocks.toNat x.aK)).foldl (bA x.blocks.toNat) W)
def Jf (img:aj) (x:cm) (rm:Option (Nat×al)):Bool:=match nb (jJ img x)with
 |some (some v)=>(match rm with
  |none=>false
  |some (m,R)=>(decide (x.blocks.toNat=m)&&decide (v.W=R))&&uP img x v.W)
 |_=>false
def ZAa (s:St) (rm:Option (Nat×al)) (p:ai):Prop:=match rm with
 |none=>p=none
 |some (m,R)=>∃f i j,p=some (i,0)/\gP s f i j m R
theorem Zzg {img:aj} {x:cm} {v:aI} (h:nb (jJ img x)=some (some v)):ZP x=true/\x.blocks<=((img.length/64:Nat):Int):=by
 unfold nb at h;cases h1:ZP x
 .have:(jJ img x).sup=x:=rfl;rw[this,h1]at h;cases h
 .refine⟨rfl,?_⟩;cases h2:decide (x.blocks<=((img.length/64:Nat):Int))
  .have e1:(jJ img x).sup=x:=rfl;have e2:(jJ img x).img=img:=rfl;rw[e1,e2,h1,h2]at h;cases h
  .grind
theorem ZoY (n:Nat) (a:ai) (img:aj) (x:cm) (pc:ai) (rm:Option (Nat×al)) (pr:ai) (s:St) (ht:xe s) (ha:dD s a img) (hc:Sl s pc (ints x.aK)) (hr:ZAa s rm pr) (hl:img.length<1000000) (cU:x.aK.length<1000) (hn:6000<=n):
  Ok (λo=>∃s',o=(.val [.bool (Jf img x rm)],s')/\aB s s') (run Bd n 173 [.slice 1 a img.length,.agg (dI x pc),.ptr pr] s):=by
 obtain⟨n,rfl⟩: ∃k,n=k+3:=⟨n-3,AC⟩;have⟨R,hR⟩: ∃R,Jf img x rm=R:=⟨_,rfl⟩;rw[hR];unfold Jf at hR;rw[Ze,h.af1];unfold RX ZU jO FU az jN Ae bF cT Zo jL Lb fj bj iT jy
 try dsimp only
 rw[aZ,fh (dI x pc) [.ptr pr]];unfold dI;simp only[au,aZ,fw,ao];have C9:([.i x.seq,.i x.blocks,.i x.cW,.i x.g,.i x.bY,.i x.used,.i x.free,.i x.dir,.slice 1 pc x.aK.length]:ah)=dI x pc:=rfl;rw[C9];have nE: ∀t,aB s t->R=false->Ok (λo=>∃s',o=(.val [.bool R],s')/\aB s s') ((aw [.bool false]:M ah) t):=λt k e=>by
  rw[e,Zd];exact .mk ⟨t,rfl,k⟩
 refine Ok.call (ZlF (n+2) a img x pc s ha hc hl cU) ?_;intro o ho;cases hw:nb (jJ img x)with
 |none=>
  rw[hw]at ho hR;obtain⟨s1,rfl,aH⟩:=ho;refine⟨_,s1,rfl,?_⟩;rw[fh];unfold fa;simp only[au,Zh 2 0 none _ (.inr rfl),Zh 1 0 none _ (.inr rfl),fw,ao];rw[Za,kT FS];simp only[ar,ao];rw[Za,ae];simp only[ar,ao];rw[ae];exact nE s1 aH hR.symm
 |some q=>
 cases q with
 |none=>
  rw[hw]at ho hR;obtain⟨s1,rfl,aH⟩:=ho;refine⟨_,s1,rfl,?_⟩;rw[fh];unfold fa;simp only[au,Zh 2 0 none _ (.inr rfl),Zh 1 0 none _ (.inr rfl),fw,ao];rw[Za,kT FS];simp only[ar,ao];rw[Za,ae];simp only[ar,ao];rw[ae];exact nE s1 aH hR.symm
 |some v=>
 rw[hw]at ho hR;obtain⟨s1,z2,q2,z3,q3,z4,q4,i,j,rfl,aH,iN,nF,E9,_,dy,_,_⟩:=ho;refine⟨_,s1,rfl,?_⟩;simp only at hR;have⟨oM,aix⟩:=Zzg hw;have⟨A0,_⟩:=Tj oM;have⟨g1,g2,_⟩:=ZM A0;have aj8:=(xk x).1 oM;have⟨m,hm⟩: ∃m:Nat,x.blocks=m:=Fd
 have hmn:x.blocks.toNat=m:=AC
 rw[hmn]at dy hR;rw[fh];unfold fa;simp only[au,Zh 2 z2 q2 _ iN,Zh 1 z3 q3 _ nF,Zh 1 z4 q4 _ E9,fw,ao];rw[Za,pL FS];simp only[ar,ao];rw[Za];cases rm with
 |none=>
  have EP:pr=none:=hr;subst EP;rw[kT FS];simp only[ar,ao];rw[ae];grind
 |some mr=>
 have⟨mr,Rr⟩:=mr;obtain⟨fr,ir,jr,rfl,EU⟩:=hr;rw[show(some (ir,0):ai).isNone=false from rfl,af];refine Ok.call (Zmk (n+2) s1 dy (EU.pre aH)) ?_;rintro _ rfl;refine⟨_,s1,rfl,?_⟩;simp only[ar,ao];simp only at hR;cases adP:(decide (m=mr)&&decide (v.W=Rr))with
 |false=>
  rw[adP,gF]at hR;rw[bD,ae];exact nE s1 aH hR.symm
 |true=>
 rw[adP,dt]at hR;rw[bI,af];unfold uP at hR;rw[hmn]at hR;refine Ok.join λaW zl=>?_
 have⟨G,hG⟩: ∃G,vh img m v.W x.aK=G:=⟨_,rfl⟩;rw[hG]at hR;refine Zj _ (λq y t=>∃(k z:Nat) (c:ai) (acc:List ZS),y=[.slice z c acc.length,.i (k:Int)]/\(z=49\/c=none)/\k<=x.aK.length/\x.aK.length-k<=q/\bc s1 t c (tG acc)/\acc.length=k/\(∀y∈acc,y.fu.length=48/\y.no<8)/\(vh img m v.W (x.aK.drop k)).map (acc++ ·)=G) ?_ x.aK.length (n+2) _ _ ⟨0,0,none,[],rfl,.inr rfl,cN _,AC,bc.nil (.refl _),rfl,(λ_ h=>by cases h),by rw[dF,hG];cases G<;>rfl⟩ AC;rintro q _ t ⟨k,z,c,acc,rfl,hz,hk,hq,ho,AV,acL,aL⟩ rec aN;have j4:=ho.1;have cq:=aH.trans j4;simp only[au,Zh 49 z c _ hz,ao];have hct:=hc.mono cq;have CH:=ha.mono cq;by_cases av:k<x.aK.length
 .obtain⟨bi,bo,rfl⟩:=hc.cS (by simp[ints];omega)
  have da:(ints x.aK)[k]? =some (.i x.aK[k]):=ZJ av;have gr:x.aK.drop k=x.aK[k]::x.aK.drop (k+1):=iR av;have kU:=(aj8.ch k av).1;rw[cz,cc av,DY,hm]at kU;have aiz:2<=x.aK[k]/\x.aK[k]<(m:Int):=kU;rw[gr]at aL;rw[aR,bh,Zc (Zi av),bn,hct.dX da,bg];generalize x.aK[k]=y at aiz aL;have⟨yn,hyn⟩: ∃yn:Nat,y=yn:=⟨y.toNat,AC⟩;subst hyn;unfold vh at aL;rw[bn]at aL;rw[Zk (Zm1 (n+1) a img.length yn t hl),aZ,ao];have EG:(Zv img yn).length=64:=by unfold Zv;rw[cB,dY];omega
  have Y3:dD t (cY true a (yn*64)) (Zv img yn):=(CH.cY (k:=yn*64) AC).mu 64;have hcg:=ZtS (n+2) (cY true a (yn*64)) (Zv img yn) t Y3 AC AC;rw[EG]at hcg;refine Ok.call hcg ?_;rintro _ ⟨t1,bd,du⟩;have cL:aq ((k:Int)+1)=((k+1:Nat):Int):=Zb;cases Hk:yC (Zv img yn)
  .rw[Hk]at du aL;simp only at du aL;subst du;refine⟨_,t1,rfl,?_⟩;have ajp:(bT Od.fu).length=48:=rfl;rw[fh (ZZ Od) _];unfold ZZ;rw[au,bN ajp,ar,ao,bN (n:=49) rfl,Za,bD,ae];simp only[ar,ao];rw[ae];have X0:G=none:=aL.symm;rw[X0]at hR;exact nE t1 (cq.trans bd) hR.symm
  .rename_i cv;rw[Hk]at du aL;simp only at du aL;obtain⟨rfl,CC,h8⟩:=du;refine⟨_,t1,rfl,?_⟩;have iz:(bT cv.fu).length=48:=by rw[Zw,CC]
   rw[fh (ZZ cv) _];have Yl:ZZ cv= .i cv.no::bT cv.fu:=rfl;rw[Yl,au,bN iz,ar,ao,bN (n:=49) (by simp[iz]),Za,bI,af,Zk (ZnJ n (yn:Int) t1 (dy.pre (j4.trans bd)))];simp only[ar,ao];rw[bn];cases fA:(fe m (yn:Int)&&cD v.W yn)
   .rw[fA,af]at aL;rw[af,bN (n:=49) (by simp[iz]),<-Yl,cL];have⟨p3,t3,oL,sD,he⟩:=(ho.mono bd).Dq (Y:=ah) (sz:=49) (n:=acc.length) (lim:=1256584717458) (ZZ cv) AC (UB λy hy=>(acL y hy).1) (MY CC) AC;refine Eq.mpr (congrArg (Ok _) (he _)) ?_;refine aN (x.aK.length-(k+1)) _ _ AC ⟨k+1,49,p3,acc++[cv],?_,.inl rfl,AC,aJ _,?_,?_,λy hy=>?_,?_⟩
    .rw[ba];rfl
    .rw[Zus]
     have:tG [cv]=ZZ cv:=by unfold tG;simp
     rw[this];exact oL
    .rw[ba,AV];rfl
    .grind
    .rw[<-aL,Option.map_map]
     congr 1;funext l;simp
   .rw[fA,ae]at aL;rw[ae];have X0:G=none:=aL.symm;rw[X0]at hR;exact nE t1 (cq.trans bd) hR.symm
 .rw[aU,zl]
  rw[lx AC]at aL;have hGs:G=some acc:=by rw[<-aL];simp[vh]
  rw[hGs]at hR;simp only at hR;simp only[aZ,ao];rw[hm];refine Ok.call (ZsT (n+2) m acc c 49 t AC (.inl rfl) ho.sl acL AC AC) ?_;rintro _ ⟨t1,bd,du⟩;cases ec:AL m acc
  .rw[ec]at du hR;simp only at du hR;subst du;refine⟨_,t1,rfl,?_⟩;rw[fw,ar,ao,Za,af];simp only[ar,ao,Zd];exact .mk ⟨t1,by rw[hR],cq.trans bd⟩
  .rename_i F;rw[ec]at du hR;simp only at du hR;obtain⟨iF,jF,rfl,hsF⟩:=du;refine⟨_,t1,rfl,?_⟩;rw[fw,ar,ao,Za,ae];have⟨t2,e2,dh,CY,xQ⟩:=U7 (n+2) m x.aK pc t1 AC (hct.mono bd) AC AC;rw[Zk e2,fw,ao];have zA:=dy.pre ((j4.trans bd).trans dh);refine Ok.call (ZsM (alc) (n+2) t2 (ht.mono ((cq.trans bd).trans dh)) zA xQ AC AC) ?_;rintro _ ⟨iW,jW,t3,rfl,hJ,hsW⟩;refine⟨_,t3,rfl,?_⟩;simp only[fw,ao];refine Ok.call (Zmk (n+2) t3 (hsF.pre (dh.trans hJ)) hsW) ?_;rintro _ rfl;refine⟨_,t3,rfl,?_⟩;simp only[ar,ao,Zd];refine .mk ⟨t3,?_,((cq.trans bd).trans dh).trans hJ⟩;grind
end Go.Gv.F
namespace Go.Gv.F
open Go.Gv
