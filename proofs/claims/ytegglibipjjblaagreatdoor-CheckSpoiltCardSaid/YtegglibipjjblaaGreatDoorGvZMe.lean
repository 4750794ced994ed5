/- The document's maker of images: its blocks, one behind the other. -/
import Derived.Test.YtegglibipjjblaaGreatDoorGvZMd
set_option linter.all false
namespace Go.Gv.F
open Go.Gv
variable {β:Type}
structure cP where
 B:aj
 next:Nat
 At:ak
structure iw (s:St) (i ib ia:Nat) (m:cP):Prop where
 cell:s[i]? =some (some ⟨false,[.slice 1 (some (ib,0)) m.B.length,.i m.next,.slice 1 (some (ia,0)) m.At.length]⟩)
 bb:s[ib]? =some (some ⟨false,bI m.B⟩)
 aa:s[ia]? =some (some ⟨false,ints m.At⟩)
 d1:i≠ib
 d2:i≠ia
 d3:ib≠ia
variable {f g:Bool} {i i2 ia ib j j2 k m2 n:Nat} {Q:Out ah×St->Prop} {s s':St} {p p1 p2 p3:ai} {T V W:al} {m:cP}
theorem iw.fx (h:iw s i ib ia m) (k:Fx T s s') (hT: ∀x∈T,x≠i/\x≠ib/\x≠ia):iw s' i ib ia m:=
 ⟨k.2 _ _ (λe=>(hT _ e).1 rfl) h.cell,k.2 _ _ (λe=>(hT _ e).2.1 rfl) h.bb,k.2 _ _ (λe=>(hT _ e).2.2 rfl) h.aa,h.d1,h.d2,h.d3⟩
theorem iw.pre {s s':St} {i ib ia:Nat} {m:cP} (h:iw s i ib ia m) (k:aA s s'):iw s' i ib ia m:=h.fx (Fx.pre [] k) λ_ h=>by cases h
theorem iw.lt (h:iw s i ib ia m):i<s.length/\ib<s.length/\ia<s.length:=
 ⟨(eB.1 h.cell).1,(eB.1 h.bb).1,(eB.1 h.aa).1⟩
theorem iw.kp (h:iw s i ib ia m) (k:Fx [i,ib,ia] s s'):Kp s s':=by
 intro j all e;refine k.2 j _ (λhm=>?_) e;simp only[eM,tW,pj]at hm;grind[h.cell,h.bb,h.aa]
def mQ (B:aj) (k:Nat) (s:aj):aj:=B.take k++(s.take (B.length-k)++B.drop (k+s.length))
theorem Jw {B:aj} (s:aj) (h:k<=B.length:=by omega):(mQ B k s).length=B.length:=by
 grind[mQ]
theorem WK {B:aj} (s:aj) (h:k<=B.length:=by omega):cG (bI B) k (bI (s.take (B.length-k)))=bI (mQ B k s):=by
 have e:bI B=bI (B.take k)++(bI ((B.drop k).take s.length)++bI (B.drop (k+s.length))):=by
  rw[<-Ca,<-Ca,<-jG,oX,oX]
 have hl:(bI (B.take k)).length=k:=by rw[Zs,cR];omega
 have:=sV (bI (B.take k)) (bI ((B.drop k).take s.length)) (bI (B.drop (k+s.length))) (bI (s.take (B.length-k))) (by
  rw[Zs,Zs,cR,cR,eH,Nat.min_comm])
 rw[hl,<-e]at this;rw[this];simp[mQ,Ca]
def ll (m:cP) (s:aj):cP:=⟨bif decide (64*m.next+64<=m.B.length)then mQ m.B (64*m.next) s else m.B,m.next+1,m.At⟩
theorem vr (m:cP) (s:aj):(ll m s).B.length=m.B.length:=by
 unfold ll;by_cases h:64*m.next+64<=m.B.length
 .rw[aX h];exact Jw s
 grind
variable {Bd:Zh} [h:HA Bd]
theorem Ej (n:Nat) (s:aj) (st:St) (hm:iw st i ib ia m) (hn:m.next<1000000:=by omega) (_hB:m.B.length<1000000:=by omega):
  Ok (λo=>∃gF,o=(.val [.i m.next],gF)/\iw gF i ib ia (ll m s)/\Fx [i,ib] st gF) (run Bd (n+1) 194 [.ptr (some (i,0)),.str s] st):=by
 rw[Ze,h.aft];unfold Q8 jU Zm Q_ Li;simp only[eO,bT,aq,bc];rw[Zo hm.cell rfl,bj,Zo hm.cell rfl,bj,eJ,rk hm.cell (by show 1<3;omega)];have hw:ar ((m.next:Int)+1)=((m.next+1:Nat):Int):=Zc;have cM:ar (64*(m.next:Int))=((64*m.next:Nat):Int):=by rw[Zc];omega
 have fY:ar (((64*m.next:Nat):Int)+64)=((64*m.next+64:Nat):Int):=Zc;rw[hw,cM,fY];have⟨h1,h2,h3⟩:=hm.lt;have dp:([.slice 1 (some (ib,0)) m.B.length,.i m.next,.slice 1 (some (ia,0)) m.At.length]:ah).set 1 (.i ((m.next+1:Nat):Int))=[.slice 1 (some (ib,0)) m.B.length,.i ((m.next+1:Nat):Int),.slice 1 (some (ia,0)) m.At.length]:=rfl;rw[dp];have⟨s1,eY⟩: ∃s1,st.set i (some (⟨false,[.slice 1 (some (ib,0)) m.B.length,.i ((m.next+1:Nat):Int),.slice 1 (some (ia,0)) m.At.length]⟩:bO))=s1:=⟨_,rfl⟩;have mL:iw s1 i ib ia ⟨m.B,m.next+1,m.At⟩:=by
  rw[<-eY];have d1:=hm.d1;have d2:=hm.d2;exact⟨lA h1,by rw[jH d1];exact hm.bb,by rw[jH d2];exact hm.aa,d1,d2,hm.d3⟩
 have C0:Fx [i,ib] st s1:=by rw[<-eY];exact(Fx.set st i _).mono λy hy=>by rw[cE.1 hy];simp
 rw[eY,Zo mL.cell rfl,kA,Za];by_cases hb:64*m.next+64<=m.B.length
 .rw[aS (AC:(m.B.length:Int)>=((64*m.next+64:Nat):Int)),ae,Zo mL.cell rfl]
  simp only[kA];rw[Zb (by rw[aY,bn,bn];omega),br,cS];show Ok _ (dG ib (64*m.next+0) _ _ s1);rw[gQ,lH,NF mL.bb (by rw[Zs,Zs,cR];grind)];have iZ:=WK (B:=m.B) (k:=64*m.next) s;show Ok _ ((aI [] (ax [DV.int .i64 m.next])) (s1.set ib (some ⟨false,cG (bI m.B) (64*m.next) (bI (s.take (m.B.length-64*m.next)))⟩)));rw[iZ,aq,Zd];have hl:=Jw (B:=m.B) (k:=64*m.next) s;refine .mk ⟨_,rfl,?_,C0.trans ((Fx.set s1 ib _).mono λy hy=>by rw[cE.1 hy];simp)⟩;unfold ll;rw[aX hb];have d1:=hm.d1;have d3:=hm.d3;refine⟨?_,?_,?_,d1,hm.d2,d3⟩
  .rw[jH (Ne.symm d1),hl];exact mL.cell
  .grind
  .rw[jH d3];exact mL.aa
 .rw[bM (AC:¬(m.B.length:Int)>=((64*m.next+64:Nat):Int)),af]
  simp only[aq,Zd];refine .mk ⟨s1,rfl,?_,C0⟩;grind[ll]
def vJ (es:List bm) (r:ak×cP):Nat×cP:=match es with
 |[]=>(0,r.2)
 |e::_=>(r.2.next, { ll r.2 (xJ ⟨e,r.1⟩)with At:=r.2.At.set e.slot.toNat (r.2.next:Int) })
def gL:Nat->List bm->cP->ak×cP
 |0,_,m=>([],m)
 |j+1,es,m=>(λr:ak×cP=>(λf:Nat×cP=>(r.1++[(f.1:Int)],f.2)) (vJ ((es.drop (2^j)).take (2^j)) (gL j ((es.drop (2^j)).take (2^j)) r.2))) (gL j es m)
def oS (j:Nat) (es:List bm) (m:cP):Nat×cP:=vJ es (gL j es m)
theorem ZrC (es:List bm) (r:ak×cP):(vJ es r).2.B.length=r.2.B.length/\(vJ es r).2.At.length=r.2.At.length/\(vJ es r).2.next<=r.2.next+1/\r.2.next<=(vJ es r).2.next:=by
 unfold vJ;cases es with
 |nil=>simp
 |cons e r'=>exact⟨vr _ _,Do,aM _,Nat.le_succ _⟩
theorem IT: ∀(j:Nat) (es:List bm) (m:cP),(gL j es m).2.B.length=m.B.length/\(gL j es m).2.At.length=m.At.length/\(gL j es m).2.next+1<=m.next+2^j/\m.next<=(gL j es m).2.next/\(gL j es m).1.length=j
 |0,_,m=>⟨rfl,rfl,by simp[gL],aM _,rfl⟩
 |j+1,es,m=>by
  have⟨a1,a2,a3,a4,a5⟩:=IT j es m;have⟨b1,b2,b3,b4,_⟩:=IT j ((es.drop (2^j)).take (2^j)) (gL j es m).2;have⟨c1,c2,c3,c4⟩:=ZrC ((es.drop (2^j)).take (2^j)) (gL j ((es.drop (2^j)).take (2^j)) (gL j es m).2);have e:2^(j+1)=2*2^j:=by rw[u7];omega
  refine⟨c1.trans (b1.trans a1),c2.trans (b2.trans a2),?_,?_,?_⟩
  .show(vJ _ _).2.next+1<=_
   omega
  .show m.next<=(vJ _ _).2.next
   omega
  .show((gL j es m).1++[_]).length=j+1
   rw[bz,a5];rfl
theorem ZpL (j:Nat) (es:List bm) (m:cP):(oS j es m).2.B.length=m.B.length/\(oS j es m).2.At.length=m.At.length/\(oS j es m).2.next<=m.next+2^j/\m.next<=(oS j es m).2.next:=by
 have⟨a1,a2,a3,a4,_⟩:=IT j es m;have⟨c1,c2,c3,c4⟩:=ZrC es (gL j es m);grind[oS]
theorem Zn5 (l:List bm): ∀(k:Nat),(bY l).drop (k*4)=bY (l.drop k):=by
 induction l with
 |nil=>intro k;simp[bY]
 |cons e l ih=>
  intro k;cases k with
  |zero=>rfl
  |succ k=>
   have e2:bY (e::l)=fk e++bY l:=rfl;rw[e2,show(k+1)*4=(fk e).length+k*4 by show _=4+_;omega,<-jG,DG,ih k];rfl
theorem ZnZ (l:List bm) (k:Nat):(bY l).take (k*4)=bY (l.take k):=by
 induction l generalizing k with
 |nil=>simp[bY]
 |cons e l ih=>
  cases k with
  |zero=>rfl
  |succ k=>
   have e2:bY (e::l)=fk e++bY l:=rfl;rw[e2,show(k+1)*4=(fk e).length+k*4 by show _=4+_;omega,List.take_length_add_append,ih k];rfl
theorem Fz.aeY {es:List bm} (h:Fz s p (bY es)) (k n:Nat) (hk:k+n<=es.length) (hn:0<n):Fz s (cK true p (k*4)) (bY ((es.drop k).take n)):=by
 obtain⟨i,o,rfl⟩:=h.1.cF (by rw[Zu];omega);refine⟨?_,λb o' e=>?_⟩
 .have h1:=h.1.cK (k:=k*4) (by rw[Zu];omega)
  rw[Zn5]at h1;have h2:=h1.lu (n*4);rw[ZnZ]at h2;exact h2
 .have e':some (i,k*4+o)=some (b,o'):=e
  cases e';exact h.2 i o rfl
theorem Zsp {Bd:Zh} (h:HA Bd): ∀(j n:Nat) {i ib ia:Nat} {m:cP} (es:List bm) (p:ai) (st:St),iw st i ib ia m->Fz st p (bY es)->es.length=2^j->(∀e∈es,0<=e.slot/\e.slot<(m.At.length:Int))->j<20->m.next+2^j<=900000->m.B.length<1000000->m.At.length<100000->3000+j<=n->
  Ok (λo=>∃gF,o=(.val [.i (oS j es m).1],gF)/\iw gF i ib ia (oS j es m).2/\Fx [i,ib,ia] st gF) (run Bd n 217 [.ptr (some (i,0)),.slice 4 p es.length] st):=by
 intro j;induction j using Nat.strongRecOn with
 |_ j ih=>
 intro n i ib ia m es p st hm hs hl dI hj Hu hB G5 hn;obtain _|n:=n;omega;rw[Ze,h.afN];unfold Rb sT Gc iT cA Zm N_ Gh mq yj wI Li Gd Gi
 try dsimp only
 have xo:0<es.length:=by rw[hl];exact Nat.two_pow_pos j
 obtain⟨bi,bo,rfl⟩:=hs.1.cF (by rw[Zu];omega);have⟨e0,er,AY⟩: ∃e0 er,es=e0::er:=by
  cases es with
  |nil=>cases xo
  |cons a b=>exact⟨a,b,rfl⟩
 have he0:es[0]? =some e0:=by rw[AY];rfl
 rw[eO,aV,aq,bc,Zb (show aP 0 es.length=true from Zi (i:=0) xo)];have qI: ∀(s:St),Fz s (some (bi,bo)) (bY es)->∀K:ah->M ah,bX bi (0+bo) 4 K s=K (fk e0) s:=λs hs K=>by
  have:=Jf hs.1 he0 K;rwa [oZ]at this
 rw[qI st hs];unfold fk;simp only[av,aq];refine Ok.join λay Bb=>?_
 have⟨T,hT⟩: ∃T,oS j es m=T:=⟨_,rfl⟩;rw[hT];have⟨l1,l2,l3⟩:=hm.lt;refine Zj _ (λq y t=>∃(a z:Nat) (k:ai),y=[.agg [.i e0.slot,.i e0.gen,.i e0.key,.i e0.value,.slice z k (gL a es m).1.length],.i ((2^a:Nat):Int)]/\(z=1\/k=none)/\a<=j/\j-a<=q/\iw t i ib ia (gL a es m).2/\Fx [i,ib,ia] st t/\bg [] t k (ints (gL a es m).1)/\∀b∈aN k,st.length<=b) ?_ j n _ _ ⟨0,0,none,rfl,.inr rfl,cB _,AC,hm,.refl _ _,bg.nil ⟨st,rfl⟩,λ_ h=>by cases h⟩ AC;rintro q _ t ⟨a,z,k,rfl,hz,ha,hq,j8,cU,eL,AW⟩ rec aL;rw[da];simp only[av,Zf 1 z k _ hz,aq];have cd:=hs.kp (hm.kp cU);have⟨g1,g2,g3,g4,g5⟩:=IT a es m;by_cases aw:a<j
 .have h2b:2^(a+1)<=2^j:=oh EQ aw
  have aU:0<2^a:=Nat.two_pow_pos a;have hw:ar (2*((2^a:Nat):Int))=((2^(a+1):Nat):Int):=by rw[Zc];omega
  rw[aX];simp only[hw,br];rw[Zb (by rw[aY,bn,bn];omega),Zb (by rw[aY,bn,bn];omega)];have xr:=cd.aeY (2^a) (2^a) AC aU;have acV:((es.drop (2^a)).take (2^a)).length=2^a:=by rw[cR,eH];omega
  have ER:2^(a+1)-2^a=((es.drop (2^a)).take (2^a)).length:=by rw[acV];omega
  rw[ER];refine Ok.JR (ih a aw n ((es.drop (2^a)).take (2^a)) _ t j8 xr acV (λe he=>by rw[g2];exact dI e (List.mem_of_mem_drop (List.mem_of_mem_take he))) AC AC (by rw[g1];exact hB) (by rw[g2];exact G5) AC) ?_;rintro _ ⟨t1,rfl,mL,mH⟩;refine⟨_,t1,rfl,?_⟩;rw[av,aq];have y7: ∀b∈aN k,b∉[i,ib,ia]:=λb hb lM=>by
   have:=AW b hb;simp only[eM,tW,pj]at lM;omega
  have Pq:=eL.fx mH y7;have⟨b,t2,r1,r2,r3,r4⟩:=Ao (β:=ah) (lim:=8796093022208) Pq (sz:=1) (n:=(gL a es m).1.length) [.i ((oS a ((es.drop (2^a)).take (2^a)) (gL a es m).2).1:Int)] AC (by simp[ints]) rfl;refine Eq.mpr (congrArg (Ok _) (r4 _)) ?_;have fE:=mL.fx r3 λy hy=>by
   have:=AW y hy;omega
  have gk:Fx [i,ib,ia] st t2:=(cU.trans mH).step r3 λy hy=> .inr (AW y hy)
  refine aL (j-(a+1)) _ _ AC ⟨a+1,1,some (b,0),?_,.inl rfl,AC,aM _,fE,gk,?_,λy hy=>?_⟩
  .have⟨_,_,_,_,g6⟩:=IT (a+1) es m
   rw[g5,g6]
  .show bg [] t2 (some (b,0)) (ints ((gL a es m).1++[_]))
   unfold ints;rw[fB];exact r2
  .rw[cE.1 hy]
   have:=(cU.trans mH).1;omega
 .have haj:a=j:=AC
  subst haj;rw[aZ,Bb];show Ok _ (bh [.agg [.i e0.slot,.i e0.gen,.i e0.key,.i e0.value,.slice 1 k (gL a es m).1.length]] _ t);rw[da];simp only[av,aV,aq];refine Ok.cv (Zma n ⟨e0,(gL a es m).1⟩ 1 k t (.inl rfl) eL.sl Fd) λt1 aD=>?_
  rw[bT,aq];obtain _|n:=n;omega;refine Ok.call (Ej n (xJ ⟨e0,(gL a es m).1⟩) t1 (j8.pre aD) AC (by rw[g1];exact hB)) ?_;rintro _ ⟨t2,rfl,fE,gk⟩;refine⟨_,t2,rfl,?_⟩;simp only[av,aq,bc];have fL:Fx [i,ib,ia] st t2:=(cU.trans (Fx.pre _ aD)).trans (gk.mono λy hy=>by simp only[eM,tW,pj]at hy⊢;omega);have Ff:=hs.kp (hm.kp fL);rw[Zo fE.cell rfl,kA,Zb (show aP 0 es.length=true from Zi (i:=0) xo)];have Yf:(bY es)[0]? =some (.i e0.slot):=by rw[AY];rfl
  rw[Ff.1.get Yf,bj];have K4:=dI e0 (by rw[AY];simp);have⟨ks,yZ⟩: ∃ks:Nat,e0.slot=ks:=⟨e0.slot.toNat,AC⟩;have yO:(ll (gL a es m).2 (xJ ⟨e0,(gL a es m).1⟩)).At=(gL a es m).2.At:=rfl;rw[bc,yZ,Zb (show aP (ks:Int) _=true from Zi (by rw[yO,g2];omega)),br,cS,gQ,rk fE.aa (by rw[ints,lB,yO,g2];omega),Zd];have hTe:T=(((gL a es m).2.next, { ll (gL a es m).2 (xJ ⟨e0,(gL a es m).1⟩)with At:=(gL a es m).2.At.set ks ((gL a es m).2.next:Int) }):Nat×cP):=by
   rw[<-hT];unfold oS vJ;rw[AY];simp only;rw[yZ,br]
  rw[hTe];have dp:(ints (ll (gL a es m).2 (xJ ⟨e0,(gL a es m).1⟩)).At).set ks (.i ((gL a es m).2.next:Int))=ints ((gL a es m).2.At.set ks ((gL a es m).2.next:Int)):=by
   rw[yO];unfold ints;rw[List.map_set]
  rw[dp];have⟨m1,m2,m3⟩:=fE.lt;have d2:=fE.d2;have d3:=fE.d3;refine .mk ⟨_,rfl,⟨?_,?_,?_,fE.d1,d2,d3⟩,fL.trans ((Fx.set t2 ia _).mono λy hy=>by rw[cE.1 hy];simp)⟩
  .rw[jH (Ne.symm d2),lU]
   exact fE.cell
  .rw[jH (Ne.symm d3)]
   exact fE.bb
  .exact lA m3
def wH (s:St):ah->List dJ->Prop
 |ds,[]=>ds=[]
 |ds,x::r=>∃z p t,(z=4\/p=none)/\ds=me x z p++t/\Fz s p (bY x.cg)/\wH s t r
theorem wH.kp {s s':St} (k:Kp s s'): ∀ {ds:ah} {xs:List dJ},wH s ds xs->wH s' ds xs
 |_,[],h=>h
 |_,_::_,⟨z,p,t,hz,h1,h2,h3⟩=>⟨z,p,t,hz,h1,h2.kp k,h3.kp k⟩
theorem wH.aK {s:St} : ∀ {ds:ah} {xs:List dJ},wH s ds xs->jo s ds xs
 |_,[],h=>h
 |_,_::_,⟨z,p,t,hz,h1,h2,h3⟩=>⟨z,p,t,hz,h1,h2.1,h3.aK⟩
theorem wH.get {s:St} : ∀ {ds:ah} {xs:List dJ},wH s ds xs->∀ {j:Nat} {x:dJ},xs[j]? =some x->∃z p,(z=4\/p=none)/\ds[j*2]? =some (.str x.name)/\ds[j*2+1]? =some (.slice z p x.cg.length)/\Fz s p (bY x.cg)
 |_,[],_,j,x,e=>by simp at e
 |ds,y::r,⟨zq,q,t,Lh,h1,h2,h3⟩,0,x,e=>by
  simp only[lz,fZ]at e;subst e;subst h1;exact⟨zq,q,Lh,rfl,rfl,h2⟩
 |ds,y::r,⟨zq,q,t,Lh,h1,h2,h3⟩,j+1,x,e=>by
  have⟨z,p,hz,g2,g3,g4⟩:=h3.get (j:=j) (x:=x) (by simpa using e);refine⟨z,p,hz,?_,?_,g4⟩
  .rw[h1,kL (by rw[yg];omega),yg,show(j+1)*2-2=j*2 by omega]
   exact g2
  .rw[h1,kL (by rw[yg];omega),yg,show(j+1)*2+1-2=j*2+1 by omega]
   exact g3
structure BP (s:St) (x:eR) (p1 p2 p3:Option (Nat×Nat)):Prop where
 hp: ∃ds,Fz s p1 ds/\wH s ds x.aK
 gn:Fz s p2 (ints x.aF)
 fr:Fz s p3 (ints x.free)
theorem BP.kp {s s':St} {x:eR} {p1 p2 p3:ai} (h:BP s x p1 p2 p3) (k:Kp s s'):BP s' x p1 p2 p3:=
 let ⟨ds,h1,h2⟩:=h.hp
 ⟨⟨ds,h1.kp k,h2.kp k⟩,h.gn.kp k,h.fr.kp k⟩
theorem BP.str {x:eR} (h:BP s x p1 p2 p3):jK s x p1 p2 p3:=
 let ⟨ds,h1,h2⟩:=h.hp
 ⟨⟨ds,h1.1,h2.aK⟩,h.gn.1,h.fr.1⟩
def qa (cH:Nat):Nat->Nat->ak->List bm->cP->ak×cP
 |0,_,hs,_,m=>(hs,m)
 |c+1,k,hs,rest,m=>bif eI cH k then(λt:Nat×cP=>qa cH c (k+1) (hs.set k (t.1:Int)) (rest.drop (2^k)) t.2) (oS k (rest.take (2^k)) m)else qa cH c (k+1) hs rest m
def roots (es:List bm) (m:cP):ak×cP:=qa es.length 12 0 (List.replicate 12 0) es m
def pP:List dJ->ak->cP->ak×cP
 |[],jw,m=>(jw,m)
 |x::r,jw,m=>(λt:ak×cP=>pP r (jw++[(t.2.next:Int)]) (ll t.2 (zI ⟨x.name,x.cg.length,t.1⟩))) (roots x.cg m)
def rO (l:List dJ) (m:cP):Nat×cP:=(λt:ak×cP=>match yw t.1 with
 |none=>(0,t.2)
 |some s=>(t.2.next,ll t.2 s)) (pP l [] m)
theorem mod_pow_succ (a k:Nat):a%2^(k+1)=a%2^k+(if a/2^k%2=1 then 2^k else 0):=by
 rw[u7,Nat.mod_mul];grind
theorem ZyM {a:Nat} (h:eI a k=true):a%2^k+2^k<=a:=by
 have h1:a/2^k%2=1:=mW h;have h2:a%2^(k+1)<=a:=Nat.mod_le _ _;rw[mod_pow_succ,bG h1]at h2;exact h2
theorem Um (cH:Nat): ∀(c k:Nat) (hs:ak) (rest:List bm) (m:cP),(qa cH c k hs rest m).2.B.length=m.B.length/\(qa cH c k hs rest m).2.At.length=m.At.length/\(qa cH c k hs rest m).2.next+cH%2^k<=m.next+cH%2^(k+c)/\m.next<=(qa cH c k hs rest m).2.next/\(qa cH c k hs rest m).1.length=hs.length
 |0,k,hs,rest,m=>⟨rfl,rfl,aM _,aM _,rfl⟩
 |c+1,k,hs,rest,m=>by
  unfold qa;have e:=mod_pow_succ cH k;have e2:k+(c+1)=k+1+c:=AC
  rw[e2];cases hb:eI cH k with
  |true=>
   rw[ae];have⟨a1,a2,a3,a4⟩:=ZpL k (rest.take (2^k)) m;have⟨b1,b2,b3,b4,b5⟩:=Um cH c (k+1) (hs.set k ((oS k (rest.take (2^k)) m).1:Int)) (rest.drop (2^k)) (oS k (rest.take (2^k)) m).2;rw[bG (mW hb)]at e;grind
  |false=>
   rw[af];have⟨b1,b2,b3,b4,b5⟩:=Um cH c (k+1) hs rest m;rw[bq (FW hb)]at e;omega
theorem ZpF (es:List bm) (m:cP):(roots es m).2.B.length=m.B.length/\(roots es m).2.At.length=m.At.length/\(roots es m).2.next<=m.next+es.length/\m.next<=(roots es m).2.next/\(roots es m).1.length=12:=by
 have⟨b1,b2,b3,b4,b5⟩:=Um es.length 12 0 (List.replicate 12 0) es m;rw[oV]at b5;grind[roots]
def uz (l:List dJ):Nat:=(l.map λx=>x.cg.length).sum
theorem Ux: ∀(l:List dJ) (jw:ak) (m:cP),(pP l jw m).2.B.length=m.B.length/\(pP l jw m).2.At.length=m.At.length/\(pP l jw m).2.next<=m.next+uz l+l.length/\m.next<=(pP l jw m).2.next/\(pP l jw m).1.length=jw.length+l.length
 |[],jw,m=>⟨rfl,rfl,aM _,aM _,rfl⟩
 |x::r,jw,m=>by
  have⟨a1,a2,a3,a4,a5⟩:=ZpF x.cg m;have⟨b1,b2,b3,b4,b5⟩:=Ux r (jw++[((roots x.cg m).2.next:Int)]) (ll (roots x.cg m).2 (zI ⟨x.name,x.cg.length,(roots x.cg m).1⟩));have hn:(ll (roots x.cg m).2 (zI ⟨x.name,x.cg.length,(roots x.cg m).1⟩)).next=(roots x.cg m).2.next+1:=rfl;rw[hn]at b3 b4;have e:uz (x::r)=x.cg.length+uz r:=FS
  unfold pP;refine⟨b1.trans ((vr _ _).trans a1),b2.trans a2,?_,?_,?_⟩
  .rw[e,cQ];simp only;omega
  .simp only;omega
  grind
theorem ZwX (l:List dJ) (m:cP):(rO l m).2.B.length=m.B.length/\(rO l m).2.At.length=m.At.length/\(rO l m).2.next<=m.next+uz l+l.length+1/\m.next<=(rO l m).2.next:=by
 have⟨a1,a2,a3,a4,a5⟩:=Ux l [] m;unfold rO;simp only;cases yw (pP l [] m).1 with
 |none=>grind
 |some s=>exact⟨(vr _ _).trans a1,a2,by show _+1<=_;omega,by show _<=_+1;omega⟩
theorem ZyU (a k:Nat) (hk:k<64):(((a:Int).fdiv (2^(min k 64))).tmod 2==1)=eI a k:=by
 rw[og AC,show((2:Int)^k)=((2^k:Nat):Int) by push_cast;rfl,uh];have e:((a/2^k:Nat):Int).tmod 2=((a/2^k%2:Nat):Int):=rfl;rw[e];grind[eI]
theorem ZyV {Bd:Zh} (hT:HA Bd) {Kn:ah->M ah} (n:Nat) (nm:aj) (es:List bm) (p:ai) (z0:Nat) (xw:z0=4\/p=none) (st:St) (hm:iw st i ib ia m) (hs:Fz st p (bY es)) (dI: ∀e∈es,0<=e.slot/\e.slot<(m.At.length:Int)) (Hu:m.next+es.length<=800000) (hB:m.B.length<1000000) (G5:m.At.length<100000) (hle:es.length<100000) (hn:3020<=n)
  (aO: ∀t,iw t i ib ia (roots es m).2->Fx [i,ib,ia] st t->Ok Q (Kn [.agg (.str nm:: .i (es.length:Int)::ints (roots es m).1)] t)):
  Ok Q (cY (λdC st=>
    bh st λcI st=>
    fa cI λq2 r3=>
    aC .i64 r3 λq3 r4=>
    bC r4 12<|
    bU 4 st λrest Bt st=>
    aC .i64 st λk st=>
    aI st<|
    bif decide (k<12)then
     aB (decide (0<=k))<|
     cT (λst=>
      bh st λfK st=>
      fa fK λq4 r5=>
      aC .i64 r5 λq5 r6=>
      bC r6 12<|
      bU 4 st λaaN aaO st=>
      aI st<|
      dC [.agg ((.str q4)::(.i q5)::r6),.slice 4 aaN aaO,.i (ar (k+1))]) λbA=>
     bif ((q3.fdiv (2^(min k.toNat 64))).tmod 2)==1 then
      aB (decide (0<=k))<|
      aB (decide (0<=ar (1*2^(min k.toNat 64)))&&decide (ar (1*2^(min k.toNat 64))<=(Bt:Int)))<|
      cV (run Bd n 217 [.ptr (some (i,0)),.slice 4 rest ((ar (1*2^(min k.toNat 64))).toNat)]) λds=>
      aC .i64 ds λx8 ds=>
      aI ds<|
      aB (aP k 12)<|
      aB (Nat.ble (k.toNat*1+2+1) 14)<|
      aB (decide (0<=k))<|
      aB (decide (0<=ar (1*2^(min k.toNat 64)))&&decide (ar (1*2^(min k.toNat 64))<=(Bt:Int)))<|
      bA [.agg ((.str q2)::(.i q3)::(cG r4 (k.toNat*1) [.i x8])),.slice 4 (cK true rest (((ar (1*2^(min k.toNat 64))).toNat)*4)) (Bt-((ar (1*2^(min k.toNat 64))).toNat))]
     else
      bA [.agg ((.str q2)::(.i q3)::r4),.slice 4 rest Bt]
    else
     Kn [.agg ((.str q2)::(.i q3)::r4)]) n [.agg (.str nm:: .i (es.length:Int)::ints (List.replicate 12 0)),.slice z0 p es.length,.i 0] st):=by
 have⟨G,hG⟩: ∃G,roots es m=G:=⟨_,rfl⟩;rw[hG]at aO;unfold roots at hG;refine Zj _ (λq y t=>∃(k z:Nat) (p':ai) (iY:ak) (m':cP),y=[.agg (.str nm:: .i (es.length:Int)::ints iY),.slice z p' (es.length-es.length%2^k),.i (k:Int)]/\(z=4\/p'=none)/\k<=12/\12-k<=q/\iY.length=12/\iw t i ib ia m'/\Fx [i,ib,ia] st t/\Fz t p' (bY (es.drop (es.length%2^k)))/\m'.next<=m.next+es.length%2^k/\m'.B.length=m.B.length/\m'.At.length=m.At.length/\qa es.length (12-k) k iY (es.drop (es.length%2^k)) m'=G) ?_ 12 n _ _ ⟨0,z0,p,List.replicate 12 0,m,by rw[Nat.pow_zero,Nat.mod_one,BL];rfl,xw,cB _,AC,oV,hm,.refl _ _,by rw[Nat.pow_zero,Nat.mod_one,dE];exact hs,AC,rfl,rfl,by rw[Nat.pow_zero,Nat.mod_one,dE];exact hG⟩ AC;rintro q _ t ⟨k,z,p',iY,m',rfl,hzp,hk,hq,EO,j8,cU,cL,Hv,CO,CN,ez⟩ rec aL;have iz:(ints iY).length=12:=by simp[ints,EO]
 rw[da,bT,av,bK iz,Zf 4 z p' _ hzp,av,aq];by_cases aw:k<12
 .have hw:ar ((k:Int)+1)=((k+1:Nat):Int):=Zc
  have h2k:2^k<=2^11:=oh EQ AC;have K5:ar (1*2^(min k 64))=((2^k:Nat):Int):=by
   rw[og AC,Int.one_mul,show((2:Int)^k)=((2^k:Nat):Int) by push_cast;rfl];exact Zc
  rw[aX,Zb (aS AC)];simp only[br,K5,hw];rw[Za,ZyU _ _ AC];have Xr:12-k=(12-(k+1))+1:=AC
  rw[Xr]at ez;unfold qa at ez;have emod:=mod_pow_succ es.length k;cases hb:eI es.length k with
  |true=>
   rw[hb,ae]at ez;have pW:=ZyM hb;rw[bG (mW hb)]at emod;rw[ae,Zb (aS AC),Zb (by rw[aY,bn,bn];omega)];have⟨A,hA⟩: ∃A,es.drop (es.length%2^k)=A:=⟨_,rfl⟩;have yO:A.length=es.length-es.length%2^k:=by rw[<-hA,eH]
   rw[hA]at cL ez;have hAk:(A.take (2^k)).length=2^k:=by rw[cR];omega
   have xr:Fz t p' (bY (A.take (2^k))):=⟨by
    have:=cL.1.lu (2^k*4);rwa [ZnZ]at this,cL.2⟩
   have uE:(DV.slice 4 p' (2^k))= .slice 4 p' (A.take (2^k)).length:=by rw[hAk]
   rw[uE];refine Ok.call (Zsp hT k n (A.take (2^k)) p' t j8 xr hAk (λe he=>by rw[CN];grind) AC AC (by rw[CO];exact hB) (by rw[CN];exact G5) AC) ?_;rintro _ ⟨t1,rfl,mL,mH⟩;refine⟨_,t1,rfl,?_⟩;rw[av,aq,Zb (show aP (k:Int) 12=true from Zi aw),Z5 AC,Zb (aS AC),Zb (by rw[aY,bn,bn];omega)];have⟨k1,k2,k3,k4⟩:=ZpL k (A.take (2^k)) m';have dp:cG (ints iY) (k*1) [.i ((oS k (A.take (2^k)) m').1:Int)]=ints (iY.set k ((oS k (A.take (2^k)) m').1:Int)):=by
    rw[cS,Ce _ _ _ AC];unfold ints;rw[List.map_set]
   rw[dp];have Hw:(ints (iY.set k ((oS k (A.take (2^k)) m').1:Int))).length=12:=by simp[ints,EO]
   show Ok _ (bh [.agg (.str nm:: .i (es.length:Int)::ints (iY.set k ((oS k (A.take (2^k)) m').1:Int))),.slice 4 (cK true p' (2^k*4)) (es.length-es.length%2^k-2^k)] _ t1);rw[da,bT,av,bK Hw,aV,aq];have Y0:=cL.kp (j8.kp mH);have gj:es.drop (es.length%2^(k+1))=A.drop (2^k):=by rw[<-hA,jG,emod]
   have hlen:es.length-es.length%2^(k+1)=es.length-es.length%2^k-2^k:=AC
   refine aL (12-(k+1)) _ _ AC ⟨k+1,4,cK true p' (2^k*4),_,_,by rw[hlen],.inl rfl,AC,aM _,by rw[lU,EO],mL,cU.trans mH,?_,AC,k1.trans CO,k2.trans CN,by rw[gj];exact ez⟩;rw[gj];refine⟨?_,?_⟩
   .have:=Y0.1.cK (k:=2^k*4) (by rw[Zu];omega)
    rwa [Zn5]at this
   .obtain⟨bi,bo,rfl⟩:=Y0.1.cF (by rw[Zu];omega)
    intro b o' e;have e':some (bi,2^k*4+bo)=some (b,o'):=e;cases e';exact Y0.2 bi bo rfl
  |false=>
   rw[hb,af]at ez;rw[bq (FW hb),gQ]at emod;rw[af];show Ok _ (bh [.agg (.str nm:: .i (es.length:Int)::ints iY),.slice 4 p' (es.length-es.length%2^k)] _ t);rw[da,bT,av,bK iz,aV,aq];exact aL (12-(k+1)) _ _ AC ⟨k+1,4,p',iY,m',by rw[emod];rfl,.inl rfl,AC,aM _,EO,j8,cU,by rw[emod];exact cL,by rw[emod];exact Hv,CO,CN,by rw[emod];exact ez⟩
 .have:k=12:=AC
  subst this;rw[aZ];have hG2:(iY,m')=G:=ez;rw[<-hG2]at aO;exact aO t j8 cU
theorem dY (cs r:ah) (K:ah->ah->M β):bh (.agg cs::r) K=K cs r:=rfl
theorem Ztl (n:Nat) (l:List dJ) (p:ai) (z:Nat) (ds:ah) (st:St) (hz:z=2\/p=none) (hm:iw st i ib ia m) (hs:Fz st p ds) (hh:wH st ds l) (dI: ∀x∈l,∀e∈x.cg,0<=e.slot/\e.slot<(m.At.length:Int)) (xm: ∀x∈l,x.name.length+600<=n/\x.name.length<60000/\x.cg.length<100000) (Hu:m.next+uz l+l.length<=700000) (hl:l.length<1000) (hB:m.B.length<1000000) (G5:m.At.length<100000) (hn:4000<=n):
  Ok (λo=>∃gF,o=(.val [.i (rO l m).1],gF)/\iw gF i ib ia (rO l m).2/\Fx [i,ib,ia] st gF) (run Bd n 189 [.ptr (some (i,0)),.slice z p l.length] st):=by
 obtain⟨n,rfl⟩: ∃k,n=k+2:=⟨n-2,AC⟩;rw[Ze,h.afo];unfold RB fJ ve cA kB vo N_ iT cW ba Li wI ep F4 iH
 try dsimp only
 rw[eO,Zf 2 z p _ hz,aq];have⟨T,hT⟩: ∃T,rO l m=T:=⟨_,rfl⟩;rw[hT];unfold rO at hT;have⟨l1,l2,l3⟩:=hm.lt;refine Ok.join λay Bb=>?_
 refine Zj _ (λq y t=>∃(k zk:Nat) (a:ai) (jw:ak) (m':cP),y=[.slice zk a jw.length,.i (k:Int)]/\(zk=1\/a=none)/\k<=l.length/\l.length-k<=q/\iw t i ib ia m'/\Fx [i,ib,ia] st t/\bg [] t a (ints jw)/\(∀b∈aN a,st.length<=b)/\jw.length=k/\m'.B.length=m.B.length/\m'.At.length=m.At.length/\m'.next+uz (l.drop k)+(l.length-k)<=m.next+uz l+l.length/\pP (l.drop k) jw m'=pP l [] m) ?_ l.length (n+1) _ _ ⟨0,0,none,[],m,rfl,.inr rfl,cB _,AC,hm,.refl _ _,bg.nil ⟨st,rfl⟩,(λ_ h=>by cases h),rfl,rfl,rfl,aM _,rfl⟩ AC;rintro q _ t ⟨k,zk,a,jw,m',rfl,hzk,hk,hq,j8,cU,mN,qD,xc,CO,CN,Hv,aO⟩ rec aL;simp only[av,Zf 1 zk a _ hzk,aq];have rZ:=hm.kp cU;have cd:=hs.kp rZ;have hht:=hh.kp rZ;by_cases aw:k<l.length
 .have pU:=hht.aK.len
  obtain⟨bi,bo,rfl⟩:=cd.1.cF (by rw[pU];omega);have np:l[k]? =some l[k]:=cu aw;have gj:l.drop k=l[k]::l.drop (k+1):=jd aw;have gY:l[k]∈l:=ku aw;rw[gj]at aO Hv;generalize l[k]=x at np aO Hv gY;have⟨zx,px,hzx,oG,qG,mH⟩:=hht.get np;have vO:uz (x::l.drop (k+1))=x.cg.length+uz (l.drop (k+1)):=by unfold uz;rw[oe,List.sum_cons]
  rw[vO]at Hv;have qI: ∀K:DV->M ah,bD bi (k*2+bo+1) K t=K (.slice zx px x.cg.length) t:=λK=>by
   have:=cd.1.get qG K;rw[<-this];congr 1;omega
  rw[aX,Za,bc,Zb (Zi aw),br,cd.1.get oG,xX,bc,Zb (Zi aw),qI,Z3 4 zx px _ hzx,bc,Zb (Zi aw),qI,Z3 4 zx px _ hzx];refine Ok.join λaW C7=>?_
  have⟨n1,n2,n3⟩:=xm x gY;refine ZyV h (n+1) x.name x.cg px 4 (.inl rfl) t j8 mH Fd AC AC AC n3 AC (Kn:=aW) ?_;intro t1 mL gk;rw[C7];have⟨k1,k2,k3,k4,k5⟩:=ZpF x.cg m';have iz:(ints (roots x.cg m').1).length=12:=by simp[ints,k5]
  show Ok _ (bh [.agg (.str x.name:: .i (x.cg.length:Int)::ints (roots x.cg m').1)] _ t1);rw[da,bT,av,bK iz,aq];refine Ok.cv (Zmy (n+1) ⟨x.name,x.cg.length,(roots x.cg m').1⟩ k5 n2 t1 Fd) λt2 aU=>?_
  rw[bT,aq];refine Ok.call (Ej n (zI ⟨x.name,x.cg.length,(roots x.cg m').1⟩) t2 (mL.pre aU)) ?_;rintro _ ⟨t3,rfl,tA,fL⟩;refine⟨_,t3,rfl,?_⟩;rw[av,aq];have hw:ar ((k:Int)+1)=((k+1:Nat):Int):=Zc;rw[hw];have tx:Fx [i,ib,ia] t t3:=(gk.trans (Fx.pre _ aU)).trans (fL.mono λy hy=>by simp only[eM,tW,pj]at hy⊢;omega);have y7: ∀b∈aN a,b∉[i,ib,ia]:=λb hb lM=>by
   have:=qD b hb;simp only[eM,tW,pj]at lM;omega
  have EW:=mN.fx tx y7;have⟨b,t4,r1,r2,r3,r4⟩:=Ao (β:=ah) (lim:=8796093022208) EW (sz:=1) (n:=jw.length) [.i ((roots x.cg m').2.next:Int)] AC (by simp[ints]) rfl;refine Eq.mpr (congrArg (Ok _) (r4 _)) ?_;simp only[aV,aq];have Be:=tA.fx r3 λy hy=>by
   have:=qD y hy;omega
  refine aL (l.length-(k+1)) _ _ AC ⟨k+1,1,some (b,0),jw++[((roots x.cg m').2.next:Int)],_,?_,.inl rfl,AC,aM _,Be,(cU.trans tx).step r3 λy hy=> .inr (qD y hy),?_,λy hy=>?_,?_,(vr _ _).trans (k1.trans CO),k2.trans CN,?_,aO⟩
  .rw[bz];rfl
  .unfold ints
   rw[fB];exact r2
  .rw[cE.1 hy]
   have:=(cU.trans tx).1;omega
  .rw[bz,xc];rfl
  .show(roots x.cg m').2.next+1+_+_<=_
   omega
 .rw[aZ,Bb]
  rw[ly AC]at aO;have ez:pP l [] m=(jw,m'):=aO.symm;rw[ez]at hT;simp only at hT;have⟨d1,d2,d3,d4,d5⟩:=Ux l [] m;rw[ez]at d3;simp only at d3;simp only[aV,aq];refine Ok.cv (Zm5 (n+1) jw 1 a t (.inl rfl) mN.sl) λt1 aD=>?_
  cases Dc:yw jw with
  |none=>
   rw[Dc]at hT;unfold zL;rw[bT,au,aq,bp,ae,Zd,<-hT];exact .mk ⟨t1,rfl,j8.pre aD,cU.trans (Fx.pre _ aD)⟩
  |some s=>
   rw[Dc]at hT;unfold zL;rw[bT,au,aq,bw,af];refine Ok.call (Ej n s t1 (j8.pre aD)) ?_;rintro _ ⟨t2,rfl,fE,gk⟩;refine⟨_,t2,rfl,?_⟩;rw[av,aq,Zd,<-hT];exact .mk ⟨t2,rfl,fE,(cU.trans (Fx.pre _ aD)).trans (gk.mono λy hy=>Fd)⟩
theorem ZrM: ∀(l:List bB) (i:Nat) (x:bB),i<l.length->cG (ca l) (i*3) (eV x)=ca (l.set i x)
 |[],i,x,h=>by cases h
 |y::l,0,x,h=>by
  rw[oZ];exact sV [] (eV y) (ca l) (eV x) rfl
 |y::l,i+1,x,h=>by
  have e:=ZrM l i x (by simpa using h);rw[wG];show(.bool y.live:: .i y.gen:: .i y.block::cG (ca l) (i*3) (eV x):ah)=_;rw[e];rfl
theorem ZoD: ∀(l:List bB) (i:Nat) (x:bB) (b:Bool),l[i]? =some x->cG (ca l) (i*3) [.bool b]=ca (l.set i { x with live:=b })
 |[],i,x,b,h=>by simp at h
 |y::l,0,x,b,h=>by
  simp only[lz,fZ]at h;subst h;rw[oZ];rfl
 |y::l,i+1,x,b,h=>by
  have e:=ZoD l i x b (by simpa using h);rw[wG];show(.bool y.live:: .i y.gen:: .i y.block::cG (ca l) (i*3) [.bool b]:ah)=_;rw[e];rfl
theorem Ul: ∀(l:List bB) (i:Nat) (x:bB) (b:Int),l[i]? =some x->cG (ca l) (i*3+2) [.i b]=ca (l.set i { x with block:=b })
 |[],i,x,b,h=>by simp at h
 |y::l,0,x,b,h=>by
  simp only[lz,fZ]at h;subst h;rw[oZ];exact sV [.bool y.live,.i y.gen] [.i y.block] (ca l) [.i b] rfl
 |y::l,i+1,x,b,h=>by
  have e:=Ul l i x b (by simpa using h);rw[wG,Nat.add_right_comm];show(.bool y.live:: .i y.gen:: .i y.block::cG (ca l) (i*3+2) [.i b]:ah)=_;rw[e];rfl
def yB (k:Int):ak->Int->Int
 |a::b::r,c=>yB k (b::r) (bif a==k then ar (b+1)else c)
 |_,c=>c
def LL (aF At free:ak) (k:Nat):bB:=⟨!(At.getD k 0==0),aF.getD k 0,yB (k:Int) free (At.getD k 0)⟩
theorem Zz6 {Kn:ah->M ah} (n:Nat) (free:ak) (pf:ai) (K i:Nat) (l:List bB) (x:bB) (s:St) (hf:Sl s pf (ints free)) (hl:l.length=7) (hi:i<7) (hx:l[i]? =some x) (eE:free.length<100000) (hn:free.length+1<n)
  (aO:Ok Q (Kn [.agg (ca (l.set i { x with block:=yB (K:Int) free x.block }))] s)):
  Ok Q (cY (λLJ st=>
       bh st λpO st=>
      bC pO 21<|
      aC .i64 st λk1 st=>
      aI st<|
      bif decide (ar (k1+1)<(free.length:Int))then
       bJ pf λi7 o4=>
      aB (aP k1 free.length)<|
      bD i7 (k1.toNat*1+o4) λd4=>
      de .i64 d4 λik=>
      cT (λst=>
       bh st λCF st=>
      bC CF 21<|
      aI st<|
      LJ [.agg CF,.i (ar (k1+1))]) λnR=>
      bif ik==(K:Int)then
       bJ pf λi8 o5=>
      aB (aP (ar (k1+1)) free.length)<|
      bD i8 (((ar (k1+1)).toNat)*1+o5) λd5=>
      de .i64 d5 λjn=>
      aB (aP (i:Int) 7)<|
      aB (Nat.ble (i*3+2+1) 21)<|
      nR [.agg (cG pO (i*3+2) [.i (ar (jn+1))])]
      else
       nR [.agg pO]
      else
       Kn [.agg pO]) n [.agg (ca l),.i 0] s):=by
 have ajv:l.set i { x with block:=x.block } =l:=by
  have Hm:i<l.length:=AC
  rw[cu Hm]at hx;cases hx;simp
 have⟨G,hG⟩: ∃G,yB (K:Int) free x.block=G:=⟨_,rfl⟩;rw[hG]at aO;refine Zj _ (λq y t=>∃(k:Nat) (c:Int),y=[.agg (ca (l.set i { x with block:=c })),.i (k:Int)]/\k<=free.length/\free.length-k<=q/\t=s/\yB (K:Int) (free.drop k) c=G) ?_ free.length n _ _ ⟨0,x.block,by rw[ajv];rfl,cB _,AC,rfl,hG⟩ AC;rintro q _ t ⟨k,c,rfl,hk,hq,rfl,ez⟩ rec aL;have cO:(ca (l.set i { x with block:=c })).length=21:=by rw[ZB,lU,hl]
 have hw:ar ((k:Int)+1)=((k+1:Nat):Int):=Zc;rw[da,bK cO,av,aq,hw];by_cases aw:k+1<free.length
 .have kX:k<free.length:=AC
  have uH:free.drop k=free[k]::free.drop (k+1):=jd kX;have ji:free.drop (k+1)=free[k+1]::free.drop (k+2):=jd aw;rw[uH,ji]at ez;unfold yB at ez;rw[<-ji]at ez;obtain⟨bi,bo,rfl⟩:=hf.cF (by simp[ints];omega);have oG:(ints free)[k]? =some (.i free[k]):=ZC kX;have qG:(ints free)[k+1]? =some (.i free[k+1]):=ZC aw;rw[aX,bc,Zb (Zi kX)];simp only[br];rw[hf.dO oG,bj,Za];cases he:(free[k]==(K:Int))with
  |false=>
   rw[he,af]at ez;rw[af];show Ok _ (bh [.agg (ca (l.set i { x with block:=c }))] _ t);rw[da,bK cO,aq];exact aL (free.length-(k+1)) _ _ AC Fd
  |true=>
   rw[he,ae]at ez;rw[ae,bc,Zb (Zi aw),hf.dO qG,bj,Zb (show aP (i:Int) 7=true from Zi hi),Z5 AC];have iZ:cG (ca (l.set i { x with block:=c })) (i*3+2) [.i (ar (free[k+1]+1))]=ca (l.set i { x with block:=ar (free[k+1]+1) }):=by
    rw[Ul _ i { x with block:=c } _ (by rw[lA AC]),List.set_set]
   rw[iZ];have Kj:(ca (l.set i { x with block:=ar (free[k+1]+1) })).length=21:=by rw[ZB,lU,hl]
   show Ok _ (bh [.agg (ca (l.set i { x with block:=ar (free[k+1]+1) }))] _ t);rw[da,bK Kj,aq];exact aL (free.length-(k+1)) _ _ AC Fd
 .rw[aZ]
  have:yB (K:Int) (free.drop k) c=c:=by
   have jM:(free.drop k).length<=1:=by rw[eH];omega
   cases hdk:free.drop k with
   |nil=>unfold yB;rfl
   |cons a r=>
    rw[hdk]at jM;have:r=[]:=zW.1 (by rw[cQ]at jM;omega);subst this;unfold yB;rfl
  rw[this]at ez;rw[ez];exact aO
def oN (aF At free:ak) (f i:Nat):List bB:=(List.range 7).map λt=>bif decide (t<i)&&decide (f+t<aF.length)then LL aF At free (f+t)else gZ
def xz (aF At free:ak) (f:Nat):List bB:=oN aF At free f 7
theorem B4 (aF At free:ak) (f i:Nat):(oN aF At free f i).length=7:=by unfold oN;simp
theorem ZrN (aF At free:ak) (f i t:Nat) (h:t<7):(oN aF At free f i)[t]? =some (bif decide (t<i)&&decide (f+t<aF.length)then LL aF At free (f+t)else gZ):=by
 grind[oN]
theorem Zv3 (aF At free:ak) (f i:Nat) (hi:i<7) (hf:f+i<aF.length):oN aF At free f (i+1)=(oN aF At free f i).set i (LL aF At free (f+i)):=by
 refine tU λt=>?_
 by_cases ht:t<7
 .rw[ZrN _ _ _ _ _ _ ht]
  by_cases h:t=i
  .subst h
   rw[lA (by rw[B4];exact ht),aS (AC:t<t+1),aS hf];rfl
  .rw[jH AC,ZrN _ _ _ _ _ _ ht]
   grind
 .rw[H8 (by rw[B4];omega),H8 (by rw[lU,B4];omega)]
theorem Zwl (aF At free:ak) (f i:Nat) (h:aF.length<=f+i):oN aF At free f i=xz aF At free f:=by
 unfold xz oN;refine L9 λt ht=>?_
 by_cases h2:f+t<aF.length
 .rw[aS (AC:t<i),aS (uY.1 ht)]
 grind
theorem Zv9 (aF At free:ak) (f:Nat):oN aF At free f 0=nS:=by
 rfl
theorem Zyx {Kn:ah->M ah} (n:Nat) (aF free:ak) (pg pf:ai) (f:Nat) (s:St) (hm:iw s i ib ia m) (hg:Sl s pg (ints aF)) (dW:Sl s pf (ints free)) (jx:aF.length<100000) (eE:free.length<100000) (G5:m.At.length=aF.length) (hf:f<100000) (hn:free.length+10<n) (xk:10<n)
  (aO:Ok Q (Kn [.agg (ca (xz aF m.At free f))] s)):
  Ok Q (cY (λDu st=>
    bh st λwY st=>
    bC wY 21<|
    aC .i64 st λi3 st=>
    aI st<|
    cT (λst=>gK st λb3 st=>aI st<|
     bif b3 then
      cT (λst=>
       bh st λJV st=>
      bC JV 21<|
      aI st<|
      Du [.agg JV,.i (ar (i3+1))]) λkG=>
      bJ pg λi4 o1=>
      aB (aP (ar ((f:Int)+i3)) aF.length)<|
      bD i4 (((ar ((f:Int)+i3)).toNat)*1+o1) λd1=>
      de .i64 d1 λfI=>
      aB (aP i3 7)<|
      aB (Nat.ble (i3.toNat*3+3) 21)<|
      bJ (some (i,0)) λi5 o2=>
      bD i5 (o2+2) λd2=>
      dz 1 d2 λgH wz=>
      bJ gH λi6 o3=>
      aB (aP (ar ((f:Int)+i3)) wz)<|
      bD i6 (((ar ((f:Int)+i3)).toNat)*1+o3) λd3=>
      de .i64 d3 λij=>
      cT (λst=>
       bh st λEw st=>
      bC Ew 21<|
      aI st<|
      cT (λst=>
       bh st λJU st=>
      bC JU 21<|
      aI st<|
      kG [.agg JU]) λqM=>
      cY (λLJ st=>
       bh st λpO st=>
      bC pO 21<|
      aC .i64 st λk1 st=>
      aI st<|
      bif decide (ar (k1+1)<(free.length:Int))then
       bJ pf λi7 o4=>
      aB (aP k1 free.length)<|
      bD i7 (k1.toNat*1+o4) λd4=>
      de .i64 d4 λik=>
      cT (λst=>
       bh st λCF st=>
      bC CF 21<|
      aI st<|
      LJ [.agg CF,.i (ar (k1+1))]) λnR=>
      bif ik==(ar ((f:Int)+i3))then
       bJ pf λi8 o5=>
      aB (aP (ar (k1+1)) free.length)<|
      bD i8 (((ar (k1+1)).toNat)*1+o5) λd5=>
      de .i64 d5 λjn=>
      aB (aP i3 7)<|
      aB (Nat.ble (i3.toNat*3+2+1) 21)<|
      nR [.agg (cG pO (i3.toNat*3+2) [.i (ar (jn+1))])]
      else
       nR [.agg pO]
      else
       qM [.agg pO]) n [.agg Ew,.i 0]) λlh=>
      bif !(ij==0)then
       aB (aP i3 7)<|
      aB (Nat.ble (i3.toNat*3+1) 21)<|
      bJ (some (i,0)) λi9 o6=>
      bD i9 (o6+2) λd6=>
      dz 1 d6 λmT abc=>
      bJ mT λi10 o7=>
      aB (aP (ar ((f:Int)+i3)) abc)<|
      bD i10 (((ar ((f:Int)+i3)).toNat)*1+o7) λd7=>
      de .i64 d7 λqg=>
      aB (aP i3 7)<|
      aB (Nat.ble (i3.toNat*3+2+1) 21)<|
      lh [.agg (cG (cG (cG wY (i3.toNat*3) [.bool false,.i fI,.i 0]) (i3.toNat*3) [.bool true]) (i3.toNat*3+2) [.i qg])]
      else
       lh [.agg (cG wY (i3.toNat*3) [.bool false,.i fI,.i 0])]
     else
      Kn [.agg wY]) λiO=>
    bif decide (i3<7)then
     iO [.bool (decide (ar ((f:Int)+i3)<(aF.length:Int)))]
    else
     iO [.bool false]) n [.agg (ca nS),.i 0] s):=by
 refine Zj _ (λq y t=>∃(a:Nat),y=[.agg (ca (oN aF m.At free f a)),.i (a:Int)]/\a<=7/\7-a<=q/\t=s) ?_ 7 n _ _ ⟨0,by rw[Zv9];rfl,cB _,AC,rfl⟩ AC;rintro q _ t ⟨a,rfl,ha,hq,rfl⟩ rec aL;have cO:(ca (oN aF m.At free f a)).length=21:=by rw[ZB,B4]
 rw[da,bK cO,av,aq];have hw:ar ((f:Int)+(a:Int))=((f+a:Nat):Int):=Zc;have cM:ar ((a:Int)+1)=((a+1:Nat):Int):=Zc;simp only[hw,cM,br];refine Ok.join λiO O9=>?_
 have mO:oN aF m.At free f a=xz aF m.At free f->Ok Q (iO [.bool false] t):=λe=>by
  rw[O9];simp only[au,aq];rw[af,e];exact aO
 by_cases h7:a<7
 .rw[aX]
  by_cases aw:f+a<aF.length
  .rw[aS (AC:((f+a:Nat):Int)<(aF.length:Int)),O9]
   simp only[au,aq];rw[ae];refine Ok.join λkG Yq=>?_
   obtain⟨bi,bo,rfl⟩:=hg.cF (by simp[ints];omega);have xj:(ints aF)[f+a]? =some (.i aF[f+a]):=ZC aw;rw[bc,Zb (Zi aw),hg.dO xj,bj,Zb (show aP (a:Int) 7=true from Zi h7),Z5 AC,bc,Zo hm.cell rfl,kA];have Pe:f+a<m.At.length:=AC
   have Yv: ∀K:DV->M ah,bD ia ((f+a)*1+0) K t=K (.i m.At[f+a]) t:=λK=>Zo hm.aa (by rw[cS,gQ];exact ZC Pe) K
   rw[bc,Zb (Zi Pe),Yv,bj];have⟨L,hL⟩: ∃L,oN aF m.At free f a=L:=⟨_,rfl⟩;have hLl:L.length=7:=by rw[<-hL];exact B4 _ _ _ _ _
   have hsB:LL aF m.At free (f+a)=⟨!(m.At[f+a]==0),aF[f+a],yB ((f+a:Nat):Int) free m.At[f+a]⟩:=by
    unfold LL;rw[ef,cu Pe,ef,cu aw];rfl
   have sd:=Zv3 aF m.At free f a h7 aw;rw[hL,hsB]at sd;rw[hL]at cO⊢;generalize m.At[f+a]=at' at Yv sd;generalize aF[f+a]=g at xj sd;refine Ok.join λlh air=>?_
   have hA:Ok Q (lh [.agg (ca (L.set a ⟨!(at'==0),g,at'⟩))] t):=by
    rw[air];have Kj:(ca (L.set a ⟨!(at'==0),g,at'⟩)).length=21:=by rw[ZB,lU,hLl]
    show Ok _ (bh [.agg (ca (L.set a ⟨!(at'==0),g,at'⟩))] _ t);rw[da,bK Kj,aq];refine Ok.join λqM ais=>?_
    refine Zz6 n free pf (f+a) a (L.set a ⟨!(at'==0),g,at'⟩) ⟨!(at'==0),g,at'⟩ t dW (by rw[lU,hLl]) h7 (by rw[lA AC]) eE AC (Kn:=qM) ?_;rw[List.set_set,<-sd,ais];have acb:(ca (oN aF m.At free f (a+1))).length=21:=by rw[ZB,B4]
    show Ok _ (bh [.agg (ca (oN aF m.At free f (a+1)))] _ t);rw[da,bK acb,aq,Yq];show Ok _ (bh [.agg (ca (oN aF m.At free f (a+1)))] _ t);rw[da,bK acb,aq];exact aL (7-(a+1)) _ _ AC Fd
   have eY:cG (ca L) (a*3) [.bool false,.i g,.i 0]=ca (L.set a ⟨false,g,0⟩):=ZrM L a ⟨false,g,0⟩ AC;cases h0:(at'==0)with
   |true=>
    grind
   |false=>
    rw[h0]at hA;rw[bp,ae,Zb (show aP (a:Int) 7=true from Zi h7),Z5 AC,bc,Zo hm.cell rfl,kA,bc,Zb (Zi Pe),Yv,bj,Zb (show aP (a:Int) 7=true from Zi h7),Z5 AC,eY,ZoD _ a ⟨false,g,0⟩ true (by rw[lA AC]),List.set_set,Ul _ a ⟨true,g,0⟩ at' (by rw[lA AC]),List.set_set];exact hA
  .rw[bM (AC:¬((f+a:Nat):Int)<(aF.length:Int))]
   exact mO (Zwl _ _ _ _ _ AC)
 .rw[aZ]
  have:a=7:=AC
  subst this;exact mO rfl
def xN (o:Option (aj)):aj:=o.getD []
theorem Vz (o:Option (aj)):zL o=[.str (xN o),.bool o.isSome]:=by cases o<;>rfl
def rR (leaves:ak) (i k:Nat):ak:=(List.range 16).map λt=>bif decide (t<k)&&decide (16*i+t<leaves.length)then leaves.getD (16*i+t) 0 else 0
def wZ (leaves:ak) (i:Nat):ak:=rR leaves i 16
theorem Gt (leaves:ak) (i k:Nat):(rR leaves i k).length=16:=by unfold rR;simp
theorem ZsJ (leaves:ak) (i k t:Nat) (h:t<16):(rR leaves i k)[t]? =some (bif decide (t<k)&&decide (16*i+t<leaves.length)then leaves.getD (16*i+t) 0 else 0):=by
 grind[rR]
theorem Zwv (leaves:ak) (i k:Nat) (hk:k<16) (hf:16*i+k<leaves.length):rR leaves i (k+1)=(rR leaves i k).set k (leaves.getD (16*i+k) 0):=by
 refine tU λt=>?_
 by_cases ht:t<16
 .rw[ZsJ _ _ _ _ ht]
  by_cases h:t=k
  .subst h
   rw[lA (by rw[Gt];exact ht),aS (AC:t<t+1),aS hf];rfl
  .rw[jH AC,ZsJ _ _ _ _ ht]
   grind
 .rw[H8 (by rw[Gt];omega),H8 (by rw[lU,Gt];omega)]
theorem Zxl (leaves:ak) (i k:Nat) (h:leaves.length<=16*i+k):rR leaves i k=wZ leaves i:=by
 unfold wZ rR;refine L9 λt ht=>?_
 by_cases h2:16*i+t<leaves.length
 .rw[aS (AC:t<k),aS (uY.1 ht)]
 grind
theorem Zx0 (leaves:ak) (i:Nat):rR leaves i 0=List.replicate 16 0:=by
 rfl
theorem ZzE {Kn:ah->M ah} (n:Nat) (leaves:ak) (pl:ai) (i:Nat) (s:St) (hl:Sl s pl (ints leaves)) (gD:leaves.length<100000) (hi:i<1000) (hn:20<n)
  (aO:Ok Q (Kn [.agg (ints (wZ leaves i))] s)):
  Ok Q (cY (λdC st=>
       bh st λnH st=>
      bC nH 16<|
      aC .i64 st λk st=>
      aI st<|
      cT (λst=>gK st λb2 st=>aI st<|
       bif b2 then
       bJ pl λi1 o=>
      aB (aP (ar (((16*i:Nat):Int)+k)) leaves.length)<|
      bD i1 (((ar (((16*i:Nat):Int)+k)).toNat)*1+o) λd=>
      de .i64 d λfj=>
      aB (aP k 16)<|
      aB (Nat.ble (k.toNat*1+1) 16)<|
      dC [.agg (cG nH (k.toNat*1) [.i fj]),.i (ar (k+1))]
      else
       Kn [.agg nH]) λdA=>
      bif decide (k<16)then
       dA [.bool (decide (ar (((16*i:Nat):Int)+k)<(leaves.length:Int)))]
      else
       dA [.bool false]) n [.agg (ints (List.replicate 16 0)),.i 0] s):=by
 refine Zj _ (λq y t=>∃(k:Nat),y=[.agg (ints (rR leaves i k)),.i (k:Int)]/\k<=16/\16-k<=q/\t=s) ?_ 16 n _ _ ⟨0,by rw[Zx0];rfl,cB _,AC,rfl⟩ AC;rintro q _ t ⟨k,rfl,hk,hq,rfl⟩ rec aL;have cO: ∀k,(ints (rR leaves i k)).length=16:=λk=>by simp[ints,Gt]
 rw[da,bK (cO k),av,aq];have hw:ar (((16*i:Nat):Int)+(k:Int))=((16*i+k:Nat):Int):=Zc;have cM:ar ((k:Int)+1)=((k+1:Nat):Int):=Zc;simp only[hw,cM,br];refine Ok.join λdA hj6=>?_
 have mO:rR leaves i k=wZ leaves i->Ok Q (dA [.bool false] t):=λe=>by
  rw[hj6];simp only[au,aq];rw[af,e];exact aO
 by_cases tq:k<16
 .rw[aX]
  by_cases aw:16*i+k<leaves.length
  .rw[aS (AC:((16*i+k:Nat):Int)<(leaves.length:Int)),hj6]
   simp only[au,aq];obtain⟨bi,bo,rfl⟩:=hl.cF (by simp[ints];omega);have hg:(ints leaves)[16*i+k]? =some (.i leaves[16*i+k]):=ZC aw;rw[ae,bc,Zb (Zi aw),hl.dO hg,bj,Zb (show aP (k:Int) 16=true from Zi tq),Z5 AC];have iZ:cG (ints (rR leaves i k)) (k*1) [.i leaves[16*i+k]]=ints (rR leaves i (k+1)):=by
    rw[cS,Ce _ _ _ (by rw[cO];exact tq),Zwv _ _ _ tq aw,ef,cu aw];unfold ints;rw[List.map_set];rfl
   rw[iZ];exact aL (16-(k+1)) _ _ AC Fd
  .rw[bM (AC:¬((16*i+k:Nat):Int)<(leaves.length:Int))]
   exact mO (Zxl _ _ _ AC)
 .rw[aZ]
  have:k=16:=AC
  subst this;exact mO rfl
def nu (aF free:ak):Nat->Nat->ak->cP->ak×cP
 |0,_,ls,m=>(ls,m)
 |c+1,f,ls,m=>bif decide (f<aF.length)then nu aF free c (f+7) (ls++[(m.next:Int)]) (ll m (xN (yo (xz aF m.At free f))))else(ls,m)
def qC (leaves:ak):Nat->Nat->ak->cP->ak×cP
 |0,_,top,m=>(top,m)
 |c+1,i,top,m=>bif decide (16*i<leaves.length)then qC leaves c (i+1) (top.set i (m.next:Int)) (ll m (xN (vx (wZ leaves i))))else(top,m)
def sq (aF free:ak) (m:cP):Nat×cP:=(λr:ak×cP=>bif Nat.beq r.1.length 0 then(0,r.2)else
 (λt:ak×cP=>(t.2.next,ll t.2 (xN (vx t.1)))) (qC r.1 16 0 (List.replicate 16 0) r.2)) (nu aF free aF.length 0 [] m)
theorem Znc (aF free:ak): ∀(c f:Nat) (ls:ak) (m:cP),(nu aF free c f ls m).2.B.length=m.B.length/\(nu aF free c f ls m).2.At=m.At/\(nu aF free c f ls m).2.next<=m.next+c/\m.next<=(nu aF free c f ls m).2.next
 |0,f,ls,m=>⟨rfl,rfl,aM _,aM _⟩
 |c+1,f,ls,m=>by
  unfold nu;cases decide (f<aF.length)with
  |true=>
   rw[ae];have⟨b1,b2,b3,b4⟩:=Znc aF free c (f+7) (ls++[(m.next:Int)]) (ll m (xN (yo (xz aF m.At free f))));have hn:(ll m (xN (yo (xz aF m.At free f)))).next=m.next+1:=rfl;exact⟨b1.trans (vr _ _),b2,AC,AC⟩
  |false=>simp
theorem ZpP (leaves:ak): ∀(c i:Nat) (top:ak) (m:cP),(qC leaves c i top m).2.B.length=m.B.length/\(qC leaves c i top m).2.At=m.At/\(qC leaves c i top m).2.next<=m.next+c/\m.next<=(qC leaves c i top m).2.next/\(qC leaves c i top m).1.length=top.length
 |0,i,top,m=>⟨rfl,rfl,aM _,aM _,rfl⟩
 |c+1,i,top,m=>by
  unfold qC;cases decide (16*i<leaves.length)with
  |true=>
   rw[ae];have⟨b1,b2,b3,b4,b5⟩:=ZpP leaves c (i+1) (top.set i (m.next:Int)) (ll m (xN (vx (wZ leaves i))));have hn:(ll m (xN (vx (wZ leaves i)))).next=m.next+1:=rfl;exact⟨b1.trans (vr _ _),b2,AC,AC,by rw[b5,lU]⟩
  |false=>simp
theorem ZuK (aF free:ak) (m:cP):(sq aF free m).2.B.length=m.B.length/\(sq aF free m).2.At=m.At/\(sq aF free m).2.next<=m.next+aF.length+17/\m.next<=(sq aF free m).2.next:=by
 have⟨b1,b2,b3,b4⟩:=Znc aF free aF.length 0 [] m;unfold sq;simp only;cases Nat.beq (nu aF free aF.length 0 [] m).1.length 0 with
 |true=>grind
 |false=>
  have⟨c1,c2,c3,c4,_⟩:=ZpP (nu aF free aF.length 0 [] m).1 16 0 (List.replicate 16 0) (nu aF free aF.length 0 [] m).2;rw[af];exact⟨(vr _ _).trans (c1.trans b1),c2.trans b2,by show _+1<=_;omega,by show _<=_+1;omega⟩
theorem Zqd (n:Nat) (x:eR) (z1 z2 z3:Nat) (p1 p2 p3:ai) (st:St) (jA:z1=2\/p1=none) (gp:z2=1\/p2=none) (jP:z3=1\/p3=none) (hm:iw st i ib ia m) (hg:Fz st p2 (ints x.aF)) (dW:Fz st p3 (ints x.free)) (jx:x.aF.length<90000) (eE:x.free.length<90000) (G5:m.At.length=x.aF.length) (Hu:m.next+x.aF.length<=700000) (hB:m.B.length<1000000) (hn:x.aF.length+x.free.length+1000<=n):
  Ok (λo=>∃gF,o=(.val [.i (sq x.aF x.free m).1],gF)/\iw gF i ib ia (sq x.aF x.free m).2/\Fx [i,ib,ia] st gF) (run Bd n 190 [.ptr (some (i,0)),.agg (dw x z1 p1 z2 p2 z3 p3)] st):=by
 obtain⟨n,rfl⟩: ∃k,n=k+2:=⟨n-2,AC⟩;rw[Ze,h.afp];unfold Rm vq fJ ve cA cW az Zm kB Zn Li wI Lb ep ba sI DT iH
 try dsimp only
 rw[eO,da];unfold dw;simp only[av,Zf 2 z1 p1 _ jA,Zf 1 z2 p2 _ gp,Zf 1 z3 p3 _ jP,aq];have⟨l1,l2,l3⟩:=hm.lt;have⟨T,hT⟩: ∃T,sq x.aF x.free m=T:=⟨_,rfl⟩;rw[hT];unfold sq at hT;have⟨RL,hRL⟩: ∃RL,nu x.aF x.free x.aF.length 0 [] m=RL:=⟨_,rfl⟩;rw[hRL]at hT;simp only at hT;have fL: ∀ {a b:St},Fx [i,ib] a b->Fx [i,ib,ia] a b:=λk=>k.mono λy hy=>by grind
 have y7: ∀ {a:ai},(∀b∈aN a,st.length<=b)->∀b∈aN a,b∉[i,ib,ia]:=λqD b hb lM=>by
  grind
 refine Ok.join λay Bb=>?_
 refine Zj _ (λq y t=>∃(c f zk:Nat) (a:ai) (ls:ak) (m':cP),y=[.slice zk a ls.length,.i (f:Int)]/\(zk=1\/a=none)/\f<=x.aF.length+7/\x.aF.length+7-f<=q/\iw t i ib ia m'/\Fx [i,ib,ia] st t/\bg [] t a (ints ls)/\(∀b∈aN a,st.length<=b)/\m'.B.length=m.B.length/\m'.At.length=m.At.length/\m'.next<=m.next+f/\ls.length<=f/\x.aF.length<=c+f/\nu x.aF x.free c f ls m'=RL) ?_ (x.aF.length+7) (n+1) _ _ ⟨x.aF.length,0,0,none,[],m,rfl,.inr rfl,cB _,AC,hm,.refl _ _,bg.nil ⟨st,rfl⟩,(λ_ h=>by cases h),rfl,rfl,AC,cB _,AC,hRL⟩ AC;rintro q _ t ⟨c,f,zk,a,ls,m',rfl,hzk,hf,hq,j8,cU,mN,qD,CO,CN,Hv,gD,hc,aO⟩ rec aL;simp only[av,Zf 1 zk a _ hzk,aq];have rZ:=hm.kp cU;have Kr:=hg.kp rZ;have xh:=dW.kp rZ;by_cases aw:f<x.aF.length
 .obtain⟨c,rfl⟩: ∃c',c=c'+1:=⟨c-1,AC⟩
  unfold nu at aO;rw[aX aw]at aO;rw[aX];refine Ok.join λgU Ys=>?_
  refine Ok.join λiN Yt=>?_
  refine Zyx (n+1) x.aF x.free p2 p3 f t j8 Kr.1 xh.1 AC AC AC AC AC AC (Kn:=iN) ?_;rw[Yt];have cO:(ca (xz x.aF m'.At x.free f)).length=21:=by rw[ZB];show(oN _ _ _ _ _).length*3=_;rw[B4]
  show Ok _ (bh [.agg (ca (xz x.aF m'.At x.free f))] _ t);rw[da,bK cO,aq];refine Ok.cv (ZlX (n+1) (xz x.aF m'.At x.free f) (B4 _ _ _ _ _) t) λt1 aD=>?_
  rw[Vz,bT,au,aq];refine Ok.call (Ej n (xN (yo (xz x.aF m'.At x.free f))) t1 (j8.pre aD)) ?_;rintro _ ⟨t2,rfl,fE,gk⟩;refine⟨_,t2,rfl,?_⟩;rw[av,aq];have tx:Fx [i,ib,ia] t t2:=(Fx.pre _ aD).trans (fL gk);have EW:=mN.fx tx (y7 qD);have⟨b,t4,r1,r2,r3,r4⟩:=Ao (β:=ah) (lim:=8796093022208) EW (sz:=1) (n:=ls.length) [.i (m'.next:Int)] AC (by simp[ints]) rfl;refine Eq.mpr (congrArg (Ok _) (r4 _)) ?_;rw[Ys];simp only[aV,aq];have hw:ar ((f:Int)+7)=((f+7:Nat):Int):=Zc;rw[hw];have Be:=fE.fx r3 λy hy=>by
   have:=qD y hy;omega
  refine aL (x.aF.length+7-(f+7)) _ _ AC ⟨c,f+7,1,some (b,0),ls++[(m'.next:Int)],_,?_,.inl rfl,AC,aM _,Be,(cU.trans tx).step r3 λy hy=> .inr (qD y hy),?_,λy hy=>?_,(vr _ _).trans CO,CN,?_,?_,AC,aO⟩
  .rw[bz];rfl
  .unfold ints
   rw[fB];exact r2
  .rw[cE.1 hy]
   have:=(cU.trans tx).1;omega
  .show m'.next+1<=_
   omega
  .rw[bz];show _+1<=_;omega
 .rw[aZ,Bb]
  have hRe:RL=(ls,m'):=by
   rw[<-aO];cases c with
   |zero=>rfl
   |succ c=>unfold nu;rw[bM aw];rfl
  rw[hRe]at hT;simp only at hT;simp only[aV,aq];by_cases h0:ls.length=0
  .rw[h0]at hT⊢
   have hT2:(0,m')=T:=hT;rw[oA FS,Zd,<-hT2];exact .mk ⟨t,rfl,j8,cU⟩
  .have yR:Nat.beq ls.length 0=false:=by
    cases hb:Nat.beq ls.length 0 with
    |false=>rfl
    |true=>exact absurd (dP hb) h0
   rw[yR,af]at hT;rw[show((ls.length:Int)==0)=false from eN.2 AC,af];have⟨RF,hRF⟩: ∃RF,qC ls 16 0 (List.replicate 16 0) m'=RF:=⟨_,rfl⟩;rw[hRF]at hT;refine Ok.join λaH Kv=>?_
   refine Zj _ (λq y u=>∃(k:Nat) (top:ak) (m2:cP),y=[.agg (ints top),.i (k:Int)]/\k<=16/\16-k<=q/\iw u i ib ia m2/\Fx [i,ib,ia] t u/\top.length=16/\m2.B.length=m.B.length/\m2.next<=m'.next+k/\qC ls (16-k) k top m2=RF) ?_ 16 (n+1) _ _ ⟨0,List.replicate 16 0,m',rfl,cB _,AC,j8,.refl _ _,oV,CO,AC,hRF⟩ AC;rintro q2 _ u ⟨k,top,m2,rfl,hk,Fa,hmu,fS,uQ,OP,alu,ez⟩ dC kf;have cO:(ints top).length=16:=by simp[ints,uQ]
   rw[da,bK cO,av,aq];have hw:ar (16*(k:Int))=((16*k:Nat):Int):=by rw[Zc];omega
   have cM:ar ((k:Int)+1)=((k+1:Nat):Int):=Zc;rw[hw,cM];have hou:=mN.fx fS (y7 qD);refine Ok.join λaW C7=>?_
   have mO:RF=(top,m2)->Ok (λo=>∃gF,o=(.val [.i T.1],gF)/\iw gF i ib ia T.2/\Fx [i,ib,ia] st gF) (aW [.bool false] u):=λe=>by
    rw[C7];simp only[au,aq];rw[af,Kv];show Ok _ (bh [.agg (ints top)] _ u);rw[da,bK cO,aq];rw[e]at hT;simp only at hT;refine Ok.cv (TH (n+1) top uQ u) λu1 aD=>?_
    rw[Vz,bT,au,aq];refine Ok.call (Ej n (xN (vx top)) u1 (hmu.pre aD)) ?_;rintro _ ⟨u2,rfl,tA,C3⟩;refine⟨_,u2,rfl,?_⟩;rw[av,aq,Zd,<-hT];exact .mk ⟨u2,rfl,tA,((cU.trans fS).trans (Fx.pre _ aD)).trans (fL C3)⟩
   by_cases tq:k<16
   .rw[aX]
    have Xs:16-k=(16-(k+1))+1:=AC
    rw[Xs]at ez;unfold qC at ez;by_cases gm:16*k<ls.length
    .rw[aX gm]at ez
     rw[aS AC,C7];simp only[au,aq];rw[ae];refine Ok.join λbA O8=>?_
     refine Ok.join λcq Yr=>?_
     refine ZzE (n+1) ls a k u hou.sl AC AC AC (Kn:=cq) ?_;rw[Yr];have yT:(ints (wZ ls k)).length=16:=by rw[ints,lB];exact Gt _ _ _
     show Ok _ (bh [.agg (ints (wZ ls k))] _ u);rw[da,bK yT,aq];refine Ok.cv (TH (n+1) (wZ ls k) (Gt _ _ _) u) λu1 aD=>?_
     rw[Vz,bT,au,aq];refine Ok.call (Ej n (xN (vx (wZ ls k))) u1 (hmu.pre aD)) ?_;rintro _ ⟨u2,rfl,tA,C3⟩;refine⟨_,u2,rfl,?_⟩;rw[av,aq,Zb (show aP (k:Int) 16=true from Zi tq),br,Z5 AC];have iZ:cG (ints top) (k*1) [.i (m2.next:Int)]=ints (top.set k (m2.next:Int)):=by
      rw[cS,Ce _ _ _ AC];unfold ints;rw[List.map_set]
     rw[iZ,O8];have Kj:(ints (top.set k (m2.next:Int))).length=16:=by simp[ints,uQ]
     show Ok _ (bh [.agg (ints (top.set k (m2.next:Int)))] _ u2);rw[da,bK Kj,aq];exact kf (16-(k+1)) _ _ AC ⟨k+1,_,_,rfl,AC,aM _,tA,(fS.trans (Fx.pre _ aD)).trans (fL C3),by rw[lU,uQ],(vr _ _).trans OP,by show m2.next+1<=_;omega,ez⟩
    .rw[aZ gm]at ez
     rw[bM AC];exact mO ez.symm
   .have:k=16:=AC
    subst this;rw[aZ];exact mO ez.symm
def HX (x:cy):aj:=cZ (fm x.seq) 8++cZ (fm x.blocks) 4++cZ (fm x.dc) 4++cZ (fm x.g) 4++cZ (fm x.used) 4++cZ (fm x.free) 4++cZ (fm x.cm) 2++cZ (fm x.dir) 2++jB x.aJ
def sZ (x:cy):aj:=ja 7 x.aJ.length (HX x)
theorem Tu (n:Nat) (x:cy) (p:ai) (st:St) (hs:Sl st p (ints x.aJ)) (hl:x.aJ.length<1000:=by omega) (hn:2600<=n:=by omega):
  Ok (λo=>∃s',o=(.val [.str (sZ x)],s')/\aA st s') (run Bd n 191 [.agg (dq x p)] st):=by
 obtain⟨n,rfl⟩: ∃k,n=k+2:=⟨n-2,AC⟩;rw[Ze,h.afq];unfold T9 yd jI Aa ua iT vm Zn ZA qm Ls eQ dq
 try dsimp only
 rw[da];simp only[av,aV,aq,Gl];have lay:=λv k (hk:k<=20) s=>sQ (n+1) (fm v) k (uf v) s
 refine Ok.cx (lay x.seq 8 AC st) λs1 aD=>?_
 rw[bT,aq];refine Ok.cx (lay x.blocks 4 AC s1) λs2 aU=>?_
 rw[bT,aq,Z5 (by simp[Zy])];refine Ok.cx (lay x.dc 4 AC s2) λs3 cz=>?_
 rw[bT,aq,Z5 (by simp[bz,Zy])];refine Ok.cx (lay x.g 4 AC s3) λs4 fe=>?_
 rw[bT,aq,Z5 (by simp[bz,Zy])];refine Ok.cx (lay x.used 4 AC s4) λs5 kb=>?_
 rw[bT,aq,Z5 (by simp[bz,Zy])];refine Ok.cn (lay x.free 4 AC s5) λs6 hp6=>?_
 rw[bT,aq,Z5 (by simp[bz,Zy])];refine Ok.cx (lay x.cm 2 AC s6) λs7 hp7=>?_
 rw[bT,aq,Z5 (by simp[bz,Zy])];refine Ok.cn (lay x.dir 2 AC s7) λs8 hp8=>?_
 rw[bT,aq,Z5 (by simp[bz,Zy]),Za];have hP:=((((((aD.trans aU).trans cz).trans fe).trans kb).trans hp6).trans hp7).trans hp8;unfold sZ HX;have⟨A,hA⟩: ∃A,cZ (fm x.seq) 8++cZ (fm x.blocks) 4++cZ (fm x.dc) 4++cZ (fm x.g) 4++cZ (fm x.used) 4++cZ (fm x.free) 4++cZ (fm x.cm) 2++cZ (fm x.dir) 2=A:=⟨_,rfl⟩;have yO:A.length=32:=by rw[<-hA];simp only[bz,Zy]
 rw[hA];refine Zj _ (λq y s=>∃i:Nat,y=[.str (A++jB (x.aJ.take i)),.i (i:Int)]/\i<=x.aJ.length/\x.aJ.length-i<=q/\aA st s) ?_ x.aJ.length (n+1) _ _ ⟨0,by rw[Ib];show _=[DV.str (A++[]),_];rw[gM];rfl,cB _,AC,hP⟩ AC;rintro q _ s ⟨i,rfl,hi,hq,iM⟩ rec aL;rw[bT,av,aq];by_cases aw:i<x.aJ.length
 .have dI:=hs.mono iM
  obtain⟨i1,o1,rfl⟩:=dI.cF (by simp[ints];omega);rw[aX,bc,Zb (Zi aw),br,dI.dO (ZC aw),bj];refine Ok.cv (lay x.aJ[i] 2 AC s) λs5 kb=>?_
  rw[bT,aq,Z5 (by rw[bz,uc,Zy,cR,yO];omega),Zc];exact aL (x.aJ.length-(i+1)) _ _ AC ⟨i+1,by rw[I3 _ aw,fR];rfl,AC,aM _,iM.trans kb⟩
 .rw[aZ]
  rw[dF AC];refine Ok.cv (BZ (n+1) 7 x.aJ.length (A++jB x.aJ) (by rw[bz,uc];omega) s (by rw[bz,uc];omega)) λs5 kb=>?_
  rw[bT,aq,Zd];exact .mk ⟨s5,rfl,iM.trans kb⟩
def ZZ (a n:Nat):ak:=(List.range n).map λi=>((a+i:Nat):Int)
theorem vp (a n:Nat):(ZZ a n).length=n:=by unfold ZZ;simp
theorem ZnN (a n:Nat):ZZ a (n+1)=ZZ a n++[((a+n:Nat):Int)]:=by simp[ZZ,qW,fB]
theorem Zwi {a:Nat} {x:Int} (h:x∈ZZ a n):(a:Int)<=x/\x<((a+n:Nat):Int):=by
 grind[ZZ]
def pL (used:ak):Nat->Nat->cP->cP
 |0,_,m=>m
 |c+1,i,m=>pL used c (i+1) (ll m (ui (gx i used)))
theorem Zme (used:ak): ∀(c i:Nat) (m:cP),(pL used c i m).B.length=m.B.length/\(pL used c i m).next=m.next+c
 |0,i,m=>⟨rfl,rfl⟩
 |c+1,i,m=>by
  have⟨a,b⟩:=Zme used c (i+1) (ll m (ui (gx i used)));unfold pL;refine⟨a.trans (vr _ _),?_⟩;rw[b];show m.next+1+c=_;omega
def xB (x:eR):cP:=⟨l9 (64*x.blocks.toNat),2,List.replicate x.aF.length 0⟩
def wh (x:eR):Nat:=(x.blocks.toNat+383)/384
def GC (l:ak):Int:=match l with
 |[]=>0
 |k::_=>ar (k+1)
def xC (x:eR):Nat×cP:=rO x.aK (xB x)
def jD (x:eR):Nat×cP:=sq x.aF x.free (xC x).2
def fG (x:eR) (eD:Int):cy:=⟨eD,x.blocks,x.dc,x.g,(jD x).1,x.aF.length,GC x.free,(xC x).1,ZZ (jD x).2.next (wh x)⟩
def qc (x:eR):ak:=ZZ 0 ((jD x).2.next+wh x)
def Cq (x:eR) (eD place:Int):Option (aj×cy):=
 bif decide (((qc x).length:Int)>x.blocks)|| !ZT (fG x eD)then none else
  some (mQ (pL (qc x) (wh x) 0 (jD x).2).B (64*(place%2).toNat) (sZ (fG x eD)),fG x eD)
theorem Zxv (n:Nat):iD n [.i 0]=ints (List.replicate n 0):=by
 simp[iD,ints]
def Zvq:ah:=[.slice 0 none 0,.agg [.i 0,.i 0,.i 0,.i 0,.i 0,.i 0,.i 0,.i 0,.slice 0 none 0],.bool false]
structure ad6 (st gF:St) (B:List UInt8) (s:cy) (ib:Nat) (q:Option (Nat×Nat)):Prop where
 new:st.length<=ib
 dR:gF[ib]? =some (some ⟨false,bI B⟩)
 own:bg [] gF q (ints s.aJ)
 q: ∀b∈aN q,st.length<=b/\b≠ib
def WX (st:St) (x:eR) (eD place:Int) (o:Out ah×St):Prop:=∃gF,aA st gF/\
 ((∃B s ib q,sL x/\Cq x eD place=some (B,s)/\o=(.val [.slice 1 (some (ib,0)) B.length,.agg (dq s q),.bool true],gF)/\ad6 st gF B s ib q)\/
  ((sL x->Cq x eD place=none)/\o=(.val Zvq,gF)))
theorem Zsq (l:List dJ):uz l=((l.map (·.cg)).flatten).length:=by
 unfold uz;induction l with
 |nil=>rfl
 |cons x l ih=>rw[oe,List.sum_cons,ih,oe,BE,bz]
theorem Zk5 (n:Nat) (x:eR) (z1 z2 z3:Nat) (p1 p2 p3:ai) (eD place:Int) (st:St) (jA:z1=2\/p1=none) (gp:z2=1\/p2=none) (jP:z3=1\/p3=none) (hx:BP st x p1 p2 p3) (sz:BQ x) (lN: -9223372036854775808<=place/\place<=9223372036854775807:=by omega) (hn:60000<=n:=by omega):
  Ok (WX st x eD place) (run Bd n 170 [.agg (dw x z1 p1 z2 p2 z3 p3),.i eD,.i place] st):=by
 obtain⟨n,rfl⟩: ∃k,n=k+3:=⟨n-3,AC⟩;rw[Ze,h.aff];unfold SL ZF je bu cA Iw fJ az Q_ tY jI cN iT kB Zm Mz ye kM Li gA ZP vh wI Lb ep ba iH vw Iz
 try dsimp only
 have ag: ∀(l:ah) (K:ah->ah->M ah),bh (.agg (dw x z1 p1 z2 p2 z3 p3)::l) K=K (dw x z1 p1 z2 p2 z3 p3) l:=λ_ _=>rfl
 rw[ag];unfold dw;simp only[av,Zf 2 z1 p1 _ jA,Zf 1 z2 p2 _ gp,Zf 1 z3 p3 _ jP,aq];refine Ok.call (ZtJ (n+2) x 2 1 1 p1 p2 p3 st (.inl rfl) (.inl rfl) (.inl rfl) hx.str sz AC) ?_;rintro _ ⟨b,s1,rfl,aD,hb⟩;refine⟨_,s1,rfl,?_⟩;rw[au,aq];cases b with
 |false=>
  rw[bp,ae,Zd];exact .mk ⟨s1,aD,.inr ⟨λhm=>(by cases hb.2 hm),rfl⟩⟩
 |true=>
 have hm:=hb.1 rfl;rw[bw,af];have⟨g1,g2,g3,g4,g5,g6⟩:=ZR hm.J3;have⟨bl,hZ⟩: ∃bl:Nat,x.blocks=bl:=⟨x.blocks.toNat,AC⟩;have jx:x.aF.length<=1792:=by have:=hm.dc;omega
 have qE:x.blocks.toNat=bl:=AC
 have hw:ar (64*x.blocks)=((64*bl:Nat):Int):=by rw[hZ,Zc];omega
 simp only[hw,br];rw[Zb (by rw[aY,aY,bn,bn,bn];omega),Zz,Zb (by rw[aY,aY,bn,bn,bn];omega),Zz,Zz,ZrD,Zxv];have l1: ∀c,(s1++[some (c:bO)]).length=s1.length+1:=λc=>by simp
 have l2: ∀c d,((s1++[some (c:bO)])++[some (d:bO)]).length=s1.length+2:=λc d=>by simp
 rw[l1,l2];have⟨S0,EC⟩: ∃S0,((s1++[some (⟨false,bI (l9 (64*bl))⟩:bO)])++[some (⟨false,ints (List.replicate x.aF.length 0)⟩:bO)])++[some (⟨false,[.slice 1 (some (s1.length,0)) (64*bl),.i 2,.slice 1 (some (s1.length+1,0)) x.aF.length]⟩:bO)]=S0:=⟨_,rfl⟩;rw[EC];have hpS:aA s1 S0:=by rw[<-EC];exact(((aA.new _ _).trans (aA.new _ _)).trans (aA.new _ _))
 have hlS:S0.length=s1.length+3:=by rw[<-EC];simp
 have sf:(l9 (64*bl)).length=64*bl:=by unfold l9;simp
 have XH:iw S0 (s1.length+2) s1.length (s1.length+1) (xB x):=by
  unfold xB;rw[qE];refine⟨?_,?_,?_,AC,AC,AC⟩
  .rw[<-EC,sf,oV];simp
  .rw[<-EC];simp
  .rw[<-EC];simp
 clear EC;have Pu:=aD.trans hpS;have hxS:=hx.kp Pu.kp;have⟨ds,uH,ji⟩:=hxS.hp;have gY: ∀g∈x.aK,∀e∈g.cg,e∈Zr x:=λg hg e he=>List.mem_flatten.2 Fd
 have yO:(xB x).At.length=x.aF.length:=oV;have J7:(xB x).B.length=64*bl:=by show(l9 _).length=_;rw[qE,sf]
 have vO:=Zsq x.aK;have ald:uz x.aK<=50000:=by rw[vO];exact sz.e
 have uK:=hm.Ez;have ET:(xB x).next=2:=rfl;refine Ok.call (Ztl (n+2) x.aK p1 2 ds S0 (.inl rfl) XH uH ji (λg hg e he=>by
  have:=hm.range e.slot Fd;rw[yO];exact this) (λg hg=>⟨by have:=sz.h.name g hg;omega,by have:=sz.h.name g hg;omega,by have:=sz.h.cg g hg;omega⟩) AC AC AC AC AC) ?_
 rintro _ ⟨S1,rfl,hM1,C0⟩;refine⟨_,S1,rfl,?_⟩;rw[av,aq];have⟨k1,k2,k3,k4⟩:=ZwX x.aK (xB x);have aiz:rO x.aK (xB x)=xC x:=rfl;rw[aiz]at hM1 k1 k2 k3 k4⊢;have Bj:=hxS.kp (XH.kp C0);refine Ok.call (Zqd (n+2) x 2 1 1 p1 p2 p3 S1 (.inl rfl) (.inl rfl) (.inl rfl) hM1 Bj.gn Bj.fr AC (by have:=sz.f;omega) AC AC AC (by have:=sz.f;omega)) ?_;rintro _ ⟨S2,rfl,hM2,nj⟩;refine⟨_,S2,rfl,?_⟩;rw[av,aq];have⟨q1,q2,q3,q4⟩:=ZuK x.aF x.free (xC x).2;have aiA:sq x.aF x.free (xC x).2=jD x:=rfl;rw[aiA]at hM2 q1 q2 q3 q4⊢;have hfA:Fx [s1.length+2,s1.length,s1.length+1] S0 S2:=C0.trans nj;have Fk:=hxS.kp (XH.kp hfA);have OP:(jD x).2.B.length=64*bl:=AC
 have E9: ∀t,Fx [s1.length+2,s1.length,s1.length+1] S0 t->aA st t:=λt k=>by
  refine Fx.adE ((Fx.pre [] Pu).step k λy hy=> .inr ?_);have:=aD.len;grind
 have y7: ∀ {a:ai},(∀b∈aN a,S0.length<=b)->∀b∈aN a,b∉[s1.length+2,s1.length,s1.length+1]:=λqD b hb lM=>by
  grind
 refine Ok.join λay Bb=>?_
 have A1:Ok (WX st x eD place) (ay [.agg [.i eD,.i x.blocks,.i x.dc,.i x.g,.i (jD x).1,.i (x.aF.length:Int),.i (GC x.free),.i (xC x).1,.slice 0 none 0]] S2):=by
  rw[Bb];show Ok _ (bh [.agg [.i eD,.i x.blocks,.i x.dc,.i x.g,.i (jD x).1,.i (x.aF.length:Int),.i (GC x.free),.i (xC x).1,.slice 0 none 0]] _ S2);rw[dY [.i eD,.i x.blocks,.i x.dc,.i x.g,.i (jD x).1,.i (x.aF.length:Int),.i (GC x.free),.i (xC x).1,.slice 0 none 0] []];simp only[av,Zf 1 0 none _ (.inr rfl),aq];refine Ok.join λaH Kv=>?_
  have⟨N,hN⟩: ∃N,(jD x).2.next=N:=⟨_,rfl⟩;have⟨C,hC⟩: ∃C,wh x=C:=⟨_,rfl⟩;have hCe:(bl+383)/384=C:=by rw[<-hC];unfold wh;rw[qE]
  refine Zj _ (λq y t=>∃(k z:Nat) (a:ai),y=[.agg [.i eD,.i x.blocks,.i x.dc,.i x.g,.i (jD x).1,.i (x.aF.length:Int),.i (GC x.free),.i (xC x).1,.slice z a (ZZ N k).length],.i (k:Int)]/\(z=1\/a=none)/\k<=C/\C-k<=q/\iw t (s1.length+2) s1.length (s1.length+1) (jD x).2/\Fx [s1.length+2,s1.length,s1.length+1] S0 t/\bg [] t a (ints (ZZ N k))/\∀b∈aN a,S0.length<=b) ?_ C (n+2) _ _ ⟨0,1,none,rfl,.inr rfl,cB _,AC,hM2,hfA,bg.nil ⟨S2,rfl⟩,λ_ h=>by cases h⟩ AC;rintro q _ t ⟨k,z,a,rfl,hz,hk,hq,XI,xh,mN,qD⟩ rec aL;rw[da];simp only[av,Zf 1 z a _ hz,aq];rw[hZ];refine Ok.call (ZjF (n+2) bl x.dc x.g AC t) ?_;rintro _ rfl;refine⟨_,t,rfl,?_⟩;simp only[av,aq];rw[hCe,<-hZ];by_cases aw:k<C
  .rw[aX,Zo XI.cell (d:= .i (jD x).2.next) rfl]
   simp only[bj];have Ld:ar (((jD x).2.next:Int)+(k:Int))=((N+k:Nat):Int):=by rw[hN,Zc];omega
   have cM:ar ((k:Int)+1)=((k+1:Nat):Int):=Zc;rw[Ld,cM];have⟨b,t2,r1,r2,r3,r4⟩:=Ao (β:=ah) (lim:=8796093022208) mN (sz:=1) (n:=(ZZ N k).length) [.i ((N+k:Nat):Int)] AC (by simp[ints]) rfl (by rw[vp];omega);refine Eq.mpr (congrArg (Ok _) (r4 _)) ?_;have hM3:=XI.fx r3 λy hy=>by
    have:=qD y hy;omega
   refine aL (C-(k+1)) _ _ AC ⟨k+1,1,some (b,0),?_,.inl rfl,AC,aM _,hM3,xh.step r3 λy hy=> .inr (qD y hy),?_,λy hy=>?_⟩
   .rw[vp,vp]
   .rw[ZnN]
    unfold ints;rw[fB];exact r2
   .rw[cE.1 hy]
    have:=xh.1;omega
  have hkC:k=C:=AC
  subst hkC;rw[aZ,Kv];have ze:([.i eD,.i x.blocks,.i x.dc,.i x.g,.i (jD x).1,.i (x.aF.length:Int),.i (GC x.free),.i (xC x).1,.slice 1 a (ZZ N k).length]:ah)=dq (fG x eD) a:=by
   unfold dq fG;rw[hN,hC]
  have uG:(fG x eD).aJ=ZZ N k:=by unfold fG;rw[hN,hC]
  rw[ze];show Ok _ (bh [.agg (dq (fG x eD) a)] _ t);rw[dY (dq (fG x eD) a) []];unfold dq;simp only[av,aV,aq];have ajF:([.i (fG x eD).seq,.i (fG x eD).blocks,.i (fG x eD).dc,.i (fG x eD).g,.i (fG x eD).cm,.i (fG x eD).used,.i (fG x eD).free,.i (fG x eD).dir,.slice 1 a (fG x eD).aJ.length]:ah)=dq (fG x eD) a:=rfl;simp only[ajF];have cO:(fG x eD).aJ.length=k:=by rw[uG,vp]
  have jj:qc x=ZZ 0 (N+k):=by unfold qc;rw[hN,hC]
  rw[cO];refine Ok.join λaW C7=>?_
  refine Zj _ (λq y u=>∃(i z:Nat) (c:ai),y=[.slice z c (ZZ 0 i).length,.i (i:Int)]/\(z=1\/c=none)/\i<=N+k/\N+k-i<=q/\iw u (s1.length+2) s1.length (s1.length+1) (jD x).2/\Fx [s1.length+2,s1.length,s1.length+1] S0 u/\bg [] u c (ints (ZZ 0 i))/\(∀b∈aN c,S0.length<=b)/\bg [] u a (ints (ZZ N k))/\∀b∈aN a,b∉aN c) ?_ (N+k) (n+2) _ _ ⟨0,0,none,rfl,.inr rfl,cB _,AC,XI,xh,bg.nil ⟨t,rfl⟩,(λ_ h=>by cases h),mN,λ_ _ h=>by cases h⟩ AC;rintro q2 _ u ⟨i,z,c,rfl,hz,hi,Fa,XJ,fS,Po,XS,Pn,Kb⟩ dC kf;simp only[av,Zf 1 z c _ hz,aq];rw[Zo XJ.cell (d:= .i (jD x).2.next) rfl];simp only[bj];have hwN:ar (((jD x).2.next:Int)+(k:Int))=((N+k:Nat):Int):=by rw[hN,Zc];omega
  rw[hwN];by_cases aw:i<N+k
  .rw[aX]
   have cM:ar ((i:Int)+1)=((i+1:Nat):Int):=Zc;rw[cM];have⟨b,t2,r1,r2,r3,r4⟩:=Ao (β:=ah) (lim:=8796093022208) Po (sz:=1) (n:=(ZZ 0 i).length) [.i (i:Int)] AC (by simp[ints]) rfl (by rw[vp];omega);refine Eq.mpr (congrArg (Ok _) (r4 _)) ?_;refine kf (N+k-(i+1)) _ _ AC ⟨i+1,1,some (b,0),?_,.inl rfl,AC,aM _,XJ.fx r3 λy hy=>?_,fS.step r3 λy hy=> .inr (XS y hy),?_,λy hy=>?_,Pn.fx r3 Kb,λy hy fE=>?_⟩
   .rw[vp,vp]
   .have:=XS y hy
    omega
   .rw[ZnN,eJ]
    unfold ints;rw[fB];exact r2
   .rw[cE.1 hy]
    have:=fS.1;omega
   .rw[cE.1 fE]at hy
    have:=bg.GM Pn b hy;omega
  have hiN:i=N+k:=AC
  subst hiN;rw[aZ,C7];simp only[aV,aq];refine Ok.join λbA O8=>?_
  have Hf:Cq x eD place=bif decide (((qc x).length:Int)>x.blocks)|| !ZT (fG x eD)then none else some (mQ (pL (qc x) k 0 (jD x).2).B (64*(place%2).toNat) (sZ (fG x eD)),fG x eD):=by
   unfold Cq;rw[hC]
  have A4: ∀(v:St) (bb:Bool),(decide (((qc x).length:Int)>x.blocks)|| !ZT (fG x eD))=bb->aA u v->Ok (WX st x eD place) (bA [.bool bb] v):=by
   intro v bb EF v8;rw[EF]at Hf;rw[O8];simp only[au,aq];cases bb with
   |true=>
    rw[ae,Zd];exact .mk ⟨v,E9 v (fS.trans (Fx.pre _ v8)),.inr ⟨λ_=>Hf,rfl⟩⟩
   |false=>
   rw[af];rw[af]at Hf;refine Ok.join λcq Yr=>?_
   have⟨G,hG⟩: ∃G,pL (qc x) k 0 (jD x).2=G:=⟨_,rfl⟩;rw[hG]at Hf;refine Zj _ (λq y w=>∃(i:Nat) (m':cP),y=[.i (i:Int)]/\i<=k/\k-i<=q/\iw w (s1.length+2) s1.length (s1.length+1) m'/\Fx [s1.length+2,s1.length,s1.length+1] S0 w/\bg [] w c (ints (ZZ 0 (N+k)))/\bg [] w a (ints (ZZ N k))/\m'.B.length=64*bl/\m'.next=N+i/\pL (qc x) (k-i) i m'=G) ?_ k (n+2) _ _ ⟨0,(jD x).2,rfl,cB _,AC,XJ.pre v8,fS.trans (Fx.pre _ v8),Po.fx (Fx.pre [] v8) (λ_ _ h=>by cases h),Pn.fx (Fx.pre [] v8) (λ_ _ h=>by cases h),OP,hN,hG⟩ AC;rintro q3 _ w ⟨i,m',rfl,hi,hq3,XK,O5,acH,EW,hB3,hN3,aO⟩ wq PC;simp only[av,aq];by_cases aw:i<k
   .rw[aX]
    refine Ok.call (ZlY (n+2) i (ZZ 0 (N+k)) c 1 w (.inl rfl) acH.sl AC (by rw[vp];omega) (λy hy=>by have:=Zwi hy;omega) (by rw[vp];omega)) ?_;rintro _ rfl;refine⟨_,w,rfl,?_⟩;have KG:(gx i (ZZ 0 (N+k))).dR.length=48:=by unfold gx;rw[IJ];exact oV
    have iz:(bI (gx i (ZZ 0 (N+k))).dR).length=48:=by rw[Zs,KG]
    show Ok _ (bh [.agg (.i (gx i (ZZ 0 (N+k))).no::bI (gx i (ZZ 0 (N+k))).dR)] _ w);rw[da];simp only[av];rw[bK iz];simp only[aq];refine Ok.cv (ZmY (n+2) (gx i (ZZ 0 (N+k))) KG w) λw1 KX=>?_
    simp only[bT,aq];refine Ok.call (Ej (n+1) (ui (gx i (ZZ 0 (N+k)))) w1 (XK.pre KX)) ?_;rintro _ ⟨w2,rfl,ahM,aie⟩;refine⟨_,w2,rfl,?_⟩;simp only[av,aq];rw[Zc];have X5:Fx [s1.length+2,s1.length] w w2:=(Fx.pre _ KX).trans aie;have EJ:Fx [s1.length+2,s1.length,s1.length+1] w w2:=X5.mono λy hy=>by simp only[eM,tW,pj]at hy⊢;omega
    have eki:k-i=(k-(i+1))+1:=AC
    rw[eki]at aO;unfold pL at aO;rw[jj,<-jj]at aO;exact PC (k-(i+1)) _ _ AC ⟨i+1,_,rfl,AC,aM _,ahM,O5.trans EJ,acH.fx EJ (y7 XS),EW.fx EJ (y7 qD),(vr _ _).trans hB3,by show m'.next+1=_;omega,by rw[<-jj];exact aO⟩
   have Ho:i=k:=AC
   subst Ho;rw[BK]at aO;have hmG:m'=G:=aO;subst hmG;rw[aZ,Yr];simp only[aq];rw[Zo XK.cell rfl];simp only[kA];have wa:run Bd (n+2) 179 [.i place,.i 2] w=some (.val [.i (place%2)],w):=SB (n+1) place 2 EQ EQ lN w;rw[rj wa (.refl w)];simp only[av,aq];have⟨pl,acO⟩: ∃pl:Nat,place%2=(pl:Int):=⟨(place%2).toNat,AC⟩;rw[acO,br]at Hf;rw[acO];have Y7:ar (64*(pl:Int))=((64*pl:Nat):Int):=by rw[Zc];omega
   simp only[Y7,br,cS];rw[Zb (by rw[aY,bn,bn];omega)];refine Ok.cx (Tu (n+2) (fG x eD) a w (by rw[uG];exact EW.sl)) λw1 KX=>?_
   simp only[bT,aq];have XL:=XK.pre KX;have⟨e1,e2,e3⟩:=XL.lt;show Ok _ (dG s1.length (64*pl+0) _ _ w1);rw[gQ,lH,NF XL.bb (by rw[Zs,Zs,cR];omega),WK _];have hlB:=Jw (B:=m'.B) (k:=64*pl) (sZ (fG x eD));rw[Zo (i:=s1.length+2) (f:=false) (by rw[jH AC];exact XL.cell) rfl];simp only[kA,Zd];have C1:Fx [s1.length+2,s1.length,s1.length+1] w (w1.set s1.length (some ⟨false,bI (mQ m'.B (64*pl) (sZ (fG x eD)))⟩)):=(Fx.pre _ KX).trans ((Fx.set w1 s1.length _).mono λy hy=>by rw[cE.1 hy];simp);have nn:=aD.len;refine .mk ⟨_,E9 _ (O5.trans C1),.inl ⟨_,_,s1.length,a,hm,Hf,by rw[hlB],nn,lA AC,?_,λy hy=>?_⟩⟩
   .rw[uG]
    exact EW.fx C1 (y7 qD)
   .have:=qD y hy
    omega
  rw[vp];have zg:((qc x).length:Int)=((N+k:Nat):Int):=by rw[jj,vp]
  by_cases vY:((N+k:Nat):Int)>x.blocks
  .rw[aX vY]
   refine A4 u true ?_ (.refl u);rw[zg,aS vY,Bool.true_or]
  .rw[aZ vY]
   refine Ok.cv (RP (n+2) (fG x eD) a u (by rw[uG];exact Pn.sl)) λv v8=>?_
   simp only[au,aq];refine A4 v _ ?_ v8;rw[zg,bM vY,wD]
 by_cases vQ:0<x.free.length
 .have⟨k0,kr,Kw⟩: ∃k0 kr,x.free=k0::kr:=by
   cases pV:x.free with
   |nil=>rw[pV]at vQ;cases vQ
   |cons a b=>exact⟨a,b,rfl⟩
  have Yf:(ints x.free)[0]? =some (.i k0):=by rw[Kw];rfl
  have⟨bi,bo,e⟩:=Fk.fr.1.cF (by simp[ints];omega);have xq:=Fk.fr.1;rw[e]at xq⊢;rw[aX,bc,Zb (show aP 0 x.free.length=true from Zi (i:=0) vQ),xq.get Yf];simp only[bj];rw[Kw]at A1;exact A1
 .have pV:x.free=[]:=zW.1 AC
  rw[aZ];rw[pV]at A1;exact A1
theorem Zqr (n:Nat) (W:al) (j:Nat) (f:Bool) (st:St) (hw:st[j]? =some (some ⟨f,Zv W⟩)) (h0:0<W.length) (hl:W.length<100000):
  Ok (λo=>∃j' s',o=(.val [.slice 1 (some (j',0)) W.length],s')/\aA st s'/\st.length<=j'/\s'[j']? =some (some ⟨false,Zv W⟩)) (run Bd (n+1) 263 [.slice 1 (some (j,0)) W.length] st):=by
 rw[Ze,h.agu];unfold Q2 bZ ba
 try dsimp only
 rw[aV,aq,show(some (j,0):ai).isNone=false from rfl,af,Zz];have cM:(st++[some (⟨false,[]⟩:bO)])[j]? =some (some ⟨f,Zv W⟩):=(aA.new _ _).get hw;have dI:Sl (st++[some (⟨false,[]⟩:bO)]) (some (j,0)) (Zv W):=⟨f,Zv W,cM,AC,by rw[dE,oY]⟩;have nP:=iC (β:=ah) dI;rw[UE]at nP;rw[cS,nP];have fF:bg st (st++[some (⟨false,[]⟩:bO)]) (some (st.length,0)) []:=⟨aA.new _ _,Do⟩;have⟨p,s',ho,he⟩:=fF.app (β:=ah) (sz:=1) (n:=0) (m:=W.length) (lim:=8796093022208) (ds:=Zv W) AC rfl h0 AC;rw[he,Zd,eJ];rw[iG]at ho;rcases ho.2 with⟨_,e⟩|⟨i,rfl,h1,h2⟩
 .have:=congrArg List.length e
  rw[UE]at this;grind
 .exact .mk ⟨i,s',rfl,ho.1,h1,h2⟩
theorem Zsc (n:Nat) {m:Nat} (st:St) (hs:gJ st f i j m W) (hm:0<m):
  Ok (λo=>∃i' j' s',o=(.val [.ptr (some (i',0))],s')/\aA st s'/\st.length<=i'/\st.length<=j'/\i'≠j'/\gJ s' false i' j' m W) (run Bd (n+2) 241 [.ptr (some (i,0))] st):=by
 rw[Ze,h.af9];unfold RC jt Zm bZ ba vh Lp;simp only[eO,aq,bc];have hlen:=hs.len;have hle:=hs.le;rw[Zo hs.hd rfl,bj,Zo hs.hd rfl,kA];refine Ok.Ow (Zqr n W j f st hs.wd AC AC) ?_;rintro _ ⟨j',s1,rfl,aD,hj,hw⟩;refine⟨_,s1,rfl,aD,?_⟩;rw[aV,aq,Zz,Zd];have uL:=(eB.1 hw).1;exact .mk ⟨s1.length,j',_,rfl,aD.trans (aA.new _ _),aD.len,hj,AC,⟨Do,(aA.new _ _).get hw,hs.len,hs.lt,hs.le⟩⟩
theorem Ztc (hz:QU Bd) (n:Nat) {m:Nat} (st:St) (ht:sO st) (hs:gJ st f i j m W) (lO:gJ st g i2 j2 m2 V) (hm:0<m) (hn:4000<=n):
  Ok (λo=>∃i' j' s',o=(.val [.ptr (some (i',0))],s')/\aA st s'/\gJ s' false i' j' m ((dB V).foldl (bN m) W)) (run Bd n 201 [.ptr (some (i,0)),.ptr (some (i2,0))] st):=by
 obtain⟨n,rfl⟩: ∃k,n=k+3:=⟨n-3,AC⟩;rw[Ze,h.afy];unfold Rw jt Ab il C_ Lp;simp only[eO,aq];refine Ok.call (Zsc n st hs hm) ?_;rintro _ ⟨i',j',s1,rfl,aD,Hm,C6,mI,PG⟩;refine⟨_,s1,rfl,?_⟩;rw[eO,aq];refine Ok.call (Zmv hz (n+2) s1 (ht.mono aD) (lO.pre aD)) ?_;rintro _ ⟨p,s2,rfl,aU,dI,hZ⟩;refine⟨_,s2,rfl,?_⟩;rw[aV,aq];have zd:=PG.pre aU;have uL:j'<s1.length:=(eB.1 PG.wd).1;have gD:=SD V V.length;rw[oY]at gD;have hV:=lO.len;have hV2:=lO.le;rw[Zk (IQ (n+2) (dB V) p s2 zd mI dI (lW.aN λb hb lM=>by
  have:=hZ b hb;rw[cE.1 lM]at this;omega))]
 rw[aq,Zd];exact .mk ⟨i',j',_,rfl,rB (aD.trans aU) C6 _,zd.add mI _ (by rw[(ZE m _ _).1]) ((ZE m _ _).2 zd.lt)⟩
def w8 (img:aj) (m:Nat) (W:al):ak->Option (List ZS)
 |[]=>some []
 |k::r=>match yr (ZG img k.toNat)with
  |none=>none
  |some c=>bif fN m k&&du W k.toNat then none else(w8 img m W r).map (c:: ·)
def Aw (img:aj) (x:cy) (W:al):Bool:=match w8 img x.blocks.toNat W x.aJ with
 |none=>false
 |some cs=>match CL x.blocks.toNat cs with
  |none=>false
  |some F=>decide (F=(dB (jl x.blocks.toNat x.aJ)).foldl (bN x.blocks.toNat) W)
def Jp (img:aj) (x:cy) (rm:Option (Nat×al)):Bool:=match sy (qU img x)with
 |some (some v)=>(match rm with
  |none=>false
  |some (m,R)=>(decide (x.blocks.toNat=m)&&decide (v.W=R))&&Aw img x v.W)
 |_=>false
def ZzD (s:St) (rm:Option (Nat×al)) (p:ai):Prop:=match rm with
 |none=>p=none
 |some (m,R)=>∃f i j,p=some (i,0)/\gJ s f i j m R
theorem Zzn {img:aj} {x:cy} {v:aR} (h:sy (qU img x)=some (some v)):ZT x=true/\x.blocks<=((img.length/64:Nat):Int):=by
 unfold sy at h;cases h1:ZT x with
 |false=>
  have:(qU img x).sup=x:=rfl;rw[this,h1]at h;cases h
 |true=>
  refine⟨rfl,?_⟩;cases h2:decide (x.blocks<=((img.length/64:Nat):Int))with
  |true=>grind
  |false=>
   have e1:(qU img x).sup=x:=rfl;have e2:(qU img x).img=img:=rfl;rw[e1,e2,h1,h2]at h;cases h
theorem ZpD (n:Nat) (a:ai) (img:aj) (x:cy) (pc:ai) (rm:Option (Nat×al)) (pr:ai) (s:St) (ht:sO s) (ha:c9 s a img) (hc:Sl s pc (ints x.aJ)) (hr:ZzD s rm pr) (hl:img.length<1000000) (cO:x.aJ.length<1000) (hn:6000<=n):
  Ok (λo=>∃s',o=(.val [.bool (Jp img x rm)],s')/\aA s s') (run Bd n 173 [.slice 1 a img.length,.agg (dq x pc),.ptr pr] s):=by
 obtain⟨n,rfl⟩: ∃k,n=k+3:=⟨n-3,AC⟩;have⟨R,hR⟩: ∃R,Jp img x rm=R:=⟨_,rfl⟩;rw[hR];unfold Jp at hR;rw[Ze,h.afi];unfold RU Z6 jt yf az js Ab bu cW Zn il Lb vh ep ba iI iH
 try dsimp only
 rw[aV,dY (dq x pc) [.ptr pr]];unfold dq;simp only[av,aV,eO,aq];have ze:([.i x.seq,.i x.blocks,.i x.dc,.i x.g,.i x.cm,.i x.used,.i x.free,.i x.dir,.slice 1 pc x.aJ.length]:ah)=dq x pc:=rfl;rw[ze];have mO: ∀t,aA s t->R=false->Ok (λo=>∃s',o=(.val [.bool R],s')/\aA s s') ((ax [.bool false]:M ah) t):=λt k e=>by
  rw[e,Zd];exact .mk ⟨t,rfl,k⟩
 refine Ok.call (Zl1 (n+2) a img x pc s ha hc hl cO) ?_;intro o ho;cases hw:sy (qU img x)with
 |none=>
  rw[hw]at ho hR;obtain⟨s1,rfl,aD⟩:=ho;refine⟨_,s1,rfl,?_⟩;rw[dY];unfold dw;simp only[av,Zf 2 0 none _ (.inr rfl),Zf 1 0 none _ (.inr rfl),eO,aq];rw[Za,oA FS];simp only[au,aq];rw[Za,ae];simp only[au,aq];rw[ae];exact mO s1 aD hR.symm
 |some q=>
 cases q with
 |none=>
  rw[hw]at ho hR;obtain⟨s1,rfl,aD⟩:=ho;refine⟨_,s1,rfl,?_⟩;rw[dY];unfold dw;simp only[av,Zf 2 0 none _ (.inr rfl),Zf 1 0 none _ (.inr rfl),eO,aq];rw[Za,oA FS];simp only[au,aq];rw[Za,ae];simp only[au,aq];rw[ae];exact mO s1 aD hR.symm
 |some v=>
 rw[hw]at ho hR;obtain⟨s1,z2,q2,z3,q3,z4,q4,i,j,rfl,aD,gp,jP,xx,_,dp,_,_⟩:=ho;refine⟨_,s1,rfl,?_⟩;simp only at hR;have⟨pZ,ahX⟩:=Zzn hw;have⟨AZ,_⟩:=TV pZ;have⟨g1,g2,_⟩:=ZR AZ;have ajA:=(Ai x).1 pZ;have⟨m,hm⟩: ∃m:Nat,x.blocks=m:=Fd
 have hmn:x.blocks.toNat=m:=AC
 rw[hmn]at dp hR;rw[dY];unfold dw;simp only[av,Zf 2 z2 q2 _ gp,Zf 1 z3 q3 _ jP,Zf 1 z4 q4 _ xx,eO,aq];rw[Za,oz FS];simp only[au,aq];rw[Za];cases rm with
 |none=>
  have E8:pr=none:=hr;subst E8;rw[oA FS];simp only[au,aq];rw[ae];grind
 |some mr=>
 have⟨mr,Rr⟩:=mr;obtain⟨fr,ir,jr,rfl,Fe⟩:=hr;rw[show(some (ir,0):ai).isNone=false from rfl,af];refine Ok.call (ZmO (n+2) s1 dp (Fe.pre aD)) ?_;rintro _ rfl;refine⟨_,s1,rfl,?_⟩;simp only[au,aq];simp only at hR;cases PE:(decide (m=mr)&&decide (v.W=Rr))with
 |false=>
  rw[PE,gu]at hR;rw[bp,ae];exact mO s1 aD hR.symm
 |true=>
 rw[PE,dL]at hR;rw[bw,af];unfold Aw at hR;rw[hmn]at hR;refine Ok.join λaW C7=>?_
 have⟨G,hG⟩: ∃G,w8 img m v.W x.aJ=G:=⟨_,rfl⟩;rw[hG]at hR;refine Zj _ (λq y t=>∃(k z:Nat) (c:ai) (acc:List ZS),y=[.slice z c acc.length,.i (k:Int)]/\(z=49\/c=none)/\k<=x.aJ.length/\x.aJ.length-k<=q/\bg s1 t c (sW acc)/\acc.length=k/\(∀y∈acc,y.dR.length=48/\y.no<8)/\(w8 img m v.W (x.aJ.drop k)).map (acc++ ·)=G) ?_ x.aJ.length (n+2) _ _ ⟨0,0,none,[],rfl,.inr rfl,cB _,AC,bg.nil (.refl _),rfl,(λ_ h=>by cases h),by rw[dE,hG];cases G<;>rfl⟩ AC;rintro q _ t ⟨k,z,c,acc,rfl,hz,hk,hq,ho,xc,abZ,aO⟩ rec aL;have jN:=ho.1;have cd:=aD.trans jN;simp only[av,Zf 49 z c _ hz,aq];have hct:=hc.mono cd;have hat:=ha.mono cd;by_cases aw:k<x.aJ.length
 .obtain⟨bi,bo,rfl⟩:=hc.cF (by simp[ints];omega)
  have di:(ints x.aJ)[k]? =some (.i x.aJ[k]):=ZC aw;have gj:x.aJ.drop k=x.aJ[k]::x.aJ.drop (k+1):=jd aw;have j5:=(ajA.ch k aw).1;rw[ef,cu aw,V6,hm]at j5;have ah0:2<=x.aJ[k]/\x.aJ[k]<(m:Int):=j5;rw[gj]at aO;rw[aX,bc,Zb (Zi aw),br,hct.dO di,bj];generalize x.aJ[k]=y at ah0 aO;have⟨yn,hyn⟩: ∃yn:Nat,y=yn:=⟨y.toNat,AC⟩;subst hyn;unfold w8 at aO;rw[br]at aO;rw[Zk (ZmS (n+1) a img.length yn t hl),aV,aq];have ER:(ZG img yn).length=64:=by unfold ZG;rw[cR,eH];omega
  have Yw:c9 t (cK true a (yn*64)) (ZG img yn):=(hat.cK (k:=yn*64) AC).lu 64;have hcg:=Ztb (n+2) (cK true a (yn*64)) (ZG img yn) t Yw AC AC;rw[ER]at hcg;refine Ok.call hcg ?_;rintro _ ⟨t1,aU,dj⟩;have cM:ar ((k:Int)+1)=((k+1:Nat):Int):=Zc;cases Hk:yr (ZG img yn)with
  |none=>
   rw[Hk]at dj aO;simp only at dj aO;subst dj;refine⟨_,t1,rfl,?_⟩;have aiS:(bI Oh.dR).length=48:=rfl;rw[dY (Z0 Oh) _];unfold Z0;rw[av,bK aiS,au,aq,bK (n:=49) rfl,Za,bp,ae];simp only[au,aq];rw[ae];have XD:G=none:=aO.symm;rw[XD]at hR;exact mO t1 (cd.trans aU) hR.symm
  |some cv=>
   rw[Hk]at dj aO;simp only at dj aO;obtain⟨rfl,w9,h8⟩:=dj;refine⟨_,t1,rfl,?_⟩;have iz:(bI cv.dR).length=48:=by rw[Zs,w9]
   rw[dY (Z0 cv) _];have hcc:Z0 cv= .i cv.no::bI cv.dR:=rfl;rw[hcc,av,bK iz,au,aq,bK (n:=49) (by simp[iz]),Za,bw,af,Zk (ZnE n (yn:Int) t1 (dp.pre (jN.trans aU)))];simp only[au,aq];rw[br];cases gT:(fN m (yn:Int)&&du v.W yn)with
   |true=>
    rw[gT,ae]at aO;rw[ae];have XD:G=none:=aO.symm;rw[XD]at hR;exact mO t1 (cd.trans aU) hR.symm
   |false=>
    rw[gT,af]at aO;rw[af,bK (n:=49) (by simp[iz]),<-hcc,cM];have⟨p3,t3,kY,rZ,he⟩:=(ho.mono aU).Dt (β:=ah) (sz:=49) (n:=acc.length) (lim:=1256584717458) (Z0 cv) AC (Us λy hy=>(abZ y hy).1) (MV w9) AC;refine Eq.mpr (congrArg (Ok _) (he _)) ?_;refine aL (x.aJ.length-(k+1)) _ _ AC ⟨k+1,49,p3,acc++[cv],?_,.inl rfl,AC,aM _,?_,?_,λy hy=>?_,?_⟩
    .rw[bz];rfl
    .rw[ZuA]
     have:sW [cv]=Z0 cv:=by unfold sW;simp
     rw[this];exact kY
    .rw[bz,xc];rfl
    .grind
    .rw[<-aO,Option.map_map]
     congr 1;funext l;simp
 .rw[aZ,C7]
  rw[ly AC]at aO;have hGs:G=some acc:=by rw[<-aO];simp[w8]
  rw[hGs]at hR;simp only at hR;simp only[aV,aq];rw[hm];refine Ok.call (ZtW (n+2) m acc c 49 t AC (.inl rfl) ho.sl abZ AC AC) ?_;rintro _ ⟨t1,aU,dj⟩;cases dW:CL m acc with
  |none=>
   rw[dW]at dj hR;simp only at dj hR;subst dj;refine⟨_,t1,rfl,?_⟩;rw[eO,au,aq,Za,af];simp only[au,aq,Zd];exact .mk ⟨t1,by rw[hR],cd.trans aU⟩
  |some F=>
   rw[dW]at dj hR;simp only at dj hR;obtain⟨iF,jF,rfl,hsF⟩:=dj;refine⟨_,t1,rfl,?_⟩;rw[eO,au,aq,Za,ae];have⟨t2,e2,cz,Da,xq⟩:=UQ (n+2) m x.aJ pc t1 AC (hct.mono aU) AC AC;rw[Zk e2,eO,aq];have zd:=dp.pre ((jN.trans aU).trans cz);refine Ok.call (Ztc (adG) (n+2) t2 (ht.mono ((cd.trans aU).trans cz)) zd xq AC AC) ?_;rintro _ ⟨iW,jW,t3,rfl,fe,hsW⟩;refine⟨_,t3,rfl,?_⟩;simp only[eO,aq];refine Ok.call (ZmO (n+2) t3 (hsF.pre (cz.trans fe)) hsW) ?_;rintro _ rfl;refine⟨_,t3,rfl,?_⟩;simp only[au,aq,Zd];refine .mk ⟨t3,?_,((cd.trans aU).trans cz).trans fe⟩;grind
end Go.Gv.F
namespace Go.Gv.F
open Go.Gv
end Go.Gv.F
