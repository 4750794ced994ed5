/- The document's maker of images: its blocks, one behind the other. -/
import Derived.Test.YtegglibipjjblaaGreatDoorGvBMk
import Derived.Test.YtegglibipjjblaaGreatDoorGvZMd
set_option linter.all false
namespace Go.Gv.F
open Go.Gv
variable {β:Type}
structure cC where
 B:aj
 next:Nat
 At:ak
structure gO (s:St) (i ib ia:Nat) (m:cC):Prop where
 cell:s[i]? =some (some ⟨false,[.slice 1 (some (ib,0)) m.B.length,.int .i64 m.next,.slice 1 (some (ia,0)) m.At.length]⟩)
 bb:s[ib]? =some (some ⟨false,bZ m.B⟩)
 aa:s[ia]? =some (some ⟨false,ints m.At⟩)
 d1:i≠ib
 d2:i≠ia
 d3:ib≠ia
variable {f g:Bool} {i i2 ia ib j j2 k m2 n:Nat} {Q:Out ah×St->Prop} {s s':St} {p p1 p2 p3:ai} {T V W:al} {m:cC}
theorem gO.fx (h:gO s i ib ia m) (k:Fx T s s') (hT: ∀x∈T,x≠i/\x≠ib/\x≠ia):gO s' i ib ia m:=
 ⟨k.2 _ _ (λe=>(hT _ e).1 rfl) h.cell,k.2 _ _ (λe=>(hT _ e).2.1 rfl) h.bb,k.2 _ _ (λe=>(hT _ e).2.2 rfl) h.aa,h.d1,h.d2,h.d3⟩
theorem gO.pre {s s':St} {i ib ia:Nat} {m:cC} (h:gO s i ib ia m) (k:aC s s'):gO s' i ib ia m:=h.fx (Fx.pre [] k) λ_ h=>by cases h
theorem gO.lt (h:gO s i ib ia m):i<s.length/\ib<s.length/\ia<s.length:=
 ⟨(eK.1 h.cell).1,(eK.1 h.bb).1,(eK.1 h.aa).1⟩
theorem gO.kp (h:gO s i ib ia m) (k:Fx [i,ib,ia] s s'):Kp s s':=by
 intro j all e;refine k.2 j _ (λhm=>?_) e;simp only[dW,th,oB]at hm;grind[h.cell,h.bb,h.aa]
def rL (B:aj) (k:Nat) (s:aj):aj:=B.take k++(s.take (B.length-k)++B.drop (k+s.length))
theorem Sy {B:aj} (s:aj) (h:k<=B.length:=by omega):(rL B k s).length=B.length:=by
 grind[rL]
theorem Zs2 {B:aj} (s:aj) (h:k<=B.length:=by omega):cq (bZ B) k (bZ (s.take (B.length-k)))=bZ (rL B k s):=by
 have e:bZ B=bZ (B.take k)++(bZ ((B.drop k).take s.length)++bZ (B.drop (k+s.length))):=by
  rw[<-RV,<-RV,<-kd,oA,oA]
 have hl:(bZ (B.take k)).length=k:=by rw[Zt,cV];omega
 have:=sy (bZ (B.take k)) (bZ ((B.drop k).take s.length)) (bZ (B.drop (k+s.length))) (bZ (s.take (B.length-k))) (by
  rw[Zt,Zt,cV,cV,fb,Nat.min_comm])
 rw[hl,<-e]at this;rw[this];simp[rL,RV]
def j8 (m:cC) (s:aj):cC:=⟨bif decide (64*m.next+64<=m.B.length)then rL m.B (64*m.next) s else m.B,m.next+1,m.At⟩
theorem tK (m:cC) (s:aj):(j8 m s).B.length=m.B.length:=by
 unfold j8;by_cases h:64*m.next+64<=m.B.length
 .simp only[aw h,ae];exact Sy s
 grind
variable {Bd:Zh} [h:HA Bd]
theorem B3 (n:Nat) (s:aj) (st:St) (hm:gO st i ib ia m) (hn:m.next<1000000:=by omega) (_hB:m.B.length<1000000:=by omega):
  Ok (λo=>∃fU,o=(.val [.int .i64 m.next],fU)/\gO fU i ib ia (j8 m s)/\Fx [i,ib] st fU) (run Bd (n+1) 194 [.ptr (some (i,0)),.str s] st):=by
 rw[Ze,h.abk];unfold Og kK Zm Q_ Li;simp only[fV,bO,aq,aZ];rw[Zo hm.cell rfl];simp only[aX];rw[Zo hm.cell rfl];simp only[aX];rw[eW,uR hm.cell (by show 1<3;omega)];have hw:ar ((m.next:Int)+1)=((m.next+1:Nat):Int):=Zc;have cD:ar (64*(m.next:Int))=((64*m.next:Nat):Int):=by rw[Zc];omega
 have fM:ar (((64*m.next:Nat):Int)+64)=((64*m.next+64:Nat):Int):=Zc;simp only[hw,cD,fM];obtain⟨h1,h2,h3⟩:=hm.lt;have db:([.slice 1 (some (ib,0)) m.B.length,.int .i64 m.next,.slice 1 (some (ia,0)) m.At.length]:ah).set 1 (.int .i64 ((m.next+1:Nat):Int))=[.slice 1 (some (ib,0)) m.B.length,.int .i64 ((m.next+1:Nat):Int),.slice 1 (some (ia,0)) m.At.length]:=rfl;rw[db];obtain⟨s1,fH⟩: ∃s1,st.set i (some (⟨false,[.slice 1 (some (ib,0)) m.B.length,.int .i64 ((m.next+1:Nat):Int),.slice 1 (some (ia,0)) m.At.length]⟩:bT))=s1:=⟨_,rfl⟩;have vw:gO s1 i ib ia ⟨m.B,m.next+1,m.At⟩:=by
  rw[<-fH];have d1:=hm.d1;have d2:=hm.d2;exact⟨mc h1,by rw[kJ d1];exact hm.bb,by rw[kJ d2];exact hm.aa,d1,d2,hm.d3⟩
 have Cp:Fx [i,ib] st s1:=by rw[<-fH];exact(Fx.set st i _).mono λy hy=>by rw[cx.1 hy];simp
 rw[fH,Zo vw.cell rfl];simp only[lq];rw[Za];by_cases hb:64*m.next+64<=m.B.length
 .rw[aw (show((m.B.length:Nat):Int)>=((64*m.next+64:Nat):Int) by omega),ae,Zo vw.cell rfl]
  simp only[lq];rw[Zb (by rw[aW,bC,bC];omega)];simp only[br,cT];show Ok _ (eI ib (64*m.next+0) _ _ s1);rw[gV,ly,KF vw.bb (by rw[Zt,Zt,cV];grind)];have kX:=Zs2 (B:=m.B) (k:=64*m.next) s;show Ok _ ((aJ [] (ay [DV.int .i64 m.next])) (s1.set ib (some ⟨false,cq (bZ m.B) (64*m.next) (bZ (s.take (m.B.length-64*m.next)))⟩)));rw[kX];simp only[aq,Zd];have hl:=Sy (B:=m.B) (k:=64*m.next) s;refine .mk ⟨_,rfl,?_,Cp.trans ((Fx.set s1 ib _).mono λy hy=>by rw[cx.1 hy];simp)⟩;unfold j8;rw[aw hb,ae];have d1:=hm.d1;have d3:=hm.d3;refine⟨?_,?_,?_,d1,hm.d2,d3⟩
  .rw[kJ (Ne.symm d1),hl];exact vw.cell
  .grind
  .rw[kJ d3];exact vw.aa
 .rw[aD (show ¬((m.B.length:Nat):Int)>=((64*m.next+64:Nat):Int) by omega),af]
  simp only[aq,Zd];refine .mk ⟨s1,rfl,?_,Cp⟩;grind[j8]
def tX (es:List bc) (r:ak×cC):Nat×cC:=match es with
 |[]=>(0,r.2)
 |e::_=>(r.2.next, { j8 r.2 (vS ⟨e,r.1⟩)with At:=r.2.At.set e.slot.toNat (r.2.next:Int) })
def ga:Nat->List bc->cC->ak×cC
 |0,_,m=>([],m)
 |j+1,es,m=>(λr:ak×cC=>(λf:Nat×cC=>(r.1++[(f.1:Int)],f.2)) (tX ((es.drop (2^j)).take (2^j)) (ga j ((es.drop (2^j)).take (2^j)) r.2))) (ga j es m)
def nE (j:Nat) (es:List bc) (m:cC):Nat×cC:=tX es (ga j es m)
theorem ZpI (es:List bc) (r:ak×cC):(tX es r).2.B.length=r.2.B.length/\(tX es r).2.At.length=r.2.At.length/\(tX es r).2.next<=r.2.next+1/\r.2.next<=(tX es r).2.next:=by
 unfold tX;cases es with
 |nil=>simp
 |cons e r'=>exact⟨tK _ _,by simp,aO _,Nat.le_succ _⟩
theorem Gh: ∀(j:Nat) (es:List bc) (m:cC),(ga j es m).2.B.length=m.B.length/\(ga j es m).2.At.length=m.At.length/\(ga j es m).2.next+1<=m.next+2^j/\m.next<=(ga j es m).2.next/\(ga j es m).1.length=j
 |0,_,m=>⟨rfl,rfl,by simp[ga],aO _,rfl⟩
 |j+1,es,m=>by
  obtain⟨a1,a2,a3,a4,a5⟩:=Gh j es m;obtain⟨b1,b2,b3,b4,_⟩:=Gh j ((es.drop (2^j)).take (2^j)) (ga j es m).2;obtain⟨c1,c2,c3,c4⟩:=ZpI ((es.drop (2^j)).take (2^j)) (ga j ((es.drop (2^j)).take (2^j)) (ga j es m).2);have e:2^(j+1)=2*2^j:=by rw[zl];omega
  refine⟨c1.trans (b1.trans a1),c2.trans (b2.trans a2),?_,?_,?_⟩
  .show(tX _ _).2.next+1<=_
   omega
  .show m.next<=(tX _ _).2.next
   omega
  .show((ga j es m).1++[_]).length=j+1
   rw[bA,a5];rfl
theorem Znc (j:Nat) (es:List bc) (m:cC):(nE j es m).2.B.length=m.B.length/\(nE j es m).2.At.length=m.At.length/\(nE j es m).2.next<=m.next+2^j/\m.next<=(nE j es m).2.next:=by
 obtain⟨a1,a2,a3,a4,_⟩:=Gh j es m;obtain⟨c1,c2,c3,c4⟩:=ZpI es (ga j es m);grind[nE]
theorem Zmt (l:List bc): ∀(k:Nat),(bK l).drop (k*4)=bK (l.drop k):=by
 induction l with
 |nil=>intro k;simp[bK]
 |cons e l ih=>
  intro k;cases k with
  |zero=>rfl
  |succ k=>
   have e2:bK (e::l)=eN e++bK l:=rfl;rw[e2,show(k+1)*4=(eN e).length+k*4 by show _=4+_;omega,<-kd,Bi,ih k];rfl
theorem Zmh (l:List bc) (k:Nat):(bK l).take (k*4)=bK (l.take k):=by
 induction l generalizing k with
 |nil=>simp[bK]
 |cons e l ih=>
  cases k with
  |zero=>rfl
  |succ k=>
   have e2:bK (e::l)=eN e++bK l:=rfl;rw[e2,show(k+1)*4=(eN e).length+k*4 by show _=4+_;omega,List.take_length_add_append,ih k];rfl
theorem Fz.aaL {es:List bc} (h:Fz s p (bK es)) (k n:Nat) (hk:k+n<=es.length) (hn:0<n):Fz s (dj true p (k*4)) (bK ((es.drop k).take n)):=by
 obtain⟨i,o,rfl⟩:=h.1.cB (by rw[Zq];omega);refine⟨?_,λb o' e=>?_⟩
 .have h1:=h.1.dj (k:=k*4) (by rw[Zq];omega)
  rw[Zmt]at h1;have h2:=h1.lK (n*4);rw[Zmh]at h2;exact h2
 .have e':some (i,k*4+o)=some (b,o'):=e
  cases e';exact h.2 i o rfl
theorem Zqn {Bd:Zh} (h:HA Bd): ∀(j n:Nat) {i ib ia:Nat} {m:cC} (es:List bc) (p:ai) (st:St),gO st i ib ia m->Fz st p (bK es)->es.length=2^j->(∀e∈es,0<=e.slot/\e.slot<(m.At.length:Int))->j<20->m.next+2^j<=900000->m.B.length<1000000->m.At.length<100000->3000+j<=n->
  Ok (λo=>∃fU,o=(.val [.int .i64 (nE j es m).1],fU)/\gO fU i ib ia (nE j es m).2/\Fx [i,ib,ia] st fU) (run Bd n 217 [.ptr (some (i,0)),.slice 4 p es.length] st):=by
 intro j;induction j using Nat.strongRecOn with
 |_ j ih=>
 intro n i ib ia m es p st hm hs hl dN hj E8 hB EB hn;obtain⟨n,rfl⟩: ∃k,n=k+1:=⟨n-1,by omega⟩;rw[Ze,h.abH];unfold NY oJ DX iM cM Zm N_ DF mh wA uN Li DH DJ;have vA:0<es.length:=by rw[hl];exact Nat.two_pow_pos j
 obtain⟨bi,bo,rfl⟩:=hs.1.cB (by rw[Zq];omega);obtain⟨e0,er,L7⟩: ∃e0 er,es=e0::er:=by
  cases es with
  |nil=>cases vA
  |cons a b=>exact⟨a,b,rfl⟩
 have he0:es[0]? =some e0:=by rw[L7];rfl
 simp only[fV,bd,aq];rw[aZ,Zb (show aP 0 es.length=true from Zi (i:=0) vA)];have sW: ∀(s:St),Fz s (some (bi,bo)) (bK es)->∀K:ah->M ah,bQ bi (0+bo) 4 K s=K (eN e0) s:=λs hs K=>by
  have:=GN hs.1 he0 K;rwa [qK]at this
 rw[sW st hs];unfold eN;simp only[av,aq];refine Ok.join λaA yC=>?_
 obtain⟨T,hT⟩: ∃T,nE j es m=T:=⟨_,rfl⟩;rw[hT];obtain⟨l1,l2,l3⟩:=hm.lt;refine Zj _ (λq y t=>∃(a z:Nat) (k:ai),y=[.agg [.int .i64 e0.slot,.int .i64 e0.gen,.int .i64 e0.key,.int .i64 e0.value,.slice z k (ga a es m).1.length],.int .i64 ((2^a:Nat):Int)]/\(z=1\/k=none)/\a<=j/\j-a<=q/\gO t i ib ia (ga a es m).2/\Fx [i,ib,ia] st t/\bn [] t k (ints (ga a es m).1)/\∀b∈aM k,st.length<=b) ?_ j n _ _ ⟨0,0,none,rfl,.inr rfl,cE _,by omega,hm,.refl _ _,bn.nil ⟨st,rfl⟩,λ_ h=>by cases h⟩ (by omega);rintro q _ t ⟨a,z,k,rfl,hz,ha,hq,jv,cF,fu,yz⟩ rec aQ;rw[cG];simp only[av,Zf 1 z k _ hz,aq];have cc:=hs.kp (hm.kp cF);obtain⟨g1,g2,g3,g4,g5⟩:=Gh a es m;by_cases ax:a<j
 .have h2b:2^(a+1)<=2^j:=mX (by decide) ax
  have aV:0<2^a:=Nat.two_pow_pos a;have hw:ar (2*((2^a:Nat):Int))=((2^(a+1):Nat):Int):=by rw[Zc];omega
  rw[aw (show((2^a:Nat):Int)<(es.length:Int) by omega),ae];simp only[hw,br];rw[Zb (by rw[aW,bC,bC];omega),Zb (by rw[aW,bC,bC];omega)];have yK:=cc.aaL (2^a) (2^a) (by omega) aV;have Yd:((es.drop (2^a)).take (2^a)).length=2^a:=by rw[cV,fb];omega
  have Cw:2^(a+1)-2^a=((es.drop (2^a)).take (2^a)).length:=by rw[Yd];omega
  rw[Cw];refine Ok.Af (ih a ax n ((es.drop (2^a)).take (2^a)) _ t jv yK Yd (λe he=>by rw[g2];exact dN e (List.mem_of_mem_drop (List.mem_of_mem_take he))) (by omega) (by omega) (by rw[g1];exact hB) (by rw[g2];exact EB) (by omega)) ?_;rintro _ ⟨t1,rfl,vw,lB⟩;refine⟨_,t1,rfl,?_⟩;simp only[av,aq];have xg: ∀b∈aM k,b∉[i,ib,ia]:=λb hb kB=>by
   have:=yz b hb;simp only[dW,th,oB]at kB;omega
  have Mu:=fu.fx lB xg;obtain⟨b,t2,r1,r2,r3,r4⟩:=xZ (β:=ah) (lim:=8796093022208) Mu (sz:=1) (n:=(ga a es m).1.length) [.int .i64 ((nE a ((es.drop (2^a)).take (2^a)) (ga a es m).2).1:Int)] (by omega) (by simp[ints]) rfl;refine Eq.mpr (congrArg (Ok _) (r4 _)) ?_;have gF:=vw.fx r3 λy hy=>by
   have:=yz y hy;omega
  have fF:Fx [i,ib,ia] st t2:=(cF.trans lB).step r3 λy hy=> .inr (yz y hy)
  refine aQ (j-(a+1)) _ _ (by omega) ⟨a+1,1,some (b,0),?_,.inl rfl,by omega,aO _,gF,fF,?_,λy hy=>?_⟩
  .obtain⟨_,_,_,_,g6⟩:=Gh (a+1) es m
   rw[g5,g6]
  .show bn [] t2 (some (b,0)) (ints ((ga a es m).1++[_]))
   unfold ints;rw[fB];exact r2
  .rw[cx.1 hy]
   have:=(cF.trans lB).1;omega
 .have haj:a=j:=by omega
  subst haj;rw[aD (show ¬((2^a:Nat):Int)<(es.length:Int) by omega),af,yC];show Ok _ (bj [.agg [.int .i64 e0.slot,.int .i64 e0.gen,.int .i64 e0.key,.int .i64 e0.value,.slice 1 k (ga a es m).1.length]] _ t);rw[cG];simp only[av,bd,aq];refine Ok.call (Zk6 n ⟨e0,(ga a es m).1⟩ 1 k t (.inl rfl) fu.sl (by grind)) ?_;rintro _ ⟨t1,rfl,aH⟩;refine⟨_,t1,rfl,?_⟩;simp only[bO,aq];obtain⟨n,rfl⟩: ∃k,n=k+1:=⟨n-1,by omega⟩;refine Ok.call (B3 n (vS ⟨e0,(ga a es m).1⟩) t1 (jv.pre aH) (by omega) (by rw[g1];exact hB)) ?_;rintro _ ⟨t2,rfl,gF,fF⟩;refine⟨_,t2,rfl,?_⟩;simp only[av,aq,aZ];have fe:Fx [i,ib,ia] st t2:=(cF.trans (Fx.pre _ aH)).trans (fF.mono λy hy=>by simp only[dW,th,oB]at hy⊢;omega);have It:=hs.kp (hm.kp fe);rw[Zo gF.cell rfl];simp only[lq];rw[Zb (show aP 0 es.length=true from Zi (i:=0) vA)];have UD:(bK es)[0]? =some (.int .i64 e0.slot):=by rw[L7];rfl
  rw[It.1.get UD];simp only[aX];have Ip:=dN e0 (by rw[L7];simp);obtain⟨ks,HV⟩: ∃ks:Nat,e0.slot=ks:=⟨e0.slot.toNat,by omega⟩;have wZ:(j8 (ga a es m).2 (vS ⟨e0,(ga a es m).1⟩)).At=(ga a es m).2.At:=rfl;rw[aZ,HV,Zb (show aP ((ks:Nat):Int) _=true from Zi (by rw[wZ,g2];omega)),br,cT,gV,uR gF.aa (by simp only[ints,uG];rw[wZ,g2];omega),Zd];have hTe:T=(((ga a es m).2.next, { j8 (ga a es m).2 (vS ⟨e0,(ga a es m).1⟩)with At:=(ga a es m).2.At.set ks ((ga a es m).2.next:Int) }):Nat×cC):=by
   rw[<-hT];unfold nE tX;rw[L7];simp only;rw[HV,br]
  rw[hTe];have db:(ints (j8 (ga a es m).2 (vS ⟨e0,(ga a es m).1⟩)).At).set ks (.int .i64 ((ga a es m).2.next:Int))=ints ((ga a es m).2.At.set ks ((ga a es m).2.next:Int)):=by
   rw[wZ];unfold ints;rw[List.map_set]
  rw[db];obtain⟨m1,m2,m3⟩:=gF.lt;have d2:=gF.d2;have d3:=gF.d3;refine .mk ⟨_,rfl,⟨?_,?_,?_,gF.d1,d2,d3⟩,fe.trans ((Fx.set t2 ia _).mono λy hy=>by rw[cx.1 hy];simp)⟩
  .rw[kJ (Ne.symm d2),qI]
   exact gF.cell
  .rw[kJ (Ne.symm d3)]
   exact gF.bb
  .exact mc m3
def uM (s:St):ah->List di->Prop
 |ds,[]=>ds=[]
 |ds,x::r=>∃z p t,(z=4\/p=none)/\ds=ju x z p++t/\Fz s p (bK x.bS)/\uM s t r
theorem uM.kp {s s':St} (k:Kp s s'): ∀ {ds:ah} {xs:List di},uM s ds xs->uM s' ds xs
 |_,[],h=>h
 |_,_::_,⟨z,p,t,hz,h1,h2,h3⟩=>⟨z,p,t,hz,h1,h2.kp k,h3.kp k⟩
theorem uM.aS {s:St} : ∀ {ds:ah} {xs:List di},uM s ds xs->iZ s ds xs
 |_,[],h=>h
 |_,_::_,⟨z,p,t,hz,h1,h2,h3⟩=>⟨z,p,t,hz,h1,h2.1,h3.aS⟩
theorem uM.get {s:St} : ∀ {ds:ah} {xs:List di},uM s ds xs->∀ {j:Nat} {x:di},xs[j]? =some x->∃z p,(z=4\/p=none)/\ds[j*2]? =some (.str x.name)/\ds[j*2+1]? =some (.slice z p x.bS.length)/\Fz s p (bK x.bS)
 |_,[],_,j,x,e=>by simp at e
 |ds,y::r,⟨zq,q,t,IB,h1,h2,h3⟩,0,x,e=>by
  simp only[lh,fQ]at e;subst e;subst h1;exact⟨zq,q,IB,rfl,rfl,h2⟩
 |ds,y::r,⟨zq,q,t,IB,h1,h2,h3⟩,j+1,x,e=>by
  obtain⟨z,p,hz,g2,g3,g4⟩:=h3.get (j:=j) (x:=x) (by simpa using e);refine⟨z,p,hz,?_,?_,g4⟩
  .rw[h1,mb (by rw[wy];omega),wy,show(j+1)*2-2=j*2 by omega]
   exact g2
  .rw[h1,mb (by rw[wy];omega),wy,show(j+1)*2+1-2=j*2+1 by omega]
   exact g3
structure zs (s:St) (x:eL) (p1 p2 p3:Option (Nat×Nat)):Prop where
 hp: ∃ds,Fz s p1 ds/\uM s ds x.aS
 gn:Fz s p2 (ints x.aG)
 fr:Fz s p3 (ints x.free)
theorem zs.kp {s s':St} {x:eL} {p1 p2 p3:ai} (h:zs s x p1 p2 p3) (k:Kp s s'):zs s' x p1 p2 p3:=
 let ⟨ds,h1,h2⟩:=h.hp
 ⟨⟨ds,h1.kp k,h2.kp k⟩,h.gn.kp k,h.fr.kp k⟩
theorem zs.str {x:eL} (h:zs s x p1 p2 p3):na s x p1 p2 p3:=
 let ⟨ds,h1,h2⟩:=h.hp
 ⟨⟨ds,h1.1,h2.aS⟩,h.gn.1,h.fr.1⟩
def ot (cK:Nat):Nat->Nat->ak->List bc->cC->ak×cC
 |0,_,hs,_,m=>(hs,m)
 |c+1,k,hs,rest,m=>bif fC cK k then(λt:Nat×cC=>ot cK c (k+1) (hs.set k (t.1:Int)) (rest.drop (2^k)) t.2) (nE k (rest.take (2^k)) m)else ot cK c (k+1) hs rest m
def roots (es:List bc) (m:cC):ak×cC:=ot es.length 12 0 (List.replicate 12 0) es m
def nX:List di->ak->cC->ak×cC
 |[],iP,m=>(iP,m)
 |x::r,iP,m=>(λt:ak×cC=>nX r (iP++[(t.2.next:Int)]) (j8 t.2 (xF ⟨x.name,x.bS.length,t.1⟩))) (roots x.bS m)
def pW (l:List di) (m:cC):Nat×cC:=(λt:ak×cC=>match wK t.1 with
 |none=>(0,t.2)
 |some s=>(t.2.next,j8 t.2 s)) (nX l [] m)
theorem mod_pow_succ (a k:Nat):a%2^(k+1)=a%2^k+(if a/2^k%2=1 then 2^k else 0):=by
 rw[zl,Nat.mod_mul];grind
theorem Zwa {a:Nat} (h:fC a k=true):a%2^k+2^k<=a:=by
 have h1:a/2^k%2=1:=qL h;have h2:a%2^(k+1)<=a:=Nat.mod_le _ _;rw[mod_pow_succ,bG h1]at h2;exact h2
theorem PZ (cK:Nat): ∀(c k:Nat) (hs:ak) (rest:List bc) (m:cC),(ot cK c k hs rest m).2.B.length=m.B.length/\(ot cK c k hs rest m).2.At.length=m.At.length/\(ot cK c k hs rest m).2.next+cK%2^k<=m.next+cK%2^(k+c)/\m.next<=(ot cK c k hs rest m).2.next/\(ot cK c k hs rest m).1.length=hs.length
 |0,k,hs,rest,m=>⟨rfl,rfl,aO _,aO _,rfl⟩
 |c+1,k,hs,rest,m=>by
  unfold ot;have e:=mod_pow_succ cK k;have e2:k+(c+1)=k+1+c:=by omega
  rw[e2];cases hb:fC cK k with
  |true=>
   rw[ae];obtain⟨a1,a2,a3,a4⟩:=Znc k (rest.take (2^k)) m;obtain⟨b1,b2,b3,b4,b5⟩:=PZ cK c (k+1) (hs.set k ((nE k (rest.take (2^k)) m).1:Int)) (rest.drop (2^k)) (nE k (rest.take (2^k)) m).2;rw[bG (qL hb)]at e;grind
  |false=>
   rw[af];obtain⟨b1,b2,b3,b4,b5⟩:=PZ cK c (k+1) hs rest m;rw[ba (Ds hb)]at e;omega
theorem Zm7 (es:List bc) (m:cC):(roots es m).2.B.length=m.B.length/\(roots es m).2.At.length=m.At.length/\(roots es m).2.next<=m.next+es.length/\m.next<=(roots es m).2.next/\(roots es m).1.length=12:=by
 obtain⟨b1,b2,b3,b4,b5⟩:=PZ es.length 12 0 (List.replicate 12 0) es m;rw[uH]at b5;grind[roots]
def sN (l:List di):Nat:=(l.map λx=>x.bS.length).sum
theorem Qb: ∀(l:List di) (iP:ak) (m:cC),(nX l iP m).2.B.length=m.B.length/\(nX l iP m).2.At.length=m.At.length/\(nX l iP m).2.next<=m.next+sN l+l.length/\m.next<=(nX l iP m).2.next/\(nX l iP m).1.length=iP.length+l.length
 |[],iP,m=>⟨rfl,rfl,aO _,aO _,rfl⟩
 |x::r,iP,m=>by
  obtain⟨a1,a2,a3,a4,a5⟩:=Zm7 x.bS m;obtain⟨b1,b2,b3,b4,b5⟩:=Qb r (iP++[((roots x.bS m).2.next:Int)]) (j8 (roots x.bS m).2 (xF ⟨x.name,x.bS.length,(roots x.bS m).1⟩));have hn:(j8 (roots x.bS m).2 (xF ⟨x.name,x.bS.length,(roots x.bS m).1⟩)).next=(roots x.bS m).2.next+1:=rfl;rw[hn]at b3 b4;have e:sN (x::r)=x.bS.length+sN r:=by rfl
  unfold nX;refine⟨b1.trans ((tK _ _).trans a1),b2.trans a2,?_,?_,?_⟩
  .rw[e,cO];simp only;omega
  .simp only;omega
  grind
theorem Zu2 (l:List di) (m:cC):(pW l m).2.B.length=m.B.length/\(pW l m).2.At.length=m.At.length/\(pW l m).2.next<=m.next+sN l+l.length+1/\m.next<=(pW l m).2.next:=by
 obtain⟨a1,a2,a3,a4,a5⟩:=Qb l [] m;unfold pW;simp only;cases wK (nX l [] m).1 with
 |none=>grind
 |some s=>exact⟨(tK _ _).trans a1,a2,by show _+1<=_;omega,by show _<=_+1;omega⟩
theorem ZvV (a k:Nat) (hk:k<64):((((a:Nat):Int).fdiv (2^(min k 64))).tmod 2==1)=fC a k:=by
 rw[mW (by omega),show((2:Int)^k)=((2^k:Nat):Int) by push_cast;rfl,Ea];have e:((a/2^k:Nat):Int).tmod 2=((a/2^k%2:Nat):Int):=rfl;rw[e];grind[fC]
theorem Zwq {Bd:Zh} (hT:HA Bd) {Kn:ah->M ah} (n:Nat) (nm:aj) (es:List bc) (p:ai) (z0:Nat) (vH:z0=4\/p=none) (st:St) (hm:gO st i ib ia m) (hs:Fz st p (bK es)) (dN: ∀e∈es,0<=e.slot/\e.slot<(m.At.length:Int)) (E8:m.next+es.length<=800000) (hB:m.B.length<1000000) (EB:m.At.length<100000) (hle:es.length<100000) (hn:3020<=n)
  (aN: ∀t,gO t i ib ia (roots es m).2->Fx [i,ib,ia] st t->Ok Q (Kn [.agg (.str nm:: .int .i64 (es.length:Int)::ints (roots es m).1)] t)):
  Ok Q (cW (λdt st=>
    bj st λcz st=>
    ep cz λq2 r3=>
    aF .i64 r3 λq3 r4=>
    bu r4 12<|
    bN 4 st λrest yY st=>
    aF .i64 st λk st=>
    aJ st<|
    bif decide (k<12)then
     aB (decide (0<=k))<|
     cI (λst=>
      bj st λfq st=>
      ep fq λq4 r5=>
      aF .i64 r5 λq5 r6=>
      bu r6 12<|
      bN 4 st λV9 Wa st=>
      aJ st<|
      dt [.agg ((.str q4)::(.int .i64 q5)::r6),.slice 4 V9 Wa,.int .i64 (ar (k+1))]) λbz=>
     bif ((q3.fdiv (2^(min k.toNat 64))).tmod 2)==1 then
      aB (decide (0<=k))<|
      aB (decide (0<=ar (1*2^(min k.toNat 64)))&&decide (ar (1*2^(min k.toNat 64))<=(yY:Int)))<|
      cY (run Bd n 217 [.ptr (some (i,0)),.slice 4 rest ((ar (1*2^(min k.toNat 64))).toNat)]) λds=>
      aF .i64 ds λx8 ds=>
      aJ ds<|
      aB (aP k 12)<|
      aB (Nat.ble (k.toNat*1+2+1) 14)<|
      aB (decide (0<=k))<|
      aB (decide (0<=ar (1*2^(min k.toNat 64)))&&decide (ar (1*2^(min k.toNat 64))<=(yY:Int)))<|
      bz [.agg ((.str q2)::(.int .i64 q3)::(cq r4 (k.toNat*1) [.int .i64 x8])),.slice 4 (dj true rest (((ar (1*2^(min k.toNat 64))).toNat)*4)) (yY-((ar (1*2^(min k.toNat 64))).toNat))]
     else
      bz [.agg ((.str q2)::(.int .i64 q3)::r4),.slice 4 rest yY]
    else
     Kn [.agg ((.str q2)::(.int .i64 q3)::r4)]) n [.agg (.str nm:: .int .i64 (es.length:Int)::ints (List.replicate 12 0)),.slice z0 p es.length,.int .i64 0] st):=by
 obtain⟨G,hG⟩: ∃G,roots es m=G:=⟨_,rfl⟩;rw[hG]at aN;unfold roots at hG;refine Zj _ (λq y t=>∃(k z:Nat) (p':ai) (iy:ak) (m':cC),y=[.agg (.str nm:: .int .i64 (es.length:Int)::ints iy),.slice z p' (es.length-es.length%2^k),.int .i64 (k:Int)]/\(z=4\/p'=none)/\k<=12/\12-k<=q/\iy.length=12/\gO t i ib ia m'/\Fx [i,ib,ia] st t/\Fz t p' (bK (es.drop (es.length%2^k)))/\m'.next<=m.next+es.length%2^k/\m'.B.length=m.B.length/\m'.At.length=m.At.length/\ot es.length (12-k) k iy (es.drop (es.length%2^k)) m'=G) ?_ 12 n _ _ ⟨0,z0,p,List.replicate 12 0,m,by rw[Nat.pow_zero,Nat.mod_one,Nat.sub_zero];rfl,vH,cE _,by omega,uH,hm,.refl _ _,by rw[Nat.pow_zero,Nat.mod_one,dA];exact hs,by omega,rfl,rfl,by rw[Nat.pow_zero,Nat.mod_one,dA];exact hG⟩ (by omega);rintro q _ t ⟨k,z,p',iy,m',rfl,VC,hk,hq,Cu,jv,cF,cw,E9,Aq,Ao,dM⟩ rec aQ;have iG:(ints iy).length=12:=by simp[ints,Cu]
 rw[cG];simp only[bO,av];rw[bD iG];simp only[Zf 4 z p' _ VC,av,aq];by_cases ax:k<12
 .have hw:ar ((k:Int)+1)=((k+1:Nat):Int):=Zc
  have h2k:2^k<=2^11:=mX (by decide) (by omega);have Ir:ar (1*2^(min k 64))=((2^k:Nat):Int):=by
   rw[mW (by omega),Int.one_mul,show((2:Int)^k)=((2^k:Nat):Int) by push_cast;rfl];exact Zc
  rw[aw (show(k:Int)<12 by omega),ae,Zb (aw (by omega))];simp only[br,Ir,hw];rw[Za,ZvV _ _ (by omega)];have TK:12-k=(12-(k+1))+1:=by omega
  rw[TK]at dM;unfold ot at dM;have emod:=mod_pow_succ es.length k;cases hb:fC es.length k with
  |true=>
   rw[hb,ae]at dM;have oh:=Zwa hb;rw[bG (qL hb)]at emod;rw[ae,Zb (aw (by omega)),Zb (by rw[aW,bC,bC];omega)];obtain⟨A,hA⟩: ∃A,es.drop (es.length%2^k)=A:=⟨_,rfl⟩;have wZ:A.length=es.length-es.length%2^k:=by rw[<-hA,fb]
   rw[hA]at cw dM;have hAk:(A.take (2^k)).length=2^k:=by rw[cV];omega
   have yK:Fz t p' (bK (A.take (2^k))):=⟨by
    have:=cw.1.lK (2^k*4);rwa [Zmh]at this,cw.2⟩
   have sQ:(DV.slice 4 p' (2^k))= .slice 4 p' (A.take (2^k)).length:=by rw[hAk]
   rw[sQ];refine Ok.call (Zqn hT k n (A.take (2^k)) p' t jv yK hAk (λe he=>by rw[Ao];grind) (by omega) (by omega) (by rw[Aq];exact hB) (by rw[Ao];exact EB) (by omega)) ?_;rintro _ ⟨t1,rfl,vw,lB⟩;refine⟨_,t1,rfl,?_⟩;simp only[av,aq];rw[Zb (show aP (k:Int) 12=true from Zi ax),ZY (by omega),Zb (aw (by omega)),Zb (by rw[aW,bC,bC];omega)];obtain⟨k1,k2,k3,k4⟩:=Znc k (A.take (2^k)) m';have db:cq (ints iy) (k*1) [.int .i64 ((nE k (A.take (2^k)) m').1:Int)]=ints (iy.set k ((nE k (A.take (2^k)) m').1:Int)):=by
    rw[cT,BV _ _ _ (by omega)];unfold ints;rw[List.map_set]
   rw[db];have Fa:(ints (iy.set k ((nE k (A.take (2^k)) m').1:Int))).length=12:=by simp[ints,Cu]
   show Ok _ (bj [.agg (.str nm:: .int .i64 (es.length:Int)::ints (iy.set k ((nE k (A.take (2^k)) m').1:Int))),.slice 4 (dj true p' (2^k*4)) (es.length-es.length%2^k-2^k)] _ t1);rw[cG];simp only[bO,av];rw[bD Fa];simp only[bd,aq];have Vn:=cw.kp (jv.kp lB);have fE:es.drop (es.length%2^(k+1))=A.drop (2^k):=by rw[<-hA,kd,emod]
   have hlen:es.length-es.length%2^(k+1)=es.length-es.length%2^k-2^k:=by omega
   refine aQ (12-(k+1)) _ _ (by omega) ⟨k+1,4,dj true p' (2^k*4),_,_,by rw[hlen],.inl rfl,by omega,aO _,by rw[qI,Cu],vw,cF.trans lB,?_,by omega,k1.trans Aq,k2.trans Ao,by rw[fE];exact dM⟩;rw[fE];refine⟨?_,?_⟩
   .have:=Vn.1.dj (k:=2^k*4) (by rw[Zq];omega)
    rwa [Zmt]at this
   .obtain⟨bi,bo,rfl⟩:=Vn.1.cB (by rw[Zq];omega)
    intro b o' e;have e':some (bi,2^k*4+bo)=some (b,o'):=e;cases e';exact Vn.2 bi bo rfl
  |false=>
   rw[hb,af]at dM;rw[ba (Ds hb),gV]at emod;rw[af];show Ok _ (bj [.agg (.str nm:: .int .i64 (es.length:Int)::ints iy),.slice 4 p' (es.length-es.length%2^k)] _ t);rw[cG];simp only[bO,av];rw[bD iG];simp only[bd,aq];exact aQ (12-(k+1)) _ _ (by omega) ⟨k+1,4,p',iy,m',by rw[emod];rfl,.inl rfl,by omega,aO _,Cu,jv,cF,by rw[emod];exact cw,by rw[emod];exact E9,Aq,Ao,by rw[emod];exact dM⟩
 .have:k=12:=by omega
  subst this;rw[aD (show ¬((12:Nat):Int)<12 by omega),af];have hG2:(iy,m')=G:=dM;rw[<-hG2]at aN;exact aN t jv cF
theorem de (cs r:ah) (K:ah->ah->M β):bj (.agg cs::r) K=K cs r:=rfl
theorem ZrL (n:Nat) (l:List di) (p:ai) (z:Nat) (ds:ah) (st:St) (hz:z=2\/p=none) (hm:gO st i ib ia m) (hs:Fz st p ds) (hh:uM st ds l) (dN: ∀x∈l,∀e∈x.bS,0<=e.slot/\e.slot<(m.At.length:Int)) (rB: ∀x∈l,x.name.length+600<=n/\x.name.length<60000/\x.bS.length<100000) (E8:m.next+sN l+l.length<=700000) (hl:l.length<1000) (hB:m.B.length<1000000) (EB:m.At.length<100000) (hn:4000<=n):
  Ok (λo=>∃fU,o=(.val [.int .i64 (pW l m).1],fU)/\gO fU i ib ia (pW l m).2/\Fx [i,ib,ia] st fU) (run Bd n 189 [.ptr (some (i,0)),.slice z p l.length] st):=by
 obtain⟨n,rfl⟩: ∃k,n=k+2:=⟨n-2,by omega⟩;rw[Ze,h.abf];unfold Of fX tn cM lu tD N_ iM cy bE Li uN eU DD jQ;simp only[fV,Zf 2 z p _ hz,aq];obtain⟨T,hT⟩: ∃T,pW l m=T:=⟨_,rfl⟩;rw[hT];unfold pW at hT;obtain⟨l1,l2,l3⟩:=hm.lt;refine Ok.join λaA yC=>?_
 refine Zj _ (λq y t=>∃(k zk:Nat) (a:ai) (iP:ak) (m':cC),y=[.slice zk a iP.length,.int .i64 (k:Int)]/\(zk=1\/a=none)/\k<=l.length/\l.length-k<=q/\gO t i ib ia m'/\Fx [i,ib,ia] st t/\bn [] t a (ints iP)/\(∀b∈aM a,st.length<=b)/\iP.length=k/\m'.B.length=m.B.length/\m'.At.length=m.At.length/\m'.next+sN (l.drop k)+(l.length-k)<=m.next+sN l+l.length/\nX (l.drop k) iP m'=nX l [] m) ?_ l.length (n+1) _ _ ⟨0,0,none,[],m,rfl,.inr rfl,cE _,by omega,hm,.refl _ _,bn.nil ⟨st,rfl⟩,(λ_ h=>by cases h),rfl,rfl,rfl,aO _,rfl⟩ (by omega);rintro q _ t ⟨k,zk,a,iP,m',rfl,VA,hk,hq,jv,cF,lF,oQ,yx,Aq,Ao,E9,aN⟩ rec aQ;simp only[av,Zf 1 zk a _ VA,aq];have qf:=hm.kp cF;have cc:=hs.kp qf;have hht:=hh.kp qf;by_cases ax:k<l.length
 .have og:=hht.aS.len
  obtain⟨bi,bo,rfl⟩:=cc.1.cB (by rw[og];omega);have lY:l[k]? =some l[k]:=cg ax;have fE:l.drop k=l[k]::l.drop (k+1):=iC ax;have jc:l[k]∈l:=jP ax;rw[fE]at aN E9;generalize l[k]=x at lY aN E9 jc;obtain⟨zx,px,hzx,nr,oS,lB⟩:=hht.get lY;have Ur:sN (x::l.drop (k+1))=x.bS.length+sN (l.drop (k+1)):=by unfold sN;rw[pF,List.sum_cons]
  rw[Ur]at E9;have sW: ∀K:DV->M ah,bF bi (k*2+bo+1) K t=K (.slice zx px x.bS.length) t:=λK=>by
   have:=cc.1.get oS K;rw[<-this];congr 1;omega
  rw[aw (show(k:Int)<(l.length:Int) by omega),ae,Za,aZ,Zb (Zi ax)];simp only[br];rw[cc.1.get nr];simp only[wh];rw[aZ,Zb (Zi ax),sW];rw[tF 4 zx px _ hzx,aZ,Zb (Zi ax),sW,tF 4 zx px _ hzx];refine Ok.join λaR AI=>?_
  obtain⟨n1,n2,n3⟩:=rB x jc;refine Zwq h (n+1) x.name x.bS px 4 (.inl rfl) t jv lB (by grind) (by omega) (by omega) (by omega) n3 (by omega) (Kn:=aR) ?_;intro t1 vw fF;rw[AI];obtain⟨k1,k2,k3,k4,k5⟩:=Zm7 x.bS m';have iG:(ints (roots x.bS m').1).length=12:=by simp[ints,k5]
  show Ok _ (bj [.agg (.str x.name:: .int .i64 (x.bS.length:Int)::ints (roots x.bS m').1)] _ t1);rw[cG];simp only[bO,av];rw[bD iG];simp only[aq];refine Ok.call (Zlz (n+1) ⟨x.name,x.bS.length,(roots x.bS m').1⟩ k5 n2 t1 (by grind)) ?_;rintro _ ⟨t2,rfl,aV⟩;refine⟨_,t2,rfl,?_⟩;simp only[bO,aq];refine Ok.call (B3 n (xF ⟨x.name,x.bS.length,(roots x.bS m').1⟩) t2 (vw.pre aV)) ?_;rintro _ ⟨t3,rfl,AO,fe⟩;refine⟨_,t3,rfl,?_⟩;simp only[av,aq];have hw:ar ((k:Int)+1)=((k+1:Nat):Int):=Zc;simp only[hw];have rz:Fx [i,ib,ia] t t3:=(fF.trans (Fx.pre _ aV)).trans (fe.mono λy hy=>by simp only[dW,th,oB]at hy⊢;omega);have xg: ∀b∈aM a,b∉[i,ib,ia]:=λb hb kB=>by
   have:=oQ b hb;simp only[dW,th,oB]at kB;omega
  have CC:=lF.fx rz xg;obtain⟨b,t4,r1,r2,r3,r4⟩:=xZ (β:=ah) (lim:=8796093022208) CC (sz:=1) (n:=iP.length) [.int .i64 ((roots x.bS m').2.next:Int)] (by omega) (by simp[ints]) rfl;refine Eq.mpr (congrArg (Ok _) (r4 _)) ?_;simp only[bd,aq];have Mo:=AO.fx r3 λy hy=>by
   have:=oQ y hy;omega
  refine aQ (l.length-(k+1)) _ _ (by omega) ⟨k+1,1,some (b,0),iP++[((roots x.bS m').2.next:Int)],_,?_,.inl rfl,by omega,aO _,Mo,(cF.trans rz).step r3 λy hy=> .inr (oQ y hy),?_,λy hy=>?_,?_,(tK _ _).trans (k1.trans Aq),k2.trans Ao,?_,aN⟩
  .rw[bA];rfl
  .unfold ints
   rw[fB];exact r2
  .rw[cx.1 hy]
   have:=(cF.trans rz).1;omega
  .rw[bA,yx];rfl
  .show(roots x.bS m').2.next+1+_+_<=_
   omega
 .rw[aD (show ¬(k:Int)<(l.length:Int) by omega),af,yC]
  rw[ke (by omega)]at aN;have dM:nX l [] m=(iP,m'):=aN.symm;rw[dM]at hT;simp only at hT;obtain⟨d1,d2,d3,d4,d5⟩:=Qb l [] m;rw[dM]at d3;simp only at d3;simp only[bd,aq];refine Ok.call (ZkX (n+1) iP 1 a t (.inl rfl) lF.sl) ?_;rintro _ ⟨t1,rfl,aH⟩;refine⟨_,t1,rfl,?_⟩;cases AP:wK iP with
  |none=>
   rw[AP]at hT;unfold xI;simp only[bO,au,aq];rw[bm,ae,Zd,<-hT];exact .mk ⟨t1,rfl,jv.pre aH,cF.trans (Fx.pre _ aH)⟩
  |some s=>
   rw[AP]at hT;unfold xI;simp only[bO,au,aq];rw[bp,af];refine Ok.call (B3 n s t1 (jv.pre aH)) ?_;rintro _ ⟨t2,rfl,gF,fF⟩;refine⟨_,t2,rfl,?_⟩;simp only[av,aq,Zd];rw[<-hT];exact .mk ⟨t2,rfl,gF,(cF.trans (Fx.pre _ aH)).trans (fF.mono λy hy=>by grind)⟩
theorem Zpx: ∀(l:List bw) (i:Nat) (x:bw),i<l.length->cq (bP l) (i*3) (ee x)=bP (l.set i x)
 |[],i,x,h=>by cases h
 |y::l,0,x,h=>by
  rw[qK];exact sy [] (ee y) (bP l) (ee x) rfl
 |y::l,i+1,x,h=>by
  have e:=Zpx l i x (by simpa using h);rw[uK];show(.bool y.live:: .int .i64 y.gen:: .int .i64 y.block::cq (bP l) (i*3) (ee x):ah)=_;rw[e];rfl
theorem ZnH: ∀(l:List bw) (i:Nat) (x:bw) (b:Bool),l[i]? =some x->cq (bP l) (i*3) [.bool b]=bP (l.set i { x with live:=b })
 |[],i,x,b,h=>by simp at h
 |y::l,0,x,b,h=>by
  simp only[lh,fQ]at h;subst h;rw[qK];rfl
 |y::l,i+1,x,b,h=>by
  have e:=ZnH l i x b (by simpa using h);rw[uK];show(.bool y.live:: .int .i64 y.gen:: .int .i64 y.block::cq (bP l) (i*3) [.bool b]:ah)=_;rw[e];rfl
theorem P7: ∀(l:List bw) (i:Nat) (x:bw) (b:Int),l[i]? =some x->cq (bP l) (i*3+2) [.int .i64 b]=bP (l.set i { x with block:=b })
 |[],i,x,b,h=>by simp at h
 |y::l,0,x,b,h=>by
  simp only[lh,fQ]at h;subst h;rw[qK];exact sy [.bool y.live,.int .i64 y.gen] [.int .i64 y.block] (bP l) [.int .i64 b] rfl
 |y::l,i+1,x,b,h=>by
  have e:=P7 l i x b (by simpa using h);rw[uK,Nat.add_right_comm];show(.bool y.live:: .int .i64 y.gen:: .int .i64 y.block::cq (bP l) (i*3+2) [.int .i64 b]:ah)=_;rw[e];rfl
def wJ (k:Int):ak->Int->Int
 |a::b::r,c=>wJ k (b::r) (bif a==k then ar (b+1)else c)
 |_,c=>c
def I6 (aG At free:ak) (k:Nat):bw:=⟨!(At.getD k 0==0),aG.getD k 0,wJ (k:Int) free (At.getD k 0)⟩
theorem ZxK {Kn:ah->M ah} (n:Nat) (free:ak) (pf:ai) (K i:Nat) (l:List bw) (x:bw) (s:St) (hf:Sl s pf (ints free)) (hl:l.length=7) (hi:i<7) (hx:l[i]? =some x) (ew:free.length<100000) (hn:free.length+1<n)
  (aN:Ok Q (Kn [.agg (bP (l.set i { x with block:=wJ (K:Int) free x.block }))] s)):
  Ok Q (cW (λI3 st=>
       bj st λnW st=>
      bu nW 21<|
      aF .i64 st λk1 st=>
      aJ st<|
      bif decide (ar (k1+1)<(free.length:Int))then
       bJ pf λi7 o4=>
      aB (aP k1 free.length)<|
      bF i7 (k1.toNat*1+o4) λd4=>
      cP .i64 d4 λiX=>
      cI (λst=>
       bj st λAh st=>
      bu Ah 21<|
      aJ st<|
      I3 [.agg Ah,.int .i64 (ar (k1+1))]) λmI=>
      bif iX==((K:Nat):Int)then
       bJ pf λi8 o5=>
      aB (aP (ar (k1+1)) free.length)<|
      bF i8 (((ar (k1+1)).toNat)*1+o5) λd5=>
      cP .i64 d5 λkI=>
      aB (aP ((i:Nat):Int) 7)<|
      aB (Nat.ble (i*3+2+1) 21)<|
      mI [.agg (cq nW (i*3+2) [.int .i64 (ar (kI+1))])]
      else
       mI [.agg nW]
      else
       Kn [.agg nW]) n [.agg (bP l),.int .i64 0] s):=by
 have aeV:l.set i { x with block:=x.block } =l:=by
  have ET:i<l.length:=by omega
  rw[cg ET]at hx;cases hx;simp
 obtain⟨G,hG⟩: ∃G,wJ (K:Int) free x.block=G:=⟨_,rfl⟩;rw[hG]at aN;refine Zj _ (λq y t=>∃(k:Nat) (c:Int),y=[.agg (bP (l.set i { x with block:=c })),.int .i64 (k:Int)]/\k<=free.length/\free.length-k<=q/\t=s/\wJ (K:Int) (free.drop k) c=G) ?_ free.length n _ _ ⟨0,x.block,by rw[aeV];rfl,cE _,by omega,rfl,hG⟩ (by omega);rintro q _ t ⟨k,c,rfl,hk,hq,rfl,dM⟩ rec aQ;have cL:(bP (l.set i { x with block:=c })).length=21:=by rw[Zx,qI,hl]
 have hw:ar ((k:Int)+1)=((k+1:Nat):Int):=Zc;rw[cG,bD cL];simp only[av,aq,hw];by_cases ax:k+1<free.length
 .have jZ:k<free.length:=by omega
  have sS:free.drop k=free[k]::free.drop (k+1):=iC jZ;have jb:free.drop (k+1)=free[k+1]::free.drop (k+2):=iC ax;rw[sS,jb]at dM;unfold wJ at dM;rw[<-jb]at dM;obtain⟨bi,bo,rfl⟩:=hf.cB (by simp[ints];omega);have nr:(ints free)[k]? =some (.int .i64 free[k]):=ZA jZ;have oS:(ints free)[k+1]? =some (.int .i64 free[k+1]):=ZA ax;rw[aw (show((k+1:Nat):Int)<(free.length:Int) by omega),ae,aZ,Zb (Zi jZ)];simp only[br];rw[hf.dF nr];simp only[aX];rw[Za];cases he:(free[k]==((K:Nat):Int))with
  |false=>
   rw[he,af]at dM;rw[af];show Ok _ (bj [.agg (bP (l.set i { x with block:=c }))] _ t);rw[cG,bD cL];simp only[aq];exact aQ (free.length-(k+1)) _ _ (by omega) (by grind)
  |true=>
   rw[he,ae]at dM;rw[ae,aZ,Zb (Zi ax),hf.dF oS];simp only[aX];rw[Zb (show aP ((i:Nat):Int) 7=true from Zi hi),ZY (by omega)];have kX:cq (bP (l.set i { x with block:=c })) (i*3+2) [.int .i64 (ar (free[k+1]+1))]=bP (l.set i { x with block:=ar (free[k+1]+1) }):=by
    rw[P7 _ i { x with block:=c } _ (by rw[mc (by omega)]),List.set_set]
   rw[kX];have HI:(bP (l.set i { x with block:=ar (free[k+1]+1) })).length=21:=by rw[Zx,qI,hl]
   show Ok _ (bj [.agg (bP (l.set i { x with block:=ar (free[k+1]+1) }))] _ t);rw[cG,bD HI];simp only[aq];exact aQ (free.length-(k+1)) _ _ (by omega) (by grind)
 .rw[aD (show ¬((k+1:Nat):Int)<(free.length:Int) by omega),af]
  have:wJ (K:Int) (free.drop k) c=c:=by
   have kV:(free.drop k).length<=1:=by rw[fb];omega
   cases hdk:free.drop k with
   |nil=>unfold wJ;rfl
   |cons a r=>
    rw[hdk]at kV;have:r=[]:=Bm.1 (by rw[cO]at kV;omega);subst this;unfold wJ;rfl
  rw[this]at dM;rw[dM];exact aN
def ny (aG At free:ak) (f i:Nat):List bw:=(List.range 7).map λt=>bif decide (t<i)&&decide (f+t<aG.length)then I6 aG At free (f+t)else jg
def vJ (aG At free:ak) (f:Nat):List bw:=ny aG At free f 7
theorem zM (aG At free:ak) (f i:Nat):(ny aG At free f i).length=7:=by unfold ny;simp
theorem ZpZ (aG At free:ak) (f i t:Nat) (h:t<7):(ny aG At free f i)[t]? =some (bif decide (t<i)&&decide (f+t<aG.length)then I6 aG At free (f+t)else jg):=by
 grind[ny]
theorem Ztr (aG At free:ak) (f i:Nat) (hi:i<7) (hf:f+i<aG.length):ny aG At free f (i+1)=(ny aG At free f i).set i (I6 aG At free (f+i)):=by
 refine qH λt=>?_
 by_cases ht:t<7
 .rw[ZpZ _ _ _ _ _ _ ht]
  by_cases h:t=i
  .subst h
   rw[mc (by rw[zM];exact ht),aw (show t<t+1 by omega),aw hf];rfl
  .rw[kJ (by omega),ZpZ _ _ _ _ _ _ ht]
   grind
 .rw[FN (by rw[zM];omega),FN (by rw[qI,zM];omega)]
theorem Zt0 (aG At free:ak) (f i:Nat) (h:aG.length<=f+i):ny aG At free f i=vJ aG At free f:=by
 unfold vJ ny;refine List.map_congr_left λt ht=>?_
 by_cases h2:f+t<aG.length
 .rw[aw (show t<i by omega),aw (Di.1 ht)]
 grind
theorem Ztt (aG At free:ak) (f:Nat):ny aG At free f 0=mJ:=by
 rfl
theorem Zwg {Kn:ah->M ah} (n:Nat) (aG free:ak) (pg pf:ai) (f:Nat) (s:St) (hm:gO s i ib ia m) (hg:Sl s pg (ints aG)) (eO:Sl s pf (ints free)) (lC:aG.length<100000) (ew:free.length<100000) (EB:m.At.length=aG.length) (hf:f<100000) (hn:free.length+10<n) (vx:10<n)
  (aN:Ok Q (Kn [.agg (bP (vJ aG m.At free f))] s)):
  Ok Q (cW (λBe st=>
    bj st λvb st=>
    bu vb 21<|
    aF .i64 st λi3 st=>
    aJ st<|
    cI (λst=>gP st λb3 st=>aJ st<|
     bif b3 then
      cI (λst=>
       bj st λHo st=>
      bu Ho 21<|
      aJ st<|
      Be [.agg Ho,.int .i64 (ar (i3+1))]) λjJ=>
      bJ pg λi4 o1=>
      aB (aP (ar (((f:Nat):Int)+i3)) aG.length)<|
      bF i4 (((ar (((f:Nat):Int)+i3)).toNat)*1+o1) λd1=>
      cP .i64 d1 λgN=>
      aB (aP i3 7)<|
      aB (Nat.ble (i3.toNat*3+3) 21)<|
      bJ (some (i,0)) λi5 o2=>
      bF i5 (o2+2) λd2=>
      dB 1 d2 λiJ C7=>
      bJ iJ λi6 o3=>
      aB (aP (ar (((f:Nat):Int)+i3)) C7)<|
      bF i6 (((ar (((f:Nat):Int)+i3)).toNat)*1+o3) λd3=>
      cP .i64 d3 λkG=>
      cI (λst=>
       bj st λCc st=>
      bu Cc 21<|
      aJ st<|
      cI (λst=>
       bj st λHn st=>
      bu Hn 21<|
      aJ st<|
      jJ [.agg Hn]) λpj=>
      cW (λI3 st=>
       bj st λnW st=>
      bu nW 21<|
      aF .i64 st λk1 st=>
      aJ st<|
      bif decide (ar (k1+1)<(free.length:Int))then
       bJ pf λi7 o4=>
      aB (aP k1 free.length)<|
      bF i7 (k1.toNat*1+o4) λd4=>
      cP .i64 d4 λiX=>
      cI (λst=>
       bj st λAh st=>
      bu Ah 21<|
      aJ st<|
      I3 [.agg Ah,.int .i64 (ar (k1+1))]) λmI=>
      bif iX==(ar (((f:Nat):Int)+i3))then
       bJ pf λi8 o5=>
      aB (aP (ar (k1+1)) free.length)<|
      bF i8 (((ar (k1+1)).toNat)*1+o5) λd5=>
      cP .i64 d5 λkI=>
      aB (aP i3 7)<|
      aB (Nat.ble (i3.toNat*3+2+1) 21)<|
      mI [.agg (cq nW (i3.toNat*3+2) [.int .i64 (ar (kI+1))])]
      else
       mI [.agg nW]
      else
       pj [.agg nW]) n [.agg Cc,.int .i64 0]) λj7=>
      bif !(kG==0)then
       aB (aP i3 7)<|
      aB (Nat.ble (i3.toNat*3+1) 21)<|
      bJ (some (i,0)) λi9 o6=>
      bF i9 (o6+2) λd6=>
      dB 1 d6 λmT Jg=>
      bJ mT λi10 o7=>
      aB (aP (ar (((f:Nat):Int)+i3)) Jg)<|
      bF i10 (((ar (((f:Nat):Int)+i3)).toNat)*1+o7) λd7=>
      cP .i64 d7 λqF=>
      aB (aP i3 7)<|
      aB (Nat.ble (i3.toNat*3+2+1) 21)<|
      j7 [.agg (cq (cq (cq vb (i3.toNat*3) [.bool false,.int .i64 gN,.int .i64 0]) (i3.toNat*3) [.bool true]) (i3.toNat*3+2) [.int .i64 qF])]
      else
       j7 [.agg (cq vb (i3.toNat*3) [.bool false,.int .i64 gN,.int .i64 0])]
     else
      Kn [.agg vb]) λgH=>
    bif decide (i3<7)then
     gH [.bool (decide (ar (((f:Nat):Int)+i3)<(aG.length:Int)))]
    else
     gH [.bool false]) n [.agg (bP mJ),.int .i64 0] s):=by
 refine Zj _ (λq y t=>∃(a:Nat),y=[.agg (bP (ny aG m.At free f a)),.int .i64 (a:Int)]/\a<=7/\7-a<=q/\t=s) ?_ 7 n _ _ ⟨0,by rw[Ztt];rfl,cE _,by omega,rfl⟩ (by omega);rintro q _ t ⟨a,rfl,ha,hq,rfl⟩ rec aQ;have cL:(bP (ny aG m.At free f a)).length=21:=by rw[Zx,zM]
 rw[cG,bD cL];simp only[av,aq];have hw:ar (((f:Nat):Int)+(a:Int))=((f+a:Nat):Int):=Zc;have cD:ar ((a:Int)+1)=((a+1:Nat):Int):=Zc;simp only[hw,cD,br];refine Ok.join λgH Mf=>?_
 have lH:ny aG m.At free f a=vJ aG m.At free f->Ok Q (gH [.bool false] t):=λe=>by
  rw[Mf];simp only[au,aq];rw[af,e];exact aN
 by_cases h7:a<7
 .rw[aw (show(a:Int)<7 by omega),ae]
  by_cases ax:f+a<aG.length
  .rw[aw (show((f+a:Nat):Int)<(aG.length:Int) by omega),Mf]
   simp only[au,aq];rw[ae];refine Ok.join λjJ UJ=>?_
   obtain⟨bi,bo,rfl⟩:=hg.cB (by simp[ints];omega);have vu:(ints aG)[f+a]? =some (.int .i64 aG[f+a]):=ZA ax;rw[aZ,Zb (Zi ax),hg.dF vu];simp only[aX];rw[Zb (show aP ((a:Nat):Int) 7=true from Zi h7),ZY (by omega),aZ,Zo hm.cell rfl];simp only[lq];have Mk:f+a<m.At.length:=by omega
   have UO: ∀K:DV->M ah,bF ia ((f+a)*1+0) K t=K (.int .i64 m.At[f+a]) t:=λK=>Zo hm.aa (by rw[cT,gV];exact ZA Mk) K
   rw[aZ,Zb (Zi Mk),UO];simp only[aX];obtain⟨L,hL⟩: ∃L,ny aG m.At free f a=L:=⟨_,rfl⟩;have hLl:L.length=7:=by rw[<-hL];exact zM _ _ _ _ _
   have hsB:I6 aG m.At free (f+a)=⟨!(m.At[f+a]==0),aG[f+a],wJ ((f+a:Nat):Int) free m.At[f+a]⟩:=by
    unfold I6;rw[dZ,cg Mk,dZ,cg ax];rfl
   have qk:=Ztr aG m.At free f a h7 ax;rw[hL,hsB]at qk;rw[hL]at cL⊢;generalize m.At[f+a]=at' at UO qk;generalize aG[f+a]=g at vu qk;refine Ok.join λj7 adT=>?_
   have hA:Ok Q (j7 [.agg (bP (L.set a ⟨!(at'==0),g,at'⟩))] t):=by
    rw[adT];have HI:(bP (L.set a ⟨!(at'==0),g,at'⟩)).length=21:=by rw[Zx,qI,hLl]
    show Ok _ (bj [.agg (bP (L.set a ⟨!(at'==0),g,at'⟩))] _ t);rw[cG,bD HI];simp only[aq];refine Ok.join λpj adU=>?_
    refine ZxK n free pf (f+a) a (L.set a ⟨!(at'==0),g,at'⟩) ⟨!(at'==0),g,at'⟩ t eO (by rw[qI,hLl]) h7 (by rw[mc (by omega)]) ew (by omega) (Kn:=pj) ?_;rw[List.set_set,<-qk,adU];have Xt:(bP (ny aG m.At free f (a+1))).length=21:=by rw[Zx,zM]
    show Ok _ (bj [.agg (bP (ny aG m.At free f (a+1)))] _ t);rw[cG,bD Xt];simp only[aq];rw[UJ];show Ok _ (bj [.agg (bP (ny aG m.At free f (a+1)))] _ t);rw[cG,bD Xt];simp only[aq];exact aQ (7-(a+1)) _ _ (by omega) (by grind)
   have fH:cq (bP L) (a*3) [.bool false,.int .i64 g,.int .i64 0]=bP (L.set a ⟨false,g,0⟩):=Zpx L a ⟨false,g,0⟩ (by omega);cases h0:(at'==0)with
   |true=>
    grind
   |false=>
    rw[h0]at hA;rw[bm,ae,Zb (show aP ((a:Nat):Int) 7=true from Zi h7),ZY (by omega),aZ,Zo hm.cell rfl];simp only[lq];rw[aZ,Zb (Zi Mk),UO];simp only[aX];rw[Zb (show aP ((a:Nat):Int) 7=true from Zi h7),ZY (by omega),fH];rw[ZnH _ a ⟨false,g,0⟩ true (by rw[mc (by omega)]),List.set_set];rw[P7 _ a ⟨true,g,0⟩ at' (by rw[mc (by omega)]),List.set_set];exact hA
  .rw[aD (show ¬((f+a:Nat):Int)<(aG.length:Int) by omega)]
   exact lH (Zt0 _ _ _ _ _ (by omega))
 .rw[aD (show ¬(a:Int)<7 by omega),af]
  have:a=7:=by omega
  subst this;exact lH rfl
def vW (o:Option (aj)):aj:=o.getD []
theorem Rf (o:Option (aj)):xI o=[.str (vW o),.bool o.isSome]:=by cases o<;>rfl
def pZ (leaves:ak) (i k:Nat):ak:=(List.range 16).map λt=>bif decide (t<k)&&decide (16*i+t<leaves.length)then leaves.getD (16*i+t) 0 else 0
def ve (leaves:ak) (i:Nat):ak:=pZ leaves i 16
theorem DZ (leaves:ak) (i k:Nat):(pZ leaves i k).length=16:=by unfold pZ;simp
theorem ZqK (leaves:ak) (i k t:Nat) (h:t<16):(pZ leaves i k)[t]? =some (bif decide (t<k)&&decide (16*i+t<leaves.length)then leaves.getD (16*i+t) 0 else 0):=by
 grind[pZ]
theorem ZuU (leaves:ak) (i k:Nat) (hk:k<16) (hf:16*i+k<leaves.length):pZ leaves i (k+1)=(pZ leaves i k).set k (leaves.getD (16*i+k) 0):=by
 refine qH λt=>?_
 by_cases ht:t<16
 .rw[ZqK _ _ _ _ ht]
  by_cases h:t=k
  .subst h
   rw[mc (by rw[DZ];exact ht),aw (show t<t+1 by omega),aw hf];rfl
  .rw[kJ (by omega),ZqK _ _ _ _ ht]
   grind
 .rw[FN (by rw[DZ];omega),FN (by rw[qI,DZ];omega)]
theorem Zvl (leaves:ak) (i k:Nat) (h:leaves.length<=16*i+k):pZ leaves i k=ve leaves i:=by
 unfold ve pZ;refine List.map_congr_left λt ht=>?_
 by_cases h2:16*i+t<leaves.length
 .rw[aw (show t<k by omega),aw (Di.1 ht)]
 grind
theorem ZuY (leaves:ak) (i:Nat):pZ leaves i 0=List.replicate 16 0:=by
 rfl
theorem Zxr {Kn:ah->M ah} (n:Nat) (leaves:ak) (pl:ai) (i:Nat) (s:St) (hl:Sl s pl (ints leaves)) (gS:leaves.length<100000) (hi:i<1000) (hn:20<n)
  (aN:Ok Q (Kn [.agg (ints (ve leaves i))] s)):
  Ok Q (cW (λdt st=>
       bj st λpU st=>
      bu pU 16<|
      aF .i64 st λk st=>
      aJ st<|
      cI (λst=>gP st λb2 st=>aJ st<|
       bif b2 then
       bJ pl λi1 o=>
      aB (aP (ar (((16*i:Nat):Int)+k)) leaves.length)<|
      bF i1 (((ar (((16*i:Nat):Int)+k)).toNat)*1+o) λd=>
      cP .i64 d λfJ=>
      aB (aP k 16)<|
      aB (Nat.ble (k.toNat*1+1) 16)<|
      dt [.agg (cq pU (k.toNat*1) [.int .i64 fJ]),.int .i64 (ar (k+1))]
      else
       Kn [.agg pU]) λdp=>
      bif decide (k<16)then
       dp [.bool (decide (ar (((16*i:Nat):Int)+k)<(leaves.length:Int)))]
      else
       dp [.bool false]) n [.agg (ints (List.replicate 16 0)),.int .i64 0] s):=by
 refine Zj _ (λq y t=>∃(k:Nat),y=[.agg (ints (pZ leaves i k)),.int .i64 (k:Int)]/\k<=16/\16-k<=q/\t=s) ?_ 16 n _ _ ⟨0,by rw[ZuY];rfl,cE _,by omega,rfl⟩ (by omega);rintro q _ t ⟨k,rfl,hk,hq,rfl⟩ rec aQ;have cL: ∀k,(ints (pZ leaves i k)).length=16:=λk=>by simp[ints,DZ]
 rw[cG,bD (cL k)];simp only[av,aq];have hw:ar (((16*i:Nat):Int)+(k:Int))=((16*i+k:Nat):Int):=Zc;have cD:ar ((k:Int)+1)=((k+1:Nat):Int):=Zc;simp only[hw,cD,br];refine Ok.join λdp hj6=>?_
 have lH:pZ leaves i k=ve leaves i->Ok Q (dp [.bool false] t):=λe=>by
  rw[hj6];simp only[au,aq];rw[af,e];exact aN
 by_cases rk:k<16
 .rw[aw (show(k:Int)<16 by omega),ae]
  by_cases ax:16*i+k<leaves.length
  .rw[aw (show((16*i+k:Nat):Int)<(leaves.length:Int) by omega),hj6]
   simp only[au,aq];obtain⟨bi,bo,rfl⟩:=hl.cB (by simp[ints];omega);have hg:(ints leaves)[16*i+k]? =some (.int .i64 leaves[16*i+k]):=ZA ax;rw[ae,aZ,Zb (Zi ax),hl.dF hg];simp only[aX];rw[Zb (show aP ((k:Nat):Int) 16=true from Zi rk),ZY (by omega)];have kX:cq (ints (pZ leaves i k)) (k*1) [.int .i64 leaves[16*i+k]]=ints (pZ leaves i (k+1)):=by
    rw[cT,BV _ _ _ (by rw[cL];exact rk),ZuU _ _ _ rk ax,dZ,cg ax];unfold ints;rw[List.map_set];rfl
   rw[kX];exact aQ (16-(k+1)) _ _ (by omega) (by grind)
  .rw[aD (show ¬((16*i+k:Nat):Int)<(leaves.length:Int) by omega)]
   exact lH (Zvl _ _ _ (by omega))
 .rw[aD (show ¬(k:Int)<16 by omega),af]
  have:k=16:=by omega
  subst this;exact lH rfl
def lZ (aG free:ak):Nat->Nat->ak->cC->ak×cC
 |0,_,ls,m=>(ls,m)
 |c+1,f,ls,m=>bif decide (f<aG.length)then lZ aG free c (f+7) (ls++[(m.next:Int)]) (j8 m (vW (wD (vJ aG m.At free f))))else(ls,m)
def oP (leaves:ak):Nat->Nat->ak->cC->ak×cC
 |0,_,top,m=>(top,m)
 |c+1,i,top,m=>bif decide (16*i<leaves.length)then oP leaves c (i+1) (top.set i (m.next:Int)) (j8 m (vW (tN (ve leaves i))))else(top,m)
def qA (aG free:ak) (m:cC):Nat×cC:=(λr:ak×cC=>bif Nat.beq r.1.length 0 then(0,r.2)else
 (λt:ak×cC=>(t.2.next,j8 t.2 (vW (tN t.1)))) (oP r.1 16 0 (List.replicate 16 0) r.2)) (lZ aG free aG.length 0 [] m)
theorem ZlI (aG free:ak): ∀(c f:Nat) (ls:ak) (m:cC),(lZ aG free c f ls m).2.B.length=m.B.length/\(lZ aG free c f ls m).2.At=m.At/\(lZ aG free c f ls m).2.next<=m.next+c/\m.next<=(lZ aG free c f ls m).2.next
 |0,f,ls,m=>⟨rfl,rfl,aO _,aO _⟩
 |c+1,f,ls,m=>by
  unfold lZ;cases decide (f<aG.length)with
  |true=>
   rw[ae];obtain⟨b1,b2,b3,b4⟩:=ZlI aG free c (f+7) (ls++[(m.next:Int)]) (j8 m (vW (wD (vJ aG m.At free f))));have hn:(j8 m (vW (wD (vJ aG m.At free f)))).next=m.next+1:=rfl;exact⟨b1.trans (tK _ _),b2,by omega,by omega⟩
  |false=>simp
theorem ZnT (leaves:ak): ∀(c i:Nat) (top:ak) (m:cC),(oP leaves c i top m).2.B.length=m.B.length/\(oP leaves c i top m).2.At=m.At/\(oP leaves c i top m).2.next<=m.next+c/\m.next<=(oP leaves c i top m).2.next/\(oP leaves c i top m).1.length=top.length
 |0,i,top,m=>⟨rfl,rfl,aO _,aO _,rfl⟩
 |c+1,i,top,m=>by
  unfold oP;cases decide (16*i<leaves.length)with
  |true=>
   rw[ae];obtain⟨b1,b2,b3,b4,b5⟩:=ZnT leaves c (i+1) (top.set i (m.next:Int)) (j8 m (vW (tN (ve leaves i))));have hn:(j8 m (vW (tN (ve leaves i)))).next=m.next+1:=rfl;exact⟨b1.trans (tK _ _),b2,by omega,by omega,by rw[b5,qI]⟩
  |false=>simp
theorem Zse (aG free:ak) (m:cC):(qA aG free m).2.B.length=m.B.length/\(qA aG free m).2.At=m.At/\(qA aG free m).2.next<=m.next+aG.length+17/\m.next<=(qA aG free m).2.next:=by
 obtain⟨b1,b2,b3,b4⟩:=ZlI aG free aG.length 0 [] m;unfold qA;simp only;cases Nat.beq (lZ aG free aG.length 0 [] m).1.length 0 with
 |true=>grind
 |false=>
  obtain⟨c1,c2,c3,c4,_⟩:=ZnT (lZ aG free aG.length 0 [] m).1 16 0 (List.replicate 16 0) (lZ aG free aG.length 0 [] m).2;rw[af];exact⟨(tK _ _).trans (c1.trans b1),c2.trans b2,by show _+1<=_;omega,by show _<=_+1;omega⟩
theorem ZoY (n:Nat) (x:eL) (z1 z2 z3:Nat) (p1 p2 p3:ai) (st:St) (hU:z1=2\/p1=none) (gy:z2=1\/p2=none) (kD:z3=1\/p3=none) (hm:gO st i ib ia m) (hg:Fz st p2 (ints x.aG)) (eO:Fz st p3 (ints x.free)) (lC:x.aG.length<90000) (ew:x.free.length<90000) (EB:m.At.length=x.aG.length) (E8:m.next+x.aG.length<=700000) (hB:m.B.length<1000000) (hn:x.aG.length+x.free.length+1000<=n):
  Ok (λo=>∃fU,o=(.val [.int .i64 (qA x.aG x.free m).1],fU)/\gO fU i ib ia (qA x.aG x.free m).2/\Fx [i,ib,ia] st fU) (run Bd n 190 [.ptr (some (i,0)),.agg (dD x z1 p1 z2 p2 z3 p3)] st):=by
 obtain⟨n,rfl⟩: ∃k,n=k+2:=⟨n-2,by omega⟩;rw[Ze,h.abg];unfold NW ZD fX tn cM cy az Zm lu Zn Li uN Lb eU bE qN Z7 jQ;simp only[fV];rw[cG];unfold dD;simp only[av,Zf 2 z1 p1 _ hU,Zf 1 z2 p2 _ gy,Zf 1 z3 p3 _ kD,aq];obtain⟨l1,l2,l3⟩:=hm.lt;obtain⟨T,hT⟩: ∃T,qA x.aG x.free m=T:=⟨_,rfl⟩;rw[hT];unfold qA at hT;obtain⟨RL,hRL⟩: ∃RL,lZ x.aG x.free x.aG.length 0 [] m=RL:=⟨_,rfl⟩;rw[hRL]at hT;simp only at hT;have fe: ∀ {a b:St},Fx [i,ib] a b->Fx [i,ib,ia] a b:=λk=>k.mono λy hy=>by grind
 have xg: ∀ {a:ai},(∀b∈aM a,st.length<=b)->∀b∈aM a,b∉[i,ib,ia]:=λoQ b hb kB=>by
  grind
 refine Ok.join λaA yC=>?_
 refine Zj _ (λq y t=>∃(c f zk:Nat) (a:ai) (ls:ak) (m':cC),y=[.slice zk a ls.length,.int .i64 (f:Int)]/\(zk=1\/a=none)/\f<=x.aG.length+7/\x.aG.length+7-f<=q/\gO t i ib ia m'/\Fx [i,ib,ia] st t/\bn [] t a (ints ls)/\(∀b∈aM a,st.length<=b)/\m'.B.length=m.B.length/\m'.At.length=m.At.length/\m'.next<=m.next+f/\ls.length<=f/\x.aG.length<=c+f/\lZ x.aG x.free c f ls m'=RL) ?_ (x.aG.length+7) (n+1) _ _ ⟨x.aG.length,0,0,none,[],m,rfl,.inr rfl,cE _,by omega,hm,.refl _ _,bn.nil ⟨st,rfl⟩,(λ_ h=>by cases h),rfl,rfl,by omega,cE _,by omega,hRL⟩ (by omega);rintro q _ t ⟨c,f,zk,a,ls,m',rfl,VA,hf,hq,jv,cF,lF,oQ,Aq,Ao,E9,gS,hc,aN⟩ rec aQ;simp only[av,Zf 1 zk a _ VA,aq];have qf:=hm.kp cF;have hgt:=hg.kp qf;have vp:=eO.kp qf;by_cases ax:f<x.aG.length
 .obtain⟨c,rfl⟩: ∃c',c=c'+1:=⟨c-1,by omega⟩
  unfold lZ at aN;rw[aw ax,ae]at aN;rw[aw (by omega),ae];refine Ok.join λfS UL=>?_
  refine Ok.join λgG UM=>?_
  refine Zwg (n+1) x.aG x.free p2 p3 f t jv hgt.1 vp.1 (by omega) (by omega) (by omega) (by omega) (by omega) (by omega) (Kn:=gG) ?_;rw[UM];have cL:(bP (vJ x.aG m'.At x.free f)).length=21:=by rw[Zx];show(ny _ _ _ _ _).length*3=_;rw[zM]
  show Ok _ (bj [.agg (bP (vJ x.aG m'.At x.free f))] _ t);rw[cG,bD cL];simp only[aq];refine Ok.call (ZkE (n+1) (vJ x.aG m'.At x.free f) (zM _ _ _ _ _) t) ?_;rintro _ ⟨t1,rfl,aH⟩;refine⟨_,t1,rfl,?_⟩;rw[Rf];simp only[bO,au,aq];refine Ok.call (B3 n (vW (wD (vJ x.aG m'.At x.free f))) t1 (jv.pre aH)) ?_;rintro _ ⟨t2,rfl,gF,fF⟩;refine⟨_,t2,rfl,?_⟩;simp only[av,aq];have rz:Fx [i,ib,ia] t t2:=(Fx.pre _ aH).trans (fe fF);have CC:=lF.fx rz (xg oQ);obtain⟨b,t4,r1,r2,r3,r4⟩:=xZ (β:=ah) (lim:=8796093022208) CC (sz:=1) (n:=ls.length) [.int .i64 (m'.next:Int)] (by omega) (by simp[ints]) rfl;refine Eq.mpr (congrArg (Ok _) (r4 _)) ?_;rw[UL];simp only[bd,aq];have hw:ar ((f:Int)+7)=((f+7:Nat):Int):=Zc;rw[hw];have Mo:=gF.fx r3 λy hy=>by
   have:=oQ y hy;omega
  refine aQ (x.aG.length+7-(f+7)) _ _ (by omega) ⟨c,f+7,1,some (b,0),ls++[(m'.next:Int)],_,?_,.inl rfl,by omega,aO _,Mo,(cF.trans rz).step r3 λy hy=> .inr (oQ y hy),?_,λy hy=>?_,(tK _ _).trans Aq,Ao,?_,?_,by omega,aN⟩
  .rw[bA];rfl
  .unfold ints
   rw[fB];exact r2
  .rw[cx.1 hy]
   have:=(cF.trans rz).1;omega
  .show m'.next+1<=_
   omega
  .rw[bA];show _+1<=_;omega
 .rw[aD (by omega),af,yC]
  have hRe:RL=(ls,m'):=by
   rw[<-aN];cases c with
   |zero=>rfl
   |succ c=>unfold lZ;rw[aD ax];rfl
  rw[hRe]at hT;simp only at hT;simp only[bd,aq];by_cases h0:ls.length=0
  .rw[h0]at hT⊢
   have hT2:(0,m')=T:=hT;rw[show(((0:Nat):Int)==0)=true from rfl,ae,Zd,<-hT2];exact .mk ⟨t,rfl,jv,cF⟩
  .have Au:Nat.beq ls.length 0=false:=by
    cases hb:Nat.beq ls.length 0 with
    |false=>rfl
    |true=>exact absurd (dy hb) h0
   rw[Au,af]at hT;rw[show(((ls.length:Nat):Int)==0)=false from dX.2 (by omega),af];obtain⟨RF,hRF⟩: ∃RF,oP ls 16 0 (List.replicate 16 0) m'=RF:=⟨_,rfl⟩;rw[hRF]at hT;refine Ok.join λaI HT=>?_
   refine Zj _ (λq y u=>∃(k:Nat) (top:ak) (m2:cC),y=[.agg (ints top),.int .i64 (k:Int)]/\k<=16/\16-k<=q/\gO u i ib ia m2/\Fx [i,ib,ia] t u/\top.length=16/\m2.B.length=m.B.length/\m2.next<=m'.next+k/\oP ls (16-k) k top m2=RF) ?_ 16 (n+1) _ _ ⟨0,List.replicate 16 0,m',rfl,cE _,by omega,jv,.refl _ _,uH,Aq,by omega,hRF⟩ (by omega);rintro q2 _ u ⟨k,top,m2,rfl,hk,CF,hmu,fk,vE,TT,agT,dM⟩ dt j4;have cL:(ints top).length=16:=by simp[ints,vE]
   rw[cG,bD cL];simp only[av,aq];have hw:ar (16*(k:Int))=((16*k:Nat):Int):=by rw[Zc];omega
   have cD:ar ((k:Int)+1)=((k+1:Nat):Int):=Zc;simp only[hw,cD];have hou:=lF.fx fk (xg oQ);refine Ok.join λaR AI=>?_
   have lH:RF=(top,m2)->Ok (λo=>∃fU,o=(.val [.int .i64 T.1],fU)/\gO fU i ib ia T.2/\Fx [i,ib,ia] st fU) (aR [.bool false] u):=λe=>by
    rw[AI];simp only[au,aq];rw[af,HT];show Ok _ (bj [.agg (ints top)] _ u);rw[cG,bD cL];simp only[aq];rw[e]at hT;simp only at hT;refine Ok.call (PO (n+1) top vE u) ?_;rintro _ ⟨u1,rfl,aH⟩;refine⟨_,u1,rfl,?_⟩;rw[Rf];simp only[bO,au,aq];refine Ok.call (B3 n (vW (tN top)) u1 (hmu.pre aH)) ?_;rintro _ ⟨u2,rfl,AO,AD⟩;refine⟨_,u2,rfl,?_⟩;simp only[av,aq,Zd];rw[<-hT];exact .mk ⟨u2,rfl,AO,((cF.trans fk).trans (Fx.pre _ aH)).trans (fe AD)⟩
   by_cases rk:k<16
   .rw[aw (by omega),ae]
    have TL:16-k=(16-(k+1))+1:=by omega
    rw[TL]at dM;unfold oP at dM;by_cases gE:16*k<ls.length
    .rw[aw gE,ae]at dM
     rw[aw (by omega),AI];simp only[au,aq];rw[ae];refine Ok.join λbz Me=>?_
     refine Ok.join λca UK=>?_
     refine Zxr (n+1) ls a k u hou.sl (by omega) (by omega) (by omega) (Kn:=ca) ?_;rw[UK];have ub:(ints (ve ls k)).length=16:=by simp only[ints,uG];exact DZ _ _ _
     show Ok _ (bj [.agg (ints (ve ls k))] _ u);rw[cG,bD ub];simp only[aq];refine Ok.call (PO (n+1) (ve ls k) (DZ _ _ _) u) ?_;rintro _ ⟨u1,rfl,aH⟩;refine⟨_,u1,rfl,?_⟩;rw[Rf];simp only[bO,au,aq];refine Ok.call (B3 n (vW (tN (ve ls k))) u1 (hmu.pre aH)) ?_;rintro _ ⟨u2,rfl,AO,AD⟩;refine⟨_,u2,rfl,?_⟩;simp only[av,aq];rw[Zb (show aP ((k:Nat):Int) 16=true from Zi rk)];simp only[br];rw[ZY (by omega)];have kX:cq (ints top) (k*1) [.int .i64 (m2.next:Int)]=ints (top.set k (m2.next:Int)):=by
      rw[cT,BV _ _ _ (by omega)];unfold ints;rw[List.map_set]
     rw[kX,Me];have HI:(ints (top.set k (m2.next:Int))).length=16:=by simp[ints,vE]
     show Ok _ (bj [.agg (ints (top.set k (m2.next:Int)))] _ u2);rw[cG,bD HI];simp only[aq];exact j4 (16-(k+1)) _ _ (by omega) ⟨k+1,_,_,rfl,by omega,aO _,AO,(fk.trans (Fx.pre _ aH)).trans (fe AD),by rw[qI,vE],(tK _ _).trans TT,by show m2.next+1<=_;omega,dM⟩
    .rw[aD gE,af]at dM
     rw[aD (by omega)];exact lH dM.symm
   .have:k=16:=by omega
    subst this;rw[aD (by omega),af];exact lH dM.symm
def Nd (x:dY):aj:=dG (eJ x.seq) 8++dG (eJ x.blocks) 4++dG (eJ x.cJ) 4++dG (eJ x.g) 4++dG (eJ x.used) 4++dG (eJ x.free) 4++dG (eJ x.bY) 2++dG (eJ x.dir) 2++iT x.aL
def z8 (x:dY):aj:=iz 7 x.aL.length (Nd x)
theorem Zqy (n:Nat) (x:dY) (p:ai) (st:St) (hs:Sl st p (ints x.aL)) (hl:x.aL.length<1000) (hn:2600<=n):
  Ok (λo=>∃s',o=(.val [.str (z8 x)],s')/\aC st s') (run Bd n 191 [.agg (dO x p)] st):=by
 obtain⟨n,rfl⟩: ∃k,n=k+2:=⟨n-2,by omega⟩;rw[Ze,h.abh];unfold QB ZZ jD Bq sh iM tB Zn ZI oH Ls eH dO;rw[cG];simp only[av,bd,aq,DN];have lay:=λv k (hk:k<=20) s=>su (n+1) (eJ v) k (sA v) s
 refine Ok.lT (lay x.seq 8 (by omega) st) ?_;rintro _ ⟨s1,rfl,aH⟩;refine⟨_,s1,rfl,aH,?_⟩;simp only[bO,aq];refine Ok.lT (lay x.blocks 4 (by omega) s1) ?_;rintro _ ⟨s2,rfl,aV⟩;refine⟨_,s2,rfl,aV,?_⟩;simp only[bO,aq];rw[ZY (by simp[Zy])];refine Ok.lT (lay x.cJ 4 (by omega) s2) ?_;rintro _ ⟨s3,rfl,ck⟩;refine⟨_,s3,rfl,ck,?_⟩;simp only[bO,aq];rw[ZY (by simp[bA,Zy])];refine Ok.lT (lay x.g 4 (by omega) s3) ?_;rintro _ ⟨s4,rfl,fG⟩;refine⟨_,s4,rfl,fG,?_⟩;simp only[bO,aq];rw[ZY (by simp[bA,Zy])];refine Ok.lT (lay x.used 4 (by omega) s4) ?_;rintro _ ⟨s5,rfl,jd⟩;refine⟨_,s5,rfl,jd,?_⟩;simp only[bO,aq];rw[ZY (by simp[bA,Zy])];refine Ok.Af (lay x.free 4 (by omega) s5) ?_;rintro _ ⟨s6,rfl,U4⟩;refine⟨_,s6,rfl,?_⟩;simp only[bO,aq];rw[ZY (by simp[bA,Zy])];refine Ok.lT (lay x.bY 2 (by omega) s6) ?_;rintro _ ⟨s7,rfl,hp7⟩;refine⟨_,s7,rfl,hp7,?_⟩;simp only[bO,aq];rw[ZY (by simp[bA,Zy])];refine Ok.Af (lay x.dir 2 (by omega) s7) ?_;rintro _ ⟨s8,rfl,hp8⟩;refine⟨_,s8,rfl,?_⟩;simp only[bO,aq];rw[ZY (by simp[bA,Zy]),Za];have hP:=((((((aH.trans aV).trans ck).trans fG).trans jd).trans U4).trans hp7).trans hp8;unfold z8 Nd;obtain⟨A,hA⟩: ∃A,dG (eJ x.seq) 8++dG (eJ x.blocks) 4++dG (eJ x.cJ) 4++dG (eJ x.g) 4++dG (eJ x.used) 4++dG (eJ x.free) 4++dG (eJ x.bY) 2++dG (eJ x.dir) 2=A:=⟨_,rfl⟩;have wZ:A.length=32:=by rw[<-hA];simp only[bA,Zy]
 rw[hA];refine Zj _ (λq y s=>∃i:Nat,y=[.str (A++iT (x.aL.take i)),.int .i64 (i:Int)]/\i<=x.aL.length/\x.aL.length-i<=q/\aC st s) ?_ x.aL.length (n+1) _ _ ⟨0,by rw[List.take_zero];show _=[DV.str (A++[]),_];rw[gA];rfl,cE _,by omega,hP⟩ (by omega);rintro q _ s ⟨i,rfl,hi,hq,hJ⟩ rec aQ;simp only[bO,av,aq];by_cases ax:i<x.aL.length
 .have dN:=hs.mono hJ
  obtain⟨i1,o1,rfl⟩:=dN.cB (by simp[ints];omega);rw[aw (show(i:Int)<(x.aL.length:Int) by omega),ae,aZ,Zb (Zi ax),br,dN.dF (ZA ax)];simp only[aX];refine Ok.call (lay x.aL[i] 2 (by omega) s) ?_;rintro _ ⟨s5,rfl,jd⟩;refine⟨_,s5,rfl,?_⟩;simp only[bO,aq];rw[ZY (by rw[bA,sm,Zy,cV,wZ];omega),Zc];exact aQ (x.aL.length-(i+1)) _ _ (by omega) ⟨i+1,by rw[Gt _ ax,fA];rfl,by omega,aO _,hJ.trans jd⟩
 .rw[aD (show ¬(i:Int)<(x.aL.length:Int) by omega),af]
  rw[dH (by omega)];refine Ok.call (zA (n+1) 7 x.aL.length (A++iT x.aL) (by rw[bA,sm];omega) s (by rw[bA,sm];omega)) ?_;rintro _ ⟨s5,rfl,jd⟩;refine⟨_,s5,rfl,?_⟩;simp only[bO,aq,Zd];exact .mk ⟨s5,rfl,hJ.trans jd⟩
def ZP (a n:Nat):ak:=(List.range n).map λi=>((a+i:Nat):Int)
theorem sj (a n:Nat):(ZP a n).length=n:=by unfold ZP;simp
theorem Zms (a n:Nat):ZP a (n+1)=ZP a n++[((a+n:Nat):Int)]:=by simp[ZP,uJ,fB]
theorem Ztx {a:Nat} {x:Int} (h:x∈ZP a n):(a:Int)<=x/\x<((a+n:Nat):Int):=by
 grind[ZP]
def nU (used:ak):Nat->Nat->cC->cC
 |0,_,m=>m
 |c+1,i,m=>nU used c (i+1) (j8 m (si (fN i used)))
theorem Zlq (used:ak): ∀(c i:Nat) (m:cC),(nU used c i m).B.length=m.B.length/\(nU used c i m).next=m.next+c
 |0,i,m=>⟨rfl,rfl⟩
 |c+1,i,m=>by
  obtain⟨a,b⟩:=Zlq used c (i+1) (j8 m (si (fN i used)));unfold nU;refine⟨a.trans (tK _ _),?_⟩;rw[b];show m.next+1+c=_;omega
def vL (x:eL):cC:=⟨kP (64*x.blocks.toNat),2,List.replicate x.aG.length 0⟩
def rI (x:eL):Nat:=(x.blocks.toNat+383)/384
def Eh (l:ak):Int:=match l with
 |[]=>0
 |k::_=>ar (k+1)
def vM (x:eL):Nat×cC:=pW x.aS (vL x)
def iV (x:eL):Nat×cC:=qA x.aG x.free (vM x).2
def gp (x:eL) (dR:Int):dY:=⟨dR,x.blocks,x.cJ,x.g,(iV x).1,x.aG.length,Eh x.free,(vM x).1,ZP (iV x).2.next (rI x)⟩
def ow (x:eL):ak:=ZP 0 ((iV x).2.next+rI x)
def ye (x:eL) (dR place:Int):Option (aj×dY):=
 bif decide (((ow x).length:Int)>x.blocks)|| !iN (gp x dR)then none else
  some (rL (nU (ow x) (rI x) 0 (iV x).2).B (64*(place%2).toNat) (z8 (gp x dR)),gp x dR)
theorem Zvg (n:Nat):hZ n [.int .i64 0]=ints (List.replicate n 0):=by
 simp[hZ,ints]
def Zs3:ah:=[.slice 0 none 0,.agg [.int .i64 0,.int .i64 0,.int .i64 0,.int .i64 0,.int .i64 0,.int .i64 0,.int .i64 0,.int .i64 0,.slice 0 none 0],.bool false]
structure aai (st fU:St) (B:List UInt8) (s:dY) (ib:Nat) (q:Option (Nat×Nat)):Prop where
 new:st.length<=ib
 eF:fU[ib]? =some (some ⟨false,bZ B⟩)
 own:bn [] fU q (ints s.aL)
 q: ∀b∈aM q,st.length<=b/\b≠ib
def Tg (st:St) (x:eL) (dR place:Int) (o:Out ah×St):Prop:=∃fU,aC st fU/\
 ((∃B s ib q,tx x/\ye x dR place=some (B,s)/\o=(.val [.slice 1 (some (ib,0)) B.length,.agg (dO s q),.bool true],fU)/\aai st fU B s ib q)\/
  ((tx x->ye x dR place=none)/\o=(.val Zs3,fU)))
theorem Zqk (l:List di):sN l=((l.map (·.bS)).flatten).length:=by
 unfold sN;induction l with
 |nil=>rfl
 |cons x l ih=>rw[pF,List.sum_cons,ih,pF,De,bA]
theorem ZjH (n:Nat) (x:eL) (z1 z2 z3:Nat) (p1 p2 p3:ai) (dR place:Int) (st:St) (hU:z1=2\/p1=none) (gy:z2=1\/p2=none) (kD:z3=1\/p3=none) (hx:zs st x p1 p2 p3) (sz:By x) (kW: -9223372036854775808<=place/\place<=9223372036854775807:=by omega) (hn:60000<=n:=by omega):
  Ok (Tg st x dR place) (run Bd n 170 [.agg (dD x z1 p1 z2 p2 z3 p3),.int .i64 dR,.int .i64 place] st):=by
 obtain⟨n,rfl⟩: ∃k,n=k+3:=⟨n-3,by omega⟩;rw[Ze,h.aa3];unfold OW ZH gK aY cM Pv fX az Q_ uL jD cH iM lu Zm JG zy Gb mj Li fW wq tr uN Lb eU bE jQ tP;have ag: ∀(l:ah) (K:ah->ah->M ah),bj (.agg (dD x z1 p1 z2 p2 z3 p3)::l) K=K (dD x z1 p1 z2 p2 z3 p3) l:=λ_ _=>rfl
 rw[ag];unfold dD;simp only[av,Zf 2 z1 p1 _ hU,Zf 1 z2 p2 _ gy,Zf 1 z3 p3 _ kD,aq];refine Ok.call (ZqP (n+2) x 2 1 1 p1 p2 p3 st (.inl rfl) (.inl rfl) (.inl rfl) hx.str sz (by omega)) ?_;rintro _ ⟨b,s1,rfl,aH,hb⟩;refine⟨_,s1,rfl,?_⟩;simp only[au,aq];cases b with
 |false=>
  rw[bm,ae,Zd];exact .mk ⟨s1,aH,.inr ⟨λhm=>(by cases hb.2 hm),rfl⟩⟩
 |true=>
 have hm:=hb.1 rfl;rw[bp,af];obtain⟨g1,g2,g3,g4,g5,g6⟩:=Z2 hm.Hu;obtain⟨bl,ix⟩: ∃bl:Nat,x.blocks=bl:=⟨x.blocks.toNat,by omega⟩;have lC:x.aG.length<=1792:=by have:=hm.cJ;omega
 have rq:x.blocks.toNat=bl:=by omega
 have hw:ar (64*x.blocks)=((64*bl:Nat):Int):=by rw[ix,Zc];omega
 simp only[hw,br];rw[Zb (by rw[aW,aW,bC,bC,bC];omega),Zz];rw[Zb (by rw[aW,aW,bC,bC,bC];omega),Zz,Zz,ZpU,Zvg];have l1: ∀c,(s1++[some (c:bT)]).length=s1.length+1:=λc=>by simp
 have l2: ∀c d,((s1++[some (c:bT)])++[some (d:bT)]).length=s1.length+2:=λc d=>by simp
 simp only[l1,l2];obtain⟨S0,Ch⟩: ∃S0,((s1++[some (⟨false,bZ (kP (64*bl))⟩:bT)])++[some (⟨false,ints (List.replicate x.aG.length 0)⟩:bT)])++[some (⟨false,[.slice 1 (some (s1.length,0)) (64*bl),.int .i64 2,.slice 1 (some (s1.length+1,0)) x.aG.length]⟩:bT)]=S0:=⟨_,rfl⟩;rw[Ch];have hpS:aC s1 S0:=by rw[<-Ch];exact(((aC.new _ _).trans (aC.new _ _)).trans (aC.new _ _))
 have hlS:S0.length=s1.length+3:=by rw[<-Ch];simp
 have qo:(kP (64*bl)).length=64*bl:=by unfold kP;simp
 have T2:gO S0 (s1.length+2) s1.length (s1.length+1) (vL x):=by
  unfold vL;rw[rq];refine⟨?_,?_,?_,by omega,by omega,by omega⟩
  .rw[<-Ch,qo,uH];simp
  .rw[<-Ch];simp
  .rw[<-Ch];simp
 clear Ch;have Mx:=aH.trans hpS;have Vw:=hx.kp Mx.kp;obtain⟨ds,sS,jb⟩:=Vw.hp;have jc: ∀g∈x.aS,∀e∈g.bS,e∈Zr x:=λg hg e he=>List.mem_flatten.2 (by grind)
 have wZ:(vL x).At.length=x.aG.length:=uH;have TU:(vL x).B.length=64*bl:=by show(kP _).length=_;rw[rq,qo]
 have Ur:=Zqk x.aS;have agF:sN x.aS<=50000:=by rw[Ur];exact sz.e
 have AF:=hm.Ew;have Cy:(vL x).next=2:=rfl;refine Ok.call (ZrL (n+2) x.aS p1 2 ds S0 (.inl rfl) T2 sS jb (λg hg e he=>by
  have:=hm.range e.slot (by grind);rw[wZ];exact this) (λg hg=>⟨by have:=sz.h.name g hg;omega,by have:=sz.h.name g hg;omega,by have:=sz.h.bS g hg;omega⟩) (by omega) (by omega) (by omega) (by omega) (by omega)) ?_
 rintro _ ⟨S1,rfl,hM1,Cp⟩;refine⟨_,S1,rfl,?_⟩;simp only[av,aq];obtain⟨k1,k2,k3,k4⟩:=Zu2 x.aS (vL x);have ad2:pW x.aS (vL x)=vM x:=rfl;rw[ad2]at hM1 k1 k2 k3 k4⊢;have yN:=Vw.kp (T2.kp Cp);refine Ok.call (ZoY (n+2) x 2 1 1 p1 p2 p3 S1 (.inl rfl) (.inl rfl) (.inl rfl) hM1 yN.gn yN.fr (by omega) (by have:=sz.f;omega) (by omega) (by omega) (by omega) (by have:=sz.f;omega)) ?_;rintro _ ⟨S2,rfl,hM2,nn⟩;refine⟨_,S2,rfl,?_⟩;simp only[av,aq];obtain⟨q1,q2,q3,q4⟩:=Zse x.aG x.free (vM x).2;have ad3:qA x.aG x.free (vM x).2=iV x:=rfl;rw[ad3]at hM2 q1 q2 q3 q4⊢;have hfA:Fx [s1.length+2,s1.length,s1.length+1] S0 S2:=Cp.trans nn;have CK:=Vw.kp (T2.kp hfA);have TT:(iV x).2.B.length=64*bl:=by omega
 have CE: ∀t,Fx [s1.length+2,s1.length,s1.length+1] S0 t->aC st t:=λt k=>by
  refine Fx.YU ((Fx.pre [] Mx).step k λy hy=> .inr ?_);have:=aH.len;grind
 have xg: ∀ {a:ai},(∀b∈aM a,S0.length<=b)->∀b∈aM a,b∉[s1.length+2,s1.length,s1.length+1]:=λoQ b hb kB=>by
  grind
 refine Ok.join λaA yC=>?_
 have A1:Ok (Tg st x dR place) (aA [.agg [.int .i64 dR,.int .i64 x.blocks,.int .i64 x.cJ,.int .i64 x.g,.int .i64 (iV x).1,.int .i64 (x.aG.length:Int),.int .i64 (Eh x.free),.int .i64 (vM x).1,.slice 0 none 0]] S2):=by
  rw[yC];show Ok _ (bj [.agg [.int .i64 dR,.int .i64 x.blocks,.int .i64 x.cJ,.int .i64 x.g,.int .i64 (iV x).1,.int .i64 (x.aG.length:Int),.int .i64 (Eh x.free),.int .i64 (vM x).1,.slice 0 none 0]] _ S2);rw[de [.int .i64 dR,.int .i64 x.blocks,.int .i64 x.cJ,.int .i64 x.g,.int .i64 (iV x).1,.int .i64 (x.aG.length:Int),.int .i64 (Eh x.free),.int .i64 (vM x).1,.slice 0 none 0] []];simp only[av,Zf 1 0 none _ (.inr rfl),aq];refine Ok.join λaI HT=>?_
  obtain⟨N,hN⟩: ∃N,(iV x).2.next=N:=⟨_,rfl⟩;obtain⟨C,hC⟩: ∃C,rI x=C:=⟨_,rfl⟩;have hCe:(bl+383)/384=C:=by rw[<-hC];unfold rI;rw[rq]
  refine Zj _ (λq y t=>∃(k z:Nat) (a:ai),y=[.agg [.int .i64 dR,.int .i64 x.blocks,.int .i64 x.cJ,.int .i64 x.g,.int .i64 (iV x).1,.int .i64 (x.aG.length:Int),.int .i64 (Eh x.free),.int .i64 (vM x).1,.slice z a (ZP N k).length],.int .i64 (k:Int)]/\(z=1\/a=none)/\k<=C/\C-k<=q/\gO t (s1.length+2) s1.length (s1.length+1) (iV x).2/\Fx [s1.length+2,s1.length,s1.length+1] S0 t/\bn [] t a (ints (ZP N k))/\∀b∈aM a,S0.length<=b) ?_ C (n+2) _ _ ⟨0,1,none,rfl,.inr rfl,cE _,by omega,hM2,hfA,bn.nil ⟨S2,rfl⟩,λ_ h=>by cases h⟩ (by omega);rintro q _ t ⟨k,z,a,rfl,hz,hk,hq,T3,vp,lF,oQ⟩ rec aQ;rw[cG];simp only[av,Zf 1 z a _ hz,aq];rw[ix];refine Ok.call (ZiM (n+2) bl x.cJ x.g (by omega) t) ?_;rintro _ rfl;refine⟨_,t,rfl,?_⟩;simp only[av,aq];rw[hCe,<-ix];by_cases ax:k<C
  .rw[aw (by omega),ae,Zo T3.cell (d:= .int .i64 (iV x).2.next) rfl]
   simp only[aX];have rF:ar (((iV x).2.next:Int)+(k:Int))=((N+k:Nat):Int):=by rw[hN,Zc];omega
   have cD:ar ((k:Int)+1)=((k+1:Nat):Int):=Zc;rw[rF,cD];obtain⟨b,t2,r1,r2,r3,r4⟩:=xZ (β:=ah) (lim:=8796093022208) lF (sz:=1) (n:=(ZP N k).length) [.int .i64 ((N+k:Nat):Int)] (by omega) (by simp[ints]) rfl (by rw[sj];omega);refine Eq.mpr (congrArg (Ok _) (r4 _)) ?_;have hM3:=T3.fx r3 λy hy=>by
    have:=oQ y hy;omega
   refine aQ (C-(k+1)) _ _ (by omega) ⟨k+1,1,some (b,0),?_,.inl rfl,by omega,aO _,hM3,vp.step r3 λy hy=> .inr (oQ y hy),?_,λy hy=>?_⟩
   .rw[sj,sj]
   .rw[Zms]
    unfold ints;rw[fB];exact r2
   .rw[cx.1 hy]
    have:=vp.1;omega
  have hkC:k=C:=by omega
  subst hkC;rw[aD (by omega),af,HT];have AT:([.int .i64 dR,.int .i64 x.blocks,.int .i64 x.cJ,.int .i64 x.g,.int .i64 (iV x).1,.int .i64 (x.aG.length:Int),.int .i64 (Eh x.free),.int .i64 (vM x).1,.slice 1 a (ZP N k).length]:ah)=dO (gp x dR) a:=by
   unfold dO gp;rw[hN,hC]
  have uc:(gp x dR).aL=ZP N k:=by unfold gp;rw[hN,hC]
  rw[AT];show Ok _ (bj [.agg (dO (gp x dR) a)] _ t);rw[de (dO (gp x dR) a) []];unfold dO;simp only[av,bd,aq];have ae4:([.int .i64 (gp x dR).seq,.int .i64 (gp x dR).blocks,.int .i64 (gp x dR).cJ,.int .i64 (gp x dR).g,.int .i64 (gp x dR).bY,.int .i64 (gp x dR).used,.int .i64 (gp x dR).free,.int .i64 (gp x dR).dir,.slice 1 a (gp x dR).aL.length]:ah)=dO (gp x dR) a:=rfl;simp only[ae4];have cL:(gp x dR).aL.length=k:=by rw[uc,sj]
  have kY:ow x=ZP 0 (N+k):=by unfold ow;rw[hN,hC]
  rw[cL];refine Ok.join λaR AI=>?_
  refine Zj _ (λq y u=>∃(i z:Nat) (c:ai),y=[.slice z c (ZP 0 i).length,.int .i64 (i:Int)]/\(z=1\/c=none)/\i<=N+k/\N+k-i<=q/\gO u (s1.length+2) s1.length (s1.length+1) (iV x).2/\Fx [s1.length+2,s1.length,s1.length+1] S0 u/\bn [] u c (ints (ZP 0 i))/\(∀b∈aM c,S0.length<=b)/\bn [] u a (ints (ZP N k))/\∀b∈aM a,b∉aM c) ?_ (N+k) (n+2) _ _ ⟨0,0,none,rfl,.inr rfl,cE _,by omega,T3,vp,bn.nil ⟨t,rfl⟩,(λ_ h=>by cases h),lF,λ_ _ h=>by cases h⟩ (by omega);rintro q2 _ u ⟨i,z,c,rfl,hz,hi,CF,T4,fk,hoc,Uf,Ms,hac⟩ dt j4;simp only[av,Zf 1 z c _ hz,aq];rw[Zo T4.cell (d:= .int .i64 (iV x).2.next) rfl];simp only[aX];have hwN:ar (((iV x).2.next:Int)+(k:Int))=((N+k:Nat):Int):=by rw[hN,Zc];omega
  rw[hwN];by_cases ax:i<N+k
  .rw[aw (by omega),ae]
   have cD:ar ((i:Int)+1)=((i+1:Nat):Int):=Zc;rw[cD];obtain⟨b,t2,r1,r2,r3,r4⟩:=xZ (β:=ah) (lim:=8796093022208) hoc (sz:=1) (n:=(ZP 0 i).length) [.int .i64 (i:Int)] (by omega) (by simp[ints]) rfl (by rw[sj];omega);refine Eq.mpr (congrArg (Ok _) (r4 _)) ?_;refine j4 (N+k-(i+1)) _ _ (by omega) ⟨i+1,1,some (b,0),?_,.inl rfl,by omega,aO _,T4.fx r3 λy hy=>?_,fk.step r3 λy hy=> .inr (Uf y hy),?_,λy hy=>?_,Ms.fx r3 hac,λy hy gF=>?_⟩
   .rw[sj,sj]
   .have:=Uf y hy
    omega
   .rw[Zms,eW]
    unfold ints;rw[fB];exact r2
   .rw[cx.1 hy]
    have:=fk.1;omega
   .rw[cx.1 gF]at hy
    have:=bn.Em Ms b hy;omega
  have hiN:i=N+k:=by omega
  subst hiN;rw[aD (by omega),af,AI];simp only[bd,aq];refine Ok.join λbz Me=>?_
  have EK:ye x dR place=bif decide (((ow x).length:Int)>x.blocks)|| !iN (gp x dR)then none else some (rL (nU (ow x) k 0 (iV x).2).B (64*(place%2).toNat) (z8 (gp x dR)),gp x dR):=by
   unfold ye;rw[hC]
  have A4: ∀(v:St) (bb:Bool),(decide (((ow x).length:Int)>x.blocks)|| !iN (gp x dR))=bb->aC u v->Ok (Tg st x dR place) (bz [.bool bb] v):=by
   intro v bb yy uo;rw[yy]at EK;rw[Me];simp only[au,aq];cases bb with
   |true=>
    rw[ae,Zd];exact .mk ⟨v,CE v (fk.trans (Fx.pre _ uo)),.inr ⟨λ_=>EK,rfl⟩⟩
   |false=>
   rw[af];rw[af]at EK;refine Ok.join λca UK=>?_
   obtain⟨G,hG⟩: ∃G,nU (ow x) k 0 (iV x).2=G:=⟨_,rfl⟩;rw[hG]at EK;refine Zj _ (λq y w=>∃(i:Nat) (m':cC),y=[.int .i64 (i:Int)]/\i<=k/\k-i<=q/\gO w (s1.length+2) s1.length (s1.length+1) m'/\Fx [s1.length+2,s1.length,s1.length+1] S0 w/\bn [] w c (ints (ZP 0 (N+k)))/\bn [] w a (ints (ZP N k))/\m'.B.length=64*bl/\m'.next=N+i/\nU (ow x) (k-i) i m'=G) ?_ k (n+2) _ _ ⟨0,(iV x).2,rfl,cE _,by omega,T4.pre uo,fk.trans (Fx.pre _ uo),hoc.fx (Fx.pre [] uo) (λ_ _ h=>by cases h),Ms.fx (Fx.pre [] uo) (λ_ _ h=>by cases h),TT,hN,hG⟩ (by omega);rintro q3 _ w ⟨i,m',rfl,hi,hq3,T5,Ma,XZ,CC,hB3,hN3,aN⟩ uw MC;simp only[av,aq];by_cases ax:i<k
   .rw[aw (by omega),ae]
    refine Ok.call (ZkL (n+2) i (ZP 0 (N+k)) c 1 w (.inl rfl) XZ.sl (by omega) (by rw[sj];omega) (λy hy=>by have:=Ztx hy;omega) (by rw[sj];omega)) ?_;rintro _ rfl;refine⟨_,w,rfl,?_⟩;have H4:(fN i (ZP 0 (N+k))).eF.length=48:=by unfold fN;rw[Gu];exact uH
    have iG:(bZ (fN i (ZP 0 (N+k))).eF).length=48:=by rw[Zt,H4]
    show Ok _ (bj [.agg (.int .i64 (fN i (ZP 0 (N+k))).no::bZ (fN i (ZP 0 (N+k))).eF)] _ w);rw[cG];simp only[av];rw[bD iG];simp only[aq];refine Ok.call (ZlR (n+2) (fN i (ZP 0 (N+k))) H4 w) ?_;rintro _ ⟨w1,rfl,Fh⟩;refine⟨_,w1,rfl,?_⟩;simp only[bO,aq];refine Ok.call (B3 (n+1) (si (fN i (ZP 0 (N+k)))) w1 (T5.pre Fh)) ?_;rintro _ ⟨w2,rfl,adk,adI⟩;refine⟨_,w2,rfl,?_⟩;simp only[av,aq];rw[Zc];have Ut:Fx [s1.length+2,s1.length] w w2:=(Fx.pre _ Fh).trans adI;have HO:Fx [s1.length+2,s1.length,s1.length+1] w w2:=Ut.mono λy hy=>by simp only[dW,th,oB]at hy⊢;omega
    have eki:k-i=(k-(i+1))+1:=by omega
    rw[eki]at aN;unfold nU at aN;rw[kY]at aN;rw[<-kY]at aN;exact MC (k-(i+1)) _ _ (by omega) ⟨i+1,_,rfl,by omega,aO _,adk,Ma.trans HO,XZ.fx HO (xg Uf),CC.fx HO (xg oQ),(tK _ _).trans hB3,by show m'.next+1=_;omega,by rw[<-kY];exact aN⟩
   have EV:i=k:=by omega
   subst EV;rw[Nat.sub_self]at aN;have hmG:m'=G:=aN;subst hmG;rw[aD (by omega),af,UK];simp only[aq];rw[Zo T5.cell rfl];simp only[lq];have xk:run Bd (n+2) 179 [.int .i64 place,.int .i64 2] w=some (.val [.int .i64 (place%2)],w):=ZkF (n+1) place 2 (by decide) (by decide) kW w;rw[qR xk (.refl w)];simp only[av,aq];obtain⟨pl,X6⟩: ∃pl:Nat,place%2=(pl:Int):=⟨(place%2).toNat,by omega⟩;rw[X6,br]at EK;rw[X6];have hwp:ar (64*(pl:Int))=((64*pl:Nat):Int):=by rw[Zc];omega
   simp only[hwp,br,cT];rw[Zb (by rw[aW,bC,bC];omega)];refine Ok.lT (Zqy (n+2) (gp x dR) a w (by rw[uc];exact CC.sl) (by omega) (by omega)) ?_;rintro _ ⟨w1,rfl,Fh⟩;refine⟨_,w1,rfl,Fh,?_⟩;simp only[bO,aq];have T6:=T5.pre Fh;obtain⟨e1,e2,e3⟩:=T6.lt;show Ok _ (eI s1.length (64*pl+0) _ _ w1);rw[gV,ly,KF T6.bb (by rw[Zt,Zt,cV];omega),Zs2 _];have hlB:=Sy (B:=m'.B) (k:=64*pl) (z8 (gp x dR));rw[Zo (i:=s1.length+2) (f:=false) (by rw[kJ (by omega)];exact T6.cell) rfl];simp only[lq,Zd];have Az:Fx [s1.length+2,s1.length,s1.length+1] w (w1.set s1.length (some ⟨false,bZ (rL m'.B (64*pl) (z8 (gp x dR)))⟩)):=(Fx.pre _ Fh).trans ((Fx.set w1 s1.length _).mono λy hy=>by rw[cx.1 hy];simp);have oj:=aH.len;refine .mk ⟨_,CE _ (Ma.trans Az),.inl ⟨_,_,s1.length,a,hm,EK,by rw[hlB],oj,mc (by omega),?_,λy hy=>?_⟩⟩
   .rw[uc]
    exact CC.fx Az (xg oQ)
   .have:=oQ y hy
    omega
  rw[sj];have xo:((ow x).length:Int)=((N+k:Nat):Int):=by rw[kY,sj]
  by_cases xi:((N+k:Nat):Int)>x.blocks
  .rw[aw xi,ae]
   refine A4 u true ?_ (.refl u);rw[xo,aw xi,Bool.true_or]
  .rw[aD xi,af]
   refine Ok.call (Om (n+2) (gp x dR) a u (by rw[uc];exact Ms.sl) (by omega)) ?_;rintro _ ⟨v,rfl,uo⟩;refine⟨_,v,rfl,?_⟩;simp only[au,aq];refine A4 v _ ?_ uo;rw[xo,aD xi,zd]
 by_cases xb:0<x.free.length
 .obtain⟨k0,kr,HU⟩: ∃k0 kr,x.free=k0::kr:=by
   cases rr:x.free with
   |nil=>rw[rr]at xb;cases xb
   |cons a b=>exact⟨a,b,rfl⟩
  have UD:(ints x.free)[0]? =some (.int .i64 k0):=by rw[HU];rfl
  obtain⟨bi,bo,e⟩:=CK.fr.1.cB (by simp[ints];omega);have vB:=CK.fr.1;rw[e]at vB⊢;rw[aw (by omega),ae,aZ,Zb (show aP 0 x.free.length=true from Zi (i:=0) xb),vB.get UD];simp only[aX];rw[HU]at A1;exact A1
 .have rr:x.free=[]:=Bm.1 (by omega)
  rw[aD (by omega),af];rw[rr]at A1;exact A1
theorem ZoG (n:Nat) (W:al) (j:Nat) (f:Bool) (st:St) (hw:st[j]? =some (some ⟨f,ZV W⟩)) (h0:0<W.length) (hl:W.length<100000):
  Ok (λo=>∃j' s',o=(.val [.slice 1 (some (j',0)) W.length],s')/\aC st s'/\st.length<=j'/\s'[j']? =some (some ⟨false,ZV W⟩)) (run Bd (n+1) 263 [.slice 1 (some (j,0)) W.length] st):=by
 rw[Ze,h.acr];unfold NL cm bE;simp only[bd,aq];rw[show(some (j,0):ai).isNone=false from rfl,af,Zz];have cD:(st++[some (⟨false,[]⟩:bT)])[j]? =some (some ⟨f,ZV W⟩):=(aC.new _ _).get hw;have dN:Sl (st++[some (⟨false,[]⟩:bT)]) (some (j,0)) (ZV W):=⟨f,ZV W,cD,by omega,by rw[dA,sc]⟩;have oY:=jf (β:=ah) dN;rw[Q6]at oY;rw[cT,oY];have gZ:bn st (st++[some (⟨false,[]⟩:bT)]) (some (st.length,0)) []:=⟨aC.new _ _,(by simp)⟩;obtain⟨p,s',ho,he⟩:=gZ.app (β:=ah) (sz:=1) (n:=0) (m:=W.length) (lim:=8796093022208) (ds:=ZV W) (by omega) rfl h0 (by omega);rw[he,Zd,eW];rw[iL]at ho;rcases ho.2 with⟨_,e⟩|⟨i,rfl,h1,h2⟩
 .have:=congrArg List.length e
  rw[Q6]at this;grind
 .exact .mk ⟨i,s',rfl,ho.1,h1,h2⟩
theorem Zp6 (n:Nat) {m:Nat} (st:St) (hs:fY st f i j m W) (hm:0<m):
  Ok (λo=>∃i' j' s',o=(.val [.ptr (some (i',0))],s')/\aC st s'/\st.length<=i'/\st.length<=j'/\i'≠j'/\fY s' false i' j' m W) (run Bd (n+2) 241 [.ptr (some (i,0))] st):=by
 rw[Ze,h.ab5];unfold Oa ji Zm cm bE tr Lp;simp only[fV,aq,aZ];have hlen:=hs.len;have hle:=hs.le;rw[Zo hs.hd rfl];simp only[aX];rw[Zo hs.hd rfl];simp only[lq];refine Ok.lT (ZoG n W j f st hs.wd (by omega) (by omega)) ?_;rintro _ ⟨j',s1,rfl,aH,hj,hw⟩;refine⟨_,s1,rfl,aH,?_⟩;simp only[bd,aq];rw[Zz,Zd];have sV:=(eK.1 hw).1;exact .mk ⟨s1.length,j',_,rfl,aH.trans (aC.new _ _),aH.len,hj,by omega,⟨by simp,(aC.new _ _).get hw,hs.len,hs.lt,hs.le⟩⟩
theorem Zrk (hz:NH Bd) (n:Nat) {m:Nat} (st:St) (ht:wo st) (hs:fY st f i j m W) (kC:fY st g i2 j2 m2 V) (hm:0<m) (hn:4000<=n):
  Ok (λo=>∃i' j' s',o=(.val [.ptr (some (i',0))],s')/\aC st s'/\fY s' false i' j' m ((dC V).foldl (bU m) W)) (run Bd n 201 [.ptr (some (i,0)),.ptr (some (i2,0))] st):=by
 obtain⟨n,rfl⟩: ∃k,n=k+3:=⟨n-3,by omega⟩;rw[Ze,h.abr];unfold OU ji Br lN C_ Lp;simp only[fV,aq];refine Ok.call (Zp6 n st hs hm) ?_;rintro _ ⟨i',j',s1,rfl,aH,ET,AH,oU,MF⟩;refine⟨_,s1,rfl,?_⟩;simp only[fV,aq];refine Ok.call (Zlk hz (n+2) s1 (ht.mono aH) (kC.pre aH)) ?_;rintro _ ⟨p,s2,rfl,aV,dN,ix⟩;refine⟨_,s2,rfl,?_⟩;simp only[bd,aq];have xl:=MF.pre aV;have sV:j'<s1.length:=(eK.1 MF.wd).1;have gS:=ZkA V V.length;rw[sc]at gS;have hV:=kC.len;have hV2:=kC.le;rw[Zk (JQ (n+2) (dC V) p s2 xl oU dN (lr.aM λb hb kB=>by
  have:=ix b hb;rw[cx.1 kB]at this;omega))]
 simp only[aq,Zd];exact .mk ⟨i',j',_,rfl,zU (aH.trans aV) AH _,xl.add oU _ (by rw[(oL m _ _).1]) ((oL m _ _).2 xl.lt)⟩
def vi (img:aj) (m:Nat) (W:al):ak->Option (List ZL)
 |[]=>some []
 |k::r=>match wv (ZB img k.toNat)with
  |none=>none
  |some c=>bif fT m k&&dT W k.toNat then none else(vi img m W r).map (c:: ·)
def zS (img:aj) (x:dY) (W:al):Bool:=match vi img x.blocks.toNat W x.aL with
 |none=>false
 |some cs=>match Am x.blocks.toNat cs with
  |none=>false
  |some F=>decide (F=(dC (kE x.blocks.toNat x.aL)).foldl (bU x.blocks.toNat) W)
def BL (img:aj) (x:dY) (rm:Option (Nat×al)):Bool:=match ox (nG img x)with
 |some (some v)=>(match rm with
  |none=>false
  |some (m,R)=>(decide (x.blocks.toNat=m)&&decide (v.W=R))&&zS img x v.W)
 |_=>false
def ZsU (s:St) (rm:Option (Nat×al)) (p:ai):Prop:=match rm with
 |none=>p=none
 |some (m,R)=>∃f i j,p=some (i,0)/\fY s f i j m R
theorem ZwH {img:aj} {x:dY} {v:bg} (h:ox (nG img x)=some (some v)):iN x=true/\x.blocks<=((img.length/64:Nat):Int):=by
 unfold ox at h;cases h1:iN x with
 |false=>
  have:(nG img x).sup=x:=rfl;rw[this,h1]at h;cases h
 |true=>
  refine⟨rfl,?_⟩;cases h2:decide (x.blocks<=((img.length/64:Nat):Int))with
  |true=>grind
  |false=>
   have e1:(nG img x).sup=x:=rfl;have e2:(nG img x).img=img:=rfl;rw[e1,e2,h1,h2]at h;cases h
theorem ZiE (n:Nat) (a:ai) (img:aj) (x:dY) (pc:ai) (rm:Option (Nat×al)) (pr:ai) (s:St) (ht:wo s) (ha:dE s a img) (hc:Sl s pc (ints x.aL)) (hr:ZsU s rm pr) (hl:img.length<1000000) (cL:x.aL.length<1000) (hn:6000<=n:=by omega):
  Ok (λo=>∃s',o=(.val [.bool (BL img x rm)],s')/\aC s s') (run Bd n 173 [.slice 1 a img.length,.agg (dO x pc),.ptr pr] s):=by
 obtain⟨n,rfl⟩: ∃k,n=k+3:=⟨n-3,by omega⟩;obtain⟨R,hR⟩: ∃R,BL img x rm=R:=⟨_,rfl⟩;rw[hR];unfold BL at hR;rw[Ze,h.aa6];unfold OH BA ji DE az iu Br aY cy Zn lN xS Lb tr eU bE mZ jQ;simp only[bd];rw[de (dO x pc) [.ptr pr]];unfold dO;simp only[av,bd,fV,aq];have AT:([.int .i64 x.seq,.int .i64 x.blocks,.int .i64 x.cJ,.int .i64 x.g,.int .i64 x.bY,.int .i64 x.used,.int .i64 x.free,.int .i64 x.dir,.slice 1 pc x.aL.length]:ah)=dO x pc:=rfl;rw[AT];have lH: ∀t,aC s t->R=false->Ok (λo=>∃s',o=(.val [.bool R],s')/\aC s s') ((ay [.bool false]:M ah) t):=λt k e=>by
  rw[e,Zd];exact .mk ⟨t,rfl,k⟩
 refine Ok.call (OY (n+2) a img x pc s ha hc hl cL) ?_;intro o ho;cases hw:ox (nG img x)with
 |none=>
  rw[hw]at ho hR;obtain⟨s1,rfl,aH⟩:=ho;refine⟨_,s1,rfl,?_⟩;rw[de];unfold dD;simp only[av,Zf 2 0 none _ (.inr rfl),Zf 1 0 none _ (.inr rfl),fV,aq];rw[Za,show(!((2:Int)==0))=true from rfl,ae];simp only[au,aq];rw[Za,ae];simp only[au,aq];rw[ae];exact lH s1 aH hR.symm
 |some q=>
 cases q with
 |none=>
  rw[hw]at ho hR;obtain⟨s1,rfl,aH⟩:=ho;refine⟨_,s1,rfl,?_⟩;rw[de];unfold dD;simp only[av,Zf 2 0 none _ (.inr rfl),Zf 1 0 none _ (.inr rfl),fV,aq];rw[Za,show(!((31:Int)==0))=true from rfl,ae];simp only[au,aq];rw[Za,ae];simp only[au,aq];rw[ae];exact lH s1 aH hR.symm
 |some v=>
 rw[hw]at ho hR;obtain⟨s1,z2,q2,z3,q3,z4,q4,i,j,rfl,aH,gy,kD,CN,_,db,_,_⟩:=ho;refine⟨_,s1,rfl,?_⟩;simp only at hR;obtain⟨qj,adt⟩:=ZwH hw;obtain⟨ER,_⟩:=Zlr qj;obtain⟨g1,g2,_⟩:=Z2 ER;have ae0:=(zH x).1 qj;obtain⟨m,hm⟩: ∃m:Nat,x.blocks=m:=by grind
 have hmn:x.blocks.toNat=m:=by omega
 rw[hmn]at db hR;rw[de];unfold dD;simp only[av,Zf 2 z2 q2 _ gy,Zf 1 z3 q3 _ kD,Zf 1 z4 q4 _ CN,fV,aq];rw[Za,show(!((0:Int)==0))=false from rfl,af];simp only[au,aq];rw[Za];cases rm with
 |none=>
  have hpr:pr=none:=hr;subst hpr;rw[show(none:ai).isNone=true from rfl,ae];simp only[au,aq];rw[ae];grind
 |some mr=>
 obtain⟨mr,Rr⟩:=mr;obtain⟨fr,ir,jr,rfl,Is⟩:=hr;rw[show(some (ir,0):ai).isNone=false from rfl,af];refine Ok.call (Zlo (n+2) s1 db (Is.pre aH)) ?_;rintro _ rfl;refine⟨_,s1,rfl,?_⟩;simp only[au,aq];simp only at hR;cases Iq:(decide (m=mr)&&decide (v.W=Rr))with
 |false=>
  rw[Iq,fP]at hR;rw[bm,ae];exact lH s1 aH hR.symm
 |true=>
 rw[Iq,dx]at hR;rw[bp,af];unfold zS at hR;rw[hmn]at hR;refine Ok.join λaR AI=>?_
 obtain⟨G,hG⟩: ∃G,vi img m v.W x.aL=G:=⟨_,rfl⟩;rw[hG]at hR;refine Zj _ (λq y t=>∃(k z:Nat) (c:ai) (acc:List ZL),y=[.slice z c acc.length,.int .i64 (k:Int)]/\(z=49\/c=none)/\k<=x.aL.length/\x.aL.length-k<=q/\bn s1 t c (qW acc)/\acc.length=k/\(∀y∈acc,y.eF.length=48/\y.no<8)/\(vi img m v.W (x.aL.drop k)).map (acc++ ·)=G) ?_ x.aL.length (n+2) _ _ ⟨0,0,none,[],rfl,.inr rfl,cE _,by omega,bn.nil (.refl _),rfl,(λ_ h=>by cases h),by rw[dA,hG];cases G<;>rfl⟩ (by omega);rintro q _ t ⟨k,z,c,acc,rfl,hz,hk,hq,ho,yx,Xh,aN⟩ rec aQ;have je:=ho.1;have cc:=aH.trans je;simp only[av,Zf 49 z c _ hz,aq];have hct:=hc.mono cc;have hat:=ha.mono cc;by_cases ax:k<x.aL.length
 .obtain⟨bi,bo,rfl⟩:=hc.cB (by simp[ints];omega)
  have cZ:(ints x.aL)[k]? =some (.int .i64 x.aL[k]):=ZA ax;have fE:x.aL.drop k=x.aL[k]::x.aL.drop (k+1):=iC ax;have od:=(ae0.ch k ax).1;rw[dZ,cg ax,RS,hm]at od;have adw:2<=x.aL[k]/\x.aL[k]<(m:Int):=od;rw[fE]at aN;rw[aw (show(k:Int)<(x.aL.length:Int) by omega),ae,aZ,Zb (Zi ax)];simp only[br];rw[hct.dF cZ];simp only[aX];generalize x.aL[k]=y at adw aN;obtain⟨yn,hyn⟩: ∃yn:Nat,y=yn:=⟨y.toNat,by omega⟩;subst hyn;unfold vi at aN;rw[br]at aN;rw[Zk (ZlQ (n+1) a img.length yn t hl)];simp only[bd,aq];have Cw:(ZB img yn).length=64:=by unfold ZB;rw[cV,fb];omega
  have UP:dE t (dj true a (yn*64)) (ZB img yn):=(hat.dj (k:=yn*64) (by omega)).lK 64;have hcg:=Zq4 (n+2) (dj true a (yn*64)) (ZB img yn) t UP (by omega) (by omega);rw[Cw]at hcg;refine Ok.call hcg ?_;rintro _ ⟨t1,aV,df⟩;have cD:ar ((k:Int)+1)=((k+1:Nat):Int):=Zc;cases hgc:wv (ZB img yn)with
  |none=>
   rw[hgc]at df aN;simp only at df aN;subst df;refine⟨_,t1,rfl,?_⟩;have aek:(bZ Le.eF).length=48:=rfl;rw[de (ZS Le) _];unfold ZS;simp only[av];rw[bD aek];simp only[au,aq];rw[bD (n:=49) rfl,Za,bm,ae];simp only[au,aq];rw[ae];have TY:G=none:=aN.symm;rw[TY]at hR;exact lH t1 (cc.trans aV) hR.symm
  |some cv=>
   rw[hgc]at df aN;simp only at df aN;obtain⟨rfl,vj,h8⟩:=df;refine⟨_,t1,rfl,?_⟩;have iG:(bZ cv.eF).length=48:=by rw[Zt,vj]
   rw[de (ZS cv) _];have hcc:ZS cv= .int .i64 cv.no::bZ cv.eF:=rfl;rw[hcc];simp only[av];rw[bD iG];simp only[au,aq];rw[bD (n:=49) (by simp[iG]),Za,bp,af];rw[Zk (Zml n ((yn:Nat):Int) t1 (db.pre (je.trans aV)))];simp only[au,aq];rw[br];cases gx:(fT m ((yn:Nat):Int)&&dT v.W yn)with
   |true=>
    rw[gx,ae]at aN;rw[ae];have TY:G=none:=aN.symm;rw[TY]at hR;exact lH t1 (cc.trans aV) hR.symm
   |false=>
    rw[gx,af]at aN;rw[af,bD (n:=49) (by simp[iG]),<-hcc,cD];obtain⟨p3,t3,mG,qf,he⟩:=(ho.mono aV).Bc (β:=ah) (sz:=49) (n:=acc.length) (lim:=1256584717458) (ZS cv) (by omega) (QG λy hy=>(Xh y hy).1) (J9 vj) (by omega);refine Eq.mpr (congrArg (Ok _) (he _)) ?_;refine aQ (x.aL.length-(k+1)) _ _ (by omega) ⟨k+1,49,p3,acc++[cv],?_,.inl rfl,by omega,aO _,?_,?_,λy hy=>?_,?_⟩
    .rw[bA];rfl
    .rw[Zsu]
     have:qW [cv]=ZS cv:=by unfold qW;simp
     rw[this];exact mG
    .rw[bA,yx];rfl
    .grind
    .rw[<-aN,Option.map_map]
     congr 1;funext l;simp
 .rw[aD (show ¬(k:Int)<(x.aL.length:Int) by omega),af,AI]
  rw[ke (by omega)]at aN;have hGs:G=some acc:=by rw[<-aN];simp[vi]
  rw[hGs]at hR;simp only at hR;simp only[bd,aq];rw[hm];refine Ok.call (ZqJ (n+2) m acc c 49 t (by omega) (.inl rfl) ho.sl Xh (by omega) (by omega)) ?_;rintro _ ⟨t1,aV,df⟩;cases eO:Am m acc with
  |none=>
   rw[eO]at df hR;simp only at df hR;subst df;refine⟨_,t1,rfl,?_⟩;simp only[fV,au,aq];rw[Za,af];simp only[au,aq,Zd];exact .mk ⟨t1,by rw[hR],cc.trans aV⟩
  |some F=>
   rw[eO]at df hR;simp only at df hR;obtain⟨iF,jF,rfl,hsF⟩:=df;refine⟨_,t1,rfl,?_⟩;simp only[fV,au,aq];rw[Za,ae];obtain⟨t2,e2,ck,AM,vB⟩:=Qm (n+2) m x.aL pc t1 (by omega) (hct.mono aV) (by omega) (by omega);rw[Zk e2];simp only[fV,aq];have xl:=db.pre ((je.trans aV).trans ck);refine Ok.call (Zrk (YW) (n+2) t2 (ht.mono ((cc.trans aV).trans ck)) xl vB (by omega) (by omega)) ?_;rintro _ ⟨iW,jW,t3,rfl,fG,hsW⟩;refine⟨_,t3,rfl,?_⟩;simp only[fV,aq];refine Ok.call (Zlo (n+2) t3 (hsF.pre (ck.trans fG)) hsW) ?_;rintro _ rfl;refine⟨_,t3,rfl,?_⟩;simp only[au,aq,Zd];refine .mk ⟨t3,?_,((cc.trans aV).trans ck).trans fG⟩;grind
def pY:eL:=⟨16,2,3,[⟨[97],[⟨0,2,5,6⟩]⟩],[2],[]⟩
def VF (x:eL):Bool:=match x with
 |⟨b,s,g,[⟨nm,[⟨a1,a2,a3,a4⟩]⟩],gs,fr⟩=>decide (b=16)&&(decide (s=2)&&(decide (g=3)&&(decide (nm=[97])&&(decide (a1=0)&&(decide (a2=2)&&(decide (a3=5)&&(decide (a4=6)&&(decide (gs=[2])&&decide (fr=[])))))))))
 |_=>false
theorem Zya {x:eL} (h:VF x=true):x=pY:=by
 unfold VF at h;split at h
 .simp only[aW,bC]at h
  obtain⟨h1,h2,h3,h4,h5,h6,h7,h8,h9,EA⟩:=h;subst h1 h2 h3 h4 h5 h6 h7 h8 h9 EA;rfl
 .cases h
theorem ZxI:tx pY where
 Hu:=by decide
 cJ:=by decide
 Ew:=by decide
 right:=λh hh=>by
  rw[cx.1 hh];refine⟨by decide+kernel,λi a b h1 h2=>?_⟩;grind
 order:=λi a b h1 h2=>by
  grind[pY]
 nodup:=by decide
 range:=by decide
 gen:=λe he=>by
  have:e=⟨0,2,5,6⟩:=by grind[Zr,pY]
  subst this;decide
 low:=λk hk=>nomatch hk
 aG:=by decide
 rest:=λi hi hn=>by
  have:i=0:=by
   have:pY.aG.length=1:=rfl;omega
  subst this;exact absurd (by decide) hn
def Zvq:Bool:=match ye pY 1 0 with
 |none=>false
 |some (B,s)=>match ox (nG B s)with
  |some (some v)=>VF (vV s v)&&(Lj v.W==8&&(zS B s v.W&&(decide (B.length=1024)&&decide (s.aL.length=1))))
  |_=>false
theorem ZsE:Zvq=true:=by decide+kernel
theorem ZjA (n:Nat) (st:St):
  Ok (λo=>∃p1 p2 s',o=(.val [.agg (dD pY 2 p1 1 p2 0 none)],s')/\aC st s'/\zs s' pY p1 p2 none) (run Bd (n+1) 188 [] st):=by
 rw[Ze,h.abe];unfold Po zm Li;simp only[aq];rw[kl,Zz,Zz,Zz,Zu];have l1: ∀c,(st++[some (c:bT)]).length=st.length+1:=λc=>by simp
 have l2: ∀c d,((st++[some (c:bT)])++[some (d:bT)]).length=st.length+2:=λc d=>by simp
 simp only[l1,l2];obtain⟨S,hS⟩: ∃S,((st++[some (⟨false,[.int .i64 0,.int .i64 2,.int .i64 5,.int .i64 6]⟩:bT)])++[some (⟨false,[.str (bs [97]),.slice 4 (some (st.length,0)) 1]⟩:bT)])++[some (⟨false,[.int .i64 2]⟩:bT)]=S:=⟨_,rfl⟩;have hp:aC st S:=by rw[<-hS];exact((aC.new _ _).trans (aC.new _ _)).trans (aC.new _ _)
 have h0:bn st S (some (st.length,0)) [.int .i64 0,.int .i64 2,.int .i64 5,.int .i64 6]:=⟨hp,(by grind)⟩;have h1:bn st S (some (st.length+1,0)) [.str (bs [97]),.slice 4 (some (st.length,0)) 1]:=⟨hp,.inr ⟨_,rfl,by omega,by rw[<-hS];simp⟩⟩;have h2:bn st S (some (st.length+2,0)) [.int .i64 2]:=⟨hp,.inr ⟨_,rfl,by omega,by rw[<-hS];simp⟩⟩;rw[hS];refine .mk ⟨some (st.length+1,0),some (st.length+2,0),_,rfl,Zv hp,⟨⟨_,h1.fz,4,some (st.length,0),[],.inl rfl,rfl,h0.fz,rfl⟩,h2.fz,?_⟩⟩;exact Fz.nil _
theorem Zvj:By pY:=⟨⟨by decide,by decide,by decide⟩,by decide,by decide,by decide⟩
theorem ZsD: ∃B s v,ye pY 1 0=some (B,s)/\ox (nG B s)=some (some v)/\vV s v=pY/\Lj v.W=8/\zS B s v.W=true/\B.length=1024/\s.aL.length=1:=by
 have h:=ZsE;unfold Zvq at h;cases hb:ye pY 1 0 with
 |none=>rw[hb]at h;cases h
 |some q=>
  obtain⟨B,s⟩:=q;rw[hb]at h;simp only at h;cases hw:ox (nG B s)with
  |none=>rw[hw]at h;cases h
  |some w=>
   rw[hw]at h;cases w with
   |none=>cases h
   |some v=>
    simp only[aW,sd,bC]at h;exact⟨B,s,v,rfl,hw,Zya h.1,h.2.1,h.2.2.1,h.2.2.2.1,h.2.2.2.2⟩
theorem ZjF (n:Nat) (hn:70000<=n) (st:St) (ht:wo st):Ok (λo=>∃s',o=(.val [.bool true],s')/\aC st s') (run Bd n 169 [] st):=by
 obtain⟨n,rfl⟩: ∃m,n=m+2:=⟨n-2,by omega⟩;obtain⟨B,s,v,hB,hW,cc,Xv,uc,TU,dN⟩:=ZsD;rw[Ze,h.aa2];unfold O5 ZD JF DE az aY cM xS Lb Lp;simp only[aq];refine Ok.call (ZjA n st) ?_;rintro _ ⟨p1,p2,s1,rfl,aH,hF⟩;refine⟨_,s1,rfl,?_⟩;rw[de];unfold dD;simp only[av,bd,Zf 1 0 none _ (.inr rfl),aq];refine Ok.call (ZjH (n+1) pY 2 1 1 p1 p2 none 1 0 s1 (.inl rfl) (.inl rfl) (.inl rfl) hF Zvj) ?_;rintro _ ⟨s2,aV,hq⟩;rcases hq with⟨B',s',ib,q,_,hb,rfl,rq⟩|⟨cA,_⟩
 rotate_left
 .rw[cA ZxI]at hB;cases hB
 rw[hB]at hb;cases hb;refine⟨_,s2,rfl,?_⟩;simp only[bd];rw[de (dO s q) _];unfold dO;simp only[av,bd,au,aq];have AT:([.int .i64 s.seq,.int .i64 s.blocks,.int .i64 s.cJ,.int .i64 s.g,.int .i64 s.bY,.int .i64 s.used,.int .i64 s.free,.int .i64 s.dir,.slice 1 q s.aL.length]:ah)=dO s q:=rfl;simp only[AT];have LU:dE s2 (some (ib,0)) B:=⟨false,bZ B,rq.eF,by omega,by rw[dA,sc]⟩;have AR:=rq.own.sl;refine Ok.call (OY (n+1) (some (ib,0)) B s q s2 LU AR (by omega) (by omega)) ?_;intro o ho;rw[hW]at ho;obtain⟨s3,z2,q2,z3,q3,z4,q4,i,j,rfl,ck,gy,kD,CN,hR,db,_,_⟩:=ho;refine⟨_,s3,rfl,?_⟩;rw[cc]at hR⊢;rw[de];unfold dD;simp only[av,Zf 2 z2 q2 _ gy,Zf 1 z3 q3 _ kD,Zf 1 z4 q4 _ CN,fV,aq];rw[Za,ae,show((0:Int)==0)=true from rfl];simp only[au,aq];rw[Za,ae,show(!(some (i,0):ai).isNone)=true from rfl];simp only[au,aq];rw[Za,ae];refine Ok.call (Zqr (n+1) s3 db (by omega)) ?_;rintro _ rfl;refine⟨_,s3,rfl,?_⟩;simp only[av,au,aq];rw[Xv,show((8:Int)==8)=true from rfl,Za,ae];refine Ok.Af (ZjA n s3) ?_;rintro _ ⟨p1',p2',s4,rfl,fG,hF'⟩;refine⟨_,s4,rfl,?_⟩;rw[de];unfold dD;simp only[av,bd,Zf 1 0 none _ (.inr rfl),aq];refine Ok.call (ZrF (n+1) pY pY 2 1 1 q2 q3 q4 2 1 1 p1' p2' none s4 (.inl rfl) (.inl rfl) (.inl rfl) (.inl rfl) (.inl rfl) (.inl rfl) (hR.pre fG) hF'.str Zvj (by omega)) ?_;rintro _ ⟨b,rfl,hb⟩;refine⟨_,s4,rfl,?_⟩;have:b=true:=hb.2 rfl;subst this;simp only[au,aq];rw[Za,ae];have U9:=((aH.trans aV).trans ck).trans fG;refine Ok.call (ZiE (n+1) (some (ib,0)) B s q (some (s.blocks.toNat,v.W)) (some (i,0)) s4 (ht.mono U9) (LU.mono (ck.trans fG)) (AR.mono (ck.trans fG)) ⟨false,i,j,rfl,db.pre fG⟩ (by omega) (by omega)) ?_;rintro _ ⟨s5,rfl,jd⟩;refine⟨_,s5,rfl,?_⟩;have ub:BL B s (some (s.blocks.toNat,v.W))=true:=by
  unfold BL;rw[hW];grind
 rw[ub];simp only[au,aq,Zd];exact .mk ⟨s5,rfl,U9.trans jd⟩
end Go.Gv.F
