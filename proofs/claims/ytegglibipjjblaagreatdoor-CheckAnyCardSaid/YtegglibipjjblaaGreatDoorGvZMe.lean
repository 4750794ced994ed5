/- The document's maker of images: its blocks, one behind the other. -/
import Derived.Test.YtegglibipjjblaaGreatDoorGvZMd
set_option linter.all false
namespace Go.Gv.F
open Go.Gv
variable {β:Type}
structure dD where
 B:aj
 next:Nat
 At:ak
structure hU (s:St) (i ib ia:Nat) (m:dD):Prop where
 cell:s[i]? =some (some ⟨false,[.slice 1 (some (ib,0)) m.B.length,.int .i64 m.next,.slice 1 (some (ia,0)) m.At.length]⟩)
 bb:s[ib]? =some (some ⟨false,bU m.B⟩)
 aa:s[ia]? =some (some ⟨false,ints m.At⟩)
 d1:i≠ib
 d2:i≠ia
 d3:ib≠ia
variable {f g:Bool} {i i2 ia ib j j2 k m2 n:Nat} {Q:Out ah×St->Prop} {s s':St} {p p1 p2 p3:ai} {T V W:al} {m:dD}
def hU.fx (h:hU s i ib ia m) (k:Fx T s s') (hT: ∀x∈T,x≠i/\x≠ib/\x≠ia):hU s' i ib ia m:=
 ⟨k.2 _ _ (λe=>(hT _ e).1 rfl) h.cell,k.2 _ _ (λe=>(hT _ e).2.1 rfl) h.bb,k.2 _ _ (λe=>(hT _ e).2.2 rfl) h.aa,h.d1,h.d2,h.d3⟩
def hU.pre {s s':St} {i ib ia:Nat} {m:dD} (h:hU s i ib ia m) (k:aB s s'):hU s' i ib ia m:=h.fx (Fx.pre [] k) λ_ h=>by cases h
def hU.lt (h:hU s i ib ia m):i<s.length/\ib<s.length/\ia<s.length:=
 ⟨(ef.1 h.cell).1,(ef.1 h.bb).1,(ef.1 h.aa).1⟩
def hU.kp (h:hU s i ib ia m) (k:Fx [i,ib,ia] s s'):Kp s s':=by
 intro j all e;refine k.2 j _ (λhm=>?_) e;simp only[eF,tj,oH]at hm;grind[h.cell,h.bb,h.aa]
def CN (B:aj) (k:Nat) (s:aj):aj:=B.take k++(s.take (B.length-k)++B.drop (k+s.length))
def Vh {B:aj} (s:aj) (h:k<=B.length:=by omega):(CN B k s).length=B.length:=by
 grind[CN]
def ZuJ {B:aj} (s:aj) (h:k<=B.length:=by omega):cE (bU B) k (bU (s.take (B.length-k)))=bU (CN B k s):=by
 have e:bU B=bU (B.take k)++(bU ((B.drop k).take s.length)++bU (B.drop (k+s.length))):=by
  rw[<-IB,<-IB,<-kV,rQ,rQ]
 have hl:(bU (B.take k)).length=k:=by rw[Zu,cX];omega
 have:=tw (bU (B.take k)) (bU ((B.drop k).take s.length)) (bU (B.drop (k+s.length))) (bU (s.take (B.length-k))) (by
  rw[Zu,Zu,cX,cX,fa,Nat.min_comm])
 rw[hl,<-e]at this;rw[this];simp[CN,IB]
def mD (m:dD) (s:aj):dD:=⟨bif decide (64*m.next+64<=m.B.length)then CN m.B (64*m.next) s else m.B,m.next+1,m.At⟩
def xQ (m:dD) (s:aj):(mD m s).B.length=m.B.length:=by
 unfold mD;by_cases h:64*m.next+64<=m.B.length
 .simp only[ax h,ae];exact Vh s
 grind
variable {Bd:Zh} [h:HA Bd]
def DK (n:Nat) (s:aj) (st:St) (hm:hU st i ib ia m) (hn:m.next<1000000:=by omega) (_hB:m.B.length<1000000:=by omega):
  Ok (λo=>∃gv,o=(.val [.int .i64 m.next],gv)/\hU gv i ib ia (mD m s)/\Fx [i,ib] st gv) (run Bd (n+1) 194 [.ptr (some (i,0)),.str s] st):=by
 rw[Ze,h.aet];unfold Qh jJ Zm Q_ Li;simp only[eH,bR,aq,bd];rw[Zo hm.cell rfl];simp only[bg];rw[Zo hm.cell rfl];simp only[bg];rw[eW,qD hm.cell (by show 1<3;omega)];have hw:ar ((m.next:Int)+1)=((m.next+1:Nat):Int):=Zc;have cG:ar (64*(m.next:Int))=((64*m.next:Nat):Int):=by rw[Zc];omega
 have fR:ar (((64*m.next:Nat):Int)+64)=((64*m.next+64:Nat):Int):=Zc;simp only[hw,cG,fR];obtain⟨h1,h2,h3⟩:=hm.lt;have dh:([.slice 1 (some (ib,0)) m.B.length,.int .i64 m.next,.slice 1 (some (ia,0)) m.At.length]:ah).set 1 (.int .i64 ((m.next+1:Nat):Int))=[.slice 1 (some (ib,0)) m.B.length,.int .i64 ((m.next+1:Nat):Int),.slice 1 (some (ia,0)) m.At.length]:=rfl;rw[dh];obtain⟨s1,eX⟩: ∃s1,st.set i (some (⟨false,[.slice 1 (some (ib,0)) m.B.length,.int .i64 ((m.next+1:Nat):Int),.slice 1 (some (ia,0)) m.At.length]⟩:bO))=s1:=⟨_,rfl⟩;have mn:hU s1 i ib ia ⟨m.B,m.next+1,m.At⟩:=by
  rw[<-eX];have d1:=hm.d1;have d2:=hm.d2;exact⟨kX h1,by rw[jv d1];exact hm.bb,by rw[jv d2];exact hm.aa,d1,d2,hm.d3⟩
 have Cl:Fx [i,ib] st s1:=by rw[<-eX];exact(Fx.set st i _).mono λy hy=>by rw[cB.1 hy];simp
 rw[eX,Zo mn.cell rfl];simp only[j9];rw[Za];by_cases hb:64*m.next+64<=m.B.length
 .rw[ax (show((m.B.length:Nat):Int)>=((64*m.next+64:Nat):Int) by omega),ae,Zo mn.cell rfl]
  simp only[j9];rw[Zb (by rw[aY,bu,bu];omega)];simp only[bp,cR];show Ok _ (dI ib (64*m.next+0) _ _ s1);rw[gV,ll,MX mn.bb (by rw[Zu,Zu,cX];grind)];have lP:=ZuJ (B:=m.B) (k:=64*m.next) s;show Ok _ ((aL [] (ay [DV.int .i64 m.next])) (s1.set ib (some ⟨false,cE (bU m.B) (64*m.next) (bU (s.take (m.B.length-64*m.next)))⟩)));rw[lP];simp only[aq,Zd];have hl:=Vh (B:=m.B) (k:=64*m.next) s;refine .mk ⟨_,rfl,?_,Cl.trans ((Fx.set s1 ib _).mono λy hy=>by rw[cB.1 hy];simp)⟩;unfold mD;rw[ax hb,ae];have d1:=hm.d1;have d3:=hm.d3;refine⟨?_,?_,?_,d1,hm.d2,d3⟩
  .rw[jv (Ne.symm d1),hl];exact mn.cell
  .grind
  .rw[jv d3];exact mn.aa
 .rw[aF (show ¬((m.B.length:Nat):Int)>=((64*m.next+64:Nat):Int) by omega),af]
  simp only[aq,Zd];refine .mk ⟨s1,rfl,?_,Cl⟩;grind[mD]
def yf (es:List bh) (r:ak×dD):Nat×dD:=match es with
 |[]=>(0,r.2)
 |e::_=>(r.2.next, { mD r.2 (xe ⟨e,r.1⟩)with At:=r.2.At.set e.slot.toNat (r.2.next:Int) })
def gF:Nat->List bh->dD->ak×dD
 |0,_,m=>([],m)
 |j+1,es,m=>(λr:ak×dD=>(λf:Nat×dD=>(r.1++[(f.1:Int)],f.2)) (yf ((es.drop (2^j)).take (2^j)) (gF j ((es.drop (2^j)).take (2^j)) r.2))) (gF j es m)
def pG (j:Nat) (es:List bh) (m:dD):Nat×dD:=yf es (gF j es m)
def ZqY (es:List bh) (r:ak×dD):(yf es r).2.B.length=r.2.B.length/\(yf es r).2.At.length=r.2.At.length/\(yf es r).2.next<=r.2.next+1/\r.2.next<=(yf es r).2.next:=by
 unfold yf;cases es with
 |nil=>simp
 |cons e r'=>exact⟨xQ _ _,by simp,aQ _,Nat.le_succ _⟩
def H8: ∀(j:Nat) (es:List bh) (m:dD),(gF j es m).2.B.length=m.B.length/\(gF j es m).2.At.length=m.At.length/\(gF j es m).2.next+1<=m.next+2^j/\m.next<=(gF j es m).2.next/\(gF j es m).1.length=j
 |0,_,m=>⟨rfl,rfl,by simp[gF],aQ _,rfl⟩
 |j+1,es,m=>by
  obtain⟨a1,a2,a3,a4,a5⟩:=H8 j es m;obtain⟨b1,b2,b3,b4,_⟩:=H8 j ((es.drop (2^j)).take (2^j)) (gF j es m).2;obtain⟨c1,c2,c3,c4⟩:=ZqY ((es.drop (2^j)).take (2^j)) (gF j ((es.drop (2^j)).take (2^j)) (gF j es m).2);have e:2^(j+1)=2*2^j:=by rw[uw];omega
  refine⟨c1.trans (b1.trans a1),c2.trans (b2.trans a2),?_,?_,?_⟩
  .show(yf _ _).2.next+1<=_
   omega
  .show m.next<=(yf _ _).2.next
   omega
  .show((gF j es m).1++[_]).length=j+1
   rw[bB,a5];rfl
def ZoH (j:Nat) (es:List bh) (m:dD):(pG j es m).2.B.length=m.B.length/\(pG j es m).2.At.length=m.At.length/\(pG j es m).2.next<=m.next+2^j/\m.next<=(pG j es m).2.next:=by
 obtain⟨a1,a2,a3,a4,_⟩:=H8 j es m;obtain⟨c1,c2,c3,c4⟩:=ZqY es (gF j es m);grind[pG]
def ZnJ (l:List bh): ∀(k:Nat),(bY l).drop (k*4)=bY (l.drop k):=by
 induction l with
 |nil=>intro k;simp[bY]
 |cons e l ih=>
  intro k;cases k with
  |zero=>rfl
  |succ k=>
   have e2:bY (e::l)=fk e++bY l:=rfl;rw[e2,show(k+1)*4=(fk e).length+k*4 by show _=4+_;omega,<-kV,C4,ih k];rfl
def Zno (l:List bh) (k:Nat):(bY l).take (k*4)=bY (l.take k):=by
 induction l generalizing k with
 |nil=>simp[bY]
 |cons e l ih=>
  cases k with
  |zero=>rfl
  |succ k=>
   have e2:bY (e::l)=fk e++bY l:=rfl;rw[e2,show(k+1)*4=(fk e).length+k*4 by show _=4+_;omega,List.take_length_add_append,ih k];rfl
def Fz.ad1 {es:List bh} (h:Fz s p (bY es)) (k n:Nat) (hk:k+n<=es.length) (hn:0<n):Fz s (cU true p (k*4)) (bY ((es.drop k).take n)):=by
 obtain⟨i,o,rfl⟩:=h.1.cH (by rw[Zt];omega);refine⟨?_,λb o' e=>?_⟩
 .have h1:=h.1.cU (k:=k*4) (by rw[Zt];omega)
  rw[ZnJ]at h1;have h2:=h1.lA (n*4);rw[Zno]at h2;exact h2
 .have e':some (i,k*4+o)=some (b,o'):=e
  cases e';exact h.2 i o rfl
def ZrK {Bd:Zh} (h:HA Bd): ∀(j n:Nat) {i ib ia:Nat} {m:dD} (es:List bh) (p:ai) (st:St),hU st i ib ia m->Fz st p (bY es)->es.length=2^j->(∀e∈es,0<=e.slot/\e.slot<(m.At.length:Int))->j<20->m.next+2^j<=900000->m.B.length<1000000->m.At.length<100000->3000+j<=n->
  Ok (λo=>∃gv,o=(.val [.int .i64 (pG j es m).1],gv)/\hU gv i ib ia (pG j es m).2/\Fx [i,ib,ia] st gv) (run Bd n 217 [.ptr (some (i,0)),.slice 4 p es.length] st):=by
 intro j;induction j using Nat.strongRecOn with
 |_ j ih=>
 intro n i ib ia m es p st hm hs hl dA hj GR hB Gn hn;obtain⟨n,rfl⟩: ∃k,n=k+1:=⟨n-1,by omega⟩;rw[Ze,h.aeM];unfold Qu sd Fw jf cw Zm N_ FE lW xG vU Li Fo FD;have wR:0<es.length:=by rw[hl];exact Nat.two_pow_pos j
 obtain⟨bi,bo,rfl⟩:=hs.1.cH (by rw[Zt];omega);obtain⟨e0,er,Aw⟩: ∃e0 er,es=e0::er:=by
  cases es with
  |nil=>cases wR
  |cons a b=>exact⟨a,b,rfl⟩
 have he0:es[0]? =some e0:=by rw[Aw];rfl
 simp only[eH,aX,aq];rw[bd,Zb (show aR 0 es.length=true from Zj (i:=0) wR)];have p9: ∀(s:St),Fz s (some (bi,bo)) (bY es)->∀K:ah->M ah,bS bi (0+bo) 4 K s=K (fk e0) s:=λs hs K=>by
  have:=II hs.1 he0 K;rwa [ux]at this
 rw[p9 st hs];unfold fk;simp only[av,aq];refine Ok.join λaz AD=>?_
 obtain⟨T,hT⟩: ∃T,pG j es m=T:=⟨_,rfl⟩;rw[hT];obtain⟨l1,l2,l3⟩:=hm.lt;refine Zi _ (λq y t=>∃(a z:Nat) (k:ai),y=[.agg [.int .i64 e0.slot,.int .i64 e0.gen,.int .i64 e0.key,.int .i64 e0.value,.slice z k (gF a es m).1.length],.int .i64 ((2^a:Nat):Int)]/\(z=1\/k=none)/\a<=j/\j-a<=q/\hU t i ib ia (gF a es m).2/\Fx [i,ib,ia] st t/\bm [] t k (ints (gF a es m).1)/\∀b∈aO k,st.length<=b) ?_ j n _ _ ⟨0,0,none,rfl,.inr rfl,cz _,by omega,hm,.refl _ _,bm.nil ⟨st,rfl⟩,λ_ h=>by cases h⟩ (by omega);rintro q _ t ⟨a,z,k,rfl,hz,ha,hq,jV,cL,fP,Au⟩ rec aN;rw[cT];simp only[av,Zg 1 z k _ hz,aq];have cg:=hs.kp (hm.kp cL);obtain⟨g1,g2,g3,g4,g5⟩:=H8 a es m;by_cases aw:a<j
 .have h2b:2^(a+1)<=2^j:=nT (by decide) aw
  have aU:0<2^a:=Nat.two_pow_pos a;have hw:ar (2*((2^a:Nat):Int))=((2^(a+1):Nat):Int):=by rw[Zc];omega
  rw[ax (show((2^a:Nat):Int)<(es.length:Int) by omega),ae];simp only[hw,bp];rw[Zb (by rw[aY,bu,bu];omega),Zb (by rw[aY,bu,bu];omega)];have wU:=cg.ad1 (2^a) (2^a) (by omega) aU;have abZ:((es.drop (2^a)).take (2^a)).length=2^a:=by rw[cX,fa];omega
  have Ef:2^(a+1)-2^a=((es.drop (2^a)).take (2^a)).length:=by rw[abZ];omega
  rw[Ef];refine Ok.NH (ih a aw n ((es.drop (2^a)).take (2^a)) _ t jV wU abZ (λe he=>by rw[g2];exact dA e (List.mem_of_mem_drop (List.mem_of_mem_take he))) (by omega) (by omega) (by rw[g1];exact hB) (by rw[g2];exact Gn) (by omega)) ?_;rintro _ ⟨t1,rfl,mn,ml⟩;refine⟨_,t1,rfl,?_⟩;simp only[av,aq];have yz: ∀b∈aO k,b∉[i,ib,ia]:=λb hb lx=>by
   have:=Au b hb;simp only[eF,tj,oH]at lx;omega
  have Oz:=fP.fx ml yz;obtain⟨b,t2,r1,r2,r3,r4⟩:=zP (β:=ah) (lim:=8796093022208) Oz (sz:=1) (n:=(gF a es m).1.length) [.int .i64 ((pG a ((es.drop (2^a)).take (2^a)) (gF a es m).2).1:Int)] (by omega) (by simp[ints]) rfl;refine Eq.mpr (congrArg (Ok _) (r4 _)) ?_;have fu:=mn.fx r3 λy hy=>by
   have:=Au y hy;omega
  have fX:Fx [i,ib,ia] st t2:=(cL.trans ml).step r3 λy hy=> .inr (Au y hy)
  refine aN (j-(a+1)) _ _ (by omega) ⟨a+1,1,some (b,0),?_,.inl rfl,by omega,aQ _,fu,fX,?_,λy hy=>?_⟩
  .obtain⟨_,_,_,_,g6⟩:=H8 (a+1) es m
   rw[g5,g6]
  .show bm [] t2 (some (b,0)) (ints ((gF a es m).1++[_]))
   unfold ints;rw[fA];exact r2
  .rw[cB.1 hy]
   have:=(cL.trans ml).1;omega
 .have haj:a=j:=by omega
  subst haj;rw[aF (show ¬((2^a:Nat):Int)<(es.length:Int) by omega),af,AD];show Ok _ (ba [.agg [.int .i64 e0.slot,.int .i64 e0.gen,.int .i64 e0.key,.int .i64 e0.value,.slice 1 k (gF a es m).1.length]] _ t);rw[cT];simp only[av,aX,aq];refine Ok.cv (Zml n ⟨e0,(gF a es m).1⟩ 1 k t (.inl rfl) fP.sl (by grind)) λt1 aH=>?_
  simp only[bR,aq];obtain⟨n,rfl⟩: ∃k,n=k+1:=⟨n-1,by omega⟩;refine Ok.call (DK n (xe ⟨e0,(gF a es m).1⟩) t1 (jV.pre aH) (by omega) (by rw[g1];exact hB)) ?_;rintro _ ⟨t2,rfl,fu,fX⟩;refine⟨_,t2,rfl,?_⟩;simp only[av,aq,bd];have fD:Fx [i,ib,ia] st t2:=(cL.trans (Fx.pre _ aH)).trans (fX.mono λy hy=>by simp only[eF,tj,oH]at hy⊢;omega);have Kl:=hs.kp (hm.kp fD);rw[Zo fu.cell rfl];simp only[j9];rw[Zb (show aR 0 es.length=true from Zj (i:=0) wR)];have Xn:(bY es)[0]? =some (.int .i64 e0.slot):=by rw[Aw];rfl
  rw[Kl.1.get Xn];simp only[bg];have Kh:=dA e0 (by rw[Aw];simp);obtain⟨ks,yy⟩: ∃ks:Nat,e0.slot=ks:=⟨e0.slot.toNat,by omega⟩;have yj:(mD (gF a es m).2 (xe ⟨e0,(gF a es m).1⟩)).At=(gF a es m).2.At:=rfl;rw[bd,yy,Zb (show aR ((ks:Nat):Int) _=true from Zj (by rw[yj,g2];omega)),bp,cR,gV,qD fu.aa (by simp only[ints,nQ];rw[yj,g2];omega),Zd];have hTe:T=(((gF a es m).2.next, { mD (gF a es m).2 (xe ⟨e0,(gF a es m).1⟩)with At:=(gF a es m).2.At.set ks ((gF a es m).2.next:Int) }):Nat×dD):=by
   rw[<-hT];unfold pG yf;rw[Aw];simp only;rw[yy,bp]
  rw[hTe];have dh:(ints (mD (gF a es m).2 (xe ⟨e0,(gF a es m).1⟩)).At).set ks (.int .i64 ((gF a es m).2.next:Int))=ints ((gF a es m).2.At.set ks ((gF a es m).2.next:Int)):=by
   rw[yj];unfold ints;rw[List.map_set]
  rw[dh];obtain⟨m1,m2,m3⟩:=fu.lt;have d2:=fu.d2;have d3:=fu.d3;refine .mk ⟨_,rfl,⟨?_,?_,?_,fu.d1,d2,d3⟩,fD.trans ((Fx.set t2 ia _).mono λy hy=>by rw[cB.1 hy];simp)⟩
  .rw[jv (Ne.symm d2),nR]
   exact fu.cell
  .rw[jv (Ne.symm d3)]
   exact fu.bb
  .exact kX m3
def xu (s:St):ah->List dO->Prop
 |ds,[]=>ds=[]
 |ds,x::r=>∃z p t,(z=4\/p=none)/\ds=mj x z p++t/\Fz s p (bY x.cj)/\xu s t r
def xu.kp {s s':St} (k:Kp s s'): ∀ {ds:ah} {xs:List dO},xu s ds xs->xu s' ds xs
 |_,[],h=>h
 |_,_::_,⟨z,p,t,hz,h1,h2,h3⟩=>⟨z,p,t,hz,h1,h2.kp k,h3.kp k⟩
def xu.aM {s:St} : ∀ {ds:ah} {xs:List dO},xu s ds xs->kA s ds xs
 |_,[],h=>h
 |_,_::_,⟨z,p,t,hz,h1,h2,h3⟩=>⟨z,p,t,hz,h1,h2.1,h3.aM⟩
def xu.get {s:St} : ∀ {ds:ah} {xs:List dO},xu s ds xs->∀ {j:Nat} {x:dO},xs[j]? =some x->∃z p,(z=4\/p=none)/\ds[j*2]? =some (.str x.name)/\ds[j*2+1]? =some (.slice z p x.cj.length)/\Fz s p (bY x.cj)
 |_,[],_,j,x,e=>by simp at e
 |ds,y::r,⟨zq,q,t,Ky,h1,h2,h3⟩,0,x,e=>by
  simp only[kW,fT]at e;subst e;subst h1;exact⟨zq,q,Ky,rfl,rfl,h2⟩
 |ds,y::r,⟨zq,q,t,Ky,h1,h2,h3⟩,j+1,x,e=>by
  obtain⟨z,p,hz,g2,g3,g4⟩:=h3.get (j:=j) (x:=x) (by simpa using e);refine⟨z,p,hz,?_,?_,g4⟩
  .rw[h1,lE (by rw[xF];omega),xF,show(j+1)*2-2=j*2 by omega]
   exact g2
  .rw[h1,lE (by rw[xF];omega),xF,show(j+1)*2+1-2=j*2+1 by omega]
   exact g3
structure Di (s:St) (x:fJ) (p1 p2 p3:Option (Nat×Nat)):Prop where
 hp: ∃ds,Fz s p1 ds/\xu s ds x.aM
 gn:Fz s p2 (ints x.aK)
 fr:Fz s p3 (ints x.free)
def Di.kp {s s':St} {x:fJ} {p1 p2 p3:ai} (h:Di s x p1 p2 p3) (k:Kp s s'):Di s' x p1 p2 p3:=
 let ⟨ds,h1,h2⟩:=h.hp
 ⟨⟨ds,h1.kp k,h2.kp k⟩,h.gn.kp k,h.fr.kp k⟩
def Di.str {x:fJ} (h:Di s x p1 p2 p3):lf s x p1 p2 p3:=
 let ⟨ds,h1,h2⟩:=h.hp
 ⟨⟨ds,h1.1,h2.aM⟩,h.gn.1,h.fr.1⟩
def wh (cJ:Nat):Nat->Nat->ak->List bh->dD->ak×dD
 |0,_,hs,_,m=>(hs,m)
 |c+1,k,hs,rest,m=>bif eE cJ k then(λt:Nat×dD=>wh cJ c (k+1) (hs.set k (t.1:Int)) (rest.drop (2^k)) t.2) (pG k (rest.take (2^k)) m)else wh cJ c (k+1) hs rest m
def roots (es:List bh) (m:dD):ak×dD:=wh es.length 12 0 (List.replicate 12 0) es m
def uR:List dO->ak->dD->ak×dD
 |[],jP,m=>(jP,m)
 |x::r,jP,m=>(λt:ak×dD=>uR r (jP++[(t.2.next:Int)]) (mD t.2 (yV ⟨x.name,x.cj.length,t.1⟩))) (roots x.cj m)
def wA (l:List dO) (m:dD):Nat×dD:=(λt:ak×dD=>match zY t.1 with
 |none=>(0,t.2)
 |some s=>(t.2.next,mD t.2 s)) (uR l [] m)
def mod_pow_succ (a k:Nat):a%2^(k+1)=a%2^k+(if a/2^k%2=1 then 2^k else 0):=by
 rw[uw,Nat.mod_mul];grind
def ZxK {a:Nat} (h:eE a k=true):a%2^k+2^k<=a:=by
 have h1:a/2^k%2=1:=mI h;have h2:a%2^(k+1)<=a:=Nat.mod_le _ _;rw[mod_pow_succ,bE h1]at h2;exact h2
def TJ (cJ:Nat): ∀(c k:Nat) (hs:ak) (rest:List bh) (m:dD),(wh cJ c k hs rest m).2.B.length=m.B.length/\(wh cJ c k hs rest m).2.At.length=m.At.length/\(wh cJ c k hs rest m).2.next+cJ%2^k<=m.next+cJ%2^(k+c)/\m.next<=(wh cJ c k hs rest m).2.next/\(wh cJ c k hs rest m).1.length=hs.length
 |0,k,hs,rest,m=>⟨rfl,rfl,aQ _,aQ _,rfl⟩
 |c+1,k,hs,rest,m=>by
  unfold wh;have e:=mod_pow_succ cJ k;have e2:k+(c+1)=k+1+c:=by omega
  rw[e2];cases hb:eE cJ k with
  |true=>
   rw[ae];obtain⟨a1,a2,a3,a4⟩:=ZoH k (rest.take (2^k)) m;obtain⟨b1,b2,b3,b4,b5⟩:=TJ cJ c (k+1) (hs.set k ((pG k (rest.take (2^k)) m).1:Int)) (rest.drop (2^k)) (pG k (rest.take (2^k)) m).2;rw[bE (mI hb)]at e;grind
  |false=>
   rw[af];obtain⟨b1,b2,b3,b4,b5⟩:=TJ cJ c (k+1) hs rest m;rw[bj (Ff hb)]at e;omega
def Zoy (es:List bh) (m:dD):(roots es m).2.B.length=m.B.length/\(roots es m).2.At.length=m.At.length/\(roots es m).2.next<=m.next+es.length/\m.next<=(roots es m).2.next/\(roots es m).1.length=12:=by
 obtain⟨b1,b2,b3,b4,b5⟩:=TJ es.length 12 0 (List.replicate 12 0) es m;rw[oF]at b5;grind[roots]
def tN (l:List dO):Nat:=(l.map λx=>x.cj.length).sum
def SN: ∀(l:List dO) (jP:ak) (m:dD),(uR l jP m).2.B.length=m.B.length/\(uR l jP m).2.At.length=m.At.length/\(uR l jP m).2.next<=m.next+tN l+l.length/\m.next<=(uR l jP m).2.next/\(uR l jP m).1.length=jP.length+l.length
 |[],jP,m=>⟨rfl,rfl,aQ _,aQ _,rfl⟩
 |x::r,jP,m=>by
  obtain⟨a1,a2,a3,a4,a5⟩:=Zoy x.cj m;obtain⟨b1,b2,b3,b4,b5⟩:=SN r (jP++[((roots x.cj m).2.next:Int)]) (mD (roots x.cj m).2 (yV ⟨x.name,x.cj.length,(roots x.cj m).1⟩));have hn:(mD (roots x.cj m).2 (yV ⟨x.name,x.cj.length,(roots x.cj m).1⟩)).next=(roots x.cj m).2.next+1:=rfl;rw[hn]at b3 b4;have e:tN (x::r)=x.cj.length+tN r:=by rfl
  unfold uR;refine⟨b1.trans ((xQ _ _).trans a1),b2.trans a2,?_,?_,?_⟩
  .rw[e,cO];simp only;omega
  .simp only;omega
  grind
def Zxk (l:List dO) (m:dD):(wA l m).2.B.length=m.B.length/\(wA l m).2.At.length=m.At.length/\(wA l m).2.next<=m.next+tN l+l.length+1/\m.next<=(wA l m).2.next:=by
 obtain⟨a1,a2,a3,a4,a5⟩:=SN l [] m;unfold wA;simp only;cases zY (uR l [] m).1 with
 |none=>grind
 |some s=>exact⟨(xQ _ _).trans a1,a2,by show _+1<=_;omega,by show _<=_+1;omega⟩
def ZyB (a k:Nat) (hk:k<64):((((a:Nat):Int).fdiv (2^(min k 64))).tmod 2==1)=eE a k:=by
 rw[nS (by omega),show((2:Int)^k)=((2^k:Nat):Int) by push_cast;rfl,tz];have e:((a/2^k:Nat):Int).tmod 2=((a/2^k%2:Nat):Int):=rfl;rw[e];grind[eE]
def ZyQ {Bd:Zh} (hT:HA Bd) {Kn:ah->M ah} (n:Nat) (nm:aj) (es:List bh) (p:ai) (z0:Nat) (wW:z0=4\/p=none) (st:St) (hm:hU st i ib ia m) (hs:Fz st p (bY es)) (dA: ∀e∈es,0<=e.slot/\e.slot<(m.At.length:Int)) (GR:m.next+es.length<=800000) (hB:m.B.length<1000000) (Gn:m.At.length<100000) (hle:es.length<100000) (hn:3020<=n)
  (aP: ∀t,hU t i ib ia (roots es m).2->Fx [i,ib,ia] st t->Ok Q (Kn [.agg (.str nm:: .int .i64 (es.length:Int)::ints (roots es m).1)] t)):
  Ok Q (cS (λdw st=>
    ba st λcC st=>
    eQ cC λq2 r3=>
    aD .i64 r3 λq3 r4=>
    bA r4 12<|
    bW 4 st λrest AU st=>
    aD .i64 st λk st=>
    aL st<|
    bif decide (k<12)then
     aC (decide (0<=k))<|
     cK (λst=>
      ba st λfC st=>
      eQ fC λq4 r5=>
      aD .i64 r5 λq5 r6=>
      bA r6 12<|
      bW 4 st λYV YW st=>
      aL st<|
      dw [.agg ((.str q4)::(.int .i64 q5)::r6),.slice 4 YV YW,.int .i64 (ar (k+1))]) λbz=>
     bif ((q3.fdiv (2^(min k.toNat 64))).tmod 2)==1 then
      aC (decide (0<=k))<|
      aC (decide (0<=ar (1*2^(min k.toNat 64)))&&decide (ar (1*2^(min k.toNat 64))<=(AU:Int)))<|
      cQ (run Bd n 217 [.ptr (some (i,0)),.slice 4 rest ((ar (1*2^(min k.toNat 64))).toNat)]) λds=>
      aD .i64 ds λx8 ds=>
      aL ds<|
      aC (aR k 12)<|
      aC (Nat.ble (k.toNat*1+2+1) 14)<|
      aC (decide (0<=k))<|
      aC (decide (0<=ar (1*2^(min k.toNat 64)))&&decide (ar (1*2^(min k.toNat 64))<=(AU:Int)))<|
      bz [.agg ((.str q2)::(.int .i64 q3)::(cE r4 (k.toNat*1) [.int .i64 x8])),.slice 4 (cU true rest (((ar (1*2^(min k.toNat 64))).toNat)*4)) (AU-((ar (1*2^(min k.toNat 64))).toNat))]
     else
      bz [.agg ((.str q2)::(.int .i64 q3)::r4),.slice 4 rest AU]
    else
     Kn [.agg ((.str q2)::(.int .i64 q3)::r4)]) n [.agg (.str nm:: .int .i64 (es.length:Int)::ints (List.replicate 12 0)),.slice z0 p es.length,.int .i64 0] st):=by
 obtain⟨G,hG⟩: ∃G,roots es m=G:=⟨_,rfl⟩;rw[hG]at aP;unfold roots at hG;refine Zi _ (λq y t=>∃(k z:Nat) (p':ai) (iQ:ak) (m':dD),y=[.agg (.str nm:: .int .i64 (es.length:Int)::ints iQ),.slice z p' (es.length-es.length%2^k),.int .i64 (k:Int)]/\(z=4\/p'=none)/\k<=12/\12-k<=q/\iQ.length=12/\hU t i ib ia m'/\Fx [i,ib,ia] st t/\Fz t p' (bY (es.drop (es.length%2^k)))/\m'.next<=m.next+es.length%2^k/\m'.B.length=m.B.length/\m'.At.length=m.At.length/\wh es.length (12-k) k iQ (es.drop (es.length%2^k)) m'=G) ?_ 12 n _ _ ⟨0,z0,p,List.replicate 12 0,m,by rw[Nat.pow_zero,Nat.mod_one,Fb];rfl,wW,cz _,by omega,oF,hm,.refl _ _,by rw[Nat.pow_zero,Nat.mod_one,dK];exact hs,by omega,rfl,rfl,by rw[Nat.pow_zero,Nat.mod_one,dK];exact hG⟩ (by omega);rintro q _ t ⟨k,z,p',iQ,m',rfl,Yq,hk,hq,Ed,jV,cL,cF,GS,Cc,Cb,ec⟩ rec aN;have ig:(ints iQ).length=12:=by simp[ints,Ed]
 rw[cT];simp only[bR,av];rw[bI ig];simp only[Zg 4 z p' _ Yq,av,aq];by_cases aw:k<12
 .have hw:ar ((k:Int)+1)=((k+1:Nat):Int):=Zc
  have h2k:2^k<=2^11:=nT (by decide) (by omega);have Ki:ar (1*2^(min k 64))=((2^k:Nat):Int):=by
   rw[nS (by omega),Int.one_mul,show((2:Int)^k)=((2^k:Nat):Int) by push_cast;rfl];exact Zc
  rw[ax (show(k:Int)<12 by omega),ae,Zb (ax (by omega))];simp only[bp,Ki,hw];rw[Za,ZyB _ _ (by omega)];have Wt:12-k=(12-(k+1))+1:=by omega
  rw[Wt]at ec;unfold wh at ec;have emod:=mod_pow_succ es.length k;cases hb:eE es.length k with
  |true=>
   rw[hb,ae]at ec;have pj:=ZxK hb;rw[bE (mI hb)]at emod;rw[ae,Zb (ax (by omega)),Zb (by rw[aY,bu,bu];omega)];obtain⟨A,hA⟩: ∃A,es.drop (es.length%2^k)=A:=⟨_,rfl⟩;have yj:A.length=es.length-es.length%2^k:=by rw[<-hA,fa]
   rw[hA]at cF ec;have hAk:(A.take (2^k)).length=2^k:=by rw[cX];omega
   have wU:Fz t p' (bY (A.take (2^k))):=⟨by
    have:=cF.1.lA (2^k*4);rwa [Zno]at this,cF.2⟩
   have tS:(DV.slice 4 p' (2^k))= .slice 4 p' (A.take (2^k)).length:=by rw[hAk]
   rw[tS];refine Ok.call (ZrK hT k n (A.take (2^k)) p' t jV wU hAk (λe he=>by rw[Cb];grind) (by omega) (by omega) (by rw[Cc];exact hB) (by rw[Cb];exact Gn) (by omega)) ?_;rintro _ ⟨t1,rfl,mn,ml⟩;refine⟨_,t1,rfl,?_⟩;simp only[av,aq];rw[Zb (show aR (k:Int) 12=true from Zj aw),Z5 (by omega),Zb (ax (by omega)),Zb (by rw[aY,bu,bu];omega)];obtain⟨k1,k2,k3,k4⟩:=ZoH k (A.take (2^k)) m';have dh:cE (ints iQ) (k*1) [.int .i64 ((pG k (A.take (2^k)) m').1:Int)]=ints (iQ.set k ((pG k (A.take (2^k)) m').1:Int)):=by
    rw[cR,BL _ _ _ (by omega)];unfold ints;rw[List.map_set]
   rw[dh];have GV:(ints (iQ.set k ((pG k (A.take (2^k)) m').1:Int))).length=12:=by simp[ints,Ed]
   show Ok _ (ba [.agg (.str nm:: .int .i64 (es.length:Int)::ints (iQ.set k ((pG k (A.take (2^k)) m').1:Int))),.slice 4 (cU true p' (2^k*4)) (es.length-es.length%2^k-2^k)] _ t1);rw[cT];simp only[bR,av];rw[bI GV];simp only[aX,aq];have X9:=cF.kp (jV.kp ml);have fW:es.drop (es.length%2^(k+1))=A.drop (2^k):=by rw[<-hA,kV,emod]
   have hlen:es.length-es.length%2^(k+1)=es.length-es.length%2^k-2^k:=by omega
   refine aN (12-(k+1)) _ _ (by omega) ⟨k+1,4,cU true p' (2^k*4),_,_,by rw[hlen],.inl rfl,by omega,aQ _,by rw[nR,Ed],mn,cL.trans ml,?_,by omega,k1.trans Cc,k2.trans Cb,by rw[fW];exact ec⟩;rw[fW];refine⟨?_,?_⟩
   .have:=X9.1.cU (k:=2^k*4) (by rw[Zt];omega)
    rwa [ZnJ]at this
   .obtain⟨bi,bo,rfl⟩:=X9.1.cH (by rw[Zt];omega)
    intro b o' e;have e':some (bi,2^k*4+bo)=some (b,o'):=e;cases e';exact X9.2 bi bo rfl
  |false=>
   rw[hb,af]at ec;rw[bj (Ff hb),gV]at emod;rw[af];show Ok _ (ba [.agg (.str nm:: .int .i64 (es.length:Int)::ints iQ),.slice 4 p' (es.length-es.length%2^k)] _ t);rw[cT];simp only[bR,av];rw[bI ig];simp only[aX,aq];exact aN (12-(k+1)) _ _ (by omega) ⟨k+1,4,p',iQ,m',by rw[emod];rfl,.inl rfl,by omega,aQ _,Ed,jV,cL,by rw[emod];exact cF,by rw[emod];exact GS,Cc,Cb,by rw[emod];exact ec⟩
 .have:k=12:=by omega
  subst this;rw[aF (show ¬((12:Nat):Int)<12 by omega),af];have hG2:(iQ,m')=G:=ec;rw[<-hG2]at aP;exact aP t jV cL
def dT (cs r:ah) (K:ah->ah->M β):ba (.agg cs::r) K=K cs r:=rfl
def Zte (n:Nat) (l:List dO) (p:ai) (z:Nat) (ds:ah) (st:St) (hz:z=2\/p=none) (hm:hU st i ib ia m) (hs:Fz st p ds) (hh:xu st ds l) (dA: ∀x∈l,∀e∈x.cj,0<=e.slot/\e.slot<(m.At.length:Int)) (wQ: ∀x∈l,x.name.length+600<=n/\x.name.length<60000/\x.cj.length<100000) (GR:m.next+tN l+l.length<=700000) (hl:l.length<1000) (hB:m.B.length<1000000) (Gn:m.At.length<100000) (hn:4000<=n):
  Ok (λo=>∃gv,o=(.val [.int .i64 (wA l m).1],gv)/\hU gv i ib ia (wA l m).2/\Fx [i,ib,ia] st gv) (run Bd n 189 [.ptr (some (i,0)),.slice z p l.length] st):=by
 obtain⟨n,rfl⟩: ∃k,n=k+2:=⟨n-2,by omega⟩;rw[Ze,h.aeo];unfold Qe fB uB cw kb xy N_ jf cP aZ Li vU dY Fl iw;simp only[eH,Zg 2 z p _ hz,aq];obtain⟨T,hT⟩: ∃T,wA l m=T:=⟨_,rfl⟩;rw[hT];unfold wA at hT;obtain⟨l1,l2,l3⟩:=hm.lt;refine Ok.join λaz AD=>?_
 refine Zi _ (λq y t=>∃(k zk:Nat) (a:ai) (jP:ak) (m':dD),y=[.slice zk a jP.length,.int .i64 (k:Int)]/\(zk=1\/a=none)/\k<=l.length/\l.length-k<=q/\hU t i ib ia m'/\Fx [i,ib,ia] st t/\bm [] t a (ints jP)/\(∀b∈aO a,st.length<=b)/\jP.length=k/\m'.B.length=m.B.length/\m'.At.length=m.At.length/\m'.next+tN (l.drop k)+(l.length-k)<=m.next+tN l+l.length/\uR (l.drop k) jP m'=uR l [] m) ?_ l.length (n+1) _ _ ⟨0,0,none,[],m,rfl,.inr rfl,cz _,by omega,hm,.refl _ _,bm.nil ⟨st,rfl⟩,(λ_ h=>by cases h),rfl,rfl,rfl,aQ _,rfl⟩ (by omega);rintro q _ t ⟨k,zk,a,jP,m',rfl,Yo,hk,hq,jV,cL,mq,pX,As,Cc,Cb,GS,aP⟩ rec aN;simp only[av,Zg 1 zk a _ Yo,aq];have ri:=hm.kp cL;have cg:=hs.kp ri;have hht:=hh.kp ri;by_cases aw:k<l.length
 .have oZ:=hht.aM.len
  obtain⟨bi,bo,rfl⟩:=cg.1.cH (by rw[oZ];omega);have mX:l[k]? =some l[k]:=cq aw;have fW:l.drop k=l[k]::l.drop (k+1):=iV aw;have iO:l[k]∈l:=kz aw;rw[fW]at aP GS;generalize l[k]=x at mX aP GS iO;obtain⟨zx,px,hzx,oq,p7,ml⟩:=hht.get mX;have vk:tN (x::l.drop (k+1))=x.cj.length+tN (l.drop (k+1)):=by unfold tN;rw[oG,List.sum_cons]
  rw[vk]at GS;have p9: ∀K:DV->M ah,bD bi (k*2+bo+1) K t=K (.slice zx px x.cj.length) t:=λK=>by
   have:=cg.1.get p7 K;rw[<-this];congr 1;omega
  rw[ax (show(k:Int)<(l.length:Int) by omega),ae,Za,bd,Zb (Zj aw)];simp only[bp];rw[cg.1.get oq];simp only[zB];rw[bd,Zb (Zj aw),p9];rw[Z2 4 zx px _ hzx,bd,Zb (Zj aw),p9,Z2 4 zx px _ hzx];refine Ok.join λaW Cs=>?_
  obtain⟨n1,n2,n3⟩:=wQ x iO;refine ZyQ h (n+1) x.name x.cj px 4 (.inl rfl) t jV ml (by grind) (by omega) (by omega) (by omega) n3 (by omega) (Kn:=aW) ?_;intro t1 mn fX;rw[Cs];obtain⟨k1,k2,k3,k4,k5⟩:=Zoy x.cj m';have ig:(ints (roots x.cj m').1).length=12:=by simp[ints,k5]
  show Ok _ (ba [.agg (.str x.name:: .int .i64 (x.cj.length:Int)::ints (roots x.cj m').1)] _ t1);rw[cT];simp only[bR,av];rw[bI ig];simp only[aq];refine Ok.cv (ZmJ (n+1) ⟨x.name,x.cj.length,(roots x.cj m').1⟩ k5 n2 t1 (by grind)) λt2 aU=>?_
  simp only[bR,aq];refine Ok.call (DK n (yV ⟨x.name,x.cj.length,(roots x.cj m').1⟩) t2 (mn.pre aU)) ?_;rintro _ ⟨t3,rfl,sI,fD⟩;refine⟨_,t3,rfl,?_⟩;simp only[av,aq];have hw:ar ((k:Int)+1)=((k+1:Nat):Int):=Zc;simp only[hw];have sH:Fx [i,ib,ia] t t3:=(fX.trans (Fx.pre _ aU)).trans (fD.mono λy hy=>by simp only[eF,tj,oH]at hy⊢;omega);have yz: ∀b∈aO a,b∉[i,ib,ia]:=λb hb lx=>by
   have:=pX b hb;simp only[eF,tj,oH]at lx;omega
  have Ek:=mq.fx sH yz;obtain⟨b,t4,r1,r2,r3,r4⟩:=zP (β:=ah) (lim:=8796093022208) Ek (sz:=1) (n:=jP.length) [.int .i64 ((roots x.cj m').2.next:Int)] (by omega) (by simp[ints]) rfl;refine Eq.mpr (congrArg (Ok _) (r4 _)) ?_;simp only[aX,aq];have AF:=sI.fx r3 λy hy=>by
   have:=pX y hy;omega
  refine aN (l.length-(k+1)) _ _ (by omega) ⟨k+1,1,some (b,0),jP++[((roots x.cj m').2.next:Int)],_,?_,.inl rfl,by omega,aQ _,AF,(cL.trans sH).step r3 λy hy=> .inr (pX y hy),?_,λy hy=>?_,?_,(xQ _ _).trans (k1.trans Cc),k2.trans Cb,?_,aP⟩
  .rw[bB];rfl
  .unfold ints
   rw[fA];exact r2
  .rw[cB.1 hy]
   have:=(cL.trans sH).1;omega
  .rw[bB,As];rfl
  .show(roots x.cj m').2.next+1+_+_<=_
   omega
 .rw[aF (show ¬(k:Int)<(l.length:Int) by omega),af,AD]
  rw[lU (by omega)]at aP;have ec:uR l [] m=(jP,m'):=aP.symm;rw[ec]at hT;simp only at hT;obtain⟨d1,d2,d3,d4,d5⟩:=SN l [] m;rw[ec]at d3;simp only at d3;simp only[aX,aq];refine Ok.cv (ZmZ (n+1) jP 1 a t (.inl rfl) mq.sl) λt1 aH=>?_
  cases Cw:zY jP with
  |none=>
   rw[Cw]at hT;unfold yY;simp only[bR,au,aq];rw[bn,ae,Zd,<-hT];exact .mk ⟨t1,rfl,jV.pre aH,cL.trans (Fx.pre _ aH)⟩
  |some s=>
   rw[Cw]at hT;unfold yY;simp only[bR,au,aq];rw[br,af];refine Ok.call (DK n s t1 (jV.pre aH)) ?_;rintro _ ⟨t2,rfl,fu,fX⟩;refine⟨_,t2,rfl,?_⟩;simp only[av,aq,Zd];rw[<-hT];exact .mk ⟨t2,rfl,fu,(cL.trans (Fx.pre _ aH)).trans (fX.mono λy hy=>by grind)⟩
def ZqN: ∀(l:List bw) (i:Nat) (x:bw),i<l.length->cE (bT l) (i*3) (eL x)=bT (l.set i x)
 |[],i,x,h=>by cases h
 |y::l,0,x,h=>by
  rw[ux];exact tw [] (eL y) (bT l) (eL x) rfl
 |y::l,i+1,x,h=>by
  have e:=ZqN l i x (by simpa using h);rw[vS];show(.bool y.live:: .int .i64 y.gen:: .int .i64 y.block::cE (bT l) (i*3) (eL x):ah)=_;rw[e];rfl
def ZoC: ∀(l:List bw) (i:Nat) (x:bw) (b:Bool),l[i]? =some x->cE (bT l) (i*3) [.bool b]=bT (l.set i { x with live:=b })
 |[],i,x,b,h=>by simp at h
 |y::l,0,x,b,h=>by
  simp only[kW,fT]at h;subst h;rw[ux];rfl
 |y::l,i+1,x,b,h=>by
  have e:=ZoC l i x b (by simpa using h);rw[vS];show(.bool y.live:: .int .i64 y.gen:: .int .i64 y.block::cE (bT l) (i*3) [.bool b]:ah)=_;rw[e];rfl
def TG: ∀(l:List bw) (i:Nat) (x:bw) (b:Int),l[i]? =some x->cE (bT l) (i*3+2) [.int .i64 b]=bT (l.set i { x with block:=b })
 |[],i,x,b,h=>by simp at h
 |y::l,0,x,b,h=>by
  simp only[kW,fT]at h;subst h;rw[ux];exact tw [.bool y.live,.int .i64 y.gen] [.int .i64 y.block] (bT l) [.int .i64 b] rfl
 |y::l,i+1,x,b,h=>by
  have e:=TG l i x b (by simpa using h);rw[vS,Nat.add_right_comm];show(.bool y.live:: .int .i64 y.gen:: .int .i64 y.block::cE (bT l) (i*3+2) [.int .i64 b]:ah)=_;rw[e];rfl
def xU (k:Int):ak->Int->Int
 |a::b::r,c=>xU k (b::r) (bif a==k then ar (b+1)else c)
 |_,c=>c
def K0 (aK At free:ak) (k:Nat):bw:=⟨!(At.getD k 0==0),aK.getD k 0,xU (k:Int) free (At.getD k 0)⟩
def ZyX {Kn:ah->M ah} (n:Nat) (free:ak) (pf:ai) (K i:Nat) (l:List bw) (x:bw) (s:St) (hf:Sl s pf (ints free)) (hl:l.length=7) (hi:i<7) (hx:l[i]? =some x) (ep:free.length<100000) (hn:free.length+1<n)
  (aP:Ok Q (Kn [.agg (bT (l.set i { x with block:=xU (K:Int) free x.block }))] s)):
  Ok Q (cS (λKY st=>
       ba st λoV st=>
      bA oV 21<|
      aD .i64 st λk1 st=>
      aL st<|
      bif decide (ar (k1+1)<(free.length:Int))then
       bH pf λi7 o4=>
      aC (aR k1 free.length)<|
      bD i7 (k1.toNat*1+o4) λd4=>
      cY .i64 d4 λiH=>
      cK (λst=>
       ba st λxY st=>
      bA xY 21<|
      aL st<|
      KY [.agg xY,.int .i64 (ar (k1+1))]) λnF=>
      bif iH==((K:Nat):Int)then
       bH pf λi8 o5=>
      aC (aR (ar (k1+1)) free.length)<|
      bD i8 (((ar (k1+1)).toNat)*1+o5) λd5=>
      cY .i64 d5 λjE=>
      aC (aR ((i:Nat):Int) 7)<|
      aC (Nat.ble (i*3+2+1) 21)<|
      nF [.agg (cE oV (i*3+2) [.int .i64 (ar (jE+1))])]
      else
       nF [.agg oV]
      else
       Kn [.agg oV]) n [.agg (bT l),.int .i64 0] s):=by
 have air:l.set i { x with block:=x.block } =l:=by
  have GI:i<l.length:=by omega
  rw[cq GI]at hx;cases hx;simp
 obtain⟨G,hG⟩: ∃G,xU (K:Int) free x.block=G:=⟨_,rfl⟩;rw[hG]at aP;refine Zi _ (λq y t=>∃(k:Nat) (c:Int),y=[.agg (bT (l.set i { x with block:=c })),.int .i64 (k:Int)]/\k<=free.length/\free.length-k<=q/\t=s/\xU (K:Int) (free.drop k) c=G) ?_ free.length n _ _ ⟨0,x.block,by rw[air];rfl,cz _,by omega,rfl,hG⟩ (by omega);rintro q _ t ⟨k,c,rfl,hk,hq,rfl,ec⟩ rec aN;have cN:(bT (l.set i { x with block:=c })).length=21:=by rw[ZB,nR,hl]
 have hw:ar ((k:Int)+1)=((k+1:Nat):Int):=Zc;rw[cT,bI cN];simp only[av,aq,hw];by_cases aw:k+1<free.length
 .have kL:k<free.length:=by omega
  have tV:free.drop k=free[k]::free.drop (k+1):=iV kL;have jb:free.drop (k+1)=free[k+1]::free.drop (k+2):=iV aw;rw[tV,jb]at ec;unfold xU at ec;rw[<-jb]at ec;obtain⟨bi,bo,rfl⟩:=hf.cH (by simp[ints];omega);have oq:(ints free)[k]? =some (.int .i64 free[k]):=ZD kL;have p7:(ints free)[k+1]? =some (.int .i64 free[k+1]):=ZD aw;rw[ax (show((k+1:Nat):Int)<(free.length:Int) by omega),ae,bd,Zb (Zj kL)];simp only[bp];rw[hf.dJ oq];simp only[bg];rw[Za];cases he:(free[k]==((K:Nat):Int))with
  |false=>
   rw[he,af]at ec;rw[af];show Ok _ (ba [.agg (bT (l.set i { x with block:=c }))] _ t);rw[cT,bI cN];simp only[aq];exact aN (free.length-(k+1)) _ _ (by omega) (by grind)
  |true=>
   rw[he,ae]at ec;rw[ae,bd,Zb (Zj aw),hf.dJ p7];simp only[bg];rw[Zb (show aR ((i:Nat):Int) 7=true from Zj hi),Z5 (by omega)];have lP:cE (bT (l.set i { x with block:=c })) (i*3+2) [.int .i64 (ar (free[k+1]+1))]=bT (l.set i { x with block:=ar (free[k+1]+1) }):=by
    rw[TG _ i { x with block:=c } _ (by rw[kX (by omega)]),List.set_set]
   rw[lP];have JA:(bT (l.set i { x with block:=ar (free[k+1]+1) })).length=21:=by rw[ZB,nR,hl]
   show Ok _ (ba [.agg (bT (l.set i { x with block:=ar (free[k+1]+1) }))] _ t);rw[cT,bI JA];simp only[aq];exact aN (free.length-(k+1)) _ _ (by omega) (by grind)
 .rw[aF (show ¬((k+1:Nat):Int)<(free.length:Int) by omega),af]
  have:xU (K:Int) (free.drop k) c=c:=by
   have jy:(free.drop k).length<=1:=by rw[fa];omega
   cases hdk:free.drop k with
   |nil=>unfold xU;rfl
   |cons a r=>
    rw[hdk]at jy;have:r=[]:=zp.1 (by rw[cO]at jy;omega);subst this;unfold xU;rfl
  rw[this]at ec;rw[ec];exact aP
def oy (aK At free:ak) (f i:Nat):List bw:=(List.range 7).map λt=>bif decide (t<i)&&decide (f+t<aK.length)then K0 aK At free (f+t)else gT
def wZ (aK At free:ak) (f:Nat):List bw:=oy aK At free f 7
def Bx (aK At free:ak) (f i:Nat):(oy aK At free f i).length=7:=by unfold oy;simp
def Zrg (aK At free:ak) (f i t:Nat) (h:t<7):(oy aK At free f i)[t]? =some (bif decide (t<i)&&decide (f+t<aK.length)then K0 aK At free (f+t)else gT):=by
 grind[oy]
def ZvK (aK At free:ak) (f i:Nat) (hi:i<7) (hf:f+i<aK.length):oy aK At free f (i+1)=(oy aK At free f i).set i (K0 aK At free (f+i)):=by
 refine tg λt=>?_
 by_cases ht:t<7
 .rw[Zrg _ _ _ _ _ _ ht]
  by_cases h:t=i
  .subst h
   rw[kX (by rw[Bx];exact ht),ax (show t<t+1 by omega),ax hf];rfl
  .rw[jv (by omega),Zrg _ _ _ _ _ _ ht]
   grind
 .rw[Hx (by rw[Bx];omega),Hx (by rw[nR,Bx];omega)]
def Zvk (aK At free:ak) (f i:Nat) (h:aK.length<=f+i):oy aK At free f i=wZ aK At free f:=by
 unfold wZ oy;refine Lg λt ht=>?_
 by_cases h2:f+t<aK.length
 .rw[ax (show t<i by omega),ax (uu.1 ht)]
 grind
def ZvN (aK At free:ak) (f:Nat):oy aK At free f 0=nG:=by
 rfl
def Zyn {Kn:ah->M ah} (n:Nat) (aK free:ak) (pg pf:ai) (f:Nat) (s:St) (hm:hU s i ib ia m) (hg:Sl s pg (ints aK)) (dS:Sl s pf (ints free)) (jm:aK.length<100000) (ep:free.length<100000) (Gn:m.At.length=aK.length) (hf:f<100000) (hn:free.length+10<n) (wO:10<n)
  (aP:Ok Q (Kn [.agg (bT (wZ aK m.At free f))] s)):
  Ok Q (cS (λCQ st=>
    ba st λwz st=>
    bA wz 21<|
    aD .i64 st λi3 st=>
    aL st<|
    cK (λst=>gC st λb3 st=>aL st<|
     bif b3 then
      cK (λst=>
       ba st λJg st=>
      bA Jg 21<|
      aL st<|
      CQ [.agg Jg,.int .i64 (ar (i3+1))]) λkl=>
      bH pg λi4 o1=>
      aC (aR (ar (((f:Nat):Int)+i3)) aK.length)<|
      bD i4 (((ar (((f:Nat):Int)+i3)).toNat)*1+o1) λd1=>
      cY .i64 d1 λfN=>
      aC (aR i3 7)<|
      aC (Nat.ble (i3.toNat*3+3) 21)<|
      bH (some (i,0)) λi5 o2=>
      bD i5 (o2+2) λd2=>
      dr 1 d2 λgH zg=>
      bH gH λi6 o3=>
      aC (aR (ar (((f:Nat):Int)+i3)) zg)<|
      bD i6 (((ar (((f:Nat):Int)+i3)).toNat)*1+o3) λd3=>
      cY .i64 d3 λiG=>
      cK (λst=>
       ba st λDX st=>
      bA DX 21<|
      aL st<|
      cK (λst=>
       ba st λJf st=>
      bA Jf 21<|
      aL st<|
      kl [.agg Jf]) λqf=>
      cS (λKY st=>
       ba st λoV st=>
      bA oV 21<|
      aD .i64 st λk1 st=>
      aL st<|
      bif decide (ar (k1+1)<(free.length:Int))then
       bH pf λi7 o4=>
      aC (aR k1 free.length)<|
      bD i7 (k1.toNat*1+o4) λd4=>
      cY .i64 d4 λiH=>
      cK (λst=>
       ba st λxY st=>
      bA xY 21<|
      aL st<|
      KY [.agg xY,.int .i64 (ar (k1+1))]) λnF=>
      bif iH==(ar (((f:Nat):Int)+i3))then
       bH pf λi8 o5=>
      aC (aR (ar (k1+1)) free.length)<|
      bD i8 (((ar (k1+1)).toNat)*1+o5) λd5=>
      cY .i64 d5 λjE=>
      aC (aR i3 7)<|
      aC (Nat.ble (i3.toNat*3+2+1) 21)<|
      nF [.agg (cE oV (i3.toNat*3+2) [.int .i64 (ar (jE+1))])]
      else
       nF [.agg oV]
      else
       qf [.agg oV]) n [.agg DX,.int .i64 0]) λkQ=>
      bif !(iG==0)then
       aC (aR i3 7)<|
      aC (Nat.ble (i3.toNat*3+1) 21)<|
      bH (some (i,0)) λi9 o6=>
      bD i9 (o6+2) λd6=>
      dr 1 d6 λnO aal=>
      bH nO λi10 o7=>
      aC (aR (ar (((f:Nat):Int)+i3)) aal)<|
      bD i10 (((ar (((f:Nat):Int)+i3)).toNat)*1+o7) λd7=>
      cY .i64 d7 λrM=>
      aC (aR i3 7)<|
      aC (Nat.ble (i3.toNat*3+2+1) 21)<|
      kQ [.agg (cE (cE (cE wz (i3.toNat*3) [.bool false,.int .i64 fN,.int .i64 0]) (i3.toNat*3) [.bool true]) (i3.toNat*3+2) [.int .i64 rM])]
      else
       kQ [.agg (cE wz (i3.toNat*3) [.bool false,.int .i64 fN,.int .i64 0])]
     else
      Kn [.agg wz]) λiD=>
    bif decide (i3<7)then
     iD [.bool (decide (ar (((f:Nat):Int)+i3)<(aK.length:Int)))]
    else
     iD [.bool false]) n [.agg (bT nG),.int .i64 0] s):=by
 refine Zi _ (λq y t=>∃(a:Nat),y=[.agg (bT (oy aK m.At free f a)),.int .i64 (a:Int)]/\a<=7/\7-a<=q/\t=s) ?_ 7 n _ _ ⟨0,by rw[ZvN];rfl,cz _,by omega,rfl⟩ (by omega);rintro q _ t ⟨a,rfl,ha,hq,rfl⟩ rec aN;have cN:(bT (oy aK m.At free f a)).length=21:=by rw[ZB,Bx]
 rw[cT,bI cN];simp only[av,aq];have hw:ar (((f:Nat):Int)+(a:Int))=((f+a:Nat):Int):=Zc;have cG:ar ((a:Int)+1)=((a+1:Nat):Int):=Zc;simp only[hw,cG,bp];refine Ok.join λiD Og=>?_
 have mw:oy aK m.At free f a=wZ aK m.At free f->Ok Q (iD [.bool false] t):=λe=>by
  rw[Og];simp only[au,aq];rw[af,e];exact aP
 by_cases h7:a<7
 .rw[ax (show(a:Int)<7 by omega),ae]
  by_cases aw:f+a<aK.length
  .rw[ax (show((f+a:Nat):Int)<(aK.length:Int) by omega),Og]
   simp only[au,aq];rw[ae];refine Ok.join λkl Xy=>?_
   obtain⟨bi,bo,rfl⟩:=hg.cH (by simp[ints];omega);have wN:(ints aK)[f+a]? =some (.int .i64 aK[f+a]):=ZD aw;rw[bd,Zb (Zj aw),hg.dJ wN];simp only[bg];rw[Zb (show aR ((a:Nat):Int) 7=true from Zj h7),Z5 (by omega),bd,Zo hm.cell rfl];simp only[j9];have Om:f+a<m.At.length:=by omega
   have XD: ∀K:DV->M ah,bD ia ((f+a)*1+0) K t=K (.int .i64 m.At[f+a]) t:=λK=>Zo hm.aa (by rw[cR,gV];exact ZD Om) K
   rw[bd,Zb (Zj Om),XD];simp only[bg];obtain⟨L,hL⟩: ∃L,oy aK m.At free f a=L:=⟨_,rfl⟩;have hLl:L.length=7:=by rw[<-hL];exact Bx _ _ _ _ _
   have hsB:K0 aK m.At free (f+a)=⟨!(m.At[f+a]==0),aK[f+a],xU ((f+a:Nat):Int) free m.At[f+a]⟩:=by
    unfold K0;rw[dW,cq Om,dW,cq aw];rfl
   have rr:=ZvK aK m.At free f a h7 aw;rw[hL,hsB]at rr;rw[hL]at cN⊢;generalize m.At[f+a]=at' at XD rr;generalize aK[f+a]=g at wN rr;refine Ok.join λkQ ahm=>?_
   have hA:Ok Q (kQ [.agg (bT (L.set a ⟨!(at'==0),g,at'⟩))] t):=by
    rw[ahm];have JA:(bT (L.set a ⟨!(at'==0),g,at'⟩)).length=21:=by rw[ZB,nR,hLl]
    show Ok _ (ba [.agg (bT (L.set a ⟨!(at'==0),g,at'⟩))] _ t);rw[cT,bI JA];simp only[aq];refine Ok.join λqf ahn=>?_
    refine ZyX n free pf (f+a) a (L.set a ⟨!(at'==0),g,at'⟩) ⟨!(at'==0),g,at'⟩ t dS (by rw[nR,hLl]) h7 (by rw[kX (by omega)]) ep (by omega) (Kn:=qf) ?_;rw[List.set_set,<-rr,ahn];have abi:(bT (oy aK m.At free f (a+1))).length=21:=by rw[ZB,Bx]
    show Ok _ (ba [.agg (bT (oy aK m.At free f (a+1)))] _ t);rw[cT,bI abi];simp only[aq];rw[Xy];show Ok _ (ba [.agg (bT (oy aK m.At free f (a+1)))] _ t);rw[cT,bI abi];simp only[aq];exact aN (7-(a+1)) _ _ (by omega) (by grind)
   have eX:cE (bT L) (a*3) [.bool false,.int .i64 g,.int .i64 0]=bT (L.set a ⟨false,g,0⟩):=ZqN L a ⟨false,g,0⟩ (by omega);cases h0:(at'==0)with
   |true=>
    grind
   |false=>
    rw[h0]at hA;rw[bn,ae,Zb (show aR ((a:Nat):Int) 7=true from Zj h7),Z5 (by omega),bd,Zo hm.cell rfl];simp only[j9];rw[bd,Zb (Zj Om),XD];simp only[bg];rw[Zb (show aR ((a:Nat):Int) 7=true from Zj h7),Z5 (by omega),eX];rw[ZoC _ a ⟨false,g,0⟩ true (by rw[kX (by omega)]),List.set_set];rw[TG _ a ⟨true,g,0⟩ at' (by rw[kX (by omega)]),List.set_set];exact hA
  .rw[aF (show ¬((f+a:Nat):Int)<(aK.length:Int) by omega)]
   exact mw (Zvk _ _ _ _ _ (by omega))
 .rw[aF (show ¬(a:Int)<7 by omega),af]
  have:a=7:=by omega
  subst this;exact mw rfl
def xk (o:Option (aj)):aj:=o.getD []
def TU (o:Option (aj)):yY o=[.str (xk o),.bool o.isSome]:=by cases o<;>rfl
def qV (leaves:ak) (i k:Nat):ak:=(List.range 16).map λt=>bif decide (t<k)&&decide (16*i+t<leaves.length)then leaves.getD (16*i+t) 0 else 0
def wB (leaves:ak) (i:Nat):ak:=qV leaves i 16
def FN (leaves:ak) (i k:Nat):(qV leaves i k).length=16:=by unfold qV;simp
def Zst (leaves:ak) (i k t:Nat) (h:t<16):(qV leaves i k)[t]? =some (bif decide (t<k)&&decide (16*i+t<leaves.length)then leaves.getD (16*i+t) 0 else 0):=by
 grind[qV]
def Zxi (leaves:ak) (i k:Nat) (hk:k<16) (hf:16*i+k<leaves.length):qV leaves i (k+1)=(qV leaves i k).set k (leaves.getD (16*i+k) 0):=by
 refine tg λt=>?_
 by_cases ht:t<16
 .rw[Zst _ _ _ _ ht]
  by_cases h:t=k
  .subst h
   rw[kX (by rw[FN];exact ht),ax (show t<t+1 by omega),ax hf];rfl
  .rw[jv (by omega),Zst _ _ _ _ ht]
   grind
 .rw[Hx (by rw[FN];omega),Hx (by rw[nR,FN];omega)]
def ZwN (leaves:ak) (i k:Nat) (h:leaves.length<=16*i+k):qV leaves i k=wB leaves i:=by
 unfold wB qV;refine Lg λt ht=>?_
 by_cases h2:16*i+t<leaves.length
 .rw[ax (show t<k by omega),ax (uu.1 ht)]
 grind
def ZwJ (leaves:ak) (i:Nat):qV leaves i 0=List.replicate 16 0:=by
 rfl
def Zy2 {Kn:ah->M ah} (n:Nat) (leaves:ak) (pl:ai) (i:Nat) (s:St) (hl:Sl s pl (ints leaves)) (gp:leaves.length<100000) (hi:i<1000) (hn:20<n)
  (aP:Ok Q (Kn [.agg (ints (wB leaves i))] s)):
  Ok Q (cS (λdw st=>
       ba st λnp st=>
      bA np 16<|
      aD .i64 st λk st=>
      aL st<|
      cK (λst=>gC st λb2 st=>aL st<|
       bif b2 then
       bH pl λi1 o=>
      aC (aR (ar (((16*i:Nat):Int)+k)) leaves.length)<|
      bD i1 (((ar (((16*i:Nat):Int)+k)).toNat)*1+o) λd=>
      cY .i64 d λfj=>
      aC (aR k 16)<|
      aC (Nat.ble (k.toNat*1+1) 16)<|
      dw [.agg (cE np (k.toNat*1) [.int .i64 fj]),.int .i64 (ar (k+1))]
      else
       Kn [.agg np]) λdp=>
      bif decide (k<16)then
       dp [.bool (decide (ar (((16*i:Nat):Int)+k)<(leaves.length:Int)))]
      else
       dp [.bool false]) n [.agg (ints (List.replicate 16 0)),.int .i64 0] s):=by
 refine Zi _ (λq y t=>∃(k:Nat),y=[.agg (ints (qV leaves i k)),.int .i64 (k:Int)]/\k<=16/\16-k<=q/\t=s) ?_ 16 n _ _ ⟨0,by rw[ZwJ];rfl,cz _,by omega,rfl⟩ (by omega);rintro q _ t ⟨k,rfl,hk,hq,rfl⟩ rec aN;have cN: ∀k,(ints (qV leaves i k)).length=16:=λk=>by simp[ints,FN]
 rw[cT,bI (cN k)];simp only[av,aq];have hw:ar (((16*i:Nat):Int)+(k:Int))=((16*i+k:Nat):Int):=Zc;have cG:ar ((k:Int)+1)=((k+1:Nat):Int):=Zc;simp only[hw,cG,bp];refine Ok.join λdp hj6=>?_
 have mw:qV leaves i k=wB leaves i->Ok Q (dp [.bool false] t):=λe=>by
  rw[hj6];simp only[au,aq];rw[af,e];exact aP
 by_cases sE:k<16
 .rw[ax (show(k:Int)<16 by omega),ae]
  by_cases aw:16*i+k<leaves.length
  .rw[ax (show((16*i+k:Nat):Int)<(leaves.length:Int) by omega),hj6]
   simp only[au,aq];obtain⟨bi,bo,rfl⟩:=hl.cH (by simp[ints];omega);have hg:(ints leaves)[16*i+k]? =some (.int .i64 leaves[16*i+k]):=ZD aw;rw[ae,bd,Zb (Zj aw),hl.dJ hg];simp only[bg];rw[Zb (show aR ((k:Nat):Int) 16=true from Zj sE),Z5 (by omega)];have lP:cE (ints (qV leaves i k)) (k*1) [.int .i64 leaves[16*i+k]]=ints (qV leaves i (k+1)):=by
    rw[cR,BL _ _ _ (by rw[cN];exact sE),Zxi _ _ _ sE aw,dW,cq aw];unfold ints;rw[List.map_set];rfl
   rw[lP];exact aN (16-(k+1)) _ _ (by omega) (by grind)
  .rw[aF (show ¬((16*i+k:Nat):Int)<(leaves.length:Int) by omega)]
   exact mw (ZwN _ _ _ (by omega))
 .rw[aF (show ¬(k:Int)<16 by omega),af]
  have:k=16:=by omega
  subst this;exact mw rfl
def sh (aK free:ak):Nat->Nat->ak->dD->ak×dD
 |0,_,ls,m=>(ls,m)
 |c+1,f,ls,m=>bif decide (f<aK.length)then sh aK free c (f+7) (ls++[(m.next:Int)]) (mD m (xk (xI (wZ aK m.At free f))))else(ls,m)
def wC (leaves:ak):Nat->Nat->ak->dD->ak×dD
 |0,_,top,m=>(top,m)
 |c+1,i,top,m=>bif decide (16*i<leaves.length)then wC leaves c (i+1) (top.set i (m.next:Int)) (mD m (xk (uU (wB leaves i))))else(top,m)
def wi (aK free:ak) (m:dD):Nat×dD:=(λr:ak×dD=>bif Nat.beq r.1.length 0 then(0,r.2)else
 (λt:ak×dD=>(t.2.next,mD t.2 (xk (uU t.1)))) (wC r.1 16 0 (List.replicate 16 0) r.2)) (sh aK free aK.length 0 [] m)
def ZlZ (aK free:ak): ∀(c f:Nat) (ls:ak) (m:dD),(sh aK free c f ls m).2.B.length=m.B.length/\(sh aK free c f ls m).2.At=m.At/\(sh aK free c f ls m).2.next<=m.next+c/\m.next<=(sh aK free c f ls m).2.next
 |0,f,ls,m=>⟨rfl,rfl,aQ _,aQ _⟩
 |c+1,f,ls,m=>by
  unfold sh;cases decide (f<aK.length)with
  |true=>
   rw[ae];obtain⟨b1,b2,b3,b4⟩:=ZlZ aK free c (f+7) (ls++[(m.next:Int)]) (mD m (xk (xI (wZ aK m.At free f))));have hn:(mD m (xk (xI (wZ aK m.At free f)))).next=m.next+1:=rfl;exact⟨b1.trans (xQ _ _),b2,by omega,by omega⟩
  |false=>simp
def Zor (leaves:ak): ∀(c i:Nat) (top:ak) (m:dD),(wC leaves c i top m).2.B.length=m.B.length/\(wC leaves c i top m).2.At=m.At/\(wC leaves c i top m).2.next<=m.next+c/\m.next<=(wC leaves c i top m).2.next/\(wC leaves c i top m).1.length=top.length
 |0,i,top,m=>⟨rfl,rfl,aQ _,aQ _,rfl⟩
 |c+1,i,top,m=>by
  unfold wC;cases decide (16*i<leaves.length)with
  |true=>
   rw[ae];obtain⟨b1,b2,b3,b4,b5⟩:=Zor leaves c (i+1) (top.set i (m.next:Int)) (mD m (xk (uU (wB leaves i))));have hn:(mD m (xk (uU (wB leaves i)))).next=m.next+1:=rfl;exact⟨b1.trans (xQ _ _),b2,by omega,by omega,by rw[b5,nR]⟩
  |false=>simp
def ZtT (aK free:ak) (m:dD):(wi aK free m).2.B.length=m.B.length/\(wi aK free m).2.At=m.At/\(wi aK free m).2.next<=m.next+aK.length+17/\m.next<=(wi aK free m).2.next:=by
 obtain⟨b1,b2,b3,b4⟩:=ZlZ aK free aK.length 0 [] m;unfold wi;simp only;cases Nat.beq (sh aK free aK.length 0 [] m).1.length 0 with
 |true=>grind
 |false=>
  obtain⟨c1,c2,c3,c4,_⟩:=Zor (sh aK free aK.length 0 [] m).1 16 0 (List.replicate 16 0) (sh aK free aK.length 0 [] m).2;rw[af];exact⟨(xQ _ _).trans (c1.trans b1),c2.trans b2,by show _+1<=_;omega,by show _<=_+1;omega⟩
def Zp3 (n:Nat) (x:fJ) (z1 z2 z3:Nat) (p1 p2 p3:ai) (st:St) (kP:z1=2\/p1=none) (gS:z2=1\/p2=none) (mA:z3=1\/p3=none) (hm:hU st i ib ia m) (hg:Fz st p2 (ints x.aK)) (dS:Fz st p3 (ints x.free)) (jm:x.aK.length<90000) (ep:x.free.length<90000) (Gn:m.At.length=x.aK.length) (GR:m.next+x.aK.length<=700000) (hB:m.B.length<1000000) (hn:x.aK.length+x.free.length+1000<=n):
  Ok (λo=>∃gv,o=(.val [.int .i64 (wi x.aK x.free m).1],gv)/\hU gv i ib ia (wi x.aK x.free m).2/\Fx [i,ib,ia] st gv) (run Bd n 190 [.ptr (some (i,0)),.agg (dE x z1 p1 z2 p2 z3 p3)] st):=by
 obtain⟨n,rfl⟩: ∃k,n=k+2:=⟨n-2,by omega⟩;rw[Ze,h.aep];unfold Qm Zx fB uB cw cP aA Zm kb Zn Li vU Lb dY aZ rV Dn iw;simp only[eH];rw[cT];unfold dE;simp only[av,Zg 2 z1 p1 _ kP,Zg 1 z2 p2 _ gS,Zg 1 z3 p3 _ mA,aq];obtain⟨l1,l2,l3⟩:=hm.lt;obtain⟨T,hT⟩: ∃T,wi x.aK x.free m=T:=⟨_,rfl⟩;rw[hT];unfold wi at hT;obtain⟨RL,hRL⟩: ∃RL,sh x.aK x.free x.aK.length 0 [] m=RL:=⟨_,rfl⟩;rw[hRL]at hT;simp only at hT;have fD: ∀ {a b:St},Fx [i,ib] a b->Fx [i,ib,ia] a b:=λk=>k.mono λy hy=>by grind
 have yz: ∀ {a:ai},(∀b∈aO a,st.length<=b)->∀b∈aO a,b∉[i,ib,ia]:=λpX b hb lx=>by
  grind
 refine Ok.join λaz AD=>?_
 refine Zi _ (λq y t=>∃(c f zk:Nat) (a:ai) (ls:ak) (m':dD),y=[.slice zk a ls.length,.int .i64 (f:Int)]/\(zk=1\/a=none)/\f<=x.aK.length+7/\x.aK.length+7-f<=q/\hU t i ib ia m'/\Fx [i,ib,ia] st t/\bm [] t a (ints ls)/\(∀b∈aO a,st.length<=b)/\m'.B.length=m.B.length/\m'.At.length=m.At.length/\m'.next<=m.next+f/\ls.length<=f/\x.aK.length<=c+f/\sh x.aK x.free c f ls m'=RL) ?_ (x.aK.length+7) (n+1) _ _ ⟨x.aK.length,0,0,none,[],m,rfl,.inr rfl,cz _,by omega,hm,.refl _ _,bm.nil ⟨st,rfl⟩,(λ_ h=>by cases h),rfl,rfl,by omega,cz _,by omega,hRL⟩ (by omega);rintro q _ t ⟨c,f,zk,a,ls,m',rfl,Yo,hf,hq,jV,cL,mq,pX,Cc,Cb,GS,gp,hc,aP⟩ rec aN;simp only[av,Zg 1 zk a _ Yo,aq];have ri:=hm.kp cL;have JH:=hg.kp ri;have wL:=dS.kp ri;by_cases aw:f<x.aK.length
 .obtain⟨c,rfl⟩: ∃c',c=c'+1:=⟨c-1,by omega⟩
  unfold sh at aP;rw[ax aw,ae]at aP;rw[ax (by omega),ae];refine Ok.join λgN XA=>?_
  refine Ok.join λiC XB=>?_
  refine Zyn (n+1) x.aK x.free p2 p3 f t jV JH.1 wL.1 (by omega) (by omega) (by omega) (by omega) (by omega) (by omega) (Kn:=iC) ?_;rw[XB];have cN:(bT (wZ x.aK m'.At x.free f)).length=21:=by rw[ZB];show(oy _ _ _ _ _).length*3=_;rw[Bx]
  show Ok _ (ba [.agg (bT (wZ x.aK m'.At x.free f))] _ t);rw[cT,bI cN];simp only[aq];refine Ok.cv (ZlK (n+1) (wZ x.aK m'.At x.free f) (Bx _ _ _ _ _) t) λt1 aH=>?_
  rw[TU];simp only[bR,au,aq];refine Ok.call (DK n (xk (xI (wZ x.aK m'.At x.free f))) t1 (jV.pre aH)) ?_;rintro _ ⟨t2,rfl,fu,fX⟩;refine⟨_,t2,rfl,?_⟩;simp only[av,aq];have sH:Fx [i,ib,ia] t t2:=(Fx.pre _ aH).trans (fD fX);have Ek:=mq.fx sH (yz pX);obtain⟨b,t4,r1,r2,r3,r4⟩:=zP (β:=ah) (lim:=8796093022208) Ek (sz:=1) (n:=ls.length) [.int .i64 (m'.next:Int)] (by omega) (by simp[ints]) rfl;refine Eq.mpr (congrArg (Ok _) (r4 _)) ?_;rw[XA];simp only[aX,aq];have hw:ar ((f:Int)+7)=((f+7:Nat):Int):=Zc;rw[hw];have AF:=fu.fx r3 λy hy=>by
   have:=pX y hy;omega
  refine aN (x.aK.length+7-(f+7)) _ _ (by omega) ⟨c,f+7,1,some (b,0),ls++[(m'.next:Int)],_,?_,.inl rfl,by omega,aQ _,AF,(cL.trans sH).step r3 λy hy=> .inr (pX y hy),?_,λy hy=>?_,(xQ _ _).trans Cc,Cb,?_,?_,by omega,aP⟩
  .rw[bB];rfl
  .unfold ints
   rw[fA];exact r2
  .rw[cB.1 hy]
   have:=(cL.trans sH).1;omega
  .show m'.next+1<=_
   omega
  .rw[bB];show _+1<=_;omega
 .rw[aF (by omega),af,AD]
  have hRe:RL=(ls,m'):=by
   rw[<-aP];cases c with
   |zero=>rfl
   |succ c=>unfold sh;rw[aF aw];rfl
  rw[hRe]at hT;simp only at hT;simp only[aX,aq];by_cases h0:ls.length=0
  .rw[h0]at hT⊢
   have hT2:(0,m')=T:=hT;rw[show(((0:Nat):Int)==0)=true from rfl,ae,Zd,<-hT2];exact .mk ⟨t,rfl,jV,cL⟩
  .have ym:Nat.beq ls.length 0=false:=by
    cases hb:Nat.beq ls.length 0 with
    |false=>rfl
    |true=>exact absurd (dL hb) h0
   rw[ym,af]at hT;rw[show(((ls.length:Nat):Int)==0)=false from eG.2 (by omega),af];obtain⟨RF,hRF⟩: ∃RF,wC ls 16 0 (List.replicate 16 0) m'=RF:=⟨_,rfl⟩;rw[hRF]at hT;refine Ok.join λaI JK=>?_
   refine Zi _ (λq y u=>∃(k:Nat) (top:ak) (m2:dD),y=[.agg (ints top),.int .i64 (k:Int)]/\k<=16/\16-k<=q/\hU u i ib ia m2/\Fx [i,ib,ia] t u/\top.length=16/\m2.B.length=m.B.length/\m2.next<=m'.next+k/\wC ls (16-k) k top m2=RF) ?_ 16 (n+1) _ _ ⟨0,List.replicate 16 0,m',rfl,cz _,by omega,jV,.refl _ _,oF,Cc,by omega,hRF⟩ (by omega);rintro q2 _ u ⟨k,top,m2,rfl,hk,Er,hmu,fK,uf,WC,akl,ec⟩ dw j3;have cN:(ints top).length=16:=by simp[ints,uf]
   rw[cT,bI cN];simp only[av,aq];have hw:ar (16*(k:Int))=((16*k:Nat):Int):=by rw[Zc];omega
   have cG:ar ((k:Int)+1)=((k+1:Nat):Int):=Zc;simp only[hw,cG];have hou:=mq.fx fK (yz pX);refine Ok.join λaW Cs=>?_
   have mw:RF=(top,m2)->Ok (λo=>∃gv,o=(.val [.int .i64 T.1],gv)/\hU gv i ib ia T.2/\Fx [i,ib,ia] st gv) (aW [.bool false] u):=λe=>by
    rw[Cs];simp only[au,aq];rw[af,JK];show Ok _ (ba [.agg (ints top)] _ u);rw[cT,bI cN];simp only[aq];rw[e]at hT;simp only at hT;refine Ok.cv (Sy (n+1) top uf u) λu1 aH=>?_
    rw[TU];simp only[bR,au,aq];refine Ok.call (DK n (xk (uU top)) u1 (hmu.pre aH)) ?_;rintro _ ⟨u2,rfl,sI,Co⟩;refine⟨_,u2,rfl,?_⟩;simp only[av,aq,Zd];rw[<-hT];exact .mk ⟨u2,rfl,sI,((cL.trans fK).trans (Fx.pre _ aH)).trans (fD Co)⟩
   by_cases sE:k<16
   .rw[ax (by omega),ae]
    have Wu:16-k=(16-(k+1))+1:=by omega
    rw[Wu]at ec;unfold wC at ec;by_cases fY:16*k<ls.length
    .rw[ax fY,ae]at ec
     rw[ax (by omega),Cs];simp only[au,aq];rw[ae];refine Ok.join λbz Of=>?_
     refine Ok.join λck Xz=>?_
     refine Zy2 (n+1) ls a k u hou.sl (by omega) (by omega) (by omega) (Kn:=ck) ?_;rw[Xz];have yq:(ints (wB ls k)).length=16:=by simp only[ints,nQ];exact FN _ _ _
     show Ok _ (ba [.agg (ints (wB ls k))] _ u);rw[cT,bI yq];simp only[aq];refine Ok.cv (Sy (n+1) (wB ls k) (FN _ _ _) u) λu1 aH=>?_
     rw[TU];simp only[bR,au,aq];refine Ok.call (DK n (xk (uU (wB ls k))) u1 (hmu.pre aH)) ?_;rintro _ ⟨u2,rfl,sI,Co⟩;refine⟨_,u2,rfl,?_⟩;simp only[av,aq];rw[Zb (show aR ((k:Nat):Int) 16=true from Zj sE)];simp only[bp];rw[Z5 (by omega)];have lP:cE (ints top) (k*1) [.int .i64 (m2.next:Int)]=ints (top.set k (m2.next:Int)):=by
      rw[cR,BL _ _ _ (by omega)];unfold ints;rw[List.map_set]
     rw[lP,Of];have JA:(ints (top.set k (m2.next:Int))).length=16:=by simp[ints,uf]
     show Ok _ (ba [.agg (ints (top.set k (m2.next:Int)))] _ u2);rw[cT,bI JA];simp only[aq];exact j3 (16-(k+1)) _ _ (by omega) ⟨k+1,_,_,rfl,by omega,aQ _,sI,(fK.trans (Fx.pre _ aH)).trans (fD Co),by rw[nR,uf],(xQ _ _).trans WC,by show m2.next+1<=_;omega,ec⟩
    .rw[aF fY,af]at ec
     rw[aF (by omega)];exact mw ec.symm
   .have:k=16:=by omega
    subst this;rw[aF (by omega),af];exact mw ec.symm
def Py (x:cy):aj:=db (eZ x.seq) 8++db (eZ x.blocks) 4++db (eZ x.de) 4++db (eZ x.g) 4++db (eZ x.used) 4++db (eZ x.free) 4++db (eZ x.cc) 2++db (eZ x.dir) 2++js x.aJ
def xT (x:cy):aj:=iS 7 x.aJ.length (Py x)
def ZlW (n:Nat) (x:cy) (p:ai) (st:St) (hs:Sl st p (ints x.aJ)) (hl:x.aJ.length<1000:=by omega) (hn:2600<=n:=by omega):
  Ok (λo=>∃s',o=(.val [.str (xT x)],s')/\aB st s') (run Bd n 191 [.agg (dj x p)] st):=by
 obtain⟨n,rfl⟩: ∃k,n=k+2:=⟨n-2,by omega⟩;rw[Ze,h.aeq];unfold TA xC jw Db tp jf uI Zn ZC pP Ls eI dj;rw[cT];simp only[av,aX,aq,FI];have lay:=λv k (hk:k<=20) s=>tt (n+1) (eZ v) k (tx v) s
 refine Ok.cx (lay x.seq 8 (by omega) st) λs1 aH=>?_
 simp only[bR,aq];refine Ok.cx (lay x.blocks 4 (by omega) s1) λs2 aU=>?_
 simp only[bR,aq];rw[Z5 (by simp[ZA])];refine Ok.cx (lay x.de 4 (by omega) s2) λs3 cu=>?_
 simp only[bR,aq];rw[Z5 (by simp[bB,ZA])];refine Ok.cx (lay x.g 4 (by omega) s3) λs4 fw=>?_
 simp only[bR,aq];rw[Z5 (by simp[bB,ZA])];refine Ok.cx (lay x.used 4 (by omega) s4) λs5 jY=>?_
 simp only[bR,aq];rw[Z5 (by simp[bB,ZA])];refine Ok.cn (lay x.free 4 (by omega) s5) λs6 hp6=>?_
 simp only[bR,aq];rw[Z5 (by simp[bB,ZA])];refine Ok.cx (lay x.cc 2 (by omega) s6) λs7 hp7=>?_
 simp only[bR,aq];rw[Z5 (by simp[bB,ZA])];refine Ok.cn (lay x.dir 2 (by omega) s7) λs8 hp8=>?_
 simp only[bR,aq];rw[Z5 (by simp[bB,ZA]),Za];have hP:=((((((aH.trans aU).trans cu).trans fw).trans jY).trans hp6).trans hp7).trans hp8;unfold xT Py;obtain⟨A,hA⟩: ∃A,db (eZ x.seq) 8++db (eZ x.blocks) 4++db (eZ x.de) 4++db (eZ x.g) 4++db (eZ x.used) 4++db (eZ x.free) 4++db (eZ x.cc) 2++db (eZ x.dir) 2=A:=⟨_,rfl⟩;have yj:A.length=32:=by rw[<-hA];simp only[bB,ZA]
 rw[hA];refine Zi _ (λq y s=>∃i:Nat,y=[.str (A++js (x.aJ.take i)),.int .i64 (i:Int)]/\i<=x.aJ.length/\x.aJ.length-i<=q/\aB st s) ?_ x.aJ.length (n+1) _ _ ⟨0,by rw[List.take_zero];show _=[DV.str (A++[]),_];rw[gz];rfl,cz _,by omega,hP⟩ (by omega);rintro q _ s ⟨i,rfl,hi,hq,iB⟩ rec aN;simp only[bR,av,aq];by_cases aw:i<x.aJ.length
 .have dA:=hs.mono iB
  obtain⟨i1,o1,rfl⟩:=dA.cH (by simp[ints];omega);rw[ax (show(i:Int)<(x.aJ.length:Int) by omega),ae,bd,Zb (Zj aw),bp,dA.dJ (ZD aw)];simp only[bg];refine Ok.cv (lay x.aJ[i] 2 (by omega) s) λs5 jY=>?_
  simp only[bR,aq];rw[Z5 (by rw[bB,uM,ZA,cX,yj];omega),Zc];exact aN (x.aJ.length-(i+1)) _ _ (by omega) ⟨i+1,by rw[H5 _ aw,fI];rfl,by omega,aQ _,iB.trans jY⟩
 .rw[aF (show ¬(i:Int)<(x.aJ.length:Int) by omega),af]
  rw[dG (by omega)];refine Ok.cv (Bu (n+1) 7 x.aJ.length (A++js x.aJ) (by rw[bB,uM];omega) s (by rw[bB,uM];omega)) λs5 jY=>?_
  simp only[bR,aq,Zd];exact .mk ⟨s5,rfl,iB.trans jY⟩
def ZX (a n:Nat):ak:=(List.range n).map λi=>((a+i:Nat):Int)
def vW (a n:Nat):(ZX a n).length=n:=by unfold ZX;simp
def ZnD (a n:Nat):ZX a (n+1)=ZX a n++[((a+n:Nat):Int)]:=by simp[ZX,qw,fA]
def ZvM {a:Nat} {x:Int} (h:x∈ZX a n):(a:Int)<=x/\x<((a+n:Nat):Int):=by
 grind[ZX]
def FR (used:ak):Nat->Nat->dD->dD
 |0,_,m=>m
 |c+1,i,m=>FR used c (i+1) (mD m (uL (gr i used)))
def CI (x:fJ):dD:=⟨l9 (64*x.blocks.toNat),2,List.replicate x.aK.length 0⟩
def KK (x:fJ):Nat:=(x.blocks.toNat+383)/384
def FZ (l:ak):Int:=match l with
 |[]=>0
 |k::_=>ar (k+1)
def yO (x:fJ):Nat×dD:=wA x.aM (CI x)
def mB (x:fJ):Nat×dD:=wi x.aK x.free (yO x).2
def ju (x:fJ) (fm:Int):cy:=⟨fm,x.blocks,x.de,x.g,(mB x).1,x.aK.length,FZ x.free,(yO x).1,ZX (mB x).2.next (KK x)⟩
def y8 (x:fJ):ak:=ZX 0 ((mB x).2.next+KK x)
def FY (x:fJ) (fm place:Int):Option (aj×cy):=
 bif decide (((y8 x).length:Int)>x.blocks)|| !ZU (ju x fm)then none else
  some (CN (FR (y8 x) (KK x) 0 (mB x).2).B (64*(place%2).toNat) (xT (ju x fm)),ju x fm)
def ZwK (n:Nat):gY n [.int .i64 0]=ints (List.replicate n 0):=by
 simp[gY,ints]
def Zzi:ah:=[.slice 0 none 0,.agg [.int .i64 0,.int .i64 0,.int .i64 0,.int .i64 0,.int .i64 0,.int .i64 0,.int .i64 0,.int .i64 0,.slice 0 none 0],.bool false]
structure ac8 (st gv:St) (B:List UInt8) (s:cy) (ib:Nat) (q:Option (Nat×Nat)):Prop where
 new:st.length<=ib
 eY:gv[ib]? =some (some ⟨false,bU B⟩)
 own:bm [] gv q (ints s.aJ)
 q: ∀b∈aO q,st.length<=b/\b≠ib
def VT (st:St) (x:fJ) (fm place:Int) (o:Out ah×St):Prop:=∃gv,aB st gv/\
 ((∃B s ib q,rY x/\FY x fm place=some (B,s)/\o=(.val [.slice 1 (some (ib,0)) B.length,.agg (dj s q),.bool true],gv)/\ac8 st gv B s ib q)\/
  ((rY x->FY x fm place=none)/\o=(.val Zzi,gv)))
def ZrJ (l:List dO):tN l=((l.map (·.cj)).flatten).length:=by
 unfold tN;induction l with
 |nil=>rfl
 |cons x l ih=>rw[oG,List.sum_cons,ih,oG,C6,bB]
def Zqi (n:Nat) (x:fJ) (z1 z2 z3:Nat) (p1 p2 p3:ai) (fm place:Int) (st:St) (kP:z1=2\/p1=none) (gS:z2=1\/p2=none) (mA:z3=1\/p3=none) (hx:Di st x p1 p2 p3) (sz:Dj x) (lN: -9223372036854775808<=place/\place<=9223372036854775807) (hn:60000<=n):
  Ok (VT st x fm place) (run Bd n 170 [.agg (dE x z1 p1 z2 p2 z3 p3),.int .i64 fm,.int .i64 place] st):=by
 obtain⟨n,rfl⟩: ∃k,n=k+3:=⟨n-3,by omega⟩;rw[Ze,h.aeg];unfold RI Zx iX bq cw HV fB aA Q_ tl jw cM jf kb Zm LK Bo lF Li gJ ZZ uD vU Lb dY aZ iw uQ HT;have ag: ∀(l:ah) (K:ah->ah->M ah),ba (.agg (dE x z1 p1 z2 p2 z3 p3)::l) K=K (dE x z1 p1 z2 p2 z3 p3) l:=λ_ _=>rfl
 rw[ag];unfold dE;simp only[av,Zg 2 z1 p1 _ kP,Zg 1 z2 p2 _ gS,Zg 1 z3 p3 _ mA,aq];refine Ok.call (Ztq (n+2) x 2 1 1 p1 p2 p3 st (.inl rfl) (.inl rfl) (.inl rfl) hx.str sz (by omega)) ?_;rintro _ ⟨b,s1,rfl,aH,hb⟩;refine⟨_,s1,rfl,?_⟩;simp only[au,aq];cases b with
 |false=>
  rw[bn,ae,Zd];exact .mk ⟨s1,aH,.inr ⟨λhm=>(by cases hb.2 hm),rfl⟩⟩
 |true=>
 have hm:=hb.1 rfl;rw[br,af];obtain⟨g1,g2,g3,g4,g5,g6⟩:=Z4 hm.NS;obtain⟨bl,jl⟩: ∃bl:Nat,x.blocks=bl:=⟨x.blocks.toNat,by omega⟩;have jm:x.aK.length<=1792:=by have:=hm.de;omega
 have yp:x.blocks.toNat=bl:=by omega
 have hw:ar (64*x.blocks)=((64*bl:Nat):Int):=by rw[jl,Zc];omega
 simp only[hw,bp];rw[Zb (by rw[aY,aY,bu,bu,bu];omega),Zz];rw[Zb (by rw[aY,aY,bu,bu,bu];omega),Zz,Zz,ZrA,ZwK];have l1: ∀c,(s1++[some (c:bO)]).length=s1.length+1:=λc=>by simp
 have l2: ∀c d,((s1++[some (c:bO)])++[some (d:bO)]).length=s1.length+2:=λc d=>by simp
 simp only[l1,l2];obtain⟨S0,D2⟩: ∃S0,((s1++[some (⟨false,bU (l9 (64*bl))⟩:bO)])++[some (⟨false,ints (List.replicate x.aK.length 0)⟩:bO)])++[some (⟨false,[.slice 1 (some (s1.length,0)) (64*bl),.int .i64 2,.slice 1 (some (s1.length+1,0)) x.aK.length]⟩:bO)]=S0:=⟨_,rfl⟩;rw[D2];have hpS:aB s1 S0:=by rw[<-D2];exact(((aB.new _ _).trans (aB.new _ _)).trans (aB.new _ _))
 have hlS:S0.length=s1.length+3:=by rw[<-D2];simp
 have rz:(l9 (64*bl)).length=64*bl:=by unfold l9;simp
 have WL:hU S0 (s1.length+2) s1.length (s1.length+1) (CI x):=by
  unfold CI;rw[yp];refine⟨?_,?_,?_,by omega,by omega,by omega⟩
  .rw[<-D2,rz,oF];simp
  .rw[<-D2];simp
  .rw[<-D2];simp
 clear D2;have OC:=aH.trans hpS;have Yk:=hx.kp OC.kp;obtain⟨ds,tV,jb⟩:=Yk.hp;have iO: ∀g∈x.aM,∀e∈g.cj,e∈Zq x:=λg hg e he=>List.mem_flatten.2 (by grind)
 have yj:(CI x).At.length=x.aK.length:=oF;have hBl:(CI x).B.length=64*bl:=by show(l9 _).length=_;rw[yp,rz]
 have vk:=ZrJ x.aM;have aj6:tN x.aM<=50000:=by rw[vk];exact sz.e
 have tY:=hm.DZ;have Eh:(CI x).next=2:=rfl;refine Ok.call (Zte (n+2) x.aM p1 2 ds S0 (.inl rfl) WL tV jb (λg hg e he=>by
  have:=hm.range e.slot (by grind);rw[yj];exact this) (λg hg=>⟨by have:=sz.h.name g hg;omega,by have:=sz.h.name g hg;omega,by have:=sz.h.cj g hg;omega⟩) (by omega) (by omega) (by omega) (by omega) (by omega)) ?_
 rintro _ ⟨S1,rfl,hM1,Cl⟩;refine⟨_,S1,rfl,?_⟩;simp only[av,aq];obtain⟨k1,k2,k3,k4⟩:=Zxk x.aM (CI x);have ahu:wA x.aM (CI x)=yO x:=rfl;rw[ahu]at hM1 k1 k2 k3 k4⊢;have AL:=Yk.kp (WL.kp Cl);refine Ok.call (Zp3 (n+2) x 2 1 1 p1 p2 p3 S1 (.inl rfl) (.inl rfl) (.inl rfl) hM1 AL.gn AL.fr (by omega) (by have:=sz.f;omega) (by omega) (by omega) (by omega) (by have:=sz.f;omega)) ?_;rintro _ ⟨S2,rfl,hM2,mU⟩;refine⟨_,S2,rfl,?_⟩;simp only[av,aq];obtain⟨q1,q2,q3,q4⟩:=ZtT x.aK x.free (yO x).2;have ahv:wi x.aK x.free (yO x).2=mB x:=rfl;rw[ahv]at hM2 q1 q2 q3 q4⊢;have hfA:Fx [s1.length+2,s1.length,s1.length+1] S0 S2:=Cl.trans mU;have Ey:=Yk.kp (WL.kp hfA);have WC:(mB x).2.B.length=64*bl:=by omega
 have Ep: ∀t,Fx [s1.length+2,s1.length,s1.length+1] S0 t->aB st t:=λt k=>by
  refine Fx.acH ((Fx.pre [] OC).step k λy hy=> .inr ?_);have:=aH.len;grind
 have yz: ∀ {a:ai},(∀b∈aO a,S0.length<=b)->∀b∈aO a,b∉[s1.length+2,s1.length,s1.length+1]:=λpX b hb lx=>by
  grind
 refine Ok.join λaz AD=>?_
 have A1:Ok (VT st x fm place) (az [.agg [.int .i64 fm,.int .i64 x.blocks,.int .i64 x.de,.int .i64 x.g,.int .i64 (mB x).1,.int .i64 (x.aK.length:Int),.int .i64 (FZ x.free),.int .i64 (yO x).1,.slice 0 none 0]] S2):=by
  rw[AD];show Ok _ (ba [.agg [.int .i64 fm,.int .i64 x.blocks,.int .i64 x.de,.int .i64 x.g,.int .i64 (mB x).1,.int .i64 (x.aK.length:Int),.int .i64 (FZ x.free),.int .i64 (yO x).1,.slice 0 none 0]] _ S2);rw[dT [.int .i64 fm,.int .i64 x.blocks,.int .i64 x.de,.int .i64 x.g,.int .i64 (mB x).1,.int .i64 (x.aK.length:Int),.int .i64 (FZ x.free),.int .i64 (yO x).1,.slice 0 none 0] []];simp only[av,Zg 1 0 none _ (.inr rfl),aq];refine Ok.join λaI JK=>?_
  obtain⟨N,hN⟩: ∃N,(mB x).2.next=N:=⟨_,rfl⟩;obtain⟨C,hC⟩: ∃C,KK x=C:=⟨_,rfl⟩;have hCe:(bl+383)/384=C:=by rw[<-hC];unfold KK;rw[yp]
  refine Zi _ (λq y t=>∃(k z:Nat) (a:ai),y=[.agg [.int .i64 fm,.int .i64 x.blocks,.int .i64 x.de,.int .i64 x.g,.int .i64 (mB x).1,.int .i64 (x.aK.length:Int),.int .i64 (FZ x.free),.int .i64 (yO x).1,.slice z a (ZX N k).length],.int .i64 (k:Int)]/\(z=1\/a=none)/\k<=C/\C-k<=q/\hU t (s1.length+2) s1.length (s1.length+1) (mB x).2/\Fx [s1.length+2,s1.length,s1.length+1] S0 t/\bm [] t a (ints (ZX N k))/\∀b∈aO a,S0.length<=b) ?_ C (n+2) _ _ ⟨0,1,none,rfl,.inr rfl,cz _,by omega,hM2,hfA,bm.nil ⟨S2,rfl⟩,λ_ h=>by cases h⟩ (by omega);rintro q _ t ⟨k,z,a,rfl,hz,hk,hq,WM,wL,mq,pX⟩ rec aN;rw[cT];simp only[av,Zg 1 z a _ hz,aq];rw[jl];refine Ok.call (ZjC (n+2) bl x.de x.g (by omega) t) ?_;rintro _ rfl;refine⟨_,t,rfl,?_⟩;simp only[av,aq];rw[hCe,<-jl];by_cases aw:k<C
  .rw[ax (by omega),ae,Zo WM.cell (d:= .int .i64 (mB x).2.next) rfl]
   simp only[bg];have Ku:ar (((mB x).2.next:Int)+(k:Int))=((N+k:Nat):Int):=by rw[hN,Zc];omega
   have cG:ar ((k:Int)+1)=((k+1:Nat):Int):=Zc;rw[Ku,cG];obtain⟨b,t2,r1,r2,r3,r4⟩:=zP (β:=ah) (lim:=8796093022208) mq (sz:=1) (n:=(ZX N k).length) [.int .i64 ((N+k:Nat):Int)] (by omega) (by simp[ints]) rfl (by rw[vW];omega);refine Eq.mpr (congrArg (Ok _) (r4 _)) ?_;have hM3:=WM.fx r3 λy hy=>by
    have:=pX y hy;omega
   refine aN (C-(k+1)) _ _ (by omega) ⟨k+1,1,some (b,0),?_,.inl rfl,by omega,aQ _,hM3,wL.step r3 λy hy=> .inr (pX y hy),?_,λy hy=>?_⟩
   .rw[vW,vW]
   .rw[ZnD]
    unfold ints;rw[fA];exact r2
   .rw[cB.1 hy]
    have:=wL.1;omega
  have hkC:k=C:=by omega
  subst hkC;rw[aF (by omega),af,JK];have Cz:([.int .i64 fm,.int .i64 x.blocks,.int .i64 x.de,.int .i64 x.g,.int .i64 (mB x).1,.int .i64 (x.aK.length:Int),.int .i64 (FZ x.free),.int .i64 (yO x).1,.slice 1 a (ZX N k).length]:ah)=dj (ju x fm) a:=by
   unfold dj ju;rw[hN,hC]
  have tU:(ju x fm).aJ=ZX N k:=by unfold ju;rw[hN,hC]
  rw[Cz];show Ok _ (ba [.agg (dj (ju x fm) a)] _ t);rw[dT (dj (ju x fm) a) []];unfold dj;simp only[av,aX,aq];have aiB:([.int .i64 (ju x fm).seq,.int .i64 (ju x fm).blocks,.int .i64 (ju x fm).de,.int .i64 (ju x fm).g,.int .i64 (ju x fm).cc,.int .i64 (ju x fm).used,.int .i64 (ju x fm).free,.int .i64 (ju x fm).dir,.slice 1 a (ju x fm).aJ.length]:ah)=dj (ju x fm) a:=rfl;simp only[aiB];have cN:(ju x fm).aJ.length=k:=by rw[tU,vW]
  have jc:y8 x=ZX 0 (N+k):=by unfold y8;rw[hN,hC]
  rw[cN];refine Ok.join λaW Cs=>?_
  refine Zi _ (λq y u=>∃(i z:Nat) (c:ai),y=[.slice z c (ZX 0 i).length,.int .i64 (i:Int)]/\(z=1\/c=none)/\i<=N+k/\N+k-i<=q/\hU u (s1.length+2) s1.length (s1.length+1) (mB x).2/\Fx [s1.length+2,s1.length,s1.length+1] S0 u/\bm [] u c (ints (ZX 0 i))/\(∀b∈aO c,S0.length<=b)/\bm [] u a (ints (ZX N k))/\∀b∈aO a,b∉aO c) ?_ (N+k) (n+2) _ _ ⟨0,0,none,rfl,.inr rfl,cz _,by omega,WM,wL,bm.nil ⟨t,rfl⟩,(λ_ h=>by cases h),mq,λ_ _ h=>by cases h⟩ (by omega);rintro q2 _ u ⟨i,z,c,rfl,hz,hi,Er,WN,fK,hoc,WY,Ox,Jt⟩ dw j3;simp only[av,Zg 1 z c _ hz,aq];rw[Zo WN.cell (d:= .int .i64 (mB x).2.next) rfl];simp only[bg];have hwN:ar (((mB x).2.next:Int)+(k:Int))=((N+k:Nat):Int):=by rw[hN,Zc];omega
  rw[hwN];by_cases aw:i<N+k
  .rw[ax (by omega),ae]
   have cG:ar ((i:Int)+1)=((i+1:Nat):Int):=Zc;rw[cG];obtain⟨b,t2,r1,r2,r3,r4⟩:=zP (β:=ah) (lim:=8796093022208) hoc (sz:=1) (n:=(ZX 0 i).length) [.int .i64 (i:Int)] (by omega) (by simp[ints]) rfl (by rw[vW];omega);refine Eq.mpr (congrArg (Ok _) (r4 _)) ?_;refine j3 (N+k-(i+1)) _ _ (by omega) ⟨i+1,1,some (b,0),?_,.inl rfl,by omega,aQ _,WN.fx r3 λy hy=>?_,fK.step r3 λy hy=> .inr (WY y hy),?_,λy hy=>?_,Ox.fx r3 Jt,λy hy fu=>?_⟩
   .rw[vW,vW]
   .have:=WY y hy
    omega
   .rw[ZnD,eW]
    unfold ints;rw[fA];exact r2
   .rw[cB.1 hy]
    have:=fK.1;omega
   .rw[cB.1 fu]at hy
    have:=bm.Ga Ox b hy;omega
  have hiN:i=N+k:=by omega
  subst hiN;rw[aF (by omega),af,Cs];simp only[aX,aq];refine Ok.join λbz Of=>?_
  have GA:FY x fm place=bif decide (((y8 x).length:Int)>x.blocks)|| !ZU (ju x fm)then none else some (CN (FR (y8 x) k 0 (mB x).2).B (64*(place%2).toNat) (xT (ju x fm)),ju x fm):=by
   unfold FY;rw[hC]
  have A4: ∀(v:St) (bb:Bool),(decide (((y8 x).length:Int)>x.blocks)|| !ZU (ju x fm))=bb->aB u v->Ok (VT st x fm place) (bz [.bool bb] v):=by
   intro v bb D5 vx;rw[D5]at GA;rw[Of];simp only[au,aq];cases bb with
   |true=>
    rw[ae,Zd];exact .mk ⟨v,Ep v (fK.trans (Fx.pre _ vx)),.inr ⟨λ_=>GA,rfl⟩⟩
   |false=>
   rw[af];rw[af]at GA;refine Ok.join λck Xz=>?_
   obtain⟨G,hG⟩: ∃G,FR (y8 x) k 0 (mB x).2=G:=⟨_,rfl⟩;rw[hG]at GA;refine Zi _ (λq y w=>∃(i:Nat) (m':dD),y=[.int .i64 (i:Int)]/\i<=k/\k-i<=q/\hU w (s1.length+2) s1.length (s1.length+1) m'/\Fx [s1.length+2,s1.length,s1.length+1] S0 w/\bm [] w c (ints (ZX 0 (N+k)))/\bm [] w a (ints (ZX N k))/\m'.B.length=64*bl/\m'.next=N+i/\FR (y8 x) (k-i) i m'=G) ?_ k (n+2) _ _ ⟨0,(mB x).2,rfl,cz _,by omega,WN.pre vx,fK.trans (Fx.pre _ vx),hoc.fx (Fx.pre [] vx) (λ_ _ h=>by cases h),Ox.fx (Fx.pre [] vx) (λ_ _ h=>by cases h),WC,hN,hG⟩ (by omega);rintro q3 _ w ⟨i,m',rfl,hi,hq3,WO,Oc,abM,Ek,hB3,hN3,aP⟩ vH OM;simp only[av,aq];by_cases aw:i<k
   .rw[ax (by omega),ae]
    refine Ok.call (ZlG (n+2) i (ZX 0 (N+k)) c 1 w (.inl rfl) abM.sl (by omega) (by rw[vW];omega) (λy hy=>by have:=ZvM hy;omega) (by rw[vW];omega)) ?_;rintro _ rfl;refine⟨_,w,rfl,?_⟩;have JW:(gr i (ZX 0 (N+k))).eY.length=48:=by unfold gr;rw[H9];exact oF
    have ig:(bU (gr i (ZX 0 (N+k))).eY).length=48:=by rw[Zu,JW]
    show Ok _ (ba [.agg (.int .i64 (gr i (ZX 0 (N+k))).no::bU (gr i (ZX 0 (N+k))).eY)] _ w);rw[cT];simp only[av];rw[bI ig];simp only[aq];refine Ok.cv (ZmI (n+2) (gr i (ZX 0 (N+k))) JW w) λw1 Ka=>?_
    simp only[bR,aq];refine Ok.call (DK (n+1) (uL (gr i (ZX 0 (N+k)))) w1 (WO.pre Ka)) ?_;rintro _ ⟨w2,rfl,agI,aha⟩;refine⟨_,w2,rfl,?_⟩;simp only[av,aq];rw[Zc];have Xd:Fx [s1.length+2,s1.length] w w2:=(Fx.pre _ Ka).trans aha;have JF:Fx [s1.length+2,s1.length,s1.length+1] w w2:=Xd.mono λy hy=>by simp only[eF,tj,oH]at hy⊢;omega
    have eki:k-i=(k-(i+1))+1:=by omega
    rw[eki]at aP;unfold FR at aP;rw[jc]at aP;rw[<-jc]at aP;exact OM (k-(i+1)) _ _ (by omega) ⟨i+1,_,rfl,by omega,aQ _,agI,Oc.trans JF,abM.fx JF (yz WY),Ek.fx JF (yz pX),(xQ _ _).trans hB3,by show m'.next+1=_;omega,by rw[<-jc];exact aP⟩
   have GL:i=k:=by omega
   subst GL;rw[Bi]at aP;have hmG:m'=G:=aP;subst hmG;rw[aF (by omega),af,Xz];simp only[aq];rw[Zo WO.cell rfl];simp only[j9];have vy:run Bd (n+2) 179 [.int .i64 place,.int .i64 2] w=some (.val [.int .i64 (place%2)],w):=Zr3 (n+1) place 2 (by decide) (by decide) lN w;rw[qF vy (.refl w)];simp only[av,aq];obtain⟨pl,abT⟩: ∃pl:Nat,place%2=(pl:Int):=⟨(place%2).toNat,by omega⟩;rw[abT,bp]at GA;rw[abT];have Yg:ar (64*(pl:Int))=((64*pl:Nat):Int):=by rw[Zc];omega
   simp only[Yg,bp,cR];rw[Zb (by rw[aY,bu,bu];omega)];refine Ok.cx (ZlW (n+2) (ju x fm) a w (by rw[tU];exact Ek.sl)) λw1 Ka=>?_
   simp only[bR,aq];have WQ:=WO.pre Ka;obtain⟨e1,e2,e3⟩:=WQ.lt;show Ok _ (dI s1.length (64*pl+0) _ _ w1);rw[gV,ll,MX WQ.bb (by rw[Zu,Zu,cX];omega),ZuJ _];have hlB:=Vh (B:=m'.B) (k:=64*pl) (xT (ju x fm));rw[Zo (i:=s1.length+2) (f:=false) (by rw[jv (by omega)];exact WQ.cell) rfl];simp only[j9,Zd];have Cm:Fx [s1.length+2,s1.length,s1.length+1] w (w1.set s1.length (some ⟨false,bU (CN m'.B (64*pl) (xT (ju x fm)))⟩)):=(Fx.pre _ Ka).trans ((Fx.set w1 s1.length _).mono λy hy=>by rw[cB.1 hy];simp);have pw:=aH.len;refine .mk ⟨_,Ep _ (Oc.trans Cm),.inl ⟨_,_,s1.length,a,hm,GA,by rw[hlB],pw,kX (by omega),?_,λy hy=>?_⟩⟩
   .rw[tU]
    exact Ek.fx Cm (yz pX)
   .have:=pX y hy
    omega
  rw[vW];have AJ:((y8 x).length:Int)=((N+k:Nat):Int):=by rw[jc,vW]
  by_cases yB:((N+k:Nat):Int)>x.blocks
  .rw[ax yB,ae]
   refine A4 u true ?_ (.refl u);rw[AJ,ax yB,Bool.true_or]
  .rw[aF yB,af]
   refine Ok.cv (Rl (n+2) (ju x fm) a u (by rw[tU];exact Ox.sl)) λv vx=>?_
   simp only[au,aq];refine A4 v _ ?_ vx;rw[AJ,aF yB,vP]
 by_cases vm:0<x.free.length
 .obtain⟨k0,kr,JL⟩: ∃k0 kr,x.free=k0::kr:=by
   cases pY:x.free with
   |nil=>rw[pY]at vm;cases vm
   |cons a b=>exact⟨a,b,rfl⟩
  have Xn:(ints x.free)[0]? =some (.int .i64 k0):=by rw[JL];rfl
  obtain⟨bi,bo,e⟩:=Ey.fr.1.cH (by simp[ints];omega);have wT:=Ey.fr.1;rw[e]at wT⊢;rw[ax (by omega),ae,bd,Zb (show aR 0 x.free.length=true from Zj (i:=0) vm),wT.get Xn];simp only[bg];rw[JL]at A1;exact A1
 .have pY:x.free=[]:=zp.1 (by omega)
  rw[aF (by omega),af];rw[pY]at A1;exact A1
def ZpE (n:Nat) (W:al) (j:Nat) (f:Bool) (st:St) (hw:st[j]? =some (some ⟨f,Zv W⟩)) (h0:0<W.length) (hl:W.length<100000):
  Ok (λo=>∃j' s',o=(.val [.slice 1 (some (j',0)) W.length],s')/\aB st s'/\st.length<=j'/\s'[j']? =some (some ⟨false,Zv W⟩)) (run Bd (n+1) 263 [.slice 1 (some (j,0)) W.length] st):=by
 rw[Ze,h.afs];unfold Qb bV aZ;simp only[aX,aq];rw[show(some (j,0):ai).isNone=false from rfl,af,Zz];have cG:(st++[some (⟨false,[]⟩:bO)])[j]? =some (some ⟨f,Zv W⟩):=(aB.new _ _).get hw;have dA:Sl (st++[some (⟨false,[]⟩:bO)]) (some (j,0)) (Zv W):=⟨f,Zv W,cG,by omega,by rw[dK,rR]⟩;have lO:=iR (β:=ah) dA;rw[T0]at lO;rw[cR,lO];have gq:bm st (st++[some (⟨false,[]⟩:bO)]) (some (st.length,0)) []:=⟨aB.new _ _,(by simp)⟩;obtain⟨p,s',ho,he⟩:=gq.app (β:=ah) (sz:=1) (n:=0) (m:=W.length) (lim:=8796093022208) (ds:=Zv W) (by omega) rfl h0 (by omega);rw[he,Zd,eW];rw[jG]at ho;rcases ho.2 with⟨_,e⟩|⟨i,rfl,h1,h2⟩
 .have:=congrArg List.length e
  rw[T0]at this;grind
 .exact .mk ⟨i,s',rfl,ho.1,h1,h2⟩
def ZrQ (n:Nat) {m:Nat} (st:St) (hs:gy st f i j m W) (hm:0<m):
  Ok (λo=>∃i' j' s',o=(.val [.ptr (some (i',0))],s')/\aB st s'/\st.length<=i'/\st.length<=j'/\i'≠j'/\gy s' false i' j' m W) (run Bd (n+2) 241 [.ptr (some (i,0))] st):=by
 rw[Ze,h.ae8];unfold QK jh Zm bV aZ uD Lp;simp only[eH,aq,bd];have hlen:=hs.len;have hle:=hs.le;rw[Zo hs.hd rfl];simp only[bg];rw[Zo hs.hd rfl];simp only[j9];refine Ok.NI (ZpE n W j f st hs.wd (by omega) (by omega)) ?_;rintro _ ⟨j',s1,rfl,aH,hj,hw⟩;refine⟨_,s1,rfl,aH,?_⟩;simp only[aX,aq];rw[Zz,Zd];have tZ:=(ef.1 hw).1;exact .mk ⟨s1.length,j',_,rfl,aH.trans (aB.new _ _),aH.len,hj,by omega,⟨by simp,(aB.new _ _).get hw,hs.len,hs.lt,hs.le⟩⟩
def ZtJ (hz:P1 Bd) (n:Nat) {m:Nat} (st:St) (ht:sa st) (hs:gy st f i j m W) (mu:gy st g i2 j2 m2 V) (hm:0<m) (hn:4000<=n):
  Ok (λo=>∃i' j' s',o=(.val [.ptr (some (i',0))],s')/\aB st s'/\gy s' false i' j' m ((dq V).foldl (bK m) W)) (run Bd n 201 [.ptr (some (i,0)),.ptr (some (i2,0))] st):=by
 obtain⟨n,rfl⟩: ∃k,n=k+3:=⟨n-3,by omega⟩;rw[Ze,h.aey];unfold QF jh zA iL C_ Lp;simp only[eH,aq];refine Ok.call (ZrQ n st hs hm) ?_;rintro _ ⟨i',j',s1,rfl,aH,GI,Cr,mm,OR⟩;refine⟨_,s1,rfl,?_⟩;simp only[eH,aq];refine Ok.call (ZmL hz (n+2) s1 (ht.mono aH) (mu.pre aH)) ?_;rintro _ ⟨p,s2,rfl,aU,dA,jl⟩;refine⟨_,s2,rfl,?_⟩;simp only[aX,aq];have yD:=OR.pre aU;have tZ:j'<s1.length:=(ef.1 OR.wd).1;have gp:=Rx V V.length;rw[rR]at gp;have hV:=mu.len;have hV2:=mu.le;rw[Zk (Ia (n+2) (dq V) p s2 yD mm dA (lG.aO λb hb lx=>by
  have:=jl b hb;rw[cB.1 lx]at this;omega))]
 simp only[aq,Zd];exact .mk ⟨i',j',_,rfl,tC (aH.trans aU) Cr _,yD.add mm _ (by rw[(ZF m _ _).1]) ((ZF m _ _).2 yD.lt)⟩
def wF (img:aj) (m:Nat) (W:al):ak->Option (List ZP)
 |[]=>some []
 |k::r=>match xP (ZG img k.toNat)with
  |none=>none
  |some c=>bif fE m k&&di W k.toNat then none else(wF img m W r).map (c:: ·)
def zR (img:aj) (x:cy) (W:al):Bool:=match wF img x.blocks.toNat W x.aJ with
 |none=>false
 |some cs=>match B6 x.blocks.toNat cs with
  |none=>false
  |some F=>decide (F=(dq (jd x.blocks.toNat x.aJ)).foldl (bK x.blocks.toNat) W)
def IC (img:aj) (x:cy) (rm:Option (Nat×al)):Bool:=match rK (qo img x)with
 |some (some v)=>(match rm with
  |none=>false
  |some (m,R)=>(decide (x.blocks.toNat=m)&&decide (v.W=R))&&zR img x v.W)
 |_=>false
def ZzM (s:St) (rm:Option (Nat×al)) (p:ai):Prop:=match rm with
 |none=>p=none
 |some (m,R)=>∃f i j,p=some (i,0)/\gy s f i j m R
def ZyK {img:aj} {x:cy} {v:aS} (h:rK (qo img x)=some (some v)):ZU x=true/\x.blocks<=((img.length/64:Nat):Int):=by
 unfold rK at h;cases h1:ZU x with
 |false=>
  have:(qo img x).sup=x:=rfl;rw[this,h1]at h;cases h
 |true=>
  refine⟨rfl,?_⟩;cases h2:decide (x.blocks<=((img.length/64:Nat):Int))with
  |true=>grind
  |false=>
   have e1:(qo img x).sup=x:=rfl;have e2:(qo img x).img=img:=rfl;rw[e1,e2,h1,h2]at h;cases h
def ZoX (n:Nat) (a:ai) (img:aj) (x:cy) (pc:ai) (rm:Option (Nat×al)) (pr:ai) (s:St) (ht:sa s) (ha:dc s a img) (hc:Sl s pc (ints x.aJ)) (hr:ZzM s rm pr) (hl:img.length<1000000) (cN:x.aJ.length<1000) (hn:6000<=n):
  Ok (λo=>∃s',o=(.val [.bool (IC img x rm)],s')/\aB s s') (run Bd n 173 [.slice 1 a img.length,.agg (dj x pc),.ptr pr] s):=by
 obtain⟨n,rfl⟩: ∃k,n=k+3:=⟨n-3,by omega⟩;obtain⟨R,hR⟩: ∃R,IC img x rm=R:=⟨_,rfl⟩;rw[hR];unfold IC at hR;rw[Ze,h.aej];unfold QV Z6 jh xD aA jg zA bq cP Zn iL Lb uD dY aZ ix iw;simp only[aX];rw[dT (dj x pc) [.ptr pr]];unfold dj;simp only[av,aX,eH,aq];have Cz:([.int .i64 x.seq,.int .i64 x.blocks,.int .i64 x.de,.int .i64 x.g,.int .i64 x.cc,.int .i64 x.used,.int .i64 x.free,.int .i64 x.dir,.slice 1 pc x.aJ.length]:ah)=dj x pc:=rfl;rw[Cz];have mw: ∀t,aB s t->R=false->Ok (λo=>∃s',o=(.val [.bool R],s')/\aB s s') ((ay [.bool false]:M ah) t):=λt k e=>by
  rw[e,Zd];exact .mk ⟨t,rfl,k⟩
 refine Ok.call (ZlN (n+2) a img x pc s ha hc hl cN) ?_;intro o ho;cases hw:rK (qo img x)with
 |none=>
  rw[hw]at ho hR;obtain⟨s1,rfl,aH⟩:=ho;refine⟨_,s1,rfl,?_⟩;rw[dT];unfold dE;simp only[av,Zg 2 0 none _ (.inr rfl),Zg 1 0 none _ (.inr rfl),eH,aq];rw[Za,show(!((2:Int)==0))=true from rfl,ae];simp only[au,aq];rw[Za,ae];simp only[au,aq];rw[ae];exact mw s1 aH hR.symm
 |some q=>
 cases q with
 |none=>
  rw[hw]at ho hR;obtain⟨s1,rfl,aH⟩:=ho;refine⟨_,s1,rfl,?_⟩;rw[dT];unfold dE;simp only[av,Zg 2 0 none _ (.inr rfl),Zg 1 0 none _ (.inr rfl),eH,aq];rw[Za,show(!((31:Int)==0))=true from rfl,ae];simp only[au,aq];rw[Za,ae];simp only[au,aq];rw[ae];exact mw s1 aH hR.symm
 |some v=>
 rw[hw]at ho hR;obtain⟨s1,z2,q2,z3,q3,z4,q4,i,j,rfl,aH,gS,mA,wX,_,dh,_,_⟩:=ho;refine⟨_,s1,rfl,?_⟩;simp only at hR;obtain⟨pB,agT⟩:=ZyK hw;obtain⟨Ax,_⟩:=Sm pB;obtain⟨g1,g2,_⟩:=Z4 Ax;have aiw:=(BB x).1 pB;obtain⟨m,hm⟩: ∃m:Nat,x.blocks=m:=by grind
 have hmn:x.blocks.toNat=m:=by omega
 rw[hmn]at dh hR;rw[dT];unfold dE;simp only[av,Zg 2 z2 q2 _ gS,Zg 1 z3 q3 _ mA,Zg 1 z4 q4 _ wX,eH,aq];rw[Za,show(!((0:Int)==0))=false from rfl,af];simp only[au,aq];rw[Za];cases rm with
 |none=>
  have Eo:pr=none:=hr;subst Eo;rw[show(none:ai).isNone=true from rfl,ae];simp only[au,aq];rw[ae];grind
 |some mr=>
 obtain⟨mr,Rr⟩:=mr;obtain⟨fr,ir,jr,rfl,Kj⟩:=hr;rw[show(some (ir,0):ai).isNone=false from rfl,af];refine Ok.call (Zmy (n+2) s1 dh (Kj.pre aH)) ?_;rintro _ rfl;refine⟨_,s1,rfl,?_⟩;simp only[au,aq];simp only at hR;cases OP:(decide (m=mr)&&decide (v.W=Rr))with
 |false=>
  rw[OP,gf]at hR;rw[bn,ae];exact mw s1 aH hR.symm
 |true=>
 rw[OP,dF]at hR;rw[br,af];unfold zR at hR;rw[hmn]at hR;refine Ok.join λaW Cs=>?_
 obtain⟨G,hG⟩: ∃G,wF img m v.W x.aJ=G:=⟨_,rfl⟩;rw[hG]at hR;refine Zi _ (λq y t=>∃(k z:Nat) (c:ai) (acc:List ZP),y=[.slice z c acc.length,.int .i64 (k:Int)]/\(z=49\/c=none)/\k<=x.aJ.length/\x.aJ.length-k<=q/\bm s1 t c (si acc)/\acc.length=k/\(∀y∈acc,y.eY.length=48/\y.no<8)/\(wF img m v.W (x.aJ.drop k)).map (acc++ ·)=G) ?_ x.aJ.length (n+2) _ _ ⟨0,0,none,[],rfl,.inr rfl,cz _,by omega,bm.nil (.refl _),rfl,(λ_ h=>by cases h),by rw[dK,hG];cases G<;>rfl⟩ (by omega);rintro q _ t ⟨k,z,c,acc,rfl,hz,hk,hq,ho,As,aa6,aP⟩ rec aN;have jz:=ho.1;have cg:=aH.trans jz;simp only[av,Zg 49 z c _ hz,aq];have hct:=hc.mono cg;have hat:=ha.mono cg;by_cases aw:k<x.aJ.length
 .obtain⟨bi,bo,rfl⟩:=hc.cH (by simp[ints];omega)
  have da:(ints x.aJ)[k]? =some (.int .i64 x.aJ[k]):=ZD aw;have fW:x.aJ.drop k=x.aJ[k]::x.aJ.drop (k+1):=iV aw;have jS:=(aiw.ch k aw).1;rw[dW,cq aw,US,hm]at jS;have agW:2<=x.aJ[k]/\x.aJ[k]<(m:Int):=jS;rw[fW]at aP;rw[ax (show(k:Int)<(x.aJ.length:Int) by omega),ae,bd,Zb (Zj aw)];simp only[bp];rw[hct.dJ da];simp only[bg];generalize x.aJ[k]=y at agW aP;obtain⟨yn,hyn⟩: ∃yn:Nat,y=yn:=⟨y.toNat,by omega⟩;subst hyn;unfold wF at aP;rw[bp]at aP;rw[Zk (Zmb (n+1) a img.length yn t hl)];simp only[aX,aq];have Ef:(ZG img yn).length=64:=by unfold ZG;rw[cX,fa];omega
  have XE:dc t (cU true a (yn*64)) (ZG img yn):=(hat.cU (k:=yn*64) (by omega)).lA 64;have hcg:=Zs2 (n+2) (cU true a (yn*64)) (ZG img yn) t XE (by omega) (by omega);rw[Ef]at hcg;refine Ok.call hcg ?_;rintro _ ⟨t1,aU,du⟩;have cG:ar ((k:Int)+1)=((k+1:Nat):Int):=Zc;cases GG:xP (ZG img yn)with
  |none=>
   rw[GG]at du aP;simp only at du aP;subst du;refine⟨_,t1,rfl,?_⟩;have ahN:(bU Ng.eY).length=48:=rfl;rw[dT (ZW Ng) _];unfold ZW;simp only[av];rw[bI ahN];simp only[au,aq];rw[bI (n:=49) rfl,Za,bn,ae];simp only[au,aq];rw[ae];have WH:G=none:=aP.symm;rw[WH]at hR;exact mw t1 (cg.trans aU) hR.symm
  |some cv=>
   rw[GG]at du aP;simp only at du aP;obtain⟨rfl,wG,h8⟩:=du;refine⟨_,t1,rfl,?_⟩;have ig:(bU cv.eY).length=48:=by rw[Zu,wG]
   rw[dT (ZW cv) _];have hcc:ZW cv= .int .i64 cv.no::bU cv.eY:=rfl;rw[hcc];simp only[av];rw[bI ig];simp only[au,aq];rw[bI (n:=49) (by simp[ig]),Za,br,af];rw[Zk (ZnE n ((yn:Nat):Int) t1 (dh.pre (jz.trans aU)))];simp only[au,aq];rw[bp];cases gM:(fE m ((yn:Nat):Int)&&di v.W yn)with
   |true=>
    rw[gM,ae]at aP;rw[ae];have WH:G=none:=aP.symm;rw[WH]at hR;exact mw t1 (cg.trans aU) hR.symm
   |false=>
    rw[gM,af]at aP;rw[af,bI (n:=49) (by simp[ig]),<-hcc,cG];obtain⟨p3,t3,nD,ri,he⟩:=(ho.mono aU).CP (β:=ah) (sz:=49) (n:=acc.length) (lim:=1256584717458) (ZW cv) (by omega) (Td λy hy=>(aa6 y hy).1) (Mh wG) (by omega);refine Eq.mpr (congrArg (Ok _) (he _)) ?_;refine aN (x.aJ.length-(k+1)) _ _ (by omega) ⟨k+1,49,p3,acc++[cv],?_,.inl rfl,by omega,aQ _,?_,?_,λy hy=>?_,?_⟩
    .rw[bB];rfl
    .rw[Zt2]
     have:si [cv]=ZW cv:=by unfold si;simp
     rw[this];exact nD
    .rw[bB,As];rfl
    .grind
    .rw[<-aP,Option.map_map]
     congr 1;funext l;simp
 .rw[aF (show ¬(k:Int)<(x.aJ.length:Int) by omega),af,Cs]
  rw[lU (by omega)]at aP;have hGs:G=some acc:=by rw[<-aP];simp[wF]
  rw[hGs]at hR;simp only at hR;simp only[aX,aq];rw[hm];refine Ok.call (ZsG (n+2) m acc c 49 t (by omega) (.inl rfl) ho.sl aa6 (by omega) (by omega)) ?_;rintro _ ⟨t1,aU,du⟩;cases dS:B6 m acc with
  |none=>
   rw[dS]at du hR;simp only at du hR;subst du;refine⟨_,t1,rfl,?_⟩;simp only[eH,au,aq];rw[Za,af];simp only[au,aq,Zd];exact .mk ⟨t1,by rw[hR],cg.trans aU⟩
  |some F=>
   rw[dS]at du hR;simp only at du hR;obtain⟨iF,jF,rfl,hsF⟩:=du;refine⟨_,t1,rfl,?_⟩;simp only[eH,au,aq];rw[Za,ae];obtain⟨t2,e2,cu,JN,wT⟩:=Ua (n+2) m x.aJ pc t1 (by omega) (hct.mono aU) (by omega) (by omega);rw[Zk e2];simp only[eH,aq];have yD:=dh.pre ((jz.trans aU).trans cu);refine Ok.call (ZtJ (acJ) (n+2) t2 (ht.mono ((cg.trans aU).trans cu)) yD wT (by omega) (by omega)) ?_;rintro _ ⟨iW,jW,t3,rfl,fw,hsW⟩;refine⟨_,t3,rfl,?_⟩;simp only[eH,aq];refine Ok.call (Zmy (n+2) t3 (hsF.pre (cu.trans fw)) hsW) ?_;rintro _ rfl;refine⟨_,t3,rfl,?_⟩;simp only[au,aq,Zd];refine .mk ⟨t3,?_,((cg.trans aU).trans cu).trans fw⟩;grind
end Go.Gv.F
namespace Go.Gv.F
open Go.Gv
end Go.Gv.F
