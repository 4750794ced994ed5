/- The document's maker of images: its blocks, one behind the other. -/
import Derived.Test.YtegglibipjjblaaGreatDoorGvZMd
set_option linter.all false
namespace Go.Gv.F
open Go.Gv
variable {β:Type}
structure dD where
 B:aj
 next:Nat
 At:ak
structure hJ (s:St) (i ib ia:Nat) (m:dD):Prop where
 cell:s[i]? =some (some ⟨false,[.s 1 (some (ib,0)) m.B.length,.i m.next,.s 1 (some (ia,0)) m.At.length]⟩)
 bb:s[ib]? =some (some ⟨false,bU m.B⟩)
 aa:s[ia]? =some (some ⟨false,ints m.At⟩)
 d1:i≠ib
 d2:i≠ia
 d3:ib≠ia
variable {f g:Bool} {i i2 ia ib j j2 k m2 n:Nat} {Q:Out ah×St->Prop} {s s':St} {p p1 p2 p3:ai} {T V W:al} {m:dD}
theorem hJ.fx (h:hJ s i ib ia m) (k:Fx T s s') (hT: ∀x∈T,x≠i/\x≠ib/\x≠ia):hJ s' i ib ia m:=
 ⟨k.2 _ _ (λe=>(hT _ e).1 rfl) h.cell,k.2 _ _ (λe=>(hT _ e).2.1 rfl) h.bb,k.2 _ _ (λe=>(hT _ e).2.2 rfl) h.aa,h.d1,h.d2,h.d3⟩
theorem hJ.pre {s s':St} {i ib ia:Nat} {m:dD} (h:hJ s i ib ia m) (k:aB s s'):hJ s' i ib ia m:=h.fx (Fx.pre [] k) λ_ h=>by cases h
theorem hJ.lt (h:hJ s i ib ia m):i<s.length/\ib<s.length/\ia<s.length:=
 ⟨(ef.1 h.cell).1,(ef.1 h.bb).1,(ef.1 h.aa).1⟩
theorem hJ.kp (h:hJ s i ib ia m) (k:Fx [i,ib,ia] s s'):Kp s s':=by
 intro j all e;refine k.2 j _ (λhm=>?_) e;simp only[eF,tl,oH]at hm;grind[h.cell,h.bb,h.aa]
def CT (B:aj) (k:Nat) (s:aj):aj:=B.take k++(s.take (B.length-k)++B.drop (k+s.length))
theorem Vu {B:aj} (s:aj) (h:k<=B.length:=by omega):(CT B k s).length=B.length:=by
 grind[CT]
theorem ZuU {B:aj} (s:aj) (h:k<=B.length:=by omega):cE (bU B) k (bU (s.take (B.length-k)))=bU (CT B k s):=by
 have e:bU B=bU (B.take k)++(bU ((B.drop k).take s.length)++bU (B.drop (k+s.length))):=by
  rw[<-IJ,<-IJ,<-kW,rS,rS]
 have hl:(bU (B.take k)).length=k:=by rw[Zu,cX];omega
 have:=tF (bU (B.take k)) (bU ((B.drop k).take s.length)) (bU (B.drop (k+s.length))) (bU (s.take (B.length-k))) (by
  rw[Zu,Zu,cX,cX,fa,Nat.min_comm])
 rw[hl,<-e]at this;rw[this];simp[CT,IJ]
def mE (m:dD) (s:aj):dD:=⟨bif decide (64*m.next+64<=m.B.length)then CT m.B (64*m.next) s else m.B,m.next+1,m.At⟩
theorem xO (m:dD) (s:aj):(mE m s).B.length=m.B.length:=by
 unfold mE;by_cases h:64*m.next+64<=m.B.length
 .rw[ax h,ae];exact Vu s
 grind
variable {Bd:Zh} [h:HA Bd]
theorem DT (n:Nat) (s:aj) (st:St) (hm:hJ st i ib ia m) (hn:m.next<1000000:=by omega) (_hB:m.B.length<1000000:=by omega):
  Ok (λo=>∃gv,o=(.val [.i m.next],gv)/\hJ gv i ib ia (mE m s)/\Fx [i,ib] st gv) (run Bd (n+1) 194 [.p (some (i,0)),.t s] st):=by
 rw[Ze,h.aeG];unfold Qt jK Zm Q_ Li;simp only[eH,bR,aq,bd];rw[Zo hm.cell rfl];rw[bg];rw[Zo hm.cell rfl];rw[bg];rw[eO,qE hm.cell (by show 1<3;omega)];have hw:ar ((m.next:Int)+1)=((m.next+1:Nat):Int):=Zc;have cG:ar (64*(m.next:Int))=((64*m.next:Nat):Int):=by rw[Zc];omega
 have fR:ar (((64*m.next:Nat):Int)+64)=((64*m.next+64:Nat):Int):=Zc;rw[hw,cG,fR];have⟨h1,h2,h3⟩:=hm.lt;have dh:([.s 1 (some (ib,0)) m.B.length,.i m.next,.s 1 (some (ia,0)) m.At.length]:ah).set 1 (.i ((m.next+1:Nat):Int))=[.s 1 (some (ib,0)) m.B.length,.i ((m.next+1:Nat):Int),.s 1 (some (ia,0)) m.At.length]:=rfl;rw[dh];have⟨s1,eX⟩: ∃s1,st.set i (some (⟨false,[.s 1 (some (ib,0)) m.B.length,.i ((m.next+1:Nat):Int),.s 1 (some (ia,0)) m.At.length]⟩:bO))=s1:=⟨_,rfl⟩;have mo:hJ s1 i ib ia ⟨m.B,m.next+1,m.At⟩:=by
  rw[<-eX];have d1:=hm.d1;have d2:=hm.d2;exact⟨kZ h1,by rw[jv d1];exact hm.bb,by rw[jv d2];exact hm.aa,d1,d2,hm.d3⟩
 have Co:Fx [i,ib] st s1:=by rw[<-eX];exact(Fx.set st i _).mono λy hy=>by rw[cB.1 hy];simp
 rw[eX,Zo mo.cell rfl];rw[kb];rw[Za];by_cases hb:64*m.next+64<=m.B.length
 .rw[ax (show(m.B.length:Int)>=((64*m.next+64:Nat):Int) by omega),ae,Zo mo.cell rfl]
  simp only[kb];rw[Zb (by rw[aY,br,br];omega)];rw[bp,cR];show Ok _ (dI ib (64*m.next+0) _ _ s1);rw[gV,lr,M6 mo.bb (by rw[Zu,Zu,cX];grind)];have lR:=ZuU (B:=m.B) (k:=64*m.next) s;show Ok _ ((aL [] (ay [DV.i m.next])) (s1.set ib (some ⟨false,cE (bU m.B) (64*m.next) (bU (s.take (m.B.length-64*m.next)))⟩)));rw[lR];rw[aq,Zd];have hl:=Vu (B:=m.B) (k:=64*m.next) s;refine .mk ⟨_,rfl,?_,Co.trans ((Fx.set s1 ib _).mono λy hy=>by rw[cB.1 hy];simp)⟩;unfold mE;rw[ax hb,ae];have d1:=hm.d1;have d3:=hm.d3;refine⟨?_,?_,?_,d1,hm.d2,d3⟩
  .rw[jv (Ne.symm d1),hl];exact mo.cell
  .grind
  .rw[jv d3];exact mo.aa
 .rw[aF (show ¬(m.B.length:Int)>=((64*m.next+64:Nat):Int) by omega),af]
  simp only[aq,Zd];refine .mk ⟨s1,rfl,?_,Co⟩;grind[mE]
def yg (es:List bh) (r:ak×dD):Nat×dD:=match es with
 |[]=>(0,r.2)
 |e::_=>(r.2.next, { mE r.2 (xe ⟨e,r.1⟩)with At:=r.2.At.set e.slot.toNat (r.2.next:Int) })
def gF:Nat->List bh->dD->ak×dD
 |0,_,m=>([],m)
 |j+1,es,m=>(λr:ak×dD=>(λf:Nat×dD=>(r.1++[(f.1:Int)],f.2)) (yg ((es.drop (2^j)).take (2^j)) (gF j ((es.drop (2^j)).take (2^j)) r.2))) (gF j es m)
def pG (j:Nat) (es:List bh) (m:dD):Nat×dD:=yg es (gF j es m)
theorem Zrc (es:List bh) (r:ak×dD):(yg es r).2.B.length=r.2.B.length/\(yg es r).2.At.length=r.2.At.length/\(yg es r).2.next<=r.2.next+1/\r.2.next<=(yg es r).2.next:=by
 unfold yg;cases es with
 |nil=>simp
 |cons e r'=>exact⟨xO _ _,by simp,aO _,Nat.le_succ _⟩
theorem Ir: ∀(j:Nat) (es:List bh) (m:dD),(gF j es m).2.B.length=m.B.length/\(gF j es m).2.At.length=m.At.length/\(gF j es m).2.next+1<=m.next+2^j/\m.next<=(gF j es m).2.next/\(gF j es m).1.length=j
 |0,_,m=>⟨rfl,rfl,by simp[gF],aO _,rfl⟩
 |j+1,es,m=>by
  have⟨a1,a2,a3,a4,a5⟩:=Ir j es m;have⟨b1,b2,b3,b4,_⟩:=Ir j ((es.drop (2^j)).take (2^j)) (gF j es m).2;have⟨c1,c2,c3,c4⟩:=Zrc ((es.drop (2^j)).take (2^j)) (gF j ((es.drop (2^j)).take (2^j)) (gF j es m).2);have e:2^(j+1)=2*2^j:=by rw[uz];omega
  refine⟨c1.trans (b1.trans a1),c2.trans (b2.trans a2),?_,?_,?_⟩
  .show(yg _ _).2.next+1<=_
   omega
  .show m.next<=(yg _ _).2.next
   omega
  .show((gF j es m).1++[_]).length=j+1
   rw[bB,a5];rfl
theorem Zow (j:Nat) (es:List bh) (m:dD):(pG j es m).2.B.length=m.B.length/\(pG j es m).2.At.length=m.At.length/\(pG j es m).2.next<=m.next+2^j/\m.next<=(pG j es m).2.next:=by
 have⟨a1,a2,a3,a4,_⟩:=Ir j es m;have⟨c1,c2,c3,c4⟩:=Zrc es (gF j es m);grind[pG]
theorem ZnK (l:List bh): ∀(k:Nat),(bY l).drop (k*4)=bY (l.drop k):=by
 induction l with
 |nil=>intro k;simp[bY]
 |cons e l ih=>
  intro k;cases k with
  |zero=>rfl
  |succ k=>
   have e2:bY (e::l)=fk e++bY l:=rfl;rw[e2,show(k+1)*4=(fk e).length+k*4 by show _=4+_;omega,<-kW,C8,ih k];rfl
theorem ZnB (l:List bh) (k:Nat):(bY l).take (k*4)=bY (l.take k):=by
 induction l generalizing k with
 |nil=>simp[bY]
 |cons e l ih=>
  cases k with
  |zero=>rfl
  |succ k=>
   have e2:bY (e::l)=fk e++bY l:=rfl;rw[e2,show(k+1)*4=(fk e).length+k*4 by show _=4+_;omega,List.take_length_add_append,ih k];rfl
theorem Fz.aed {es:List bh} (h:Fz s p (bY es)) (k n:Nat) (hk:k+n<=es.length) (hn:0<n):Fz s (cU true p (k*4)) (bY ((es.drop k).take n)):=by
 obtain⟨i,o,rfl⟩:=h.1.cH (by rw[Zt];omega);refine⟨?_,λb o' e=>?_⟩
 .have h1:=h.1.cU (k:=k*4) (by rw[Zt];omega)
  rw[ZnK]at h1;have h2:=h1.lC (n*4);rw[ZnB]at h2;exact h2
 .have e':some (i,k*4+o)=some (b,o'):=e
  cases e';exact h.2 i o rfl
theorem ZrC {Bd:Zh} (h:HA Bd): ∀(j n:Nat) {i ib ia:Nat} {m:dD} (es:List bh) (p:ai) (st:St),hJ st i ib ia m->Fz st p (bY es)->es.length=2^j->(∀e∈es,0<=e.slot/\e.slot<(m.At.length:Int))->j<20->m.next+2^j<=900000->m.B.length<1000000->m.At.length<100000->3000+j<=n->
  Ok (λo=>∃gv,o=(.val [.i (pG j es m).1],gv)/\hJ gv i ib ia (pG j es m).2/\Fx [i,ib,ia] st gv) (run Bd n 217 [.p (some (i,0)),.s 4 p es.length] st):=by
 intro j;induction j using Nat.strongRecOn with
 |_ j ih=>
 intro n i ib ia m es p st hm hs hl dA hj G0 hB Gw hn;obtain _|n:=n;omega;rw[Ze,h.aeZ];unfold QI sh FI jf cw Zm N_ Fy lY xG vV Li FJ FB
 try dsimp only
 have wR:0<es.length:=by rw[hl];exact Nat.two_pow_pos j
 obtain⟨bi,bo,rfl⟩:=hs.1.cH (by rw[Zt];omega);have⟨e0,er,Az⟩: ∃e0 er,es=e0::er:=by
  cases es with
  |nil=>cases wR
  |cons a b=>exact⟨a,b,rfl⟩
 have he0:es[0]? =some e0:=by rw[Az];rfl
 rw[eH,aX,aq];rw[bd,Zb (show aR 0 es.length=true from Zj (i:=0) wR)];have qa: ∀(s:St),Fz s (some (bi,bo)) (bY es)->∀K:ah->M ah,bS bi (0+bo) 4 K s=K (fk e0) s:=λs hs K=>by
  have:=IK hs.1 he0 K;rwa [tn]at this
 rw[qa st hs];unfold fk;simp only[av,aq];refine Ok.join λaz AG=>?_
 have⟨T,hT⟩: ∃T,pG j es m=T:=⟨_,rfl⟩;rw[hT];have⟨l1,l2,l3⟩:=hm.lt;refine Zi _ (λq y t=>∃(a z:Nat) (k:ai),y=[.a [.i e0.slot,.i e0.gen,.i e0.key,.i e0.value,.s z k (gF a es m).1.length],.i ((2^a:Nat):Int)]/\(z=1\/k=none)/\a<=j/\j-a<=q/\hJ t i ib ia (gF a es m).2/\Fx [i,ib,ia] st t/\bm [] t k (ints (gF a es m).1)/\∀b∈aP k,st.length<=b) ?_ j n _ _ ⟨0,0,none,rfl,.inr rfl,cz _,by omega,hm,.refl _ _,bm.nil ⟨st,rfl⟩,λ_ h=>by cases h⟩ (by omega);rintro q _ t ⟨a,z,k,rfl,hz,ha,hq,jX,cM,fP,Ax⟩ rec aN;rw[cT];simp only[av,Zg 1 z k _ hz,aq];have cg:=hs.kp (hm.kp cM);have⟨g1,g2,g3,g4,g5⟩:=Ir a es m;by_cases aw:a<j
 .have h2b:2^(a+1)<=2^j:=nT (by decide) aw
  have aU:0<2^a:=Nat.two_pow_pos a;have hw:ar (2*((2^a:Nat):Int))=((2^(a+1):Nat):Int):=by rw[Zc];omega
  rw[ax (show((2^a:Nat):Int)<(es.length:Int) by omega),ae];simp only[hw,bp];rw[Zb (by rw[aY,br,br];omega),Zb (by rw[aY,br,br];omega)];have wU:=cg.aed (2^a) (2^a) (by omega) aU;have acd:((es.drop (2^a)).take (2^a)).length=2^a:=by rw[cX,fa];omega
  have Ek:2^(a+1)-2^a=((es.drop (2^a)).take (2^a)).length:=by rw[acd];omega
  rw[Ek];refine Ok.NP (ih a aw n ((es.drop (2^a)).take (2^a)) _ t jX wU acd (λe he=>by rw[g2];exact dA e (List.mem_of_mem_drop (List.mem_of_mem_take he))) (by omega) (by omega) (by rw[g1];exact hB) (by rw[g2];exact Gw) (by omega)) ?_;rintro _ ⟨t1,rfl,mo,mm⟩;refine⟨_,t1,rfl,?_⟩;rw[av,aq];have yA: ∀b∈aP k,b∉[i,ib,ia]:=λb hb lz=>by
   have:=Ax b hb;simp only[eF,tl,oH]at lz;omega
  have OL:=fP.fx mm yA;have⟨b,t2,r1,r2,r3,r4⟩:=zX (β:=ah) (lim:=8796093022208) OL (sz:=1) (n:=(gF a es m).1.length) [.i ((pG a ((es.drop (2^a)).take (2^a)) (gF a es m).2).1:Int)] (by omega) (by simp[ints]) rfl;refine Eq.mpr (congrArg (Ok _) (r4 _)) ?_;have fw:=mo.fx r3 λy hy=>by
   have:=Ax y hy;omega
  have fX:Fx [i,ib,ia] st t2:=(cM.trans mm).step r3 λy hy=> .inr (Ax y hy)
  refine aN (j-(a+1)) _ _ (by omega) ⟨a+1,1,some (b,0),?_,.inl rfl,by omega,aO _,fw,fX,?_,λy hy=>?_⟩
  .have⟨_,_,_,_,g6⟩:=Ir (a+1) es m
   rw[g5,g6]
  .show bm [] t2 (some (b,0)) (ints ((gF a es m).1++[_]))
   unfold ints;rw[fq];exact r2
  .rw[cB.1 hy]
   have:=(cM.trans mm).1;omega
 .have haj:a=j:=by omega
  subst haj;rw[aF (show ¬((2^a:Nat):Int)<(es.length:Int) by omega),af,AG];show Ok _ (ba [.a [.i e0.slot,.i e0.gen,.i e0.key,.i e0.value,.s 1 k (gF a es m).1.length]] _ t);rw[cT];simp only[av,aX,aq];refine Ok.cv (Zm0 n ⟨e0,(gF a es m).1⟩ 1 k t (.inl rfl) fP.sl (by grind)) λt1 aH=>?_
  rw[bR,aq];obtain _|n:=n;omega;refine Ok.call (DT n (xe ⟨e0,(gF a es m).1⟩) t1 (jX.pre aH) (by omega) (by rw[g1];exact hB)) ?_;rintro _ ⟨t2,rfl,fw,fX⟩;refine⟨_,t2,rfl,?_⟩;simp only[av,aq,bd];have fD:Fx [i,ib,ia] st t2:=(cM.trans (Fx.pre _ aH)).trans (fX.mono λy hy=>by simp only[eF,tl,oH]at hy⊢;omega);have Ku:=hs.kp (hm.kp fD);rw[Zo fw.cell rfl];rw[kb];rw[Zb (show aR 0 es.length=true from Zj (i:=0) wR)];have Xx:(bY es)[0]? =some (.i e0.slot):=by rw[Az];rfl
  rw[Ku.1.get Xx];rw[bg];have Kq:=dA e0 (by rw[Az];simp);have⟨ks,yz⟩: ∃ks:Nat,e0.slot=ks:=⟨e0.slot.toNat,by omega⟩;have yk:(mE (gF a es m).2 (xe ⟨e0,(gF a es m).1⟩)).At=(gF a es m).2.At:=rfl;rw[bd,yz,Zb (show aR (ks:Int) _=true from Zj (by rw[yk,g2];omega)),bp,cR,gV,qE fw.aa (by rw[ints,lG];rw[yk,g2];omega),Zd];have hTe:T=(((gF a es m).2.next, { mE (gF a es m).2 (xe ⟨e0,(gF a es m).1⟩)with At:=(gF a es m).2.At.set ks ((gF a es m).2.next:Int) }):Nat×dD):=by
   rw[<-hT];unfold pG yg;rw[Az];simp only;rw[yz,bp]
  rw[hTe];have dh:(ints (mE (gF a es m).2 (xe ⟨e0,(gF a es m).1⟩)).At).set ks (.i ((gF a es m).2.next:Int))=ints ((gF a es m).2.At.set ks ((gF a es m).2.next:Int)):=by
   rw[yk];unfold ints;rw[List.map_set]
  rw[dh];have⟨m1,m2,m3⟩:=fw.lt;have d2:=fw.d2;have d3:=fw.d3;refine .mk ⟨_,rfl,⟨?_,?_,?_,fw.d1,d2,d3⟩,fD.trans ((Fx.set t2 ia _).mono λy hy=>by rw[cB.1 hy];simp)⟩
  .rw[jv (Ne.symm d2),nR]
   exact fw.cell
  .rw[jv (Ne.symm d3)]
   exact fw.bb
  .exact kZ m3
def xu (s:St):ah->List dP->Prop
 |ds,[]=>ds=[]
 |ds,x::r=>∃z p t,(z=4\/p=none)/\ds=ml x z p++t/\Fz s p (bY x.cj)/\xu s t r
theorem xu.kp {s s':St} (k:Kp s s'): ∀ {ds:ah} {xs:List dP},xu s ds xs->xu s' ds xs
 |_,[],h=>h
 |_,_::_,⟨z,p,t,hz,h1,h2,h3⟩=>⟨z,p,t,hz,h1,h2.kp k,h3.kp k⟩
theorem xu.aM {s:St} : ∀ {ds:ah} {xs:List dP},xu s ds xs->kB s ds xs
 |_,[],h=>h
 |_,_::_,⟨z,p,t,hz,h1,h2,h3⟩=>⟨z,p,t,hz,h1,h2.1,h3.aM⟩
theorem xu.get {s:St} : ∀ {ds:ah} {xs:List dP},xu s ds xs->∀ {j:Nat} {x:dP},xs[j]? =some x->∃z p,(z=4\/p=none)/\ds[j*2]? =some (.t x.name)/\ds[j*2+1]? =some (.s z p x.cj.length)/\Fz s p (bY x.cj)
 |_,[],_,j,x,e=>by simp at e
 |ds,y::r,⟨zq,q,t,KE,h1,h2,h3⟩,0,x,e=>by
  simp only[kY,fT]at e;subst e;subst h1;exact⟨zq,q,KE,rfl,rfl,h2⟩
 |ds,y::r,⟨zq,q,t,KE,h1,h2,h3⟩,j+1,x,e=>by
  have⟨z,p,hz,g2,g3,g4⟩:=h3.get (j:=j) (x:=x) (by simpa using e);refine⟨z,p,hz,?_,?_,g4⟩
  .rw[h1,kX (by rw[xE];omega),xE,show(j+1)*2-2=j*2 by omega]
   exact g2
  .rw[h1,kX (by rw[xE];omega),xE,show(j+1)*2+1-2=j*2+1 by omega]
   exact g3
structure Dm (s:St) (x:fJ) (p1 p2 p3:Option (Nat×Nat)):Prop where
 hp: ∃ds,Fz s p1 ds/\xu s ds x.aM
 gn:Fz s p2 (ints x.aK)
 fr:Fz s p3 (ints x.free)
theorem Dm.kp {s s':St} {x:fJ} {p1 p2 p3:ai} (h:Dm s x p1 p2 p3) (k:Kp s s'):Dm s' x p1 p2 p3:=
 let ⟨ds,h1,h2⟩:=h.hp
 ⟨⟨ds,h1.kp k,h2.kp k⟩,h.gn.kp k,h.fr.kp k⟩
theorem Dm.str {x:fJ} (h:Dm s x p1 p2 p3):lh s x p1 p2 p3:=
 let ⟨ds,h1,h2⟩:=h.hp
 ⟨⟨ds,h1.1,h2.aM⟩,h.gn.1,h.fr.1⟩
def wm (cJ:Nat):Nat->Nat->ak->List bh->dD->ak×dD
 |0,_,hs,_,m=>(hs,m)
 |c+1,k,hs,rest,m=>bif eE cJ k then(λt:Nat×dD=>wm cJ c (k+1) (hs.set k (t.1:Int)) (rest.drop (2^k)) t.2) (pG k (rest.take (2^k)) m)else wm cJ c (k+1) hs rest m
def roots (es:List bh) (m:dD):ak×dD:=wm es.length 12 0 (List.replicate 12 0) es m
def uP:List dP->ak->dD->ak×dD
 |[],jQ,m=>(jQ,m)
 |x::r,jQ,m=>(λt:ak×dD=>uP r (jQ++[(t.2.next:Int)]) (mE t.2 (yW ⟨x.name,x.cj.length,t.1⟩))) (roots x.cj m)
def wA (l:List dP) (m:dD):Nat×dD:=(λt:ak×dD=>match Ac t.1 with
 |none=>(0,t.2)
 |some s=>(t.2.next,mE t.2 s)) (uP l [] m)
theorem mod_pow_succ (a k:Nat):a%2^(k+1)=a%2^k+(if a/2^k%2=1 then 2^k else 0):=by
 rw[uz,Nat.mod_mul];grind
theorem Zyy {a:Nat} (h:eE a k=true):a%2^k+2^k<=a:=by
 have h1:a/2^k%2=1:=mK h;have h2:a%2^(k+1)<=a:=Nat.mod_le _ _;rw[mod_pow_succ,bE h1]at h2;exact h2
theorem TQ (cJ:Nat): ∀(c k:Nat) (hs:ak) (rest:List bh) (m:dD),(wm cJ c k hs rest m).2.B.length=m.B.length/\(wm cJ c k hs rest m).2.At.length=m.At.length/\(wm cJ c k hs rest m).2.next+cJ%2^k<=m.next+cJ%2^(k+c)/\m.next<=(wm cJ c k hs rest m).2.next/\(wm cJ c k hs rest m).1.length=hs.length
 |0,k,hs,rest,m=>⟨rfl,rfl,aO _,aO _,rfl⟩
 |c+1,k,hs,rest,m=>by
  unfold wm;have e:=mod_pow_succ cJ k;have e2:k+(c+1)=k+1+c:=by omega
  rw[e2];cases hb:eE cJ k with
  |true=>
   rw[ae];have⟨a1,a2,a3,a4⟩:=Zow k (rest.take (2^k)) m;have⟨b1,b2,b3,b4,b5⟩:=TQ cJ c (k+1) (hs.set k ((pG k (rest.take (2^k)) m).1:Int)) (rest.drop (2^k)) (pG k (rest.take (2^k)) m).2;rw[bE (mK hb)]at e;grind
  |false=>
   rw[af];have⟨b1,b2,b3,b4,b5⟩:=TQ cJ c (k+1) hs rest m;rw[bj (Fl hb)]at e;omega
theorem Zox (es:List bh) (m:dD):(roots es m).2.B.length=m.B.length/\(roots es m).2.At.length=m.At.length/\(roots es m).2.next<=m.next+es.length/\m.next<=(roots es m).2.next/\(roots es m).1.length=12:=by
 have⟨b1,b2,b3,b4,b5⟩:=TQ es.length 12 0 (List.replicate 12 0) es m;rw[oF]at b5;grind[roots]
def tQ (l:List dP):Nat:=(l.map λx=>x.cj.length).sum
theorem TO: ∀(l:List dP) (jQ:ak) (m:dD),(uP l jQ m).2.B.length=m.B.length/\(uP l jQ m).2.At.length=m.At.length/\(uP l jQ m).2.next<=m.next+tQ l+l.length/\m.next<=(uP l jQ m).2.next/\(uP l jQ m).1.length=jQ.length+l.length
 |[],jQ,m=>⟨rfl,rfl,aO _,aO _,rfl⟩
 |x::r,jQ,m=>by
  have⟨a1,a2,a3,a4,a5⟩:=Zox x.cj m;have⟨b1,b2,b3,b4,b5⟩:=TO r (jQ++[((roots x.cj m).2.next:Int)]) (mE (roots x.cj m).2 (yW ⟨x.name,x.cj.length,(roots x.cj m).1⟩));have hn:(mE (roots x.cj m).2 (yW ⟨x.name,x.cj.length,(roots x.cj m).1⟩)).next=(roots x.cj m).2.next+1:=rfl;rw[hn]at b3 b4;have e:tQ (x::r)=x.cj.length+tQ r:=by rfl
  unfold uP;refine⟨b1.trans ((xO _ _).trans a1),b2.trans a2,?_,?_,?_⟩
  .rw[e,cO];simp only;omega
  .simp only;omega
  grind
theorem ZwD (l:List dP) (m:dD):(wA l m).2.B.length=m.B.length/\(wA l m).2.At.length=m.At.length/\(wA l m).2.next<=m.next+tQ l+l.length+1/\m.next<=(wA l m).2.next:=by
 have⟨a1,a2,a3,a4,a5⟩:=TO l [] m;unfold wA;simp only;cases Ac (uP l [] m).1 with
 |none=>grind
 |some s=>exact⟨(xO _ _).trans a1,a2,by show _+1<=_;omega,by show _<=_+1;omega⟩
theorem Zx5 (a k:Nat) (hk:k<64):(((a:Int).fdiv (2^(min k 64))).tmod 2==1)=eE a k:=by
 rw[nS (by omega),show((2:Int)^k)=((2^k:Nat):Int) by push_cast;rfl,tB];have e:((a/2^k:Nat):Int).tmod 2=((a/2^k%2:Nat):Int):=rfl;rw[e];grind[eE]
theorem Zyd {Bd:Zh} (hT:HA Bd) {Kn:ah->M ah} (n:Nat) (nm:aj) (es:List bh) (p:ai) (z0:Nat) (wW:z0=4\/p=none) (st:St) (hm:hJ st i ib ia m) (hs:Fz st p (bY es)) (dA: ∀e∈es,0<=e.slot/\e.slot<(m.At.length:Int)) (G0:m.next+es.length<=800000) (hB:m.B.length<1000000) (Gw:m.At.length<100000) (hle:es.length<100000) (hn:3020<=n)
  (aQ: ∀t,hJ t i ib ia (roots es m).2->Fx [i,ib,ia] st t->Ok Q (Kn [.a (.t nm:: .i (es.length:Int)::ints (roots es m).1)] t)):
  Ok Q (cS (λdw st=>
    ba st λcC st=>
    eR cC λq2 r3=>
    aD .i64 r3 λq3 r4=>
    bA r4 12<|
    bW 4 st λrest AX st=>
    aD .i64 st λk st=>
    aL st<|
    bif decide (k<12)then
     aC (decide (0<=k))<|
     cK (λst=>
      ba st λfC st=>
      eR fC λq4 r5=>
      aD .i64 r5 λq5 r6=>
      bA r6 12<|
      bW 4 st λY6 Y7 st=>
      aL st<|
      dw [.a ((.t q4)::(.i q5)::r6),.s 4 Y6 Y7,.i (ar (k+1))]) λbz=>
     bif ((q3.fdiv (2^(min k.toNat 64))).tmod 2)==1 then
      aC (decide (0<=k))<|
      aC (decide (0<=ar (1*2^(min k.toNat 64)))&&decide (ar (1*2^(min k.toNat 64))<=(AX:Int)))<|
      cQ (run Bd n 217 [.p (some (i,0)),.s 4 rest ((ar (1*2^(min k.toNat 64))).toNat)]) λds=>
      aD .i64 ds λx8 ds=>
      aL ds<|
      aC (aR k 12)<|
      aC (Nat.ble (k.toNat*1+2+1) 14)<|
      aC (decide (0<=k))<|
      aC (decide (0<=ar (1*2^(min k.toNat 64)))&&decide (ar (1*2^(min k.toNat 64))<=(AX:Int)))<|
      bz [.a ((.t q2)::(.i q3)::(cE r4 (k.toNat*1) [.i x8])),.s 4 (cU true rest (((ar (1*2^(min k.toNat 64))).toNat)*4)) (AX-((ar (1*2^(min k.toNat 64))).toNat))]
     else
      bz [.a ((.t q2)::(.i q3)::r4),.s 4 rest AX]
    else
     Kn [.a ((.t q2)::(.i q3)::r4)]) n [.a (.t nm:: .i (es.length:Int)::ints (List.replicate 12 0)),.s z0 p es.length,.i 0] st):=by
 have⟨G,hG⟩: ∃G,roots es m=G:=⟨_,rfl⟩;rw[hG]at aQ;unfold roots at hG;refine Zi _ (λq y t=>∃(k z:Nat) (p':ai) (iQ:ak) (m':dD),y=[.a (.t nm:: .i (es.length:Int)::ints iQ),.s z p' (es.length-es.length%2^k),.i (k:Int)]/\(z=4\/p'=none)/\k<=12/\12-k<=q/\iQ.length=12/\hJ t i ib ia m'/\Fx [i,ib,ia] st t/\Fz t p' (bY (es.drop (es.length%2^k)))/\m'.next<=m.next+es.length%2^k/\m'.B.length=m.B.length/\m'.At.length=m.At.length/\wm es.length (12-k) k iQ (es.drop (es.length%2^k)) m'=G) ?_ 12 n _ _ ⟨0,z0,p,List.replicate 12 0,m,by rw[Nat.pow_zero,Nat.mod_one,Fi];rfl,wW,cz _,by omega,oF,hm,.refl _ _,by rw[Nat.pow_zero,Nat.mod_one,dK];exact hs,by omega,rfl,rfl,by rw[Nat.pow_zero,Nat.mod_one,dK];exact hG⟩ (by omega);rintro q _ t ⟨k,z,p',iQ,m',rfl,YA,hk,hq,Ei,jX,cM,cF,G3,Cf,Ce,ec⟩ rec aN;have hZ:(ints iQ).length=12:=by simp[ints,Ei]
 rw[cT];rw[bR,av];rw[bI hZ];rw[Zg 4 z p' _ YA,av,aq];by_cases aw:k<12
 .have hw:ar ((k:Int)+1)=((k+1:Nat):Int):=Zc
  have h2k:2^k<=2^11:=nT (by decide) (by omega);have Kr:ar (1*2^(min k 64))=((2^k:Nat):Int):=by
   rw[nS (by omega),Int.one_mul,show((2:Int)^k)=((2^k:Nat):Int) by push_cast;rfl];exact Zc
  rw[ax (show(k:Int)<12 by omega),ae,Zb (ax (by omega))];simp only[bp,Kr,hw];rw[Za,Zx5 _ _ (by omega)];have WD:12-k=(12-(k+1))+1:=by omega
  rw[WD]at ec;unfold wm at ec;have emod:=mod_pow_succ es.length k;cases hb:eE es.length k with
  |true=>
   rw[hb,ae]at ec;have pj:=Zyy hb;rw[bE (mK hb)]at emod;rw[ae,Zb (ax (by omega)),Zb (by rw[aY,br,br];omega)];have⟨A,hA⟩: ∃A,es.drop (es.length%2^k)=A:=⟨_,rfl⟩;have yk:A.length=es.length-es.length%2^k:=by rw[<-hA,fa]
   rw[hA]at cF ec;have hAk:(A.take (2^k)).length=2^k:=by rw[cX];omega
   have wU:Fz t p' (bY (A.take (2^k))):=⟨by
    have:=cF.1.lC (2^k*4);rwa [ZnB]at this,cF.2⟩
   have tV:(DV.s 4 p' (2^k))= .s 4 p' (A.take (2^k)).length:=by rw[hAk]
   rw[tV];refine Ok.call (ZrC hT k n (A.take (2^k)) p' t jX wU hAk (λe he=>by rw[Ce];grind) (by omega) (by omega) (by rw[Cf];exact hB) (by rw[Ce];exact Gw) (by omega)) ?_;rintro _ ⟨t1,rfl,mo,mm⟩;refine⟨_,t1,rfl,?_⟩;rw[av,aq];rw[Zb (show aR (k:Int) 12=true from Zj aw),Z5 (by omega),Zb (ax (by omega)),Zb (by rw[aY,br,br];omega)];have⟨k1,k2,k3,k4⟩:=Zow k (A.take (2^k)) m';have dh:cE (ints iQ) (k*1) [.i ((pG k (A.take (2^k)) m').1:Int)]=ints (iQ.set k ((pG k (A.take (2^k)) m').1:Int)):=by
    rw[cR,BJ _ _ _ (by omega)];unfold ints;rw[List.map_set]
   rw[dh];have G4:(ints (iQ.set k ((pG k (A.take (2^k)) m').1:Int))).length=12:=by simp[ints,Ei]
   show Ok _ (ba [.a (.t nm:: .i (es.length:Int)::ints (iQ.set k ((pG k (A.take (2^k)) m').1:Int))),.s 4 (cU true p' (2^k*4)) (es.length-es.length%2^k-2^k)] _ t1);rw[cT];rw[bR,av];rw[bI G4];rw[aX,aq];have Yj:=cF.kp (jX.kp mm);have fW:es.drop (es.length%2^(k+1))=A.drop (2^k):=by rw[<-hA,kW,emod]
   have hlen:es.length-es.length%2^(k+1)=es.length-es.length%2^k-2^k:=by omega
   refine aN (12-(k+1)) _ _ (by omega) ⟨k+1,4,cU true p' (2^k*4),_,_,by rw[hlen],.inl rfl,by omega,aO _,by rw[nR,Ei],mo,cM.trans mm,?_,by omega,k1.trans Cf,k2.trans Ce,by rw[fW];exact ec⟩;rw[fW];refine⟨?_,?_⟩
   .have:=Yj.1.cU (k:=2^k*4) (by rw[Zt];omega)
    rwa [ZnK]at this
   .obtain⟨bi,bo,rfl⟩:=Yj.1.cH (by rw[Zt];omega)
    intro b o' e;have e':some (bi,2^k*4+bo)=some (b,o'):=e;cases e';exact Yj.2 bi bo rfl
  |false=>
   rw[hb,af]at ec;rw[bj (Fl hb),gV]at emod;rw[af];show Ok _ (ba [.a (.t nm:: .i (es.length:Int)::ints iQ),.s 4 p' (es.length-es.length%2^k)] _ t);rw[cT];rw[bR,av];rw[bI hZ];rw[aX,aq];exact aN (12-(k+1)) _ _ (by omega) ⟨k+1,4,p',iQ,m',by rw[emod];rfl,.inl rfl,by omega,aO _,Ei,jX,cM,by rw[emod];exact cF,by rw[emod];exact G3,Cf,Ce,by rw[emod];exact ec⟩
 .have:k=12:=by omega
  subst this;rw[aF (show ¬((12:Nat):Int)<12 by omega),af];have hG2:(iQ,m')=G:=ec;rw[<-hG2]at aQ;exact aQ t jX cM
theorem dT (cs r:ah) (K:ah->ah->M β):ba (.a cs::r) K=K cs r:=rfl
theorem Ztq (n:Nat) (l:List dP) (p:ai) (z:Nat) (ds:ah) (st:St) (hz:z=2\/p=none) (hm:hJ st i ib ia m) (hs:Fz st p ds) (hh:xu st ds l) (dA: ∀x∈l,∀e∈x.cj,0<=e.slot/\e.slot<(m.At.length:Int)) (wQ: ∀x∈l,x.name.length+600<=n/\x.name.length<60000/\x.cj.length<100000) (G0:m.next+tQ l+l.length<=700000) (hl:l.length<1000) (hB:m.B.length<1000000) (Gw:m.At.length<100000) (hn:4000<=n):
  Ok (λo=>∃gv,o=(.val [.i (wA l m).1],gv)/\hJ gv i ib ia (wA l m).2/\Fx [i,ib,ia] st gv) (run Bd n 189 [.p (some (i,0)),.s z p l.length] st):=by
 obtain⟨n,rfl⟩: ∃k,n=k+2:=⟨n-2,by omega⟩;rw[Ze,h.aeB];unfold Qq fB uD cw kd xy N_ jf cP aZ Li vV dY Ft iw
 try dsimp only
 rw[eH,Zg 2 z p _ hz,aq];have⟨T,hT⟩: ∃T,wA l m=T:=⟨_,rfl⟩;rw[hT];unfold wA at hT;have⟨l1,l2,l3⟩:=hm.lt;refine Ok.join λaz AG=>?_
 refine Zi _ (λq y t=>∃(k zk:Nat) (a:ai) (jQ:ak) (m':dD),y=[.s zk a jQ.length,.i (k:Int)]/\(zk=1\/a=none)/\k<=l.length/\l.length-k<=q/\hJ t i ib ia m'/\Fx [i,ib,ia] st t/\bm [] t a (ints jQ)/\(∀b∈aP a,st.length<=b)/\jQ.length=k/\m'.B.length=m.B.length/\m'.At.length=m.At.length/\m'.next+tQ (l.drop k)+(l.length-k)<=m.next+tQ l+l.length/\uP (l.drop k) jQ m'=uP l [] m) ?_ l.length (n+1) _ _ ⟨0,0,none,[],m,rfl,.inr rfl,cz _,by omega,hm,.refl _ _,bm.nil ⟨st,rfl⟩,(λ_ h=>by cases h),rfl,rfl,rfl,aO _,rfl⟩ (by omega);rintro q _ t ⟨k,zk,a,jQ,m',rfl,Yy,hk,hq,jX,cM,mu,pY,Aw,Cf,Ce,G3,aQ⟩ rec aN;simp only[av,Zg 1 zk a _ Yy,aq];have rj:=hm.kp cM;have cg:=hs.kp rj;have hht:=hh.kp rj;by_cases aw:k<l.length
 .have oZ:=hht.aM.len
  obtain⟨bi,bo,rfl⟩:=cg.1.cH (by rw[oZ];omega);have mZ:l[k]? =some l[k]:=cq aw;have fW:l.drop k=l[k]::l.drop (k+1):=iV aw;have iO:l[k]∈l:=kA aw;rw[fW]at aQ G3;generalize l[k]=x at mZ aQ G3 iO;have⟨zx,px,hzx,oq,p8,mm⟩:=hht.get mZ;have vm:tQ (x::l.drop (k+1))=x.cj.length+tQ (l.drop (k+1)):=by unfold tQ;rw[oG,List.sum_cons]
  rw[vm]at G3;have qa: ∀K:DV->M ah,bD bi (k*2+bo+1) K t=K (.s zx px x.cj.length) t:=λK=>by
   have:=cg.1.get p8 K;rw[<-this];congr 1;omega
  rw[ax (show(k:Int)<(l.length:Int) by omega),ae,Za,bd,Zb (Zj aw)];rw[bp];rw[cg.1.get oq];rw[zF];rw[bd,Zb (Zj aw),qa];rw[Z3 4 zx px _ hzx,bd,Zb (Zj aw),qa,Z3 4 zx px _ hzx];refine Ok.join λaW Cv=>?_
  have⟨n1,n2,n3⟩:=wQ x iO;refine Zyd h (n+1) x.name x.cj px 4 (.inl rfl) t jX mm (by grind) (by omega) (by omega) (by omega) n3 (by omega) (Kn:=aW) ?_;intro t1 mo fX;rw[Cv];have⟨k1,k2,k3,k4,k5⟩:=Zox x.cj m';have hZ:(ints (roots x.cj m').1).length=12:=by simp[ints,k5]
  show Ok _ (ba [.a (.t x.name:: .i (x.cj.length:Int)::ints (roots x.cj m').1)] _ t1);rw[cT];rw[bR,av];rw[bI hZ];rw[aq];refine Ok.cv (ZmH (n+1) ⟨x.name,x.cj.length,(roots x.cj m').1⟩ k5 n2 t1 (by grind)) λt2 aU=>?_
  rw[bR,aq];refine Ok.call (DT n (yW ⟨x.name,x.cj.length,(roots x.cj m').1⟩) t2 (mo.pre aU)) ?_;rintro _ ⟨t3,rfl,sL,fD⟩;refine⟨_,t3,rfl,?_⟩;rw[av,aq];have hw:ar ((k:Int)+1)=((k+1:Nat):Int):=Zc;rw[hw];have sK:Fx [i,ib,ia] t t3:=(fX.trans (Fx.pre _ aU)).trans (fD.mono λy hy=>by simp only[eF,tl,oH]at hy⊢;omega);have yA: ∀b∈aP a,b∉[i,ib,ia]:=λb hb lz=>by
   have:=pY b hb;simp only[eF,tl,oH]at lz;omega
  have Ep:=mu.fx sK yA;have⟨b,t4,r1,r2,r3,r4⟩:=zX (β:=ah) (lim:=8796093022208) Ep (sz:=1) (n:=jQ.length) [.i ((roots x.cj m').2.next:Int)] (by omega) (by simp[ints]) rfl;refine Eq.mpr (congrArg (Ok _) (r4 _)) ?_;simp only[aX,aq];have AI:=sL.fx r3 λy hy=>by
   have:=pY y hy;omega
  refine aN (l.length-(k+1)) _ _ (by omega) ⟨k+1,1,some (b,0),jQ++[((roots x.cj m').2.next:Int)],_,?_,.inl rfl,by omega,aO _,AI,(cM.trans sK).step r3 λy hy=> .inr (pY y hy),?_,λy hy=>?_,?_,(xO _ _).trans (k1.trans Cf),k2.trans Ce,?_,aQ⟩
  .rw[bB];rfl
  .unfold ints
   rw[fq];exact r2
  .rw[cB.1 hy]
   have:=(cM.trans sK).1;omega
  .rw[bB,Aw];rfl
  .show(roots x.cj m').2.next+1+_+_<=_
   omega
 .rw[aF (show ¬(k:Int)<(l.length:Int) by omega),af,AG]
  rw[lW (by omega)]at aQ;have ec:uP l [] m=(jQ,m'):=aQ.symm;rw[ec]at hT;simp only at hT;have⟨d1,d2,d3,d4,d5⟩:=TO l [] m;rw[ec]at d3;simp only at d3;simp only[aX,aq];refine Ok.cv (ZlZ (n+1) jQ 1 a t (.inl rfl) mu.sl) λt1 aH=>?_
  cases Cz:Ac jQ with
  |none=>
   rw[Cz]at hT;unfold yZ;rw[bR,au,aq];rw[bn,ae,Zd,<-hT];exact .mk ⟨t1,rfl,jX.pre aH,cM.trans (Fx.pre _ aH)⟩
  |some s=>
   rw[Cz]at hT;unfold yZ;rw[bR,au,aq];rw[bu,af];refine Ok.call (DT n s t1 (jX.pre aH)) ?_;rintro _ ⟨t2,rfl,fw,fX⟩;refine⟨_,t2,rfl,?_⟩;rw[av,aq,Zd];rw[<-hT];exact .mk ⟨t2,rfl,fw,(cM.trans (Fx.pre _ aH)).trans (fX.mono λy hy=>by grind)⟩
theorem Zrp: ∀(l:List bw) (i:Nat) (x:bw),i<l.length->cE (bT l) (i*3) (eL x)=bT (l.set i x)
 |[],i,x,h=>by cases h
 |y::l,0,x,h=>by
  rw[tn];exact tF [] (eL y) (bT l) (eL x) rfl
 |y::l,i+1,x,h=>by
  have e:=Zrp l i x (by simpa using h);rw[vU];show(.b y.live:: .i y.gen:: .i y.block::cE (bT l) (i*3) (eL x):ah)=_;rw[e];rfl
theorem ZoL: ∀(l:List bw) (i:Nat) (x:bw) (b:Bool),l[i]? =some x->cE (bT l) (i*3) [.b b]=bT (l.set i { x with live:=b })
 |[],i,x,b,h=>by simp at h
 |y::l,0,x,b,h=>by
  simp only[kY,fT]at h;subst h;rw[tn];rfl
 |y::l,i+1,x,b,h=>by
  have e:=ZoL l i x b (by simpa using h);rw[vU];show(.b y.live:: .i y.gen:: .i y.block::cE (bT l) (i*3) [.b b]:ah)=_;rw[e];rfl
theorem Tc: ∀(l:List bw) (i:Nat) (x:bw) (b:Int),l[i]? =some x->cE (bT l) (i*3+2) [.i b]=bT (l.set i { x with block:=b })
 |[],i,x,b,h=>by simp at h
 |y::l,0,x,b,h=>by
  simp only[kY,fT]at h;subst h;rw[tn];exact tF [.b y.live,.i y.gen] [.i y.block] (bT l) [.i b] rfl
 |y::l,i+1,x,b,h=>by
  have e:=Tc l i x b (by simpa using h);rw[vU,Nat.add_right_comm];show(.b y.live:: .i y.gen:: .i y.block::cE (bT l) (i*3+2) [.i b]:ah)=_;rw[e];rfl
def xR (k:Int):ak->Int->Int
 |a::b::r,c=>xR k (b::r) (bif a==k then ar (b+1)else c)
 |_,c=>c
def K6 (aK At free:ak) (k:Nat):bw:=⟨!(At.getD k 0==0),aK.getD k 0,xR (k:Int) free (At.getD k 0)⟩
theorem Zzr {Kn:ah->M ah} (n:Nat) (free:ak) (pf:ai) (K i:Nat) (l:List bw) (x:bw) (s:St) (hf:Sl s pf (ints free)) (hl:l.length=7) (hi:i<7) (hx:l[i]? =some x) (ep:free.length<100000) (hn:free.length+1<n)
  (aQ:Ok Q (Kn [.a (bT (l.set i { x with block:=xR (K:Int) free x.block }))] s)):
  Ok Q (cS (λK4 st=>
       ba st λoV st=>
      bA oV 21<|
      aD .i64 st λk1 st=>
      aL st<|
      bif decide (ar (k1+1)<(free.length:Int))then
       bH pf λi7 o4=>
      aC (aR k1 free.length)<|
      bD i7 (k1.toNat*1+o4) λd4=>
      cY .i64 d4 λiH=>
      cK (λst=>
       ba st λxY st=>
      bA xY 21<|
      aL st<|
      K4 [.a xY,.i (ar (k1+1))]) λnG=>
      bif iH==(K:Int)then
       bH pf λi8 o5=>
      aC (aR (ar (k1+1)) free.length)<|
      bD i8 (((ar (k1+1)).toNat)*1+o5) λd5=>
      cY .i64 d5 λjG=>
      aC (aR (i:Int) 7)<|
      aC (Nat.ble (i*3+2+1) 21)<|
      nG [.a (cE oV (i*3+2) [.i (ar (jG+1))])]
      else
       nG [.a oV]
      else
       Kn [.a oV]) n [.a (bT l),.i 0] s):=by
 have aiE:l.set i { x with block:=x.block } =l:=by
  have GP:i<l.length:=by omega
  rw[cq GP]at hx;cases hx;simp
 have⟨G,hG⟩: ∃G,xR (K:Int) free x.block=G:=⟨_,rfl⟩;rw[hG]at aQ;refine Zi _ (λq y t=>∃(k:Nat) (c:Int),y=[.a (bT (l.set i { x with block:=c })),.i (k:Int)]/\k<=free.length/\free.length-k<=q/\t=s/\xR (K:Int) (free.drop k) c=G) ?_ free.length n _ _ ⟨0,x.block,by rw[aiE];rfl,cz _,by omega,rfl,hG⟩ (by omega);rintro q _ t ⟨k,c,rfl,hk,hq,rfl,ec⟩ rec aN;have cL:(bT (l.set i { x with block:=c })).length=21:=by rw[ZB,nR,hl]
 have hw:ar ((k:Int)+1)=((k+1:Nat):Int):=Zc;rw[cT,bI cL];rw[av,aq,hw];by_cases aw:k+1<free.length
 .have kM:k<free.length:=by omega
  have tY:free.drop k=free[k]::free.drop (k+1):=iV kM;have jb:free.drop (k+1)=free[k+1]::free.drop (k+2):=iV aw;rw[tY,jb]at ec;unfold xR at ec;rw[<-jb]at ec;obtain⟨bi,bo,rfl⟩:=hf.cH (by simp[ints];omega);have oq:(ints free)[k]? =some (.i free[k]):=ZD kM;have p8:(ints free)[k+1]? =some (.i free[k+1]):=ZD aw;rw[ax (show((k+1:Nat):Int)<(free.length:Int) by omega),ae,bd,Zb (Zj kM)];simp only[bp];rw[hf.dJ oq];rw[bg];rw[Za];cases he:(free[k]==(K:Int))with
  |false=>
   rw[he,af]at ec;rw[af];show Ok _ (ba [.a (bT (l.set i { x with block:=c }))] _ t);rw[cT,bI cL];rw[aq];exact aN (free.length-(k+1)) _ _ (by omega) (by grind)
  |true=>
   rw[he,ae]at ec;rw[ae,bd,Zb (Zj aw),hf.dJ p8];rw[bg];rw[Zb (show aR (i:Int) 7=true from Zj hi),Z5 (by omega)];have lR:cE (bT (l.set i { x with block:=c })) (i*3+2) [.i (ar (free[k+1]+1))]=bT (l.set i { x with block:=ar (free[k+1]+1) }):=by
    rw[Tc _ i { x with block:=c } _ (by rw[kZ (by omega)]),List.set_set]
   rw[lR];have JF:(bT (l.set i { x with block:=ar (free[k+1]+1) })).length=21:=by rw[ZB,nR,hl]
   show Ok _ (ba [.a (bT (l.set i { x with block:=ar (free[k+1]+1) }))] _ t);rw[cT,bI JF];rw[aq];exact aN (free.length-(k+1)) _ _ (by omega) (by grind)
 .rw[aF (show ¬((k+1:Nat):Int)<(free.length:Int) by omega),af]
  have:xR (K:Int) (free.drop k) c=c:=by
   have jz:(free.drop k).length<=1:=by rw[fa];omega
   cases hdk:free.drop k with
   |nil=>unfold xR;rfl
   |cons a r=>
    rw[hdk]at jz;have:r=[]:=zu.1 (by rw[cO]at jz;omega);subst this;unfold xR;rfl
  rw[this]at ec;rw[ec];exact aQ
def oy (aK At free:ak) (f i:Nat):List bw:=(List.range 7).map λt=>bif decide (t<i)&&decide (f+t<aK.length)then K6 aK At free (f+t)else gT
def wZ (aK At free:ak) (f:Nat):List bw:=oy aK At free f 7
theorem BB (aK At free:ak) (f i:Nat):(oy aK At free f i).length=7:=by unfold oy;simp
theorem Zrh (aK At free:ak) (f i t:Nat) (h:t<7):(oy aK At free f i)[t]? =some (bif decide (t<i)&&decide (f+t<aK.length)then K6 aK At free (f+t)else gT):=by
 grind[oy]
theorem ZvU (aK At free:ak) (f i:Nat) (hi:i<7) (hf:f+i<aK.length):oy aK At free f (i+1)=(oy aK At free f i).set i (K6 aK At free (f+i)):=by
 refine tk λt=>?_
 by_cases ht:t<7
 .rw[Zrh _ _ _ _ _ _ ht]
  by_cases h:t=i
  .subst h
   rw[kZ (by rw[BB];exact ht),ax (show t<t+1 by omega),ax hf];rfl
  .rw[jv (by omega),Zrh _ _ _ _ _ _ ht]
   grind
 .rw[HD (by rw[BB];omega),HD (by rw[nR,BB];omega)]
theorem Zvh (aK At free:ak) (f i:Nat) (h:aK.length<=f+i):oy aK At free f i=wZ aK At free f:=by
 unfold wZ oy;refine Lo λt ht=>?_
 by_cases h2:f+t<aK.length
 .rw[ax (show t<i by omega),ax (ux.1 ht)]
 grind
theorem Zvz (aK At free:ak) (f:Nat):oy aK At free f 0=nH:=by
 rfl
theorem ZxH {Kn:ah->M ah} (n:Nat) (aK free:ak) (pg pf:ai) (f:Nat) (s:St) (hm:hJ s i ib ia m) (hg:Sl s pg (ints aK)) (dS:Sl s pf (ints free)) (jm:aK.length<100000) (ep:free.length<100000) (Gw:m.At.length=aK.length) (hf:f<100000) (hn:free.length+10<n) (wO:10<n)
  (aQ:Ok Q (Kn [.a (bT (wZ aK m.At free f))] s)):
  Ok Q (cS (λCW st=>
    ba st λwz st=>
    bA wz 21<|
    aD .i64 st λi3 st=>
    aL st<|
    cK (λst=>gC st λb3 st=>aL st<|
     bif b3 then
      cK (λst=>
       ba st λJl st=>
      bA Jl 21<|
      aL st<|
      CW [.a Jl,.i (ar (i3+1))]) λko=>
      bH pg λi4 o1=>
      aC (aR (ar ((f:Int)+i3)) aK.length)<|
      bD i4 (((ar ((f:Int)+i3)).toNat)*1+o1) λd1=>
      cY .i64 d1 λfN=>
      aC (aR i3 7)<|
      aC (Nat.ble (i3.toNat*3+3) 21)<|
      bH (some (i,0)) λi5 o2=>
      bD i5 (o2+2) λd2=>
      dr 1 d2 λgH zi=>
      bH gH λi6 o3=>
      aC (aR (ar ((f:Int)+i3)) zi)<|
      bD i6 (((ar ((f:Int)+i3)).toNat)*1+o3) λd3=>
      cY .i64 d3 λiG=>
      cK (λst=>
       ba st λD2 st=>
      bA D2 21<|
      aL st<|
      cK (λst=>
       ba st λJk st=>
      bA Jk 21<|
      aL st<|
      ko [.a Jk]) λqg=>
      cS (λK4 st=>
       ba st λoV st=>
      bA oV 21<|
      aD .i64 st λk1 st=>
      aL st<|
      bif decide (ar (k1+1)<(free.length:Int))then
       bH pf λi7 o4=>
      aC (aR k1 free.length)<|
      bD i7 (k1.toNat*1+o4) λd4=>
      cY .i64 d4 λiH=>
      cK (λst=>
       ba st λxY st=>
      bA xY 21<|
      aL st<|
      K4 [.a xY,.i (ar (k1+1))]) λnG=>
      bif iH==(ar ((f:Int)+i3))then
       bH pf λi8 o5=>
      aC (aR (ar (k1+1)) free.length)<|
      bD i8 (((ar (k1+1)).toNat)*1+o5) λd5=>
      cY .i64 d5 λjG=>
      aC (aR i3 7)<|
      aC (Nat.ble (i3.toNat*3+2+1) 21)<|
      nG [.a (cE oV (i3.toNat*3+2) [.i (ar (jG+1))])]
      else
       nG [.a oV]
      else
       qg [.a oV]) n [.a D2,.i 0]) λkR=>
      bif !(iG==0)then
       aC (aR i3 7)<|
      aC (Nat.ble (i3.toNat*3+1) 21)<|
      bH (some (i,0)) λi9 o6=>
      bD i9 (o6+2) λd6=>
      dr 1 d6 λnP aaw=>
      bH nP λi10 o7=>
      aC (aR (ar ((f:Int)+i3)) aaw)<|
      bD i10 (((ar ((f:Int)+i3)).toNat)*1+o7) λd7=>
      cY .i64 d7 λrN=>
      aC (aR i3 7)<|
      aC (Nat.ble (i3.toNat*3+2+1) 21)<|
      kR [.a (cE (cE (cE wz (i3.toNat*3) [.b false,.i fN,.i 0]) (i3.toNat*3) [.b true]) (i3.toNat*3+2) [.i rN])]
      else
       kR [.a (cE wz (i3.toNat*3) [.b false,.i fN,.i 0])]
     else
      Kn [.a wz]) λiD=>
    bif decide (i3<7)then
     iD [.b (decide (ar ((f:Int)+i3)<(aK.length:Int)))]
    else
     iD [.b false]) n [.a (bT nH),.i 0] s):=by
 refine Zi _ (λq y t=>∃(a:Nat),y=[.a (bT (oy aK m.At free f a)),.i (a:Int)]/\a<=7/\7-a<=q/\t=s) ?_ 7 n _ _ ⟨0,by rw[Zvz];rfl,cz _,by omega,rfl⟩ (by omega);rintro q _ t ⟨a,rfl,ha,hq,rfl⟩ rec aN;have cL:(bT (oy aK m.At free f a)).length=21:=by rw[ZB,BB]
 rw[cT,bI cL];rw[av,aq];have hw:ar ((f:Int)+(a:Int))=((f+a:Nat):Int):=Zc;have cG:ar ((a:Int)+1)=((a+1:Nat):Int):=Zc;simp only[hw,cG,bp];refine Ok.join λiD Ou=>?_
 have mA:oy aK m.At free f a=wZ aK m.At free f->Ok Q (iD [.b false] t):=λe=>by
  rw[Ou];simp only[au,aq];rw[af,e];exact aQ
 by_cases h7:a<7
 .rw[ax (show(a:Int)<7 by omega),ae]
  by_cases aw:f+a<aK.length
  .rw[ax (show((f+a:Nat):Int)<(aK.length:Int) by omega),Ou]
   simp only[au,aq];rw[ae];refine Ok.join λko XI=>?_
   obtain⟨bi,bo,rfl⟩:=hg.cH (by simp[ints];omega);have wN:(ints aK)[f+a]? =some (.i aK[f+a]):=ZD aw;rw[bd,Zb (Zj aw),hg.dJ wN];rw[bg];rw[Zb (show aR (a:Int) 7=true from Zj h7),Z5 (by omega),bd,Zo hm.cell rfl];rw[kb];have Oz:f+a<m.At.length:=by omega
   have XN: ∀K:DV->M ah,bD ia ((f+a)*1+0) K t=K (.i m.At[f+a]) t:=λK=>Zo hm.aa (by rw[cR,gV];exact ZD Oz) K
   rw[bd,Zb (Zj Oz),XN];rw[bg];have⟨L,hL⟩: ∃L,oy aK m.At free f a=L:=⟨_,rfl⟩;have hLl:L.length=7:=by rw[<-hL];exact BB _ _ _ _ _
   have hsB:K6 aK m.At free (f+a)=⟨!(m.At[f+a]==0),aK[f+a],xR ((f+a:Nat):Int) free m.At[f+a]⟩:=by
    unfold K6;rw[dW,cq Oz,dW,cq aw];rfl
   have ry:=ZvU aK m.At free f a h7 aw;rw[hL,hsB]at ry;rw[hL]at cL⊢;generalize m.At[f+a]=at' at XN ry;generalize aK[f+a]=g at wN ry;refine Ok.join λkR ahz=>?_
   have hA:Ok Q (kR [.a (bT (L.set a ⟨!(at'==0),g,at'⟩))] t):=by
    rw[ahz];have JF:(bT (L.set a ⟨!(at'==0),g,at'⟩)).length=21:=by rw[ZB,nR,hLl]
    show Ok _ (ba [.a (bT (L.set a ⟨!(at'==0),g,at'⟩))] _ t);rw[cT,bI JF];rw[aq];refine Ok.join λqg ahA=>?_
    refine Zzr n free pf (f+a) a (L.set a ⟨!(at'==0),g,at'⟩) ⟨!(at'==0),g,at'⟩ t dS (by rw[nR,hLl]) h7 (by rw[kZ (by omega)]) ep (by omega) (Kn:=qg) ?_;rw[List.set_set,<-ry,ahA];have abv:(bT (oy aK m.At free f (a+1))).length=21:=by rw[ZB,BB]
    show Ok _ (ba [.a (bT (oy aK m.At free f (a+1)))] _ t);rw[cT,bI abv];rw[aq];rw[XI];show Ok _ (ba [.a (bT (oy aK m.At free f (a+1)))] _ t);rw[cT,bI abv];rw[aq];exact aN (7-(a+1)) _ _ (by omega) (by grind)
   have eX:cE (bT L) (a*3) [.b false,.i g,.i 0]=bT (L.set a ⟨false,g,0⟩):=Zrp L a ⟨false,g,0⟩ (by omega);cases h0:(at'==0)with
   |true=>
    grind
   |false=>
    rw[h0]at hA;rw[bn,ae,Zb (show aR (a:Int) 7=true from Zj h7),Z5 (by omega),bd,Zo hm.cell rfl];rw[kb];rw[bd,Zb (Zj Oz),XN];rw[bg];rw[Zb (show aR (a:Int) 7=true from Zj h7),Z5 (by omega),eX];rw[ZoL _ a ⟨false,g,0⟩ true (by rw[kZ (by omega)]),List.set_set];rw[Tc _ a ⟨true,g,0⟩ at' (by rw[kZ (by omega)]),List.set_set];exact hA
  .rw[aF (show ¬((f+a:Nat):Int)<(aK.length:Int) by omega)]
   exact mA (Zvh _ _ _ _ _ (by omega))
 .rw[aF (show ¬(a:Int)<7 by omega),af]
  have:a=7:=by omega
  subst this;exact mA rfl
def xk (o:Option (aj)):aj:=o.getD []
theorem US (o:Option (aj)):yZ o=[.t (xk o),.b o.isSome]:=by cases o<;>rfl
def qW (leaves:ak) (i k:Nat):ak:=(List.range 16).map λt=>bif decide (t<k)&&decide (16*i+t<leaves.length)then leaves.getD (16*i+t) 0 else 0
def wB (leaves:ak) (i:Nat):ak:=qW leaves i 16
theorem FX (leaves:ak) (i k:Nat):(qW leaves i k).length=16:=by unfold qW;simp
theorem ZtE (leaves:ak) (i k t:Nat) (h:t<16):(qW leaves i k)[t]? =some (bif decide (t<k)&&decide (16*i+t<leaves.length)then leaves.getD (16*i+t) 0 else 0):=by
 grind[qW]
theorem Zxi (leaves:ak) (i k:Nat) (hk:k<16) (hf:16*i+k<leaves.length):qW leaves i (k+1)=(qW leaves i k).set k (leaves.getD (16*i+k) 0):=by
 refine tk λt=>?_
 by_cases ht:t<16
 .rw[ZtE _ _ _ _ ht]
  by_cases h:t=k
  .subst h
   rw[kZ (by rw[FX];exact ht),ax (show t<t+1 by omega),ax hf];rfl
  .rw[jv (by omega),ZtE _ _ _ _ ht]
   grind
 .rw[HD (by rw[FX];omega),HD (by rw[nR,FX];omega)]
theorem ZxC (leaves:ak) (i k:Nat) (h:leaves.length<=16*i+k):qW leaves i k=wB leaves i:=by
 unfold wB qW;refine Lo λt ht=>?_
 by_cases h2:16*i+t<leaves.length
 .rw[ax (show t<k by omega),ax (ux.1 ht)]
 grind
theorem Zwv (leaves:ak) (i:Nat):qW leaves i 0=List.replicate 16 0:=by
 rfl
theorem Zy6 {Kn:ah->M ah} (n:Nat) (leaves:ak) (pl:ai) (i:Nat) (s:St) (hl:Sl s pl (ints leaves)) (gp:leaves.length<100000) (hi:i<1000) (hn:20<n)
  (aQ:Ok Q (Kn [.a (ints (wB leaves i))] s)):
  Ok Q (cS (λdw st=>
       ba st λnr st=>
      bA nr 16<|
      aD .i64 st λk st=>
      aL st<|
      cK (λst=>gC st λb2 st=>aL st<|
       bif b2 then
       bH pl λi1 o=>
      aC (aR (ar (((16*i:Nat):Int)+k)) leaves.length)<|
      bD i1 (((ar (((16*i:Nat):Int)+k)).toNat)*1+o) λd=>
      cY .i64 d λfj=>
      aC (aR k 16)<|
      aC (Nat.ble (k.toNat*1+1) 16)<|
      dw [.a (cE nr (k.toNat*1) [.i fj]),.i (ar (k+1))]
      else
       Kn [.a nr]) λdp=>
      bif decide (k<16)then
       dp [.b (decide (ar (((16*i:Nat):Int)+k)<(leaves.length:Int)))]
      else
       dp [.b false]) n [.a (ints (List.replicate 16 0)),.i 0] s):=by
 refine Zi _ (λq y t=>∃(k:Nat),y=[.a (ints (qW leaves i k)),.i (k:Int)]/\k<=16/\16-k<=q/\t=s) ?_ 16 n _ _ ⟨0,by rw[Zwv];rfl,cz _,by omega,rfl⟩ (by omega);rintro q _ t ⟨k,rfl,hk,hq,rfl⟩ rec aN;have cL: ∀k,(ints (qW leaves i k)).length=16:=λk=>by simp[ints,FX]
 rw[cT,bI (cL k)];rw[av,aq];have hw:ar (((16*i:Nat):Int)+(k:Int))=((16*i+k:Nat):Int):=Zc;have cG:ar ((k:Int)+1)=((k+1:Nat):Int):=Zc;simp only[hw,cG,bp];refine Ok.join λdp hj6=>?_
 have mA:qW leaves i k=wB leaves i->Ok Q (dp [.b false] t):=λe=>by
  rw[hj6];simp only[au,aq];rw[af,e];exact aQ
 by_cases sH:k<16
 .rw[ax (show(k:Int)<16 by omega),ae]
  by_cases aw:16*i+k<leaves.length
  .rw[ax (show((16*i+k:Nat):Int)<(leaves.length:Int) by omega),hj6]
   simp only[au,aq];obtain⟨bi,bo,rfl⟩:=hl.cH (by simp[ints];omega);have hg:(ints leaves)[16*i+k]? =some (.i leaves[16*i+k]):=ZD aw;rw[ae,bd,Zb (Zj aw),hl.dJ hg];rw[bg];rw[Zb (show aR (k:Int) 16=true from Zj sH),Z5 (by omega)];have lR:cE (ints (qW leaves i k)) (k*1) [.i leaves[16*i+k]]=ints (qW leaves i (k+1)):=by
    rw[cR,BJ _ _ _ (by rw[cL];exact sH),Zxi _ _ _ sH aw,dW,cq aw];unfold ints;rw[List.map_set];rfl
   rw[lR];exact aN (16-(k+1)) _ _ (by omega) (by grind)
  .rw[aF (show ¬((16*i+k:Nat):Int)<(leaves.length:Int) by omega)]
   exact mA (ZxC _ _ _ (by omega))
 .rw[aF (show ¬(k:Int)<16 by omega),af]
  have:k=16:=by omega
  subst this;exact mA rfl
def si (aK free:ak):Nat->Nat->ak->dD->ak×dD
 |0,_,ls,m=>(ls,m)
 |c+1,f,ls,m=>bif decide (f<aK.length)then si aK free c (f+7) (ls++[(m.next:Int)]) (mE m (xk (xJ (wZ aK m.At free f))))else(ls,m)
def wC (leaves:ak):Nat->Nat->ak->dD->ak×dD
 |0,_,top,m=>(top,m)
 |c+1,i,top,m=>bif decide (16*i<leaves.length)then wC leaves c (i+1) (top.set i (m.next:Int)) (mE m (xk (uU (wB leaves i))))else(top,m)
def wi (aK free:ak) (m:dD):Nat×dD:=(λr:ak×dD=>bif Nat.beq r.1.length 0 then(0,r.2)else
 (λt:ak×dD=>(t.2.next,mE t.2 (xk (uU t.1)))) (wC r.1 16 0 (List.replicate 16 0) r.2)) (si aK free aK.length 0 [] m)
theorem Zmg (aK free:ak): ∀(c f:Nat) (ls:ak) (m:dD),(si aK free c f ls m).2.B.length=m.B.length/\(si aK free c f ls m).2.At=m.At/\(si aK free c f ls m).2.next<=m.next+c/\m.next<=(si aK free c f ls m).2.next
 |0,f,ls,m=>⟨rfl,rfl,aO _,aO _⟩
 |c+1,f,ls,m=>by
  unfold si;cases decide (f<aK.length)with
  |true=>
   rw[ae];have⟨b1,b2,b3,b4⟩:=Zmg aK free c (f+7) (ls++[(m.next:Int)]) (mE m (xk (xJ (wZ aK m.At free f))));have hn:(mE m (xk (xJ (wZ aK m.At free f)))).next=m.next+1:=rfl;exact⟨b1.trans (xO _ _),b2,by omega,by omega⟩
  |false=>simp
theorem Zpp (leaves:ak): ∀(c i:Nat) (top:ak) (m:dD),(wC leaves c i top m).2.B.length=m.B.length/\(wC leaves c i top m).2.At=m.At/\(wC leaves c i top m).2.next<=m.next+c/\m.next<=(wC leaves c i top m).2.next/\(wC leaves c i top m).1.length=top.length
 |0,i,top,m=>⟨rfl,rfl,aO _,aO _,rfl⟩
 |c+1,i,top,m=>by
  unfold wC;cases decide (16*i<leaves.length)with
  |true=>
   rw[ae];have⟨b1,b2,b3,b4,b5⟩:=Zpp leaves c (i+1) (top.set i (m.next:Int)) (mE m (xk (uU (wB leaves i))));have hn:(mE m (xk (uU (wB leaves i)))).next=m.next+1:=rfl;exact⟨b1.trans (xO _ _),b2,by omega,by omega,by rw[b5,nR]⟩
  |false=>simp
theorem ZtU (aK free:ak) (m:dD):(wi aK free m).2.B.length=m.B.length/\(wi aK free m).2.At=m.At/\(wi aK free m).2.next<=m.next+aK.length+17/\m.next<=(wi aK free m).2.next:=by
 have⟨b1,b2,b3,b4⟩:=Zmg aK free aK.length 0 [] m;unfold wi;simp only;cases Nat.beq (si aK free aK.length 0 [] m).1.length 0 with
 |true=>grind
 |false=>
  have⟨c1,c2,c3,c4,_⟩:=Zpp (si aK free aK.length 0 [] m).1 16 0 (List.replicate 16 0) (si aK free aK.length 0 [] m).2;rw[af];exact⟨(xO _ _).trans (c1.trans b1),c2.trans b2,by show _+1<=_;omega,by show _<=_+1;omega⟩
theorem Zqf (n:Nat) (x:fJ) (z1 z2 z3:Nat) (p1 p2 p3:ai) (st:St) (kQ:z1=2\/p1=none) (gS:z2=1\/p2=none) (mB:z3=1\/p3=none) (hm:hJ st i ib ia m) (hg:Fz st p2 (ints x.aK)) (dS:Fz st p3 (ints x.free)) (jm:x.aK.length<90000) (ep:x.free.length<90000) (Gw:m.At.length=x.aK.length) (G0:m.next+x.aK.length<=700000) (hB:m.B.length<1000000) (hn:x.aK.length+x.free.length+1000<=n):
  Ok (λo=>∃gv,o=(.val [.i (wi x.aK x.free m).1],gv)/\hJ gv i ib ia (wi x.aK x.free m).2/\Fx [i,ib,ia] st gv) (run Bd n 190 [.p (some (i,0)),.a (dE x z1 p1 z2 p2 z3 p3)] st):=by
 obtain⟨n,rfl⟩: ∃k,n=k+2:=⟨n-2,by omega⟩;rw[Ze,h.aeC];unfold QB Zx fB uD cw cP aA Zm kd Zn Li vV Lb dY aZ rX Ds iw
 try dsimp only
 rw[eH];rw[cT];unfold dE;simp only[av,Zg 2 z1 p1 _ kQ,Zg 1 z2 p2 _ gS,Zg 1 z3 p3 _ mB,aq];have⟨l1,l2,l3⟩:=hm.lt;have⟨T,hT⟩: ∃T,wi x.aK x.free m=T:=⟨_,rfl⟩;rw[hT];unfold wi at hT;have⟨RL,hRL⟩: ∃RL,si x.aK x.free x.aK.length 0 [] m=RL:=⟨_,rfl⟩;rw[hRL]at hT;simp only at hT;have fD: ∀ {a b:St},Fx [i,ib] a b->Fx [i,ib,ia] a b:=λk=>k.mono λy hy=>by grind
 have yA: ∀ {a:ai},(∀b∈aP a,st.length<=b)->∀b∈aP a,b∉[i,ib,ia]:=λpY b hb lz=>by
  grind
 refine Ok.join λaz AG=>?_
 refine Zi _ (λq y t=>∃(c f zk:Nat) (a:ai) (ls:ak) (m':dD),y=[.s zk a ls.length,.i (f:Int)]/\(zk=1\/a=none)/\f<=x.aK.length+7/\x.aK.length+7-f<=q/\hJ t i ib ia m'/\Fx [i,ib,ia] st t/\bm [] t a (ints ls)/\(∀b∈aP a,st.length<=b)/\m'.B.length=m.B.length/\m'.At.length=m.At.length/\m'.next<=m.next+f/\ls.length<=f/\x.aK.length<=c+f/\si x.aK x.free c f ls m'=RL) ?_ (x.aK.length+7) (n+1) _ _ ⟨x.aK.length,0,0,none,[],m,rfl,.inr rfl,cz _,by omega,hm,.refl _ _,bm.nil ⟨st,rfl⟩,(λ_ h=>by cases h),rfl,rfl,by omega,cz _,by omega,hRL⟩ (by omega);rintro q _ t ⟨c,f,zk,a,ls,m',rfl,Yy,hf,hq,jX,cM,mu,pY,Cf,Ce,G3,gp,hc,aQ⟩ rec aN;simp only[av,Zg 1 zk a _ Yy,aq];have rj:=hm.kp cM;have JM:=hg.kp rj;have wL:=dS.kp rj;by_cases aw:f<x.aK.length
 .obtain⟨c,rfl⟩: ∃c',c=c'+1:=⟨c-1,by omega⟩
  unfold si at aQ;rw[ax aw,ae]at aQ;rw[ax (by omega),ae];refine Ok.join λgN XK=>?_
  refine Ok.join λiC XL=>?_
  refine ZxH (n+1) x.aK x.free p2 p3 f t jX JM.1 wL.1 (by omega) (by omega) (by omega) (by omega) (by omega) (by omega) (Kn:=iC) ?_;rw[XL];have cL:(bT (wZ x.aK m'.At x.free f)).length=21:=by rw[ZB];show(oy _ _ _ _ _).length*3=_;rw[BB]
  show Ok _ (ba [.a (bT (wZ x.aK m'.At x.free f))] _ t);rw[cT,bI cL];rw[aq];refine Ok.cv (ZlI (n+1) (wZ x.aK m'.At x.free f) (BB _ _ _ _ _) t) λt1 aH=>?_
  rw[US];rw[bR,au,aq];refine Ok.call (DT n (xk (xJ (wZ x.aK m'.At x.free f))) t1 (jX.pre aH)) ?_;rintro _ ⟨t2,rfl,fw,fX⟩;refine⟨_,t2,rfl,?_⟩;rw[av,aq];have sK:Fx [i,ib,ia] t t2:=(Fx.pre _ aH).trans (fD fX);have Ep:=mu.fx sK (yA pY);have⟨b,t4,r1,r2,r3,r4⟩:=zX (β:=ah) (lim:=8796093022208) Ep (sz:=1) (n:=ls.length) [.i (m'.next:Int)] (by omega) (by simp[ints]) rfl;refine Eq.mpr (congrArg (Ok _) (r4 _)) ?_;rw[XK];simp only[aX,aq];have hw:ar ((f:Int)+7)=((f+7:Nat):Int):=Zc;rw[hw];have AI:=fw.fx r3 λy hy=>by
   have:=pY y hy;omega
  refine aN (x.aK.length+7-(f+7)) _ _ (by omega) ⟨c,f+7,1,some (b,0),ls++[(m'.next:Int)],_,?_,.inl rfl,by omega,aO _,AI,(cM.trans sK).step r3 λy hy=> .inr (pY y hy),?_,λy hy=>?_,(xO _ _).trans Cf,Ce,?_,?_,by omega,aQ⟩
  .rw[bB];rfl
  .unfold ints
   rw[fq];exact r2
  .rw[cB.1 hy]
   have:=(cM.trans sK).1;omega
  .show m'.next+1<=_
   omega
  .rw[bB];show _+1<=_;omega
 .rw[aF (by omega),af,AG]
  have hRe:RL=(ls,m'):=by
   rw[<-aQ];cases c with
   |zero=>rfl
   |succ c=>unfold si;rw[aF aw];rfl
  rw[hRe]at hT;simp only at hT;simp only[aX,aq];by_cases h0:ls.length=0
  .rw[h0]at hT⊢
   have hT2:(0,m')=T:=hT;rw[show(((0:Nat):Int)==0)=true from rfl,ae,Zd,<-hT2];exact .mk ⟨t,rfl,jX,cM⟩
  .have yo:Nat.beq ls.length 0=false:=by
    cases hb:Nat.beq ls.length 0 with
    |false=>rfl
    |true=>exact absurd (dL hb) h0
   rw[yo,af]at hT;rw[show((ls.length:Int)==0)=false from eG.2 (by omega),af];have⟨RF,hRF⟩: ∃RF,wC ls 16 0 (List.replicate 16 0) m'=RF:=⟨_,rfl⟩;rw[hRF]at hT;refine Ok.join λaI JP=>?_
   refine Zi _ (λq y u=>∃(k:Nat) (top:ak) (m2:dD),y=[.a (ints top),.i (k:Int)]/\k<=16/\16-k<=q/\hJ u i ib ia m2/\Fx [i,ib,ia] t u/\top.length=16/\m2.B.length=m.B.length/\m2.next<=m'.next+k/\wC ls (16-k) k top m2=RF) ?_ 16 (n+1) _ _ ⟨0,List.replicate 16 0,m',rfl,cz _,by omega,jX,.refl _ _,oF,Cf,by omega,hRF⟩ (by omega);rintro q2 _ u ⟨k,top,m2,rfl,hk,Ew,hmu,fK,ui,WN,aky,ec⟩ dw j4;have cL:(ints top).length=16:=by simp[ints,ui]
   rw[cT,bI cL];rw[av,aq];have hw:ar (16*(k:Int))=((16*k:Nat):Int):=by rw[Zc];omega
   have cG:ar ((k:Int)+1)=((k+1:Nat):Int):=Zc;rw[hw,cG];have hou:=mu.fx fK (yA pY);refine Ok.join λaW Cv=>?_
   have mA:RF=(top,m2)->Ok (λo=>∃gv,o=(.val [.i T.1],gv)/\hJ gv i ib ia T.2/\Fx [i,ib,ia] st gv) (aW [.b false] u):=λe=>by
    rw[Cv];simp only[au,aq];rw[af,JP];show Ok _ (ba [.a (ints top)] _ u);rw[cT,bI cL];rw[aq];rw[e]at hT;simp only at hT;refine Ok.cv (SX (n+1) top ui u) λu1 aH=>?_
    rw[US];rw[bR,au,aq];refine Ok.call (DT n (xk (uU top)) u1 (hmu.pre aH)) ?_;rintro _ ⟨u2,rfl,sL,Cr⟩;refine⟨_,u2,rfl,?_⟩;rw[av,aq,Zd];rw[<-hT];exact .mk ⟨u2,rfl,sL,((cM.trans fK).trans (Fx.pre _ aH)).trans (fD Cr)⟩
   by_cases sH:k<16
   .rw[ax (by omega),ae]
    have WE:16-k=(16-(k+1))+1:=by omega
    rw[WE]at ec;unfold wC at ec;by_cases fY:16*k<ls.length
    .rw[ax fY,ae]at ec
     rw[ax (by omega),Cv];simp only[au,aq];rw[ae];refine Ok.join λbz Ot=>?_
     refine Ok.join λck XJ=>?_
     refine Zy6 (n+1) ls a k u hou.sl (by omega) (by omega) (by omega) (Kn:=ck) ?_;rw[XJ];have yr:(ints (wB ls k)).length=16:=by rw[ints,lG];exact FX _ _ _
     show Ok _ (ba [.a (ints (wB ls k))] _ u);rw[cT,bI yr];rw[aq];refine Ok.cv (SX (n+1) (wB ls k) (FX _ _ _) u) λu1 aH=>?_
     rw[US];rw[bR,au,aq];refine Ok.call (DT n (xk (uU (wB ls k))) u1 (hmu.pre aH)) ?_;rintro _ ⟨u2,rfl,sL,Cr⟩;refine⟨_,u2,rfl,?_⟩;rw[av,aq];rw[Zb (show aR (k:Int) 16=true from Zj sH)];rw[bp];rw[Z5 (by omega)];have lR:cE (ints top) (k*1) [.i (m2.next:Int)]=ints (top.set k (m2.next:Int)):=by
      rw[cR,BJ _ _ _ (by omega)];unfold ints;rw[List.map_set]
     rw[lR,Ot];have JF:(ints (top.set k (m2.next:Int))).length=16:=by simp[ints,ui]
     show Ok _ (ba [.a (ints (top.set k (m2.next:Int)))] _ u2);rw[cT,bI JF];rw[aq];exact j4 (16-(k+1)) _ _ (by omega) ⟨k+1,_,_,rfl,by omega,aO _,sL,(fK.trans (Fx.pre _ aH)).trans (fD Cr),by rw[nR,ui],(xO _ _).trans WN,by show m2.next+1<=_;omega,ec⟩
    .rw[aF fY,af]at ec
     rw[aF (by omega)];exact mA ec.symm
   .have:k=16:=by omega
    subst this;rw[aF (by omega),af];exact mA ec.symm
def PI (x:cy):aj:=db (eZ x.seq) 8++db (eZ x.blocks) 4++db (eZ x.de) 4++db (eZ x.g) 4++db (eZ x.used) 4++db (eZ x.free) 4++db (eZ x.cc) 2++db (eZ x.dir) 2++js x.aJ
def xQ (x:cy):aj:=iS 7 x.aJ.length (PI x)
theorem ZmT (n:Nat) (x:cy) (p:ai) (st:St) (hs:Sl st p (ints x.aJ)) (hl:x.aJ.length<1000:=by omega) (hn:2600<=n:=by omega):
  Ok (λo=>∃s',o=(.val [.t (xQ x)],s')/\aB st s') (run Bd n 191 [.a (dj x p)] st):=by
 obtain⟨n,rfl⟩: ∃k,n=k+2:=⟨n-2,by omega⟩;rw[Ze,h.aeD];unfold S7 xD jw Df tt jf uK Zn ZC pQ Ls eI dj
 try dsimp only
 rw[cT];simp only[av,aX,aq,FO];have lay:=λv k (hk:k<=20) s=>tz (n+1) (eZ v) k (tC v) s
 refine Ok.cx (lay x.seq 8 (by omega) st) λs1 aH=>?_
 rw[bR,aq];refine Ok.cx (lay x.blocks 4 (by omega) s1) λs2 aU=>?_
 rw[bR,aq];rw[Z5 (by simp[ZA])];refine Ok.cx (lay x.de 4 (by omega) s2) λs3 cu=>?_
 rw[bR,aq];rw[Z5 (by simp[bB,ZA])];refine Ok.cx (lay x.g 4 (by omega) s3) λs4 fy=>?_
 rw[bR,aq];rw[Z5 (by simp[bB,ZA])];refine Ok.cx (lay x.used 4 (by omega) s4) λs5 jZ=>?_
 rw[bR,aq];rw[Z5 (by simp[bB,ZA])];refine Ok.cn (lay x.free 4 (by omega) s5) λs6 hp6=>?_
 rw[bR,aq];rw[Z5 (by simp[bB,ZA])];refine Ok.cx (lay x.cc 2 (by omega) s6) λs7 hp7=>?_
 rw[bR,aq];rw[Z5 (by simp[bB,ZA])];refine Ok.cn (lay x.dir 2 (by omega) s7) λs8 hp8=>?_
 rw[bR,aq];rw[Z5 (by simp[bB,ZA]),Za];have hP:=((((((aH.trans aU).trans cu).trans fy).trans jZ).trans hp6).trans hp7).trans hp8;unfold xQ PI;have⟨A,hA⟩: ∃A,db (eZ x.seq) 8++db (eZ x.blocks) 4++db (eZ x.de) 4++db (eZ x.g) 4++db (eZ x.used) 4++db (eZ x.free) 4++db (eZ x.cc) 2++db (eZ x.dir) 2=A:=⟨_,rfl⟩;have yk:A.length=32:=by rw[<-hA];simp only[bB,ZA]
 rw[hA];refine Zi _ (λq y s=>∃i:Nat,y=[.t (A++js (x.aJ.take i)),.i (i:Int)]/\i<=x.aJ.length/\x.aJ.length-i<=q/\aB st s) ?_ x.aJ.length (n+1) _ _ ⟨0,by rw[List.take_zero];show _=[DV.t (A++[]),_];rw[gz];rfl,cz _,by omega,hP⟩ (by omega);rintro q _ s ⟨i,rfl,hi,hq,iB⟩ rec aN;rw[bR,av,aq];by_cases aw:i<x.aJ.length
 .have dA:=hs.mono iB
  obtain⟨i1,o1,rfl⟩:=dA.cH (by simp[ints];omega);rw[ax (show(i:Int)<(x.aJ.length:Int) by omega),ae,bd,Zb (Zj aw),bp,dA.dJ (ZD aw)];rw[bg];refine Ok.cv (lay x.aJ[i] 2 (by omega) s) λs5 jZ=>?_
  rw[bR,aq];rw[Z5 (by rw[bB,uO,ZA,cX,yk];omega),Zc];exact aN (x.aJ.length-(i+1)) _ _ (by omega) ⟨i+1,by rw[Ih _ aw,fI];rfl,by omega,aO _,iB.trans jZ⟩
 .rw[aF (show ¬(i:Int)<(x.aJ.length:Int) by omega),af]
  rw[dG (by omega)];refine Ok.cv (By (n+1) 7 x.aJ.length (A++js x.aJ) (by rw[bB,uO];omega) s (by rw[bB,uO];omega)) λs5 jZ=>?_
  rw[bR,aq,Zd];exact .mk ⟨s5,rfl,iB.trans jZ⟩
def ZW (a n:Nat):ak:=(List.range n).map λi=>((a+i:Nat):Int)
theorem vX (a n:Nat):(ZW a n).length=n:=by unfold ZW;simp
theorem Znl (a n:Nat):ZW a (n+1)=ZW a n++[((a+n:Nat):Int)]:=by simp[ZW,qy,fq]
theorem ZvX {a:Nat} {x:Int} (h:x∈ZW a n):(a:Int)<=x/\x<((a+n:Nat):Int):=by
 grind[ZW]
def F0 (used:ak):Nat->Nat->dD->dD
 |0,_,m=>m
 |c+1,i,m=>F0 used c (i+1) (mE m (uM (gr i used)))
def CL (x:fJ):dD:=⟨mc (64*x.blocks.toNat),2,List.replicate x.aK.length 0⟩
def KS (x:fJ):Nat:=(x.blocks.toNat+383)/384
def Gc (l:ak):Int:=match l with
 |[]=>0
 |k::_=>ar (k+1)
def yP (x:fJ):Nat×dD:=wA x.aM (CL x)
def mC (x:fJ):Nat×dD:=wi x.aK x.free (yP x).2
def ju (x:fJ) (fm:Int):cy:=⟨fm,x.blocks,x.de,x.g,(mC x).1,x.aK.length,Gc x.free,(yP x).1,ZW (mC x).2.next (KS x)⟩
def y9 (x:fJ):ak:=ZW 0 ((mC x).2.next+KS x)
def F6 (x:fJ) (fm place:Int):Option (aj×cy):=
 bif decide (((y9 x).length:Int)>x.blocks)|| !ZU (ju x fm)then none else
  some (CT (F0 (y9 x) (KS x) 0 (mC x).2).B (64*(place%2).toNat) (xQ (ju x fm)),ju x fm)
theorem Zv5 (n:Nat):il n [.i 0]=ints (List.replicate n 0):=by
 simp[il,ints]
def Zzf:ah:=[.s 0 none 0,.a [.i 0,.i 0,.i 0,.i 0,.i 0,.i 0,.i 0,.i 0,.s 0 none 0],.b false]
structure adm (st gv:St) (B:List UInt8) (s:cy) (ib:Nat) (q:Option (Nat×Nat)):Prop where
 new:st.length<=ib
 eY:gv[ib]? =some (some ⟨false,bU B⟩)
 own:bm [] gv q (ints s.aJ)
 q: ∀b∈aP q,st.length<=b/\b≠ib
def V6 (st:St) (x:fJ) (fm place:Int) (o:Out ah×St):Prop:=∃gv,aB st gv/\
 ((∃B s ib q,sa x/\F6 x fm place=some (B,s)/\o=(.val [.s 1 (some (ib,0)) B.length,.a (dj s q),.b true],gv)/\adm st gv B s ib q)\/
  ((sa x->F6 x fm place=none)/\o=(.val Zzf,gv)))
theorem ZrK (l:List dP):tQ l=((l.map (·.cj)).flatten).length:=by
 unfold tQ;induction l with
 |nil=>rfl
 |cons x l ih=>rw[oG,List.sum_cons,ih,oG,Da,bB]
theorem Zp4 (n:Nat) (x:fJ) (z1 z2 z3:Nat) (p1 p2 p3:ai) (fm place:Int) (st:St) (kQ:z1=2\/p1=none) (gS:z2=1\/p2=none) (mB:z3=1\/p3=none) (hx:Dm st x p1 p2 p3) (sz:Dn x) (lP: -9223372036854775808<=place/\place<=9223372036854775807) (hn:60000<=n):
  Ok (V6 st x fm place) (run Bd n 170 [.a (dE x z1 p1 z2 p2 z3 p3),.i fm,.i place] st):=by
 obtain⟨n,rfl⟩: ∃k,n=k+3:=⟨n-3,by omega⟩;rw[Ze,h.aet];unfold RE Zx iX bq cw HW fB aA Q_ tp jw cN jf kd Zm LR Bs lH Li gJ ZX uF vV Lb dY aZ iw uR HY
 try dsimp only
 have ag: ∀(l:ah) (K:ah->ah->M ah),ba (.a (dE x z1 p1 z2 p2 z3 p3)::l) K=K (dE x z1 p1 z2 p2 z3 p3) l:=λ_ _=>rfl
 rw[ag];unfold dE;simp only[av,Zg 2 z1 p1 _ kQ,Zg 1 z2 p2 _ gS,Zg 1 z3 p3 _ mB,aq];refine Ok.call (ZsX (n+2) x 2 1 1 p1 p2 p3 st (.inl rfl) (.inl rfl) (.inl rfl) hx.str sz (by omega)) ?_;rintro _ ⟨b,s1,rfl,aH,hb⟩;refine⟨_,s1,rfl,?_⟩;rw[au,aq];cases b with
 |false=>
  rw[bn,ae,Zd];exact .mk ⟨s1,aH,.inr ⟨λhm=>(by cases hb.2 hm),rfl⟩⟩
 |true=>
 have hm:=hb.1 rfl;rw[bu,af];have⟨g1,g2,g3,g4,g5,g6⟩:=Z4 hm.N2;have⟨bl,jl⟩: ∃bl:Nat,x.blocks=bl:=⟨x.blocks.toNat,by omega⟩;have jm:x.aK.length<=1792:=by have:=hm.de;omega
 have yq:x.blocks.toNat=bl:=by omega
 have hw:ar (64*x.blocks)=((64*bl:Nat):Int):=by rw[jl,Zc];omega
 simp only[hw,bp];rw[Zb (by rw[aY,aY,br,br,br];omega),Zz];rw[Zb (by rw[aY,aY,br,br,br];omega),Zz,Zz,ZqG,Zv5];have l1: ∀c,(s1++[some (c:bO)]).length=s1.length+1:=λc=>by simp
 have l2: ∀c d,((s1++[some (c:bO)])++[some (d:bO)]).length=s1.length+2:=λc d=>by simp
 rw[l1,l2];have⟨S0,D7⟩: ∃S0,((s1++[some (⟨false,bU (mc (64*bl))⟩:bO)])++[some (⟨false,ints (List.replicate x.aK.length 0)⟩:bO)])++[some (⟨false,[.s 1 (some (s1.length,0)) (64*bl),.i 2,.s 1 (some (s1.length+1,0)) x.aK.length]⟩:bO)]=S0:=⟨_,rfl⟩;rw[D7];have hpS:aB s1 S0:=by rw[<-D7];exact(((aB.new _ _).trans (aB.new _ _)).trans (aB.new _ _))
 have hlS:S0.length=s1.length+3:=by rw[<-D7];simp
 have rB:(mc (64*bl)).length=64*bl:=by unfold mc;simp
 have WX:hJ S0 (s1.length+2) s1.length (s1.length+1) (CL x):=by
  unfold CL;rw[yq];refine⟨?_,?_,?_,by omega,by omega,by omega⟩
  .rw[<-D7,rB,oF];simp
  .rw[<-D7];simp
  .rw[<-D7];simp
 clear D7;have OO:=aH.trans hpS;have Yu:=hx.kp OO.kp;have⟨ds,tY,jb⟩:=Yu.hp;have iO: ∀g∈x.aM,∀e∈g.cj,e∈Zq x:=λg hg e he=>List.mem_flatten.2 (by grind)
 have yk:(CL x).At.length=x.aK.length:=oF;have hBl:(CL x).B.length=64*bl:=by show(mc _).length=_;rw[yq,rB]
 have vm:=ZrK x.aM;have akj:tQ x.aM<=50000:=by rw[vm];exact sz.e
 have ub:=hm.D4;have Em:(CL x).next=2:=rfl;refine Ok.call (Ztq (n+2) x.aM p1 2 ds S0 (.inl rfl) WX tY jb (λg hg e he=>by
  have:=hm.range e.slot (by grind);rw[yk];exact this) (λg hg=>⟨by have:=sz.h.name g hg;omega,by have:=sz.h.name g hg;omega,by have:=sz.h.cj g hg;omega⟩) (by omega) (by omega) (by omega) (by omega) (by omega)) ?_
 rintro _ ⟨S1,rfl,hM1,Co⟩;refine⟨_,S1,rfl,?_⟩;rw[av,aq];have⟨k1,k2,k3,k4⟩:=ZwD x.aM (CL x);have ahH:wA x.aM (CL x)=yP x:=rfl;rw[ahH]at hM1 k1 k2 k3 k4⊢;have AO:=Yu.kp (WX.kp Co);refine Ok.call (Zqf (n+2) x 2 1 1 p1 p2 p3 S1 (.inl rfl) (.inl rfl) (.inl rfl) hM1 AO.gn AO.fr (by omega) (by have:=sz.f;omega) (by omega) (by omega) (by omega) (by have:=sz.f;omega)) ?_;rintro _ ⟨S2,rfl,hM2,mW⟩;refine⟨_,S2,rfl,?_⟩;rw[av,aq];have⟨q1,q2,q3,q4⟩:=ZtU x.aK x.free (yP x).2;have ahI:wi x.aK x.free (yP x).2=mC x:=rfl;rw[ahI]at hM2 q1 q2 q3 q4⊢;have hfA:Fx [s1.length+2,s1.length,s1.length+1] S0 S2:=Co.trans mW;have ED:=Yu.kp (WX.kp hfA);have WN:(mC x).2.B.length=64*bl:=by omega
 have Ev: ∀t,Fx [s1.length+2,s1.length,s1.length+1] S0 t->aB st t:=λt k=>by
  refine Fx.acT ((Fx.pre [] OO).step k λy hy=> .inr ?_);have:=aH.len;grind
 have yA: ∀ {a:ai},(∀b∈aP a,S0.length<=b)->∀b∈aP a,b∉[s1.length+2,s1.length,s1.length+1]:=λpY b hb lz=>by
  grind
 refine Ok.join λaz AG=>?_
 have A1:Ok (V6 st x fm place) (az [.a [.i fm,.i x.blocks,.i x.de,.i x.g,.i (mC x).1,.i (x.aK.length:Int),.i (Gc x.free),.i (yP x).1,.s 0 none 0]] S2):=by
  rw[AG];show Ok _ (ba [.a [.i fm,.i x.blocks,.i x.de,.i x.g,.i (mC x).1,.i (x.aK.length:Int),.i (Gc x.free),.i (yP x).1,.s 0 none 0]] _ S2);rw[dT [.i fm,.i x.blocks,.i x.de,.i x.g,.i (mC x).1,.i (x.aK.length:Int),.i (Gc x.free),.i (yP x).1,.s 0 none 0] []];simp only[av,Zg 1 0 none _ (.inr rfl),aq];refine Ok.join λaI JP=>?_
  have⟨N,hN⟩: ∃N,(mC x).2.next=N:=⟨_,rfl⟩;have⟨C,hC⟩: ∃C,KS x=C:=⟨_,rfl⟩;have hCe:(bl+383)/384=C:=by rw[<-hC];unfold KS;rw[yq]
  refine Zi _ (λq y t=>∃(k z:Nat) (a:ai),y=[.a [.i fm,.i x.blocks,.i x.de,.i x.g,.i (mC x).1,.i (x.aK.length:Int),.i (Gc x.free),.i (yP x).1,.s z a (ZW N k).length],.i (k:Int)]/\(z=1\/a=none)/\k<=C/\C-k<=q/\hJ t (s1.length+2) s1.length (s1.length+1) (mC x).2/\Fx [s1.length+2,s1.length,s1.length+1] S0 t/\bm [] t a (ints (ZW N k))/\∀b∈aP a,S0.length<=b) ?_ C (n+2) _ _ ⟨0,1,none,rfl,.inr rfl,cz _,by omega,hM2,hfA,bm.nil ⟨S2,rfl⟩,λ_ h=>by cases h⟩ (by omega);rintro q _ t ⟨k,z,a,rfl,hz,hk,hq,WY,wL,mu,pY⟩ rec aN;rw[cT];simp only[av,Zg 1 z a _ hz,aq];rw[jl];refine Ok.call (Zjm (n+2) bl x.de x.g (by omega) t) ?_;rintro _ rfl;refine⟨_,t,rfl,?_⟩;simp only[av,aq];rw[hCe,<-jl];by_cases aw:k<C
  .rw[ax (by omega),ae,Zo WY.cell (d:= .i (mC x).2.next) rfl]
   simp only[bg];have KA:ar (((mC x).2.next:Int)+(k:Int))=((N+k:Nat):Int):=by rw[hN,Zc];omega
   have cG:ar ((k:Int)+1)=((k+1:Nat):Int):=Zc;rw[KA,cG];have⟨b,t2,r1,r2,r3,r4⟩:=zX (β:=ah) (lim:=8796093022208) mu (sz:=1) (n:=(ZW N k).length) [.i ((N+k:Nat):Int)] (by omega) (by simp[ints]) rfl (by rw[vX];omega);refine Eq.mpr (congrArg (Ok _) (r4 _)) ?_;have hM3:=WY.fx r3 λy hy=>by
    have:=pY y hy;omega
   refine aN (C-(k+1)) _ _ (by omega) ⟨k+1,1,some (b,0),?_,.inl rfl,by omega,aO _,hM3,wL.step r3 λy hy=> .inr (pY y hy),?_,λy hy=>?_⟩
   .rw[vX,vX]
   .rw[Znl]
    unfold ints;rw[fq];exact r2
   .rw[cB.1 hy]
    have:=wL.1;omega
  have hkC:k=C:=by omega
  subst hkC;rw[aF (by omega),af,JP];have CD:([.i fm,.i x.blocks,.i x.de,.i x.g,.i (mC x).1,.i (x.aK.length:Int),.i (Gc x.free),.i (yP x).1,.s 1 a (ZW N k).length]:ah)=dj (ju x fm) a:=by
   unfold dj ju;rw[hN,hC]
  have tX:(ju x fm).aJ=ZW N k:=by unfold ju;rw[hN,hC]
  rw[CD];show Ok _ (ba [.a (dj (ju x fm) a)] _ t);rw[dT (dj (ju x fm) a) []];unfold dj;simp only[av,aX,aq];have aiO:([.i (ju x fm).seq,.i (ju x fm).blocks,.i (ju x fm).de,.i (ju x fm).g,.i (ju x fm).cc,.i (ju x fm).used,.i (ju x fm).free,.i (ju x fm).dir,.s 1 a (ju x fm).aJ.length]:ah)=dj (ju x fm) a:=rfl;simp only[aiO];have cL:(ju x fm).aJ.length=k:=by rw[tX,vX]
  have jc:y9 x=ZW 0 (N+k):=by unfold y9;rw[hN,hC]
  rw[cL];refine Ok.join λaW Cv=>?_
  refine Zi _ (λq y u=>∃(i z:Nat) (c:ai),y=[.s z c (ZW 0 i).length,.i (i:Int)]/\(z=1\/c=none)/\i<=N+k/\N+k-i<=q/\hJ u (s1.length+2) s1.length (s1.length+1) (mC x).2/\Fx [s1.length+2,s1.length,s1.length+1] S0 u/\bm [] u c (ints (ZW 0 i))/\(∀b∈aP c,S0.length<=b)/\bm [] u a (ints (ZW N k))/\∀b∈aP a,b∉aP c) ?_ (N+k) (n+2) _ _ ⟨0,0,none,rfl,.inr rfl,cz _,by omega,WY,wL,bm.nil ⟨t,rfl⟩,(λ_ h=>by cases h),mu,λ_ _ h=>by cases h⟩ (by omega);rintro q2 _ u ⟨i,z,c,rfl,hz,hi,Ew,WZ,fK,hoc,Xa,OJ,Jy⟩ dw j4;simp only[av,Zg 1 z c _ hz,aq];rw[Zo WZ.cell (d:= .i (mC x).2.next) rfl];simp only[bg];have hwN:ar (((mC x).2.next:Int)+(k:Int))=((N+k:Nat):Int):=by rw[hN,Zc];omega
  rw[hwN];by_cases aw:i<N+k
  .rw[ax (by omega),ae]
   have cG:ar ((i:Int)+1)=((i+1:Nat):Int):=Zc;rw[cG];have⟨b,t2,r1,r2,r3,r4⟩:=zX (β:=ah) (lim:=8796093022208) hoc (sz:=1) (n:=(ZW 0 i).length) [.i (i:Int)] (by omega) (by simp[ints]) rfl (by rw[vX];omega);refine Eq.mpr (congrArg (Ok _) (r4 _)) ?_;refine j4 (N+k-(i+1)) _ _ (by omega) ⟨i+1,1,some (b,0),?_,.inl rfl,by omega,aO _,WZ.fx r3 λy hy=>?_,fK.step r3 λy hy=> .inr (Xa y hy),?_,λy hy=>?_,OJ.fx r3 Jy,λy hy fw=>?_⟩
   .rw[vX,vX]
   .have:=Xa y hy
    omega
   .rw[Znl,eO]
    unfold ints;rw[fq];exact r2
   .rw[cB.1 hy]
    have:=fK.1;omega
   .rw[cB.1 fw]at hy
    have:=bm.Gf OJ b hy;omega
  have hiN:i=N+k:=by omega
  subst hiN;rw[aF (by omega),af,Cv];simp only[aX,aq];refine Ok.join λbz Ot=>?_
  have GH:F6 x fm place=bif decide (((y9 x).length:Int)>x.blocks)|| !ZU (ju x fm)then none else some (CT (F0 (y9 x) k 0 (mC x).2).B (64*(place%2).toNat) (xQ (ju x fm)),ju x fm):=by
   unfold F6;rw[hC]
  have A4: ∀(v:St) (bb:Bool),(decide (((y9 x).length:Int)>x.blocks)|| !ZU (ju x fm))=bb->aB u v->Ok (V6 st x fm place) (bz [.b bb] v):=by
   intro v bb Ea vz;rw[Ea]at GH;rw[Ot];simp only[au,aq];cases bb with
   |true=>
    rw[ae,Zd];exact .mk ⟨v,Ev v (fK.trans (Fx.pre _ vz)),.inr ⟨λ_=>GH,rfl⟩⟩
   |false=>
   rw[af];rw[af]at GH;refine Ok.join λck XJ=>?_
   have⟨G,hG⟩: ∃G,F0 (y9 x) k 0 (mC x).2=G:=⟨_,rfl⟩;rw[hG]at GH;refine Zi _ (λq y w=>∃(i:Nat) (m':dD),y=[.i (i:Int)]/\i<=k/\k-i<=q/\hJ w (s1.length+2) s1.length (s1.length+1) m'/\Fx [s1.length+2,s1.length,s1.length+1] S0 w/\bm [] w c (ints (ZW 0 (N+k)))/\bm [] w a (ints (ZW N k))/\m'.B.length=64*bl/\m'.next=N+i/\F0 (y9 x) (k-i) i m'=G) ?_ k (n+2) _ _ ⟨0,(mC x).2,rfl,cz _,by omega,WZ.pre vz,fK.trans (Fx.pre _ vz),hoc.fx (Fx.pre [] vz) (λ_ _ h=>by cases h),OJ.fx (Fx.pre [] vz) (λ_ _ h=>by cases h),WN,hN,hG⟩ (by omega);rintro q3 _ w ⟨i,m',rfl,hi,hq3,W2,On,abY,Ep,hB3,hN3,aQ⟩ vJ OW;simp only[av,aq];by_cases aw:i<k
   .rw[ax (by omega),ae]
    refine Ok.call (ZlK (n+2) i (ZW 0 (N+k)) c 1 w (.inl rfl) abY.sl (by omega) (by rw[vX];omega) (λy hy=>by have:=ZvX hy;omega) (by rw[vX];omega)) ?_;rintro _ rfl;refine⟨_,w,rfl,?_⟩;have J2:(gr i (ZW 0 (N+k))).eY.length=48:=by unfold gr;rw[If];exact oF
    have hZ:(bU (gr i (ZW 0 (N+k))).eY).length=48:=by rw[Zu,J2]
    show Ok _ (ba [.a (.i (gr i (ZW 0 (N+k))).no::bU (gr i (ZW 0 (N+k))).eY)] _ w);rw[cT];simp only[av];rw[bI hZ];simp only[aq];refine Ok.cv (ZmG (n+2) (gr i (ZW 0 (N+k))) J2 w) λw1 Kh=>?_
    simp only[bR,aq];refine Ok.call (DT (n+1) (uM (gr i (ZW 0 (N+k)))) w1 (W2.pre Kh)) ?_;rintro _ ⟨w2,rfl,agV,ahn⟩;refine⟨_,w2,rfl,?_⟩;simp only[av,aq];rw[Zc];have Xn:Fx [s1.length+2,s1.length] w w2:=(Fx.pre _ Kh).trans ahn;have JK:Fx [s1.length+2,s1.length,s1.length+1] w w2:=Xn.mono λy hy=>by simp only[eF,tl,oH]at hy⊢;omega
    have eki:k-i=(k-(i+1))+1:=by omega
    rw[eki]at aQ;unfold F0 at aQ;rw[jc]at aQ;rw[<-jc]at aQ;exact OW (k-(i+1)) _ _ (by omega) ⟨i+1,_,rfl,by omega,aO _,agV,On.trans JK,abY.fx JK (yA Xa),Ep.fx JK (yA pY),(xO _ _).trans hB3,by show m'.next+1=_;omega,by rw[<-jc];exact aQ⟩
   have GR:i=k:=by omega
   subst GR;rw[Bk]at aQ;have hmG:m'=G:=aQ;subst hmG;rw[aF (by omega),af,XJ];simp only[aq];rw[Zo W2.cell rfl];simp only[kb];have vA:run Bd (n+2) 179 [.i place,.i 2] w=some (.val [.i (place%2)],w):=ZrS (n+1) place 2 (by decide) (by decide) lP w;rw[qG vA (.refl w)];simp only[av,aq];have⟨pl,ab6⟩: ∃pl:Nat,place%2=(pl:Int):=⟨(place%2).toNat,by omega⟩;rw[ab6,bp]at GH;rw[ab6];have Yq:ar (64*(pl:Int))=((64*pl:Nat):Int):=by rw[Zc];omega
   simp only[Yq,bp,cR];rw[Zb (by rw[aY,br,br];omega)];refine Ok.cx (ZmT (n+2) (ju x fm) a w (by rw[tX];exact Ep.sl)) λw1 Kh=>?_
   simp only[bR,aq];have W3:=W2.pre Kh;have⟨e1,e2,e3⟩:=W3.lt;show Ok _ (dI s1.length (64*pl+0) _ _ w1);rw[gV,lr,M6 W3.bb (by rw[Zu,Zu,cX];omega),ZuU _];have hlB:=Vu (B:=m'.B) (k:=64*pl) (xQ (ju x fm));rw[Zo (i:=s1.length+2) (f:=false) (by rw[jv (by omega)];exact W3.cell) rfl];simp only[kb,Zd];have Cp:Fx [s1.length+2,s1.length,s1.length+1] w (w1.set s1.length (some ⟨false,bU (CT m'.B (64*pl) (xQ (ju x fm)))⟩)):=(Fx.pre _ Kh).trans ((Fx.set w1 s1.length _).mono λy hy=>by rw[cB.1 hy];simp);have pw:=aH.len;refine .mk ⟨_,Ev _ (On.trans Cp),.inl ⟨_,_,s1.length,a,hm,GH,by rw[hlB],pw,kZ (by omega),?_,λy hy=>?_⟩⟩
   .rw[tX]
    exact Ep.fx Cp (yA pY)
   .have:=pY y hy
    omega
  rw[vX];have AM:((y9 x).length:Int)=((N+k:Nat):Int):=by rw[jc,vX]
  by_cases yC:((N+k:Nat):Int)>x.blocks
  .rw[ax yC,ae]
   refine A4 u true ?_ (.refl u);rw[AM,ax yC,Bool.true_or]
  .rw[aF yC,af]
   refine Ok.cv (Q7 (n+2) (ju x fm) a u (by rw[tX];exact OJ.sl)) λv vz=>?_
   simp only[au,aq];refine A4 v _ ?_ vz;rw[AM,aF yC,vR]
 by_cases vo:0<x.free.length
 .have⟨k0,kr,JQ⟩: ∃k0 kr,x.free=k0::kr:=by
   cases pZ:x.free with
   |nil=>rw[pZ]at vo;cases vo
   |cons a b=>exact⟨a,b,rfl⟩
  have Xx:(ints x.free)[0]? =some (.i k0):=by rw[JQ];rfl
  have⟨bi,bo,e⟩:=ED.fr.1.cH (by simp[ints];omega);have wT:=ED.fr.1;rw[e]at wT⊢;rw[ax (by omega),ae,bd,Zb (show aR 0 x.free.length=true from Zj (i:=0) vo),wT.get Xx];simp only[bg];rw[JQ]at A1;exact A1
 .have pZ:x.free=[]:=zu.1 (by omega)
  rw[aF (by omega),af];rw[pZ]at A1;exact A1
theorem Zqy (n:Nat) (W:al) (j:Nat) (f:Bool) (st:St) (hw:st[j]? =some (some ⟨f,Zv W⟩)) (h0:0<W.length) (hl:W.length<100000):
  Ok (λo=>∃j' s',o=(.val [.s 1 (some (j',0)) W.length],s')/\aB st s'/\st.length<=j'/\s'[j']? =some (some ⟨false,Zv W⟩)) (run Bd (n+1) 263 [.s 1 (some (j,0)) W.length] st):=by
 rw[Ze,h.afF];unfold Qn bV aZ
 try dsimp only
 rw[aX,aq];rw[show(some (j,0):ai).isNone=false from rfl,af,Zz];have cG:(st++[some (⟨false,[]⟩:bO)])[j]? =some (some ⟨f,Zv W⟩):=(aB.new _ _).get hw;have dA:Sl (st++[some (⟨false,[]⟩:bO)]) (some (j,0)) (Zv W):=⟨f,Zv W,cG,by omega,by rw[dK,rU]⟩;have lQ:=iR (β:=ah) dA;rw[Ug]at lQ;rw[cR,lQ];have gq:bm st (st++[some (⟨false,[]⟩:bO)]) (some (st.length,0)) []:=⟨aB.new _ _,(by simp)⟩;have⟨p,s',ho,he⟩:=gq.app (β:=ah) (sz:=1) (n:=0) (m:=W.length) (lim:=8796093022208) (ds:=Zv W) (by omega) rfl h0 (by omega);rw[he,Zd,eO];rw[jH]at ho;rcases ho.2 with⟨_,e⟩|⟨i,rfl,h1,h2⟩
 .have:=congrArg List.length e
  rw[Ug]at this;grind
 .exact .mk ⟨i,s',rfl,ho.1,h1,h2⟩
theorem Zr0 (n:Nat) {m:Nat} (st:St) (hs:gy st f i j m W) (hm:0<m):
  Ok (λo=>∃i' j' s',o=(.val [.p (some (i',0))],s')/\aB st s'/\st.length<=i'/\st.length<=j'/\i'≠j'/\gy s' false i' j' m W) (run Bd (n+2) 241 [.p (some (i,0))] st):=by
 rw[Ze,h.afl];unfold Q3 jh Zm bV aZ uF Lp;simp only[eH,aq,bd];have hlen:=hs.len;have hle:=hs.le;rw[Zo hs.hd rfl];rw[bg];rw[Zo hs.hd rfl];rw[kb];refine Ok.NQ (Zqy n W j f st hs.wd (by omega) (by omega)) ?_;rintro _ ⟨j',s1,rfl,aH,hj,hw⟩;refine⟨_,s1,rfl,aH,?_⟩;rw[aX,aq];rw[Zz,Zd];have uc:=(ef.1 hw).1;exact .mk ⟨s1.length,j',_,rfl,aH.trans (aB.new _ _),aH.len,hj,by omega,⟨by simp,(aB.new _ _).get hw,hs.len,hs.lt,hs.le⟩⟩
theorem Zsm (hz:Qg Bd) (n:Nat) {m:Nat} (st:St) (ht:sc st) (hs:gy st f i j m W) (mw:gy st g i2 j2 m2 V) (hm:0<m) (hn:4000<=n):
  Ok (λo=>∃i' j' s',o=(.val [.p (some (i',0))],s')/\aB st s'/\gy s' false i' j' m ((dq V).foldl (bK m) W)) (run Bd n 201 [.p (some (i,0)),.p (some (i2,0))] st):=by
 obtain⟨n,rfl⟩: ∃k,n=k+3:=⟨n-3,by omega⟩;rw[Ze,h.aeL];unfold QL jh zD iL C_ Lp;simp only[eH,aq];refine Ok.call (Zr0 n st hs hm) ?_;rintro _ ⟨i',j',s1,rfl,aH,GP,Cu,mn,O1⟩;refine⟨_,s1,rfl,?_⟩;rw[eH,aq];refine Ok.call (ZmK hz (n+2) s1 (ht.mono aH) (mw.pre aH)) ?_;rintro _ ⟨p,s2,rfl,aU,dA,jl⟩;refine⟨_,s2,rfl,?_⟩;rw[aX,aq];have yE:=O1.pre aU;have uc:j'<s1.length:=(ef.1 O1.wd).1;have gp:=RN V V.length;rw[rU]at gp;have hV:=mw.len;have hV2:=mw.le;rw[Zk (H3 (n+2) (dq V) p s2 yE mn dA (lI.aP λb hb lz=>by
  have:=jl b hb;rw[cB.1 lz]at this;omega))]
 rw[aq,Zd];exact .mk ⟨i',j',_,rfl,tA (aH.trans aU) Cu _,yE.add mn _ (by rw[(ZF m _ _).1]) ((ZF m _ _).2 yE.lt)⟩
def wF (img:aj) (m:Nat) (W:al):ak->Option (List ZP)
 |[]=>some []
 |k::r=>match xN (ZG img k.toNat)with
  |none=>none
  |some c=>bif fE m k&&di W k.toNat then none else(wF img m W r).map (c:: ·)
def zR (img:aj) (x:cy) (W:al):Bool:=match wF img x.blocks.toNat W x.aJ with
 |none=>false
 |some cs=>match Cc x.blocks.toNat cs with
  |none=>false
  |some F=>decide (F=(dq (jd x.blocks.toNat x.aJ)).foldl (bK x.blocks.toNat) W)
def IM (img:aj) (x:cy) (rm:Option (Nat×al)):Bool:=match rL (qu img x)with
 |some (some v)=>(match rm with
  |none=>false
  |some (m,R)=>(decide (x.blocks.toNat=m)&&decide (v.W=R))&&zR img x v.W)
 |_=>false
def Zzh (s:St) (rm:Option (Nat×al)) (p:ai):Prop:=match rm with
 |none=>p=none
 |some (m,R)=>∃f i j,p=some (i,0)/\gy s f i j m R
theorem Zyw {img:aj} {x:cy} {v:aS} (h:rL (qu img x)=some (some v)):ZU x=true/\x.blocks<=((img.length/64:Nat):Int):=by
 unfold rL at h;cases h1:ZU x with
 |false=>
  have:(qu img x).sup=x:=rfl;rw[this,h1]at h;cases h
 |true=>
  refine⟨rfl,?_⟩;cases h2:decide (x.blocks<=((img.length/64:Nat):Int))with
  |true=>grind
  |false=>
   have e1:(qu img x).sup=x:=rfl;have e2:(qu img x).img=img:=rfl;rw[e1,e2,h1,h2]at h;cases h
theorem Zoz (n:Nat) (a:ai) (img:aj) (x:cy) (pc:ai) (rm:Option (Nat×al)) (pr:ai) (s:St) (ht:sc s) (ha:dc s a img) (hc:Sl s pc (ints x.aJ)) (hr:Zzh s rm pr) (hl:img.length<1000000) (cL:x.aJ.length<1000) (hn:6000<=n):
  Ok (λo=>∃s',o=(.val [.b (IM img x rm)],s')/\aB s s') (run Bd n 173 [.s 1 a img.length,.a (dj x pc),.p pr] s):=by
 obtain⟨n,rfl⟩: ∃k,n=k+3:=⟨n-3,by omega⟩;have⟨R,hR⟩: ∃R,IM img x rm=R:=⟨_,rfl⟩;rw[hR];unfold IM at hR;rw[Ze,h.aew];unfold Rb Z6 jh xC aA jg zD bq cP Zn iL Lb uF dY aZ ix iw
 try dsimp only
 rw[aX];rw[dT (dj x pc) [.p pr]];unfold dj;simp only[av,aX,eH,aq];have CD:([.i x.seq,.i x.blocks,.i x.de,.i x.g,.i x.cc,.i x.used,.i x.free,.i x.dir,.s 1 pc x.aJ.length]:ah)=dj x pc:=rfl;rw[CD];have mA: ∀t,aB s t->R=false->Ok (λo=>∃s',o=(.val [.b R],s')/\aB s s') ((ay [.b false]:M ah) t):=λt k e=>by
  rw[e,Zd];exact .mk ⟨t,rfl,k⟩
 refine Ok.call (ZlN (n+2) a img x pc s ha hc hl cL) ?_;intro o ho;cases hw:rL (qu img x)with
 |none=>
  rw[hw]at ho hR;obtain⟨s1,rfl,aH⟩:=ho;refine⟨_,s1,rfl,?_⟩;rw[dT];unfold dE;simp only[av,Zg 2 0 none _ (.inr rfl),Zg 1 0 none _ (.inr rfl),eH,aq];rw[Za,show(!((2:Int)==0))=true from rfl,ae];simp only[au,aq];rw[Za,ae];simp only[au,aq];rw[ae];exact mA s1 aH hR.symm
 |some q=>
 cases q with
 |none=>
  rw[hw]at ho hR;obtain⟨s1,rfl,aH⟩:=ho;refine⟨_,s1,rfl,?_⟩;rw[dT];unfold dE;simp only[av,Zg 2 0 none _ (.inr rfl),Zg 1 0 none _ (.inr rfl),eH,aq];rw[Za,show(!((31:Int)==0))=true from rfl,ae];simp only[au,aq];rw[Za,ae];simp only[au,aq];rw[ae];exact mA s1 aH hR.symm
 |some v=>
 rw[hw]at ho hR;obtain⟨s1,z2,q2,z3,q3,z4,q4,i,j,rfl,aH,gS,mB,wX,_,dh,_,_⟩:=ho;refine⟨_,s1,rfl,?_⟩;simp only at hR;have⟨pB,ag6⟩:=Zyw hw;have⟨AA,_⟩:=SE pB;have⟨g1,g2,_⟩:=Z4 AA;have aiJ:=(BC x).1 pB;have⟨m,hm⟩: ∃m:Nat,x.blocks=m:=by grind
 have hmn:x.blocks.toNat=m:=by omega
 rw[hmn]at dh hR;rw[dT];unfold dE;simp only[av,Zg 2 z2 q2 _ gS,Zg 1 z3 q3 _ mB,Zg 1 z4 q4 _ wX,eH,aq];rw[Za,show(!((0:Int)==0))=false from rfl,af];simp only[au,aq];rw[Za];cases rm with
 |none=>
  have Eu:pr=none:=hr;subst Eu;rw[show(none:ai).isNone=true from rfl,ae];simp only[au,aq];rw[ae];grind
 |some mr=>
 have⟨mr,Rr⟩:=mr;obtain⟨fr,ir,jr,rfl,Kt⟩:=hr;rw[show(some (ir,0):ai).isNone=false from rfl,af];refine Ok.call (Zm2 (n+2) s1 dh (Kt.pre aH)) ?_;rintro _ rfl;refine⟨_,s1,rfl,?_⟩;simp only[au,aq];simp only at hR;cases OZ:(decide (m=mr)&&decide (v.W=Rr))with
 |false=>
  rw[OZ,gf]at hR;rw[bn,ae];exact mA s1 aH hR.symm
 |true=>
 rw[OZ,dF]at hR;rw[bu,af];unfold zR at hR;rw[hmn]at hR;refine Ok.join λaW Cv=>?_
 have⟨G,hG⟩: ∃G,wF img m v.W x.aJ=G:=⟨_,rfl⟩;rw[hG]at hR;refine Zi _ (λq y t=>∃(k z:Nat) (c:ai) (acc:List ZP),y=[.s z c acc.length,.i (k:Int)]/\(z=49\/c=none)/\k<=x.aJ.length/\x.aJ.length-k<=q/\bm s1 t c (sj acc)/\acc.length=k/\(∀y∈acc,y.eY.length=48/\y.no<8)/\(wF img m v.W (x.aJ.drop k)).map (acc++ ·)=G) ?_ x.aJ.length (n+2) _ _ ⟨0,0,none,[],rfl,.inr rfl,cz _,by omega,bm.nil (.refl _),rfl,(λ_ h=>by cases h),by rw[dK,hG];cases G<;>rfl⟩ (by omega);rintro q _ t ⟨k,z,c,acc,rfl,hz,hk,hq,ho,Aw,abi,aQ⟩ rec aN;have jA:=ho.1;have cg:=aH.trans jA;simp only[av,Zg 49 z c _ hz,aq];have hct:=hc.mono cg;have hat:=ha.mono cg;by_cases aw:k<x.aJ.length
 .obtain⟨bi,bo,rfl⟩:=hc.cH (by simp[ints];omega)
  have da:(ints x.aJ)[k]? =some (.i x.aJ[k]):=ZD aw;have fW:x.aJ.drop k=x.aJ[k]::x.aJ.drop (k+1):=iV aw;have jT:=(aiJ.ch k aw).1;rw[dW,cq aw,Vd,hm]at jT;have ag9:2<=x.aJ[k]/\x.aJ[k]<(m:Int):=jT;rw[fW]at aQ;rw[ax (show(k:Int)<(x.aJ.length:Int) by omega),ae,bd,Zb (Zj aw)];rw[bp];rw[hct.dJ da];rw[bg];generalize x.aJ[k]=y at ag9 aQ;have⟨yn,hyn⟩: ∃yn:Nat,y=yn:=⟨y.toNat,by omega⟩;subst hyn;unfold wF at aQ;rw[bp]at aQ;rw[Zk (Zmn (n+1) a img.length yn t hl)];rw[aX,aq];have Ek:(ZG img yn).length=64:=by unfold ZG;rw[cX,fa];omega
  have XO:dc t (cU true a (yn*64)) (ZG img yn):=(hat.cU (k:=yn*64) (by omega)).lC 64;have hcg:=ZtM (n+2) (cU true a (yn*64)) (ZG img yn) t XO (by omega) (by omega);rw[Ek]at hcg;refine Ok.call hcg ?_;rintro _ ⟨t1,aU,du⟩;have cG:ar ((k:Int)+1)=((k+1:Nat):Int):=Zc;cases GN:xN (ZG img yn)with
  |none=>
   rw[GN]at du aQ;simp only at du aQ;subst du;refine⟨_,t1,rfl,?_⟩;have ah0:(bU Nu.eY).length=48:=rfl;rw[dT (ZY Nu) _];unfold ZY;rw[av];rw[bI ah0];rw[au,aq];rw[bI (n:=49) rfl,Za,bn,ae];simp only[au,aq];rw[ae];have WT:G=none:=aQ.symm;rw[WT]at hR;exact mA t1 (cg.trans aU) hR.symm
  |some cv=>
   rw[GN]at du aQ;simp only at du aQ;obtain⟨rfl,wG,h8⟩:=du;refine⟨_,t1,rfl,?_⟩;have hZ:(bU cv.eY).length=48:=by rw[Zu,wG]
   rw[dT (ZY cv) _];have hcc:ZY cv= .i cv.no::bU cv.eY:=rfl;rw[hcc];rw[av];rw[bI hZ];rw[au,aq];rw[bI (n:=49) (by simp[hZ]),Za,bu,af];rw[Zk (Zny n (yn:Int) t1 (dh.pre (jA.trans aU)))];simp only[au,aq];rw[bp];cases gM:(fE m (yn:Int)&&di v.W yn)with
   |true=>
    rw[gM,ae]at aQ;rw[ae];have WT:G=none:=aQ.symm;rw[WT]at hR;exact mA t1 (cg.trans aU) hR.symm
   |false=>
    rw[gM,af]at aQ;rw[af,bI (n:=49) (by simp[hZ]),<-hcc,cG];have⟨p3,t3,nE,rj,he⟩:=(ho.mono aU).CV (β:=ah) (sz:=49) (n:=acc.length) (lim:=1256584717458) (ZY cv) (by omega) (TK λy hy=>(abi y hy).1) (Mn wG) (by omega);refine Eq.mpr (congrArg (Ok _) (he _)) ?_;refine aN (x.aJ.length-(k+1)) _ _ (by omega) ⟨k+1,49,p3,acc++[cv],?_,.inl rfl,by omega,aO _,?_,?_,λy hy=>?_,?_⟩
    .rw[bB];rfl
    .rw[Zt1]
     have:sj [cv]=ZY cv:=by unfold sj;simp
     rw[this];exact nE
    .rw[bB,Aw];rfl
    .grind
    .rw[<-aQ,Option.map_map]
     congr 1;funext l;simp
 .rw[aF (show ¬(k:Int)<(x.aJ.length:Int) by omega),af,Cv]
  rw[lW (by omega)]at aQ;have hGs:G=some acc:=by rw[<-aQ];simp[wF]
  rw[hGs]at hR;simp only at hR;simp only[aX,aq];rw[hm];refine Ok.call (Ztk (n+2) m acc c 49 t (by omega) (.inl rfl) ho.sl abi (by omega) (by omega)) ?_;rintro _ ⟨t1,aU,du⟩;cases dS:Cc m acc with
  |none=>
   rw[dS]at du hR;simp only at du hR;subst du;refine⟨_,t1,rfl,?_⟩;rw[eH,au,aq];rw[Za,af];simp only[au,aq,Zd];exact .mk ⟨t1,by rw[hR],cg.trans aU⟩
  |some F=>
   rw[dS]at du hR;simp only at du hR;obtain⟨iF,jF,rfl,hsF⟩:=du;refine⟨_,t1,rfl,?_⟩;rw[eH,au,aq];rw[Za,ae];have⟨t2,e2,cu,JU,wT⟩:=T7 (n+2) m x.aJ pc t1 (by omega) (hct.mono aU) (by omega) (by omega);rw[Zk e2];rw[eH,aq];have yE:=dh.pre ((jA.trans aU).trans cu);refine Ok.call (Zsm (acV) (n+2) t2 (ht.mono ((cg.trans aU).trans cu)) yE wT (by omega) (by omega)) ?_;rintro _ ⟨iW,jW,t3,rfl,fy,hsW⟩;refine⟨_,t3,rfl,?_⟩;simp only[eH,aq];refine Ok.call (Zm2 (n+2) t3 (hsF.pre (cu.trans fy)) hsW) ?_;rintro _ rfl;refine⟨_,t3,rfl,?_⟩;simp only[au,aq,Zd];refine .mk ⟨t3,?_,((cg.trans aU).trans cu).trans fy⟩;grind
end Go.Gv.F
namespace Go.Gv.F
open Go.Gv
end Go.Gv.F
