/- The document's maker of images: its blocks, one behind the other. -/
import Derived.Test.YtegglibipjjblaaGreatDoorGvZMd
namespace Go.Gv.F
open Go.Gv
variable {β:Type}
structure bd where
 B:List UInt8
 next:Nat
 At:List Int
structure fw (s:St) (i ib ia:Nat) (m:bd):Prop where
 cell:s[i]? =some (some ⟨false,[.slice 1 (some (ib,0)) m.B.length,.int .i64 m.next,.slice 1 (some (ia,0)) m.At.length]⟩)
 bb:s[ib]? =some (some ⟨false,bQ m.B⟩)
 aa:s[ia]? =some (some ⟨false,ints m.At⟩)
 d1:i≠ib
 d2:i≠ia
 d3:ib≠ia
theorem fw.fx {s s':St} {i ib ia:Nat} {m:bd} {T:List Nat} (h:fw s i ib ia m) (k:Fx T s s') (hT: ∀x∈T,x≠i/\x≠ib/\x≠ia):fw s' i ib ia m:=
 ⟨k.2 _ _ (fun e=>(hT _ e).1 rfl) h.cell,k.2 _ _ (fun e=>(hT _ e).2.1 rfl) h.bb,k.2 _ _ (fun e=>(hT _ e).2.2 rfl) h.aa,h.d1,h.d2,h.d3⟩
theorem fw.pre {s s':St} {i ib ia:Nat} {m:bd} (h:fw s i ib ia m) (k:aw s s'):fw s' i ib ia m:=h.fx (Fx.pre [] k) fun _ h=>by cases h
theorem fw.lt {s:St} {i ib ia:Nat} {m:bd} (h:fw s i ib ia m):i<s.length/\ib<s.length/\ia<s.length:=
 ⟨(cw.1 h.cell).1,(cw.1 h.bb).1,(cw.1 h.aa).1⟩
theorem fw.kp {s s':St} {i ib ia:Nat} {m:bd} (h:fw s i ib ia m) (k:Fx [i,ib,ia] s s'):Kp s s':=by
 intro j all e;refine k.2 j _ (fun hm=>?_) e;simp only[cd,j4,iB]at hm;rcases hm with rfl|rfl|rfl
 ·rw[h.cell]at e;cases e
 ·rw[h.bb]at e;cases e
 ·rw[h.aa]at e;cases e
def mH (B:List UInt8) (k:Nat) (s:List UInt8):List UInt8:=B.take k++(s.take (B.length-k)++B.drop (k+s.length))
theorem OC {B:List UInt8} {k:Nat} (s:List UInt8) (h:k<=B.length):(mH B k s).length=B.length:=by
 unfold mH;rw[aZ,aZ,cn,cn,ej];omega
theorem ZvW {B:List UInt8} {k:Nat} (s:List UInt8) (h:k<=B.length):bN (bQ B) k (bQ (s.take (B.length-k)))=bQ (mH B k s):=by
 have e:bQ B=bQ (B.take k)++(bQ ((B.drop k).take s.length)++bQ (B.drop (k+s.length))):=by
  rw[<-Ik,<-Ik,<-iM,nU,nU]
 have hl:(bQ (B.take k)).length=k:=by rw[Zt,cn];omega
 have:=rb (bQ (B.take k)) (bQ ((B.drop k).take s.length)) (bQ (B.drop (k+s.length))) (bQ (s.take (B.length-k))) (by
  rw[Zt,Zt,cn,cn,ej,Nat.min_comm])
 rw[hl,<-e]at this;rw[this];unfold mH;rw[Ik,Ik]
def eD (m:bd) (s:List UInt8):bd:=⟨bif decide (64*m.next+64<=m.B.length)then mH m.B (64*m.next) s else m.B,m.next+1,m.At⟩
theorem oT (m:bd) (s:List UInt8):(eD m s).B.length=m.B.length:=by
 unfold eD;by_cases h:64*m.next+64<=m.B.length
 ·simp only[ah h,cond_true];exact OC s (by omega)
 ·simp only[ao h,cond_false]
theorem xL {Bd:Za} (h:zr Bd) (n:Nat) {i ib ia:Nat} {m:bd} (s:List UInt8) (st:St) (hm:fw st i ib ia m) (hn:m.next<1000000) (_hB:m.B.length<1000000):
  Ok (fun o=>∃eN,o=(.val [.int .i64 m.next],eN)/\fw eN i ib ia (eD m s)/\Fx [i,ib] st eN) (run Bd (n+1) 194 [.ptr (some (i,0)),.str s] st):=by
 rw[Zf,h.eq];unfold Fe;simp only[fa,bV,ae,aW];rw[Zn hm.cell rfl];simp only[aS];rw[Zn hm.cell rfl];simp only[aS];rw[dy,qY hm.cell (by show 1<3;omega)];have hw:af ((m.next:Int)+1)=((m.next+1:Nat):Int):=Zd (by omega) (by omega);have cc:af (64*(m.next:Int))=((64*m.next:Nat):Int):=by rw[Zd (by omega) (by omega)];omega
 have fE:af (((64*m.next:Nat):Int)+64)=((64*m.next+64:Nat):Int):=Zd (by omega) (by omega);simp only[hw,cc,fE];obtain⟨h1,h2,h3⟩:=hm.lt;have cu:([.slice 1 (some (ib,0)) m.B.length,.int .i64 m.next,.slice 1 (some (ia,0)) m.At.length]:List DV).set 1 (.int .i64 ((m.next+1:Nat):Int))=[.slice 1 (some (ib,0)) m.B.length,.int .i64 ((m.next+1:Nat):Int),.slice 1 (some (ia,0)) m.At.length]:=rfl;rw[cu];obtain⟨s1,gu⟩: ∃s1,st.set i (some (⟨false,[.slice 1 (some (ib,0)) m.B.length,.int .i64 ((m.next+1:Nat):Int),.slice 1 (some (ia,0)) m.At.length]⟩:bn))=s1:=⟨_,rfl⟩;have eC:fw s1 i ib ia ⟨m.B,m.next+1,m.At⟩:=by
  rw[<-gu];have d1:=hm.d1;have d2:=hm.d2;exact⟨fV h1,by rw[ec d1];exact hm.bb,by rw[ec d2];exact hm.aa,d1,d2,hm.d3⟩
 have AN:Fx [i,ib] st s1:=by rw[<-gu];exact(Fx.set st i _).mono fun y hy=>by rw[bP.1 hy];simp
 rw[gu,Zn eC.cell rfl];simp only[jw];rw[Zb];by_cases hb:64*m.next+64<=m.B.length
 ·rw[ah (show((m.B.length:Nat):Int)>=((64*m.next+64:Nat):Int) by omega),cond_true,Zn eC.cell rfl]
  simp only[jw];rw[Ze (by rw[aH,bx,bx];omega)];simp only[aY,dx];show Ok _ (M.store ib (64*m.next+0) _ _ s1);rw[dC,vC,Ir eC.bb (by rw[Zt,Zt,cn];show _<=m.B.length;omega)];have fY:=ZvW (B:=m.B) (k:=64*m.next) s (by omega);show Ok _ ((D.nil [] (M.ret [DV.int .i64 m.next])) (s1.set ib (some ⟨false,bN (bQ m.B) (64*m.next) (bQ (s.take (m.B.length-64*m.next)))⟩)));rw[fY];simp only[ae,Zc];have hl:=OC (B:=m.B) (k:=64*m.next) s (by omega);refine .mk ⟨_,rfl,?_,AN.trans ((Fx.set s1 ib _).mono fun y hy=>by rw[bP.1 hy];simp)⟩;unfold eD;rw[ah hb,cond_true];have d1:=hm.d1;have d3:=hm.d3;refine⟨?_,?_,?_,d1,hm.d2,d3⟩
  ·rw[ec (Ne.symm d1),hl];exact eC.cell
  ·exact fV (by rw[<-gu,ju];exact h2)
  ·rw[ec d3];exact eC.aa
 ·rw[ao (show ¬((m.B.length:Nat):Int)>=((64*m.next+64:Nat):Int) by omega),cond_false]
  simp only[ae,Zc];refine .mk ⟨s1,rfl,?_,AN⟩;unfold eD;rw[ao hb,cond_false];exact eC
def jT (es:List bc) (r:List Int×bd):Nat×bd:=match es with
 |[]=>(0,r.2)
 |e::_=>(r.2.next, { eD r.2 (nI ⟨e,r.1⟩)with At:=r.2.At.set e.slot.toNat (r.2.next:Int) })
def bI:Nat->List bc->bd->List Int×bd
 |0,_,m=>([],m)
 |j+1,es,m=>(fun r:List Int×bd=>(fun f:Nat×bd=>(r.1++[(f.1:Int)],f.2)) (jT ((es.drop (2^j)).take (2^j)) (bI j ((es.drop (2^j)).take (2^j)) r.2))) (bI j es m)
def eO (j:Nat) (es:List bc) (m:bd):Nat×bd:=jT es (bI j es m)
theorem Zq8 (es:List bc) (r:List Int×bd):(jT es r).2.B.length=r.2.B.length/\(jT es r).2.At.length=r.2.At.length/\(jT es r).2.next<=r.2.next+1/\r.2.next<=(jT es r).2.next:=by
 unfold jT;cases es with
 |nil=>exact⟨rfl,rfl,Nat.le_succ _,aA _⟩
 |cons e r'=>exact⟨oT _ _,by simp,aA _,Nat.le_succ _⟩
theorem qZ: ∀(j:Nat) (es:List bc) (m:bd),(bI j es m).2.B.length=m.B.length/\(bI j es m).2.At.length=m.At.length/\(bI j es m).2.next+1<=m.next+2^j/\m.next<=(bI j es m).2.next/\(bI j es m).1.length=j
 |0,_,m=>⟨rfl,rfl,by simp[bI],aA _,rfl⟩
 |j+1,es,m=>by
  obtain⟨a1,a2,a3,a4,a5⟩:=qZ j es m;obtain⟨b1,b2,b3,b4,_⟩:=qZ j ((es.drop (2^j)).take (2^j)) (bI j es m).2;obtain⟨c1,c2,c3,c4⟩:=Zq8 ((es.drop (2^j)).take (2^j)) (bI j ((es.drop (2^j)).take (2^j)) (bI j es m).2);have e:2^(j+1)=2*2^j:=by rw[mS];omega
  refine⟨c1.trans (b1.trans a1),c2.trans (b2.trans a2),?_,?_,?_⟩
  ·show(jT _ _).2.next+1<=_
   omega
  ·show m.next<=(jT _ _).2.next
   omega
  ·show((bI j es m).1++[_]).length=j+1
   rw[aZ,a5];rfl
theorem Hx (j:Nat) (es:List bc) (m:bd):(eO j es m).2.B.length=m.B.length/\(eO j es m).2.At.length=m.At.length/\(eO j es m).2.next<=m.next+2^j/\m.next<=(eO j es m).2.next:=by
 obtain⟨a1,a2,a3,a4,_⟩:=qZ j es m;obtain⟨c1,c2,c3,c4⟩:=Zq8 es (bI j es m);unfold eO;exact⟨c1.trans a1,c2.trans a2,by omega,by omega⟩
end Go.Gv.F
namespace Go.Gv.F
open Go.Gv
variable {β:Type}
theorem Znd (l:List bc): ∀(k:Nat),(bK l).drop (k*4)=bK (l.drop k):=by
 induction l with
 |nil=>intro k;simp[bK]
 |cons e l ih=>
  intro k;cases k with
  |zero=>rfl
  |succ k=>
   have e2:bK (e::l)=fA e++bK l:=rfl;rw[e2,show(k+1)*4=(fA e).length+k*4 by show _=4+_;omega,<-iM,pR,ih k];rfl
theorem Znn (l:List bc) (k:Nat):(bK l).take (k*4)=bK (l.take k):=by
 induction l generalizing k with
 |nil=>simp[bK]
 |cons e l ih=>
  cases k with
  |zero=>rfl
  |succ k=>
   have e2:bK (e::l)=fA e++bK l:=rfl;rw[e2,show(k+1)*4=(fA e).length+k*4 by show _=4+_;omega,List.take_length_add_append,ih k];rfl
theorem Fz.Vd {s:St} {p:Option (Nat×Nat)} {es:List bc} (h:Fz s p (bK es)) (k n:Nat) (hk:k+n<=es.length) (hn:0<n):Fz s (cY true p (k*4)) (bK ((es.drop k).take n)):=by
 obtain⟨i,o,rfl⟩:=h.1.cm (by rw[Zx];omega);refine⟨?_,fun b o' e=>?_⟩
 ·have h1:=h.1.cY (k:=k*4) (by rw[Zx];omega)
  rw[Znd]at h1;have h2:=h1.lx (n*4);rw[Znn]at h2;exact h2
 ·have e':some (i,k*4+o)=some (b,o'):=e
  cases e';exact h.2 i o rfl
theorem Zsj {Bd:Za} (h:ET Bd): ∀(j n:Nat) {i ib ia:Nat} {m:bd} (es:List bc) (p:Option (Nat×Nat)) (st:St),fw st i ib ia m->Fz st p (bK es)->es.length=2^j->(∀e∈es,0<=e.slot/\e.slot<(m.At.length:Int))->j<20->m.next+2^j<=900000->m.B.length<1000000->m.At.length<100000->3000+j<=n->
  Ok (fun o=>∃eN,o=(.val [.int .i64 (eO j es m).1],eN)/\fw eN i ib ia (eO j es m).2/\Fx [i,ib,ia] st eN) (run Bd n 217 [.ptr (some (i,0)),.slice 4 p es.length] st):=by
 intro j;induction j using Nat.strongRecOn with
 |_ j ih=>
 intro n i ib ia m es p st hm hs hl cL hj AW hB AD hn;obtain⟨n,rfl⟩: ∃k,n=k+1:=⟨n-1,by omega⟩;rw[Zf,h.eq];unfold EV;have uG:0<es.length:=by rw[hl];exact mT j
 obtain⟨bi,bo,rfl⟩:=hs.1.cm (by rw[Zx];omega);obtain⟨e0,er,Jp⟩: ∃e0 er,es=e0::er:=by
  cases es with
  |nil=>cases uG
  |cons a b=>exact⟨a,b,rfl⟩
 have he0:es[0]? =some e0:=by rw[Jp];rfl
 simp only[fa,br,ae];rw[aW,Ze (show au 0 es.length=true from Zk (i:=0) uG)];have pD: ∀(s:St),Fz s (some (bi,bo)) (bK es)->∀K:List DV->M (List DV),M.load bi (0+bo) 4 K s=K (fA e0) s:=fun s hs K=>by
  have:=Ce hs.1 he0 K
  rwa [nV]at this
 rw[pD st hs];unfold fA;simp only[al,ae];refine Ok.join fun aq uB=>?_
 obtain⟨T,hT⟩: ∃T,eO j es m=T:=⟨_,rfl⟩;rw[hT];have Qy:2^j<=2^19:=pU (by decide) (by omega);have h19:2^19=524288:=by decide
 obtain⟨l1,l2,l3⟩:=hm.lt;refine Zl _ (fun q y t=>∃(a z:Nat) (k:Option (Nat×Nat)),y=[.agg [.int .i64 e0.slot,.int .i64 e0.gen,.int .i64 e0.key,.int .i64 e0.value,.slice z k (bI a es m).1.length],.int .i64 ((2^a:Nat):Int)]/\(z=1\/k=none)/\a<=j/\j-a<=q/\fw t i ib ia (bI a es m).2/\Fx [i,ib,ia] st t/\bh [] t k (ints (bI a es m).1)/\∀b∈aC k,st.length<=b) ?_ j n _ _ ⟨0,0,none,rfl,.inr rfl,bH _,by omega,hm,.refl _ _,bh.nil ⟨st,rfl⟩,fun _ h=>by cases h⟩ (by omega);rintro q _ t ⟨a,z,k,rfl,hz,ha,hq,mu,bL,dN,uo⟩ rec aD;rw[bU];simp only[al,Zm 1 z k _ hz,ae];have bE:=hs.kp (hm.kp bL);obtain⟨g1,g2,g3,g4,g5⟩:=qZ a es m;have h2a:2^a<=2^j:=pU (by decide) ha;by_cases aj:a<j
 ·have h2b:2^(a+1)<=2^j:=pU (by decide) aj
  have e2:2^(a+1)=2*2^a:=by rw[mS];omega
  have bj:0<2^a:=mT a;have hw:af (2*((2^a:Nat):Int))=((2^(a+1):Nat):Int):=by rw[Zd (by omega) (by omega)];omega
  rw[ah (show((2^a:Nat):Int)<(es.length:Int) by omega),cond_true];simp only[hw,aY];rw[Ze (by rw[aH,bx,bx];omega),Ze (by rw[aH,bx,bx];omega)];have rH:=bE.Vd (2^a) (2^a) (by omega) bj;have T2:((es.drop (2^a)).take (2^a)).length=2^a:=by rw[cn,ej];omega
  have Dj:2^(a+1)-2^a=((es.drop (2^a)).take (2^a)).length:=by rw[T2];omega
  rw[Dj];refine Ok.ig (ih a aj n ((es.drop (2^a)).take (2^a)) _ t mu rH T2 (fun e he=>by rw[g2];exact cL e (r9 (sa he))) (by omega) (by omega) (by rw[g1];exact hB) (by rw[g2];exact AD) (by omega)) ?_;rintro _ ⟨t1,rfl,eC,jD⟩;refine⟨_,t1,rfl,?_⟩;simp only[al,ae];have ta: ∀b∈aC k,b∉[i,ib,ia]:=fun b hb lP=>by
   have:=uo b hb;simp only[cd,j4,iB]at lP;omega
  have JE:=dN.fx jD ta;obtain⟨b,t2,r1,r2,r3,r4⟩:=tT (β:=List DV) (lim:=8796093022208) JE (sz:=1) (n:=(bI a es m).1.length) [.int .i64 ((eO a ((es.drop (2^a)).take (2^a)) (bI a es m).2).1:Int)] (by omega) (by simp[ints]) rfl (by omega);refine Eq.mpr (congrArg (Ok _) (r4 _)) ?_;have dH:=eC.fx r3 fun y hy=>by
   have:=uo y hy;omega
  have eB:Fx [i,ib,ia] st t2:=(bL.trans jD).step r3 fun y hy=> .inr (uo y hy)
  refine aD (j-(a+1)) _ _ (by omega) ⟨a+1,1,some (b,0),?_,.inl rfl,by omega,aA _,dH,eB,?_,fun y hy=>?_⟩
  ·obtain⟨_,_,_,_,g6⟩:=qZ (a+1) es m
   rw[g5,g6]
  ·show bh [] t2 (some (b,0)) (ints ((bI a es m).1++[_]))
   unfold ints;rw[dD];exact r2
  ·rw[bP.1 hy]
   have:=(bL.trans jD).1;omega
 ·have haj:a=j:=by omega
  subst haj;rw[ao (show ¬((2^a:Nat):Int)<(es.length:Int) by omega),cond_false,uB];show Ok _ (J.a [.agg [.int .i64 e0.slot,.int .i64 e0.gen,.int .i64 e0.key,.int .i64 e0.value,.slice 1 k (bI a es m).1.length]] _ t);rw[bU];simp only[al,br,ae];refine Ok.call (ZuE h.Xu n ⟨e0,(bI a es m).1⟩ 1 k t (.inl rfl) dN.sl (by show(bI a es m).1.length<_;rw[g5];omega) (by omega)) ?_;rintro _ ⟨t1,rfl,aJ⟩;refine⟨_,t1,rfl,?_⟩;simp only[bV,ae];obtain⟨n,rfl⟩: ∃k,n=k+1:=⟨n-1,by omega⟩;refine Ok.call (xL h.tq n (nI ⟨e0,(bI a es m).1⟩) t1 (mu.pre aJ) (by omega) (by rw[g1];exact hB)) ?_;rintro _ ⟨t2,rfl,dH,eB⟩;refine⟨_,t2,rfl,?_⟩;simp only[al,ae,aW];have dS:Fx [i,ib,ia] st t2:=(bL.trans (Fx.pre _ aJ)).trans (eB.mono fun y hy=>by simp only[cd,j4,iB]at hy⊢;omega);have Bb:=hs.kp (hm.kp dS);rw[Zn dH.cell rfl];simp only[jw];rw[Ze (show au 0 es.length=true from Zk (i:=0) uG)];have Qk:(bK es)[0]? =some (.int .i64 e0.slot):=by rw[Jp];rfl
  rw[Bb.1.get Qk];simp only[aS];have QW:=cL e0 (by rw[Jp];simp);obtain⟨ks,Df⟩: ∃ks:Nat,e0.slot=ks:=⟨e0.slot.toNat,by omega⟩;have fK:(eD (bI a es m).2 (nI ⟨e0,(bI a es m).1⟩)).At=(bI a es m).2.At:=rfl;rw[aW,Df,Ze (show au ((ks:Nat):Int) _=true from Zk (by rw[fK,g2];omega)),aY,dx,dC,qY dH.aa (by simp only[ints,lV];rw[fK,g2];omega),Zc];have hTe:T=(((bI a es m).2.next, { eD (bI a es m).2 (nI ⟨e0,(bI a es m).1⟩)with At:=(bI a es m).2.At.set ks ((bI a es m).2.next:Int) }):Nat×bd):=by
   rw[<-hT];unfold eO jT;rw[Jp];simp only;rw[Df,aY]
  rw[hTe];have cu:(ints (eD (bI a es m).2 (nI ⟨e0,(bI a es m).1⟩)).At).set ks (.int .i64 ((bI a es m).2.next:Int))=ints ((bI a es m).2.At.set ks ((bI a es m).2.next:Int)):=by
   rw[fK];unfold ints;rw[zc]
  rw[cu];obtain⟨m1,m2,m3⟩:=dH.lt;have d2:=dH.d2;have d3:=dH.d3;refine .mk ⟨_,rfl,⟨?_,?_,?_,dH.d1,d2,d3⟩,dS.trans ((Fx.set t2 ia _).mono fun y hy=>by rw[bP.1 hy];simp)⟩
  ·rw[ec (Ne.symm d2),ju]
   exact dH.cell
  ·rw[ec (Ne.symm d3)]
   exact dH.bb
  ·exact fV m3
end Go.Gv.F
namespace Go.Gv.F
open Go.Gv
variable {β:Type}
def qV (s:St):List DV->List cJ->Prop
 |ds,[]=>ds=[]
 |ds,x::r=>∃z p t,(z=4\/p=none)/\ds=kX x z p++t/\Fz s p (bK x.aK)/\qV s t r
theorem qV.kp {s s':St} (k:Kp s s'): ∀ {ds:List DV} {xs:List cJ},qV s ds xs->qV s' ds xs
 |_,[],h=>h
 |_,_::_,⟨z,p,t,hz,h1,h2,h3⟩=>⟨z,p,t,hz,h1,h2.kp k,h3.kp k⟩
theorem qV.av {s:St} : ∀ {ds:List DV} {xs:List cJ},qV s ds xs->hU s ds xs
 |_,[],h=>h
 |_,_::_,⟨z,p,t,hz,h1,h2,h3⟩=>⟨z,p,t,hz,h1,h2.1,h3.av⟩
theorem qV.get {s:St} : ∀ {ds:List DV} {xs:List cJ},qV s ds xs->∀ {j:Nat} {x:cJ},xs[j]? =some x->∃z p,(z=4\/p=none)/\ds[j*2]? =some (.str x.name)/\ds[j*2+1]? =some (.slice z p x.aK.length)/\Fz s p (bK x.aK)
 |_,[],_,j,x,e=>by simp at e
 |ds,y::r,⟨zq,q,t,DL,h1,h2,h3⟩,0,x,e=>by
  simp only[gJ,cQ]at e;subst e;subst h1;exact⟨zq,q,DL,rfl,rfl,h2⟩
 |ds,y::r,⟨zq,q,t,DL,h1,h2,h3⟩,j+1,x,e=>by
  obtain⟨z,p,hz,g2,g3,g4⟩:=h3.get (j:=j) (x:=x) (by simpa using e);refine⟨z,p,hz,?_,?_,g4⟩
  ·rw[h1,gN (by rw[sA];omega),sA,show(j+1)*2-2=j*2 by omega]
   exact g2
  ·rw[h1,gN (by rw[sA];omega),sA,show(j+1)*2+1-2=j*2+1 by omega]
   exact g3
structure vp (s:St) (x:cK) (p1 p2 p3:Option (Nat×Nat)):Prop where
 hp: ∃ds,Fz s p1 ds/\qV s ds x.av
 gn:Fz s p2 (ints x.gens)
 fr:Fz s p3 (ints x.free)
theorem vp.kp {s s':St} {x:cK} {p1 p2 p3:Option (Nat×Nat)} (h:vp s x p1 p2 p3) (k:Kp s s'):vp s' x p1 p2 p3:=
 let ⟨ds,h1,h2⟩:=h.hp
 ⟨⟨ds,h1.kp k,h2.kp k⟩,h.gn.kp k,h.fr.kp k⟩
theorem vp.str {s:St} {x:cK} {p1 p2 p3:Option (Nat×Nat)} (h:vp s x p1 p2 p3):l8 s x p1 p2 p3:=
 let ⟨ds,h1,h2⟩:=h.hp
 ⟨⟨ds,h1.1,h2.av⟩,h.gn.1,h.fr.1⟩
def dc (cnt:Nat):Nat->Nat->List Int->List bc->bd->List Int×bd
 |0,_,hs,_,m=>(hs,m)
 |c+1,k,hs,rest,m=>bif dG cnt k then(fun t:Nat×bd=>dc cnt c (k+1) (hs.set k (t.1:Int)) (rest.drop (2^k)) t.2) (eO k (rest.take (2^k)) m)else dc cnt c (k+1) hs rest m
def roots (es:List bc) (m:bd):List Int×bd:=dc es.length 12 0 (List.replicate 12 0) es m
def eG:List cJ->List Int->bd->List Int×bd
 |[],cX,m=>(cX,m)
 |x::r,cX,m=>(fun t:List Int×bd=>eG r (cX++[(t.2.next:Int)]) (eD t.2 (oF ⟨x.name,x.aK.length,t.1⟩))) (roots x.aK m)
def ml (l:List cJ) (m:bd):Nat×bd:=(fun t:List Int×bd=>match p8 t.1 with
 |none=>(0,t.2)
 |some s=>(t.2.next,eD t.2 s)) (eG l [] m)
theorem L7 (a k:Nat):a%2^(k+1)=a%2^k+(if a/2^k%2=1 then 2^k else 0):=by
 rw[mS,Nat.mod_mul];rcases zf (a/2^k)with h|h
 ·rw[h,ay (by omega)];rfl
 ·rw[h,aF rfl,dx]
theorem Zy4 {a k:Nat} (h:dG a k=true):a%2^k+2^k<=a:=by
 have h1:a/2^k%2=1:=mU h;have h2:a%2^(k+1)<=a:=Nat.mod_le _ _;rw[L7,aF h1]at h2;exact h2
theorem Hb (cnt:Nat): ∀(c k:Nat) (hs:List Int) (rest:List bc) (m:bd),(dc cnt c k hs rest m).2.B.length=m.B.length/\(dc cnt c k hs rest m).2.At.length=m.At.length/\(dc cnt c k hs rest m).2.next+cnt%2^k<=m.next+cnt%2^(k+c)/\m.next<=(dc cnt c k hs rest m).2.next/\(dc cnt c k hs rest m).1.length=hs.length
 |0,k,hs,rest,m=>⟨rfl,rfl,aA _,aA _,rfl⟩
 |c+1,k,hs,rest,m=>by
  unfold dc;have e:=L7 cnt k;have e2:k+(c+1)=k+1+c:=by omega
  rw[e2];cases hb:dG cnt k with
  |true=>
   rw[cond_true];obtain⟨a1,a2,a3,a4⟩:=Hx k (rest.take (2^k)) m;obtain⟨b1,b2,b3,b4,b5⟩:=Hb cnt c (k+1) (hs.set k ((eO k (rest.take (2^k)) m).1:Int)) (rest.drop (2^k)) (eO k (rest.take (2^k)) m).2;rw[aF (mU hb)]at e;simp only;exact⟨b1.trans a1,b2.trans a2,by omega,by omega,by rw[b5,ju]⟩
  |false=>
   rw[cond_false];obtain⟨b1,b2,b3,b4,b5⟩:=Hb cnt c (k+1) hs rest m;rw[ay (vj hb)]at e;exact⟨b1,b2,by omega,b4,b5⟩
theorem BT (es:List bc) (m:bd):(roots es m).2.B.length=m.B.length/\(roots es m).2.At.length=m.At.length/\(roots es m).2.next<=m.next+es.length/\m.next<=(roots es m).2.next/\(roots es m).1.length=12:=by
 obtain⟨b1,b2,b3,b4,b5⟩:=Hb es.length 12 0 (List.replicate 12 0) es m;have:=Nat.mod_le es.length (2^(0+12));rw[oO]at b5;unfold roots;exact⟨b1,b2,by omega,b4,b5⟩
def iC (l:List cJ):Nat:=(l.map fun x=>x.aK.length).sum
theorem zG: ∀(l:List cJ) (cX:List Int) (m:bd),(eG l cX m).2.B.length=m.B.length/\(eG l cX m).2.At.length=m.At.length/\(eG l cX m).2.next<=m.next+iC l+l.length/\m.next<=(eG l cX m).2.next/\(eG l cX m).1.length=cX.length+l.length
 |[],cX,m=>⟨rfl,rfl,aA _,aA _,rfl⟩
 |x::r,cX,m=>by
  obtain⟨a1,a2,a3,a4,a5⟩:=BT x.aK m;obtain⟨b1,b2,b3,b4,b5⟩:=zG r (cX++[((roots x.aK m).2.next:Int)]) (eD (roots x.aK m).2 (oF ⟨x.name,x.aK.length,(roots x.aK m).1⟩));have hn:(eD (roots x.aK m).2 (oF ⟨x.name,x.aK.length,(roots x.aK m).1⟩)).next=(roots x.aK m).2.next+1:=rfl;rw[hn]at b3 b4;have e:iC (x::r)=x.aK.length+iC r:=by unfold iC;rw[gK,List.sum_cons]
  unfold eG;refine⟨b1.trans ((oT _ _).trans a1),b2.trans a2,?_,?_,?_⟩
  ·rw[e,ee];simp only;omega
  ·simp only;omega
  ·simp only[b5,aZ,ee,xa];omega
theorem Zyg (l:List cJ) (m:bd):(ml l m).2.B.length=m.B.length/\(ml l m).2.At.length=m.At.length/\(ml l m).2.next<=m.next+iC l+l.length+1/\m.next<=(ml l m).2.next:=by
 obtain⟨a1,a2,a3,a4,a5⟩:=zG l [] m;unfold ml;simp only;cases p8 (eG l [] m).1 with
 |none=>exact⟨a1,a2,by simp only;omega,a4⟩
 |some s=>exact⟨(oT _ _).trans a1,a2,by show _+1<=_;omega,by show _<=_+1;omega⟩
theorem Zzi (a k:Nat) (hk:k<64):((((a:Nat):Int).fdiv (2^(min k 64))).tmod 2==1)=dG a k:=by
 rw[jK (by omega),show((2:Int)^k)=((2^k:Nat):Int) by push_cast;rfl,zX];have e:((a/2^k:Nat):Int).tmod 2=((a/2^k%2:Nat):Int):=rfl;rw[e];unfold dG;by_cases h:a/2^k%2=1
 ·rw[h,ah rfl];rfl
 ·rw[ao h];exact cg.2 (by omega)
theorem Zy6 {Bd:Za} (hT:ET Bd) {Q:Out (List DV)×St->Prop} {Kn:List DV->M (List DV)} (n:Nat) {i ib ia:Nat} {m:bd} (nm:List UInt8) (es:List bc) (p:Option (Nat×Nat)) (z0:Nat) (tj:z0=4\/p=none) (st:St) (hm:fw st i ib ia m) (hs:Fz st p (bK es)) (cL: ∀e∈es,0<=e.slot/\e.slot<(m.At.length:Int)) (AW:m.next+es.length<=800000) (hB:m.B.length<1000000) (AD:m.At.length<100000) (hle:es.length<100000) (hn:3020<=n)
  (az: ∀t,fw t i ib ia (roots es m).2->Fx [i,ib,ia] st t->Ok Q (Kn [.agg (.str nm:: .int .i64 (es.length:Int)::ints (roots es m).1)] t)):
  Ok Q (M.loop (fun dW st=>
    J.a st fun di st=>
    J.s di fun q2 r3=>
    J.i .i64 r3 fun q3 r4=>
    D.len r4 12<|
    J.l 4 st fun rest uY st=>
    J.i .i64 st fun k st=>
    D.nil st<|
    bif decide (k<12)then
     M.ak (decide (0<=k))<|
     M.join (fun st=>
      J.a st fun fJ st=>
      J.s fJ fun q4 r5=>
      J.i .i64 r5 fun q5 r6=>
      D.len r6 12<|
      J.l 4 st fun RX RY st=>
      D.nil st<|
      dW [.agg ((.str q4)::(.int .i64 q5)::r6),.slice 4 RX RY,.int .i64 (af (k+1))]) fun bq=>
     bif ((q3.fdiv (2^(min k.toNat 64))).tmod 2)==1 then
      M.ak (decide (0<=k))<|
      M.ak (decide (0<=af (1*2^(min k.toNat 64)))&&decide (af (1*2^(min k.toNat 64))<=(uY:Int)))<|
      M.call (run Bd n 217 [.ptr (some (i,0)),.slice 4 rest ((af (1*2^(min k.toNat 64))).toNat)]) fun ds=>
      J.i .i64 ds fun x8 ds=>
      D.nil ds<|
      M.ak (au k 12)<|
      M.ak (Nat.ble (k.toNat*1+2+1) 14)<|
      M.ak (decide (0<=k))<|
      M.ak (decide (0<=af (1*2^(min k.toNat 64)))&&decide (af (1*2^(min k.toNat 64))<=(uY:Int)))<|
      bq [.agg ((.str q2)::(.int .i64 q3)::(bN r4 (k.toNat*1) [.int .i64 x8])),.slice 4 (cY true rest (((af (1*2^(min k.toNat 64))).toNat)*4)) (uY-((af (1*2^(min k.toNat 64))).toNat))]
     else
      bq [.agg ((.str q2)::(.int .i64 q3)::r4),.slice 4 rest uY]
    else
     Kn [.agg ((.str q2)::(.int .i64 q3)::r4)]) n [.agg (.str nm:: .int .i64 (es.length:Int)::ints (List.replicate 12 0)),.slice z0 p es.length,.int .i64 0] st):=by
 obtain⟨G,hG⟩: ∃G,roots es m=G:=⟨_,rfl⟩;rw[hG]at az;unfold roots at hG;refine Zl _ (fun q y t=>∃(k z:Nat) (p':Option (Nat×Nat)) (gM:List Int) (m':bd),y=[.agg (.str nm:: .int .i64 (es.length:Int)::ints gM),.slice z p' (es.length-es.length%2^k),.int .i64 (k:Int)]/\(z=4\/p'=none)/\k<=12/\12-k<=q/\gM.length=12/\fw t i ib ia m'/\Fx [i,ib,ia] st t/\Fz t p' (bK (es.drop (es.length%2^k)))/\m'.next<=m.next+es.length%2^k/\m'.B.length=m.B.length/\m'.At.length=m.At.length/\dc es.length (12-k) k gM (es.drop (es.length%2^k)) m'=G) ?_ 12 n _ _ ⟨0,z0,p,List.replicate 12 0,m,by rw[zh,Nat.mod_one,se];rfl,tj,bH _,by omega,oO,hm,.refl _ _,by rw[zh,Nat.mod_one,dw];exact hs,by omega,rfl,rfl,by rw[zh,Nat.mod_one,dw];exact hG⟩ (by omega);rintro q _ t ⟨k,z,p',gM,m',rfl,Rj,hk,hq,yg,mu,bL,bC,AX,vV,uj,cC⟩ rec aD;have gR:(ints gM).length=12:=by simp[ints,yg]
 rw[bU];simp only[bV,al];rw[bB gR];simp only[Zm 4 z p' _ Rj,al,ae];by_cases aj:k<12
 ·have hw:af ((k:Int)+1)=((k+1:Nat):Int):=Zd (by omega) (by omega)
  have h2k:2^k<=2^11:=pU (by decide) (by omega);have h11:2^11=2048:=by decide
  have DA:af (1*2^(min k 64))=((2^k:Nat):Int):=by
   rw[jK (by omega),Int.one_mul,show((2:Int)^k)=((2^k:Nat):Int) by push_cast;rfl];exact Zd (by omega) (by omega)
  rw[ah (show(k:Int)<12 by omega),cond_true,Ze (ah (by omega))];simp only[aY,DA,hw];rw[Zb,Zzi _ _ (by omega)];have e12:12-k=(12-(k+1))+1:=by omega
  rw[e12]at cC;unfold dc at cC;have emod:=L7 es.length k;cases hb:dG es.length k with
  |true=>
   rw[hb,cond_true]at cC;have uv:=Zy4 hb;rw[aF (mU hb)]at emod;have bj:0<2^k:=mT k;rw[cond_true,Ze (ah (by omega)),Ze (by rw[aH,bx,bx];omega)];obtain⟨A,hA⟩: ∃A,es.drop (es.length%2^k)=A:=⟨_,rfl⟩;have fK:A.length=es.length-es.length%2^k:=by rw[<-hA,ej]
   have hAm: ∀e∈A,e∈es:=fun e he=>r9 (by rw[hA];exact he)
   rw[hA]at bC cC;have hAk:(A.take (2^k)).length=2^k:=by rw[cn];omega
   have rH:Fz t p' (bK (A.take (2^k))):=⟨by
    have:=bC.1.lx (2^k*4)
    rwa [Znn]at this,bC.2⟩
   have pw:(DV.slice 4 p' (2^k))= .slice 4 p' (A.take (2^k)).length:=by rw[hAk]
   rw[pw];refine Ok.call (Zsj hT k n (A.take (2^k)) p' t mu rH hAk (fun e he=>by rw[uj];exact cL e (hAm e (sa he))) (by omega) (by omega) (by rw[vV];exact hB) (by rw[uj];exact AD) (by omega)) ?_;rintro _ ⟨t1,rfl,eC,jD⟩;refine⟨_,t1,rfl,?_⟩;simp only[al,ae];rw[Ze (show au (k:Int) 12=true from Zk aj),ZF (by omega),Ze (ah (by omega)),Ze (by rw[aH,bx,bx];omega)];obtain⟨k1,k2,k3,k4⟩:=Hx k (A.take (2^k)) m';have cu:bN (ints gM) (k*1) [.int .i64 ((eO k (A.take (2^k)) m').1:Int)]=ints (gM.set k ((eO k (A.take (2^k)) m').1:Int)):=by
    rw[dx,xC _ _ _ (by omega)];unfold ints;rw[zc]
   rw[cu];have QK:(ints (gM.set k ((eO k (A.take (2^k)) m').1:Int))).length=12:=by simp[ints,yg]
   show Ok _ (J.a [.agg (.str nm:: .int .i64 (es.length:Int)::ints (gM.set k ((eO k (A.take (2^k)) m').1:Int))),.slice 4 (cY true p' (2^k*4)) (es.length-es.length%2^k-2^k)] _ t1);rw[bU];simp only[bV,al];rw[bB QK];simp only[br,ae];have Ba:=bC.kp (mu.kp jD);have jj:es.drop (es.length%2^(k+1))=A.drop (2^k):=by rw[<-hA,iM,emod]
   have hlen:es.length-es.length%2^(k+1)=es.length-es.length%2^k-2^k:=by omega
   refine aD (12-(k+1)) _ _ (by omega) ⟨k+1,4,cY true p' (2^k*4),_,_,by rw[hlen],.inl rfl,by omega,aA _,by rw[ju,yg],eC,bL.trans jD,?_,by omega,k1.trans vV,k2.trans uj,by rw[jj];exact cC⟩;rw[jj];refine⟨?_,?_⟩
   ·have:=Ba.1.cY (k:=2^k*4) (by rw[Zx];omega)
    rwa [Znd]at this
   ·obtain⟨bi,bo,rfl⟩:=Ba.1.cm (by rw[Zx];omega)
    intro b o' e;have e':some (bi,2^k*4+bo)=some (b,o'):=e;cases e';exact Ba.2 bi bo rfl
  |false=>
   rw[hb,cond_false]at cC;rw[ay (vj hb),dC]at emod;rw[cond_false];show Ok _ (J.a [.agg (.str nm:: .int .i64 (es.length:Int)::ints gM),.slice 4 p' (es.length-es.length%2^k)] _ t);rw[bU];simp only[bV,al];rw[bB gR];simp only[br,ae];exact aD (12-(k+1)) _ _ (by omega) ⟨k+1,4,p',gM,m',by rw[emod];rfl,.inl rfl,by omega,aA _,yg,mu,bL,by rw[emod];exact bC,by rw[emod];exact AX,vV,uj,by rw[emod];exact cC⟩
 ·have:k=12:=by omega
  subst this;rw[ao (show ¬((12:Nat):Int)<12 by omega),cond_false];have hG2:(gM,m')=G:=cC;rw[<-hG2]at az;exact az t mu bL
end Go.Gv.F
namespace Go.Gv.F
open Go.Gv
variable {β:Type}
theorem lZ (cs r:List DV) (K:List DV->List DV->M β):J.a (.agg cs::r) K=K cs r:=rfl
theorem Ztp {Bd:Za} (h:Lc Bd) (n:Nat) {i ib ia:Nat} {m:bd} (l:List cJ) (p:Option (Nat×Nat)) (z:Nat) (ds:List DV) (st:St) (hz:z=2\/p=none) (hm:fw st i ib ia m) (hs:Fz st p ds) (hh:qV st ds l) (cL: ∀x∈l,∀e∈x.aK,0<=e.slot/\e.slot<(m.At.length:Int)) (nC: ∀x∈l,x.name.length+600<=n/\x.name.length<60000/\x.aK.length<100000) (AW:m.next+iC l+l.length<=700000) (hl:l.length<1000) (hB:m.B.length<1000000) (AD:m.At.length<100000) (hn:4000<=n):
  Ok (fun o=>∃eN,o=(.val [.int .i64 (ml l m).1],eN)/\fw eN i ib ia (ml l m).2/\Fx [i,ib,ia] st eN) (run Bd n 189 [.ptr (some (i,0)),.slice z p l.length] st):=by
 obtain⟨n,rfl⟩: ∃k,n=k+2:=⟨n-2,by omega⟩;rw[Zf,h.eq];unfold Fc;simp only[fa,Zm 2 z p _ hz,ae];obtain⟨T,hT⟩: ∃T,ml l m=T:=⟨_,rfl⟩;rw[hT];unfold ml at hT;obtain⟨l1,l2,l3⟩:=hm.lt;refine Ok.join fun aq uB=>?_
 refine Zl _ (fun q y t=>∃(k zk:Nat) (a:Option (Nat×Nat)) (cX:List Int) (m':bd),y=[.slice zk a cX.length,.int .i64 (k:Int)]/\(zk=1\/a=none)/\k<=l.length/\l.length-k<=q/\fw t i ib ia m'/\Fx [i,ib,ia] st t/\bh [] t a (ints cX)/\(∀b∈aC a,st.length<=b)/\cX.length=k/\m'.B.length=m.B.length/\m'.At.length=m.At.length/\m'.next+iC (l.drop k)+(l.length-k)<=m.next+iC l+l.length/\eG (l.drop k) cX m'=eG l [] m) ?_ l.length (n+1) _ _ ⟨0,0,none,[],m,rfl,.inr rfl,bH _,by omega,hm,.refl _ _,bh.nil ⟨st,rfl⟩,(fun _ h=>by cases h),rfl,rfl,rfl,aA _,rfl⟩ (by omega);rintro q _ t ⟨k,zk,a,cX,m',rfl,Rh,hk,hq,mu,bL,wB,kU,xX,vV,uj,AX,az⟩ rec aD;simp only[al,Zm 1 zk a _ Rh,ae];have nA:=hm.kp bL;have bE:=hs.kp nA;have hht:=hh.kp nA;by_cases aj:k<l.length
 ·have kW:=hht.av.len
  obtain⟨bi,bo,rfl⟩:=bE.1.cm (by rw[kW];omega);have iY:l[k]? =some l[k]:=ba aj;have jj:l.drop k=l[k]::l.drop (k+1):=hJ aj;have fN:l[k]∈l:=gC aj;rw[jj]at az AX;generalize l[k]=x at iY az AX fN;obtain⟨zx,px,hzx,pB,rB,jD⟩:=hht.get iY;have C5:iC (x::l.drop (k+1))=x.aK.length+iC (l.drop (k+1)):=by unfold iC;rw[gK,List.sum_cons]
  rw[C5]at AX;have pD: ∀K:DV->M (List DV),M.ar bi (k*2+bo+1) K t=K (.slice zx px x.aK.length) t:=fun K=>by
   have:=bE.1.get rB K;rw[<-this];congr 1;omega
  rw[ah (show(k:Int)<(l.length:Int) by omega),cond_true,Zb,aW,Ze (Zk aj)];simp only[aY];rw[bE.1.get pB];simp only[vk];rw[aW,Ze (Zk aj),pD];rw[Z5 4 zx px _ hzx,aW,Ze (Zk aj),pD,Z5 4 zx px _ hzx];refine Ok.join fun aV wm=>?_
  obtain⟨n1,n2,n3⟩:=nC x fN;refine Zy6 h.q24 (n+1) x.name x.aK px 4 (.inl rfl) t mu jD (fun e he=>by rw[uj];exact cL x fN e he) (by omega) (by omega) (by omega) n3 (by omega) (Kn:=aV) ?_;intro t1 eC eB;rw[wm];obtain⟨k1,k2,k3,k4,k5⟩:=BT x.aK m';have gR:(ints (roots x.aK m').1).length=12:=by simp[ints,k5]
  show Ok _ (J.a [.agg (.str x.name:: .int .i64 (x.aK.length:Int)::ints (roots x.aK m').1)] _ t1);rw[bU];simp only[bV,al];rw[bB gR];simp only[ae];refine Ok.call (ZtG h.Xx (n+1) ⟨x.name,x.aK.length,(roots x.aK m').1⟩ k5 n2 t1 (by show x.name.length+500<=_;omega)) ?_;rintro _ ⟨t2,rfl,bj⟩;refine⟨_,t2,rfl,?_⟩;simp only[bV,ae];refine Ok.call (xL h.tq n (oF ⟨x.name,x.aK.length,(roots x.aK m').1⟩) t2 (eC.pre bj) (by omega) (by omega)) ?_;rintro _ ⟨t3,rfl,wz,dS⟩;refine⟨_,t3,rfl,?_⟩;simp only[al,ae];have hw:af ((k:Int)+1)=((k+1:Nat):Int):=Zd (by omega) (by omega);simp only[hw];have ou:Fx [i,ib,ia] t t3:=(eB.trans (Fx.pre _ bj)).trans (dS.mono fun y hy=>by simp only[cd,j4,iB]at hy⊢;omega);have ta: ∀b∈aC a,b∉[i,ib,ia]:=fun b hb lP=>by
   have:=kU b hb;simp only[cd,j4,iB]at lP;omega
  have ym:=wB.fx ou ta;obtain⟨b,t4,r1,r2,r3,r4⟩:=tT (β:=List DV) (lim:=8796093022208) ym (sz:=1) (n:=cX.length) [.int .i64 ((roots x.aK m').2.next:Int)] (by omega) (by simp[ints]) rfl (by omega);refine Eq.mpr (congrArg (Ok _) (r4 _)) ?_;simp only[br,ae];have JB:=wz.fx r3 fun y hy=>by
   have:=kU y hy;omega
  refine aD (l.length-(k+1)) _ _ (by omega) ⟨k+1,1,some (b,0),cX++[((roots x.aK m').2.next:Int)],_,?_,.inl rfl,by omega,aA _,JB,(bL.trans ou).step r3 fun y hy=> .inr (kU y hy),?_,fun y hy=>?_,?_,(oT _ _).trans (k1.trans vV),k2.trans uj,?_,az⟩
  ·rw[aZ];rfl
  ·unfold ints
   rw[dD];exact r2
  ·rw[bP.1 hy]
   have:=(bL.trans ou).1;omega
  ·rw[aZ,xX];rfl
  ·show(roots x.aK m').2.next+1+_+_<=_
   omega
 ·have iT:k=l.length:=by omega
  rw[ao (show ¬(k:Int)<(l.length:Int) by omega),cond_false,uB];rw[mO (by omega)]at az;have cC:eG l [] m=(cX,m'):=az.symm;rw[cC]at hT;simp only at hT;obtain⟨d1,d2,d3,d4,d5⟩:=zG l [] m;rw[cC]at d3;simp only at d3;simp only[br,ae];refine Ok.call (Zuq h.Xw (n+1) cX 1 a t (.inl rfl) wB.sl (by omega) (by omega)) ?_;rintro _ ⟨t1,rfl,aJ⟩;refine⟨_,t1,rfl,?_⟩;cases wC:p8 cX with
  |none=>
   rw[wC]at hT;unfold tt;simp only[bV,ai,ae];rw[bu,cond_true,Zc,<-hT];exact .mk ⟨t1,rfl,mu.pre aJ,bL.trans (Fx.pre _ aJ)⟩
  |some s=>
   rw[wC]at hT;unfold tt;simp only[bV,ai,ae];rw[bg,cond_false];refine Ok.call (xL h.tq n s t1 (mu.pre aJ) (by omega) (by omega)) ?_;rintro _ ⟨t2,rfl,dH,eB⟩;refine⟨_,t2,rfl,?_⟩;simp only[al,ae,Zc];rw[<-hT];exact .mk ⟨t2,rfl,dH,(bL.trans (Fx.pre _ aJ)).trans (eB.mono fun y hy=>by simp only[cd,j4,iB]at hy⊢;omega)⟩
end Go.Gv.F
namespace Go.Gv.F
open Go.Gv
variable {β:Type}
theorem Zq5: ∀(l:List bF) (i:Nat) (x:bF),i<l.length->bN (bR l) (i*3) (fQ x)=bR (l.set i x)
 |[],i,x,h=>by cases h
 |y::l,0,x,h=>by
  rw[nV];exact rb [] (fQ y) (bR l) (fQ x) rfl
 |y::l,i+1,x,h=>by
  have e:=Zq5 l i x (by simpa using h);rw[pS];show(.bool y.live:: .int .i64 y.gen:: .int .i64 y.block::bN (bR l) (i*3) (fQ x):List DV)=_;rw[e];rfl
theorem Zos: ∀(l:List bF) (i:Nat) (x:bF) (b:Bool),l[i]? =some x->bN (bR l) (i*3) [.bool b]=bR (l.set i { x with live:=b })
 |[],i,x,b,h=>by simp at h
 |y::l,0,x,b,h=>by
  simp only[gJ,cQ]at h;subst h;rw[nV];exact rb [] [.bool y.live] (.int .i64 y.gen:: .int .i64 y.block::bR l) [.bool b] rfl
 |y::l,i+1,x,b,h=>by
  have e:=Zos l i x b (by simpa using h);rw[pS];show(.bool y.live:: .int .i64 y.gen:: .int .i64 y.block::bN (bR l) (i*3) [.bool b]:List DV)=_;rw[e];rfl
theorem MA: ∀(l:List bF) (i:Nat) (x:bF) (b:Int),l[i]? =some x->bN (bR l) (i*3+2) [.int .i64 b]=bR (l.set i { x with block:=b })
 |[],i,x,b,h=>by simp at h
 |y::l,0,x,b,h=>by
  simp only[gJ,cQ]at h;subst h;rw[nV];exact rb [.bool y.live,.int .i64 y.gen] [.int .i64 y.block] (bR l) [.int .i64 b] rfl
 |y::l,i+1,x,b,h=>by
  have e:=MA l i x b (by simpa using h);rw[pS,Nat.add_right_comm];show(.bool y.live:: .int .i64 y.gen:: .int .i64 y.block::bN (bR l) (i*3+2) [.int .i64 b]:List DV)=_;rw[e];rfl
def jR (k:Int):List Int->Int->Int
 |a::b::r,c=>jR k (b::r) (bif a==k then af (b+1)else c)
 |_,c=>c
def dY (gens At free:List Int) (k:Nat):bF:=⟨!(At.getD k 0==0),gens.getD k 0,jR (k:Int) free (At.getD k 0)⟩
theorem ZAe {Q:Out (List DV)×St->Prop} {Kn:List DV->M (List DV)} (n:Nat) (free:List Int) (pf:Option (Nat×Nat)) (K i:Nat) (l:List bF) (x:bF) (s:St) (hf:Sl s pf (ints free)) (hl:l.length=7) (hi:i<7) (hx:l[i]? =some x) (eI:free.length<100000) (hn:free.length+1<n)
  (az:Ok Q (Kn [.agg (bR (l.set i { x with block:=jR (K:Int) free x.block }))] s)):
  Ok Q (M.loop (fun D7 st=>
       J.a st fun oj st=>
      D.len oj 21<|
      J.i .i64 st fun k1 st=>
      D.nil st<|
      bif decide (af (k1+1)<(free.length:Int))then
       M.nn pf fun i7 o4=>
      M.ak (au k1 free.length)<|
      M.ar i7 (k1.toNat*1+o4) fun d4=>
      D.int .i64 d4 fun jo=>
      M.join (fun st=>
       J.a st fun vP st=>
      D.len vP 21<|
      D.nil st<|
      D7 [.agg vP,.int .i64 (af (k1+1))]) fun kz=>
      bif jo==((K:Nat):Int)then
       M.nn pf fun i8 o5=>
      M.ak (au (af (k1+1)) free.length)<|
      M.ar i8 (((af (k1+1)).toNat)*1+o5) fun d5=>
      D.int .i64 d5 fun j1=>
      M.ak (au ((i:Nat):Int) 7)<|
      M.ak (Nat.ble (i*3+2+1) 21)<|
      kz [.agg (bN oj (i*3+2) [.int .i64 (af (j1+1))])]
      else
       kz [.agg oj]
      else
       Kn [.agg oj]) n [.agg (bR l),.int .i64 0] s):=by
 have WG:l.set i { x with block:=x.block } =l:=by
  have wi:i<l.length:=by omega
  rw[ba wi]at hx;cases hx;exact List.set_getElem_self wi
 obtain⟨G,hG⟩: ∃G,jR (K:Int) free x.block=G:=⟨_,rfl⟩;rw[hG]at az;refine Zl _ (fun q y t=>∃(k:Nat) (c:Int),y=[.agg (bR (l.set i { x with block:=c })),.int .i64 (k:Int)]/\k<=free.length/\free.length-k<=q/\t=s/\jR (K:Int) (free.drop k) c=G) ?_ free.length n _ _ ⟨0,x.block,by rw[WG];rfl,bH _,by omega,rfl,hG⟩ (by omega);rintro q _ t ⟨k,c,rfl,hk,hq,rfl,cC⟩ rec aD;have dz:(bR (l.set i { x with block:=c })).length=21:=by rw[ZP,ju,hl]
 have hw:af ((k:Int)+1)=((k+1:Nat):Int):=Zd (by omega) (by omega);rw[bU,bB dz];simp only[al,ae,hw];by_cases aj:k+1<free.length
 ·have lO:k<free.length:=by omega
  have sT:free.drop k=free[k]::free.drop (k+1):=hJ lO;have ji:free.drop (k+1)=free[k+1]::free.drop (k+2):=hJ aj;rw[sT,ji]at cC;unfold jR at cC;rw[<-ji]at cC;obtain⟨bi,bo,rfl⟩:=hf.cm (by simp[ints];omega);have pB:(ints free)[k]? =some (.int .i64 free[k]):=Zw lO;have rB:(ints free)[k+1]? =some (.int .i64 free[k+1]):=Zw aj;rw[ah (show((k+1:Nat):Int)<(free.length:Int) by omega),cond_true,aW,Ze (Zk lO)];simp only[aY];rw[hf.dj pB];simp only[aS];rw[Zb];cases he:(free[k]==((K:Nat):Int))with
  |false=>
   rw[he,cond_false]at cC;rw[cond_false];show Ok _ (J.a [.agg (bR (l.set i { x with block:=c }))] _ t);rw[bU,bB dz];simp only[ae];exact aD (free.length-(k+1)) _ _ (by omega) ⟨k+1,c,rfl,by omega,aA _,rfl,cC⟩
  |true=>
   rw[he,cond_true]at cC;rw[cond_true,aW,Ze (Zk aj),hf.dj rB];simp only[aS];rw[Ze (show au ((i:Nat):Int) 7=true from Zk hi),ZF (by omega)];have fY:bN (bR (l.set i { x with block:=c })) (i*3+2) [.int .i64 (af (free[k+1]+1))]=bR (l.set i { x with block:=af (free[k+1]+1) }):=by
    rw[MA _ i { x with block:=c } _ (by rw[fV (by omega)]),List.set_set]
   rw[fY];have C0:(bR (l.set i { x with block:=af (free[k+1]+1) })).length=21:=by rw[ZP,ju,hl]
   show Ok _ (J.a [.agg (bR (l.set i { x with block:=af (free[k+1]+1) }))] _ t);rw[bU,bB C0];simp only[ae];exact aD (free.length-(k+1)) _ _ (by omega) ⟨k+1,_,rfl,by omega,aA _,rfl,cC⟩
 ·rw[ao (show ¬((k+1:Nat):Int)<(free.length:Int) by omega),cond_false]
  have:jR (K:Int) (free.drop k) c=c:=by
   have jV:(free.drop k).length<=1:=by rw[ej];omega
   cases hdk:free.drop k with
   |nil=>unfold jR;rfl
   |cons a r=>
    rw[hdk]at jV;have:r=[]:=r8.1 (by rw[ee]at jV;omega);subst this;unfold jR;rfl
  rw[this]at cC;rw[cC];exact az
def kB (gens At free:List Int) (f i:Nat):List bF:=(List.range 7).map fun t=>bif decide (t<i)&&decide (f+t<gens.length)then dY gens At free (f+t)else lr
def ja (gens At free:List Int) (f:Nat):List bF:=kB gens At free f 7
theorem sB (gens At free:List Int) (f i:Nat):(kB gens At free f i).length=7:=by unfold kB;simp
theorem NA (gens At free:List Int) (f i t:Nat) (h:t<7):(kB gens At free f i)[t]? =some (bif decide (t<i)&&decide (f+t<gens.length)then dY gens At free (f+t)else lr):=by
 unfold kB;rw[gB,nS h];rfl
theorem ZwT (gens At free:List Int) (f i:Nat) (hi:i<7) (hf:f+i<gens.length):kB gens At free f (i+1)=(kB gens At free f i).set i (dY gens At free (f+i)):=by
 refine mP fun t=>?_
 by_cases ht:t<7
 ·rw[NA _ _ _ _ _ _ ht]
  by_cases h:t=i
  ·subst h
   rw[fV (by rw[sB];exact ht),ah (show t<t+1 by omega),ah hf];rfl
  ·rw[ec (by omega),NA _ _ _ _ _ _ ht]
   have:decide (t<i+1)=decide (t<i):=by
    by_cases h2:t<i
    ·rw[ah h2,ah (show t<i+1 by omega)]
    ·rw[ao h2,ao (show ¬t<i+1 by omega)]
   rw[this]
 ·rw[dL (by rw[sB];omega),dL (by rw[ju,sB];omega)]
theorem Zwf (gens At free:List Int) (f i:Nat) (h:gens.length<=f+i):kB gens At free f i=ja gens At free f:=by
 unfold ja kB;refine vd fun t ht=>?_
 by_cases h2:f+t<gens.length
 ·rw[ah (show t<i by omega),ah (jd.1 ht)]
 ·rw[ao h2,rY,rY]
theorem Zwu (gens At free:List Int) (f:Nat):kB gens At free f 0=uQ:=by
 unfold kB uQ;rw[vd (g:=fun _=>lr) fun t _=>by rw[ao (show ¬t<0 by omega)];rfl];rfl
theorem ZyU {Q:Out (List DV)×St->Prop} {Kn:List DV->M (List DV)} (n:Nat) {i ib ia:Nat} {m:bd} (gens free:List Int) (pg pf:Option (Nat×Nat)) (f:Nat) (s:St) (hm:fw s i ib ia m) (hg:Sl s pg (ints gens)) (eK:Sl s pf (ints free)) (ux:gens.length<100000) (eI:free.length<100000) (AD:m.At.length=gens.length) (hf:f<100000) (hn:free.length+10<n) (mw:10<n)
  (az:Ok Q (Kn [.agg (bR (ja gens m.At free f))] s)):
  Ok Q (M.loop (fun RW st=>
    J.a st fun ue st=>
    D.len ue 21<|
    J.i .i64 st fun i3 st=>
    D.nil st<|
    M.join (fun st=>J.b st fun b3 st=>D.nil st<|
     bif b3 then
      M.join (fun st=>
       J.a st fun CE st=>
      D.len CE 21<|
      D.nil st<|
      RW [.agg CE,.int .i64 (af (i3+1))]) fun ku=>
      M.nn pg fun i4 o1=>
      M.ak (au (af (((f:Nat):Int)+i3)) gens.length)<|
      M.ar i4 (((af (((f:Nat):Int)+i3)).toNat)*1+o1) fun d1=>
      D.int .i64 d1 fun gk=>
      M.ak (au i3 7)<|
      M.ak (Nat.ble (i3.toNat*3+3) 21)<|
      M.nn (some (i,0)) fun i5 o2=>
      M.ar i5 (o2+2) fun d2=>
      D.slice 1 d2 fun gI u6=>
      M.nn gI fun i6 o3=>
      M.ak (au (af (((f:Nat):Int)+i3)) u6)<|
      M.ar i6 (((af (((f:Nat):Int)+i3)).toNat)*1+o3) fun d3=>
      D.int .i64 d3 fun kI=>
      M.join (fun st=>
       J.a st fun CC st=>
      D.len CC 21<|
      D.nil st<|
      M.join (fun st=>
       J.a st fun CD st=>
      D.len CD 21<|
      D.nil st<|
      ku [.agg CD]) fun mF=>
      M.loop (fun D7 st=>
       J.a st fun oj st=>
      D.len oj 21<|
      J.i .i64 st fun k1 st=>
      D.nil st<|
      bif decide (af (k1+1)<(free.length:Int))then
       M.nn pf fun i7 o4=>
      M.ak (au k1 free.length)<|
      M.ar i7 (k1.toNat*1+o4) fun d4=>
      D.int .i64 d4 fun jo=>
      M.join (fun st=>
       J.a st fun vP st=>
      D.len vP 21<|
      D.nil st<|
      D7 [.agg vP,.int .i64 (af (k1+1))]) fun kz=>
      bif jo==(af (((f:Nat):Int)+i3))then
       M.nn pf fun i8 o5=>
      M.ak (au (af (k1+1)) free.length)<|
      M.ar i8 (((af (k1+1)).toNat)*1+o5) fun d5=>
      D.int .i64 d5 fun j1=>
      M.ak (au i3 7)<|
      M.ak (Nat.ble (i3.toNat*3+2+1) 21)<|
      kz [.agg (bN oj (i3.toNat*3+2) [.int .i64 (af (j1+1))])]
      else
       kz [.agg oj]
      else
       mF [.agg oj]) n [.agg CC,.int .i64 0]) fun jH=>
      bif !(kI==0)then
       M.ak (au i3 7)<|
      M.ak (Nat.ble (i3.toNat*3+1) 21)<|
      M.nn (some (i,0)) fun i9 o6=>
      M.ar i9 (o6+2) fun d6=>
      D.slice 1 d6 fun mM Eh=>
      M.nn mM fun i10 o7=>
      M.ak (au (af (((f:Nat):Int)+i3)) Eh)<|
      M.ar i10 (((af (((f:Nat):Int)+i3)).toNat)*1+o7) fun d7=>
      D.int .i64 d7 fun qP=>
      M.ak (au i3 7)<|
      M.ak (Nat.ble (i3.toNat*3+2+1) 21)<|
      jH [.agg (bN (bN (bN ue (i3.toNat*3) [.bool false,.int .i64 gk,.int .i64 0]) (i3.toNat*3) [.bool true]) (i3.toNat*3+2) [.int .i64 qP])]
      else
       jH [.agg (bN ue (i3.toNat*3) [.bool false,.int .i64 gk,.int .i64 0])]
     else
      Kn [.agg ue]) fun iK=>
    bif decide (i3<7)then
     iK [.bool (decide (af (((f:Nat):Int)+i3)<(gens.length:Int)))]
    else
     iK [.bool false]) n [.agg (bR uQ),.int .i64 0] s):=by
 refine Zl _ (fun q y t=>∃(a:Nat),y=[.agg (bR (kB gens m.At free f a)),.int .i64 (a:Int)]/\a<=7/\7-a<=q/\t=s) ?_ 7 n _ _ ⟨0,by rw[Zwu];rfl,bH _,by omega,rfl⟩ (by omega);rintro q _ t ⟨a,rfl,ha,hq,rfl⟩ rec aD;have dz:(bR (kB gens m.At free f a)).length=21:=by rw[ZP,sB]
 rw[bU,bB dz];simp only[al,ae];have hw:af (((f:Nat):Int)+(a:Int))=((f+a:Nat):Int):=Zd (by omega) (by omega);have cc:af ((a:Int)+1)=((a+1:Nat):Int):=Zd (by omega) (by omega);simp only[hw,cc,aY];refine Ok.join fun iK Ju=>?_
 have iX:kB gens m.At free f a=ja gens m.At free f->Ok Q (iK [.bool false] t):=fun e=>by
  rw[Ju];simp only[ai,ae];rw[cond_false,e];exact az
 by_cases h7:a<7
 ·rw[ah (show(a:Int)<7 by omega),cond_true]
  by_cases aj:f+a<gens.length
  ·rw[ah (show((f+a:Nat):Int)<(gens.length:Int) by omega),Ju]
   simp only[ai,ae];rw[cond_true];refine Ok.join fun ku Qs=>?_
   obtain⟨bi,bo,rfl⟩:=hg.cm (by simp[ints];omega);have uw:(ints gens)[f+a]? =some (.int .i64 gens[f+a]):=Zw aj;rw[aW,Ze (Zk aj),hg.dj uw];simp only[aS];rw[Ze (show au ((a:Nat):Int) 7=true from Zk h7),ZF (by omega),aW,Zn hm.cell rfl];simp only[jw];have Jw:f+a<m.At.length:=by omega
   have QC: ∀K:DV->M (List DV),M.ar ia ((f+a)*1+0) K t=K (.int .i64 m.At[f+a]) t:=fun K=>Zn hm.aa (by rw[dx,dC];exact Zw Jw) K
   rw[aW,Ze (Zk Jw),QC];simp only[aS];obtain⟨L,hL⟩: ∃L,kB gens m.At free f a=L:=⟨_,rfl⟩;have hLl:L.length=7:=by rw[<-hL];exact sB _ _ _ _ _
   have hsB:dY gens m.At free (f+a)=⟨!(m.At[f+a]==0),gens[f+a],jR ((f+a:Nat):Int) free m.At[f+a]⟩:=by
    unfold dY;rw[bM,ba Jw,bM,ba aj];rfl
   have JQ:=ZwT gens m.At free f a h7 aj;rw[hL,hsB]at JQ;rw[hL]at dz⊢;generalize m.At[f+a]=at' at QC JQ;generalize gens[f+a]=g at uw JQ;refine Ok.join fun jH VY=>?_
   have hA:Ok Q (jH [.agg (bR (L.set a ⟨!(at'==0),g,at'⟩))] t):=by
    rw[VY];have C0:(bR (L.set a ⟨!(at'==0),g,at'⟩)).length=21:=by rw[ZP,ju,hLl]
    show Ok _ (J.a [.agg (bR (L.set a ⟨!(at'==0),g,at'⟩))] _ t);rw[bU,bB C0];simp only[ae];refine Ok.join fun mF VZ=>?_
    refine ZAe n free pf (f+a) a (L.set a ⟨!(at'==0),g,at'⟩) ⟨!(at'==0),g,at'⟩ t eK (by rw[ju,hLl]) h7 (by rw[fV (by omega)]) eI (by omega) (Kn:=mF) ?_;rw[List.set_set,<-JQ,VZ];have Tg:(bR (kB gens m.At free f (a+1))).length=21:=by rw[ZP,sB]
    show Ok _ (J.a [.agg (bR (kB gens m.At free f (a+1)))] _ t);rw[bU,bB Tg];simp only[ae];rw[Qs];show Ok _ (J.a [.agg (bR (kB gens m.At free f (a+1)))] _ t);rw[bU,bB Tg];simp only[ae];exact aD (7-(a+1)) _ _ (by omega) ⟨a+1,rfl,by omega,aA _,rfl⟩
   have gu:bN (bR L) (a*3) [.bool false,.int .i64 g,.int .i64 0]=bR (L.set a ⟨false,g,0⟩):=Zq5 L a ⟨false,g,0⟩ (by omega);cases h0:(at'==0)with
   |true=>
    have:at'=0:=lW.1 h0;subst this;rw[bg,cond_false,gu];exact hA
   |false=>
    rw[h0]at hA;rw[bu,cond_true,Ze (show au ((a:Nat):Int) 7=true from Zk h7),ZF (by omega),aW,Zn hm.cell rfl];simp only[jw];rw[aW,Ze (Zk Jw),QC];simp only[aS];rw[Ze (show au ((a:Nat):Int) 7=true from Zk h7),ZF (by omega),gu];rw[Zos _ a ⟨false,g,0⟩ true (by rw[fV (by omega)]),List.set_set];rw[MA _ a ⟨true,g,0⟩ at' (by rw[fV (by omega)]),List.set_set];exact hA
  ·rw[ao (show ¬((f+a:Nat):Int)<(gens.length:Int) by omega)]
   exact iX (Zwf _ _ _ _ _ (by omega))
 ·rw[ao (show ¬(a:Int)<7 by omega),cond_false]
  have:a=7:=by omega
  subst this;exact iX rfl
end Go.Gv.F
namespace Go.Gv.F
open Go.Gv
variable {β:Type}
def iL (o:Option (List UInt8)):List UInt8:=o.getD []
theorem NF (o:Option (List UInt8)):tt o=[.str (iL o),.bool o.isSome]:=by cases o<;>rfl
def mm (leaves:List Int) (i k:Nat):List Int:=(List.range 16).map fun t=>bif decide (t<k)&&decide (16*i+t<leaves.length)then leaves.getD (16*i+t) 0 else 0
def iD (leaves:List Int) (i:Nat):List Int:=mm leaves i 16
theorem xz (leaves:List Int) (i k:Nat):(mm leaves i k).length=16:=by unfold mm;simp
theorem NU (leaves:List Int) (i k t:Nat) (h:t<16):(mm leaves i k)[t]? =some (bif decide (t<k)&&decide (16*i+t<leaves.length)then leaves.getD (16*i+t) 0 else 0):=by
 unfold mm;rw[gB,nS h];rfl
theorem ZxC (leaves:List Int) (i k:Nat) (hk:k<16) (hf:16*i+k<leaves.length):mm leaves i (k+1)=(mm leaves i k).set k (leaves.getD (16*i+k) 0):=by
 refine mP fun t=>?_
 by_cases ht:t<16
 ·rw[NU _ _ _ _ ht]
  by_cases h:t=k
  ·subst h
   rw[fV (by rw[xz];exact ht),ah (show t<t+1 by omega),ah hf];rfl
  ·rw[ec (by omega),NU _ _ _ _ ht]
   have:decide (t<k+1)=decide (t<k):=by
    by_cases h2:t<k
    ·rw[ah h2,ah (show t<k+1 by omega)]
    ·rw[ao h2,ao (show ¬t<k+1 by omega)]
   rw[this]
 ·rw[dL (by rw[xz];omega),dL (by rw[ju,xz];omega)]
theorem Zxr (leaves:List Int) (i k:Nat) (h:leaves.length<=16*i+k):mm leaves i k=iD leaves i:=by
 unfold iD mm;refine vd fun t ht=>?_
 by_cases h2:16*i+t<leaves.length
 ·rw[ah (show t<k by omega),ah (jd.1 ht)]
 ·rw[ao h2,rY,rY]
theorem Zyl (leaves:List Int) (i:Nat):mm leaves i 0=List.replicate 16 0:=by
 unfold mm;rw[vd (g:=fun _=>(0:Int)) fun t _=>by rw[ao (show ¬t<0 by omega)];rfl];rfl
theorem Zzy {Q:Out (List DV)×St->Prop} {Kn:List DV->M (List DV)} (n:Nat) (leaves:List Int) (pl:Option (Nat×Nat)) (i:Nat) (s:St) (hl:Sl s pl (ints leaves)) (il:leaves.length<100000) (hi:i<1000) (hn:20<n)
  (az:Ok Q (Kn [.agg (ints (iD leaves i))] s)):
  Ok Q (M.loop (fun dW st=>
       J.a st fun nf st=>
      D.len nf 16<|
      J.i .i64 st fun k st=>
      D.nil st<|
      M.join (fun st=>J.b st fun b2 st=>D.nil st<|
       bif b2 then
       M.nn pl fun i1 o=>
      M.ak (au (af (((16*i:Nat):Int)+k)) leaves.length)<|
      M.ar i1 (((af (((16*i:Nat):Int)+k)).toNat)*1+o) fun d=>
      D.int .i64 d fun ft=>
      M.ak (au k 16)<|
      M.ak (Nat.ble (k.toNat*1+1) 16)<|
      dW [.agg (bN nf (k.toNat*1) [.int .i64 ft]),.int .i64 (af (k+1))]
      else
       Kn [.agg nf]) fun eM=>
      bif decide (k<16)then
       eM [.bool (decide (af (((16*i:Nat):Int)+k)<(leaves.length:Int)))]
      else
       eM [.bool false]) n [.agg (ints (List.replicate 16 0)),.int .i64 0] s):=by
 refine Zl _ (fun q y t=>∃(k:Nat),y=[.agg (ints (mm leaves i k)),.int .i64 (k:Int)]/\k<=16/\16-k<=q/\t=s) ?_ 16 n _ _ ⟨0,by rw[Zyl];rfl,bH _,by omega,rfl⟩ (by omega);rintro q _ t ⟨k,rfl,hk,hq,rfl⟩ rec aD;have dz: ∀k,(ints (mm leaves i k)).length=16:=fun k=>by simp[ints,xz]
 rw[bU,bB (dz k)];simp only[al,ae];have hw:af (((16*i:Nat):Int)+(k:Int))=((16*i+k:Nat):Int):=Zd (by omega) (by omega);have cc:af ((k:Int)+1)=((k+1:Nat):Int):=Zd (by omega) (by omega);simp only[hw,cc,aY];refine Ok.join fun eM hj6=>?_
 have iX:mm leaves i k=iD leaves i->Ok Q (eM [.bool false] t):=fun e=>by
  rw[hj6];simp only[ai,ae];rw[cond_false,e];exact az
 by_cases nk:k<16
 ·rw[ah (show(k:Int)<16 by omega),cond_true]
  by_cases aj:16*i+k<leaves.length
  ·rw[ah (show((16*i+k:Nat):Int)<(leaves.length:Int) by omega),hj6]
   simp only[ai,ae];obtain⟨bi,bo,rfl⟩:=hl.cm (by simp[ints];omega);have hg:(ints leaves)[16*i+k]? =some (.int .i64 leaves[16*i+k]):=Zw aj;rw[cond_true,aW,Ze (Zk aj),hl.dj hg];simp only[aS];rw[Ze (show au ((k:Nat):Int) 16=true from Zk nk),ZF (by omega)];have fY:bN (ints (mm leaves i k)) (k*1) [.int .i64 leaves[16*i+k]]=ints (mm leaves i (k+1)):=by
    rw[dx,xC _ _ _ (by rw[dz];exact nk),ZxC _ _ _ nk aj,bM,ba aj];unfold ints;rw[zc];rfl
   rw[fY];exact aD (16-(k+1)) _ _ (by omega) ⟨k+1,rfl,by omega,aA _,rfl⟩
  ·rw[ao (show ¬((16*i+k:Nat):Int)<(leaves.length:Int) by omega)]
   exact iX (Zxr _ _ _ (by omega))
 ·rw[ao (show ¬(k:Int)<16 by omega),cond_false]
  have:k=16:=by omega
  subst this;exact iX rfl
def fg (gens free:List Int):Nat->Nat->List Int->bd->List Int×bd
 |0,_,ls,m=>(ls,m)
 |c+1,f,ls,m=>bif decide (f<gens.length)then fg gens free c (f+7) (ls++[(m.next:Int)]) (eD m (iL (og (ja gens m.At free f))))else(ls,m)
def fW (leaves:List Int):Nat->Nat->List Int->bd->List Int×bd
 |0,_,top,m=>(top,m)
 |c+1,i,top,m=>bif decide (16*i<leaves.length)then fW leaves c (i+1) (top.set i (m.next:Int)) (eD m (iL (kb (iD leaves i))))else(top,m)
def gX (gens free:List Int) (m:bd):Nat×bd:=(fun r:List Int×bd=>bif Nat.beq r.1.length 0 then(0,r.2)else
 (fun t:List Int×bd=>(t.2.next,eD t.2 (iL (kb t.1)))) (fW r.1 16 0 (List.replicate 16 0) r.2)) (fg gens free gens.length 0 [] m)
theorem Zmh (gens free:List Int): ∀(c f:Nat) (ls:List Int) (m:bd),(fg gens free c f ls m).2.B.length=m.B.length/\(fg gens free c f ls m).2.At=m.At/\(fg gens free c f ls m).2.next<=m.next+c/\m.next<=(fg gens free c f ls m).2.next
 |0,f,ls,m=>⟨rfl,rfl,aA _,aA _⟩
 |c+1,f,ls,m=>by
  unfold fg;cases decide (f<gens.length)with
  |true=>
   rw[cond_true];obtain⟨b1,b2,b3,b4⟩:=Zmh gens free c (f+7) (ls++[(m.next:Int)]) (eD m (iL (og (ja gens m.At free f))));have hn:(eD m (iL (og (ja gens m.At free f)))).next=m.next+1:=rfl;exact⟨b1.trans (oT _ _),b2,by omega,by omega⟩
  |false=>exact⟨rfl,rfl,by simp only[cond_false];omega,aA _⟩
theorem ZpC (leaves:List Int): ∀(c i:Nat) (top:List Int) (m:bd),(fW leaves c i top m).2.B.length=m.B.length/\(fW leaves c i top m).2.At=m.At/\(fW leaves c i top m).2.next<=m.next+c/\m.next<=(fW leaves c i top m).2.next/\(fW leaves c i top m).1.length=top.length
 |0,i,top,m=>⟨rfl,rfl,aA _,aA _,rfl⟩
 |c+1,i,top,m=>by
  unfold fW;cases decide (16*i<leaves.length)with
  |true=>
   rw[cond_true];obtain⟨b1,b2,b3,b4,b5⟩:=ZpC leaves c (i+1) (top.set i (m.next:Int)) (eD m (iL (kb (iD leaves i))));have hn:(eD m (iL (kb (iD leaves i)))).next=m.next+1:=rfl;exact⟨b1.trans (oT _ _),b2,by omega,by omega,by rw[b5,ju]⟩
  |false=>exact⟨rfl,rfl,by simp only[cond_false];omega,aA _,rfl⟩
theorem ZuR (gens free:List Int) (m:bd):(gX gens free m).2.B.length=m.B.length/\(gX gens free m).2.At=m.At/\(gX gens free m).2.next<=m.next+gens.length+17/\m.next<=(gX gens free m).2.next:=by
 obtain⟨b1,b2,b3,b4⟩:=Zmh gens free gens.length 0 [] m;unfold gX;simp only;cases Nat.beq (fg gens free gens.length 0 [] m).1.length 0 with
 |true=>exact⟨b1,b2,by simp only[cond_true];omega,b4⟩
 |false=>
  obtain⟨c1,c2,c3,c4,_⟩:=ZpC (fg gens free gens.length 0 [] m).1 16 0 (List.replicate 16 0) (fg gens free gens.length 0 [] m).2;rw[cond_false];exact⟨(oT _ _).trans (c1.trans b1),c2.trans b2,by show _+1<=_;omega,by show _<=_+1;omega⟩
theorem ZqB {Bd:Za} (h:K4 Bd) (n:Nat) {i ib ia:Nat} {m:bd} (x:cK) (z1 z2 z3:Nat) (p1 p2 p3:Option (Nat×Nat)) (st:St) (iu:z1=2\/p1=none) (gv:z2=1\/p2=none) (iZ:z3=1\/p3=none) (hm:fw st i ib ia m) (hg:Fz st p2 (ints x.gens)) (eK:Fz st p3 (ints x.free)) (ux:x.gens.length<90000) (eI:x.free.length<90000) (AD:m.At.length=x.gens.length) (AW:m.next+x.gens.length<=700000) (hB:m.B.length<1000000) (hn:x.gens.length+x.free.length+1000<=n):
  Ok (fun o=>∃eN,o=(.val [.int .i64 (gX x.gens x.free m).1],eN)/\fw eN i ib ia (gX x.gens x.free m).2/\Fx [i,ib,ia] st eN) (run Bd n 190 [.ptr (some (i,0)),.agg (cP x z1 p1 z2 p2 z3 p3)] st):=by
 obtain⟨n,rfl⟩: ∃k,n=k+2:=⟨n-2,by omega⟩;rw[Zf,h.eq];unfold Fj;simp only[fa];rw[bU];unfold cP;simp only[al,Zm 2 z1 p1 _ iu,Zm 1 z2 p2 _ gv,Zm 1 z3 p3 _ iZ,ae];obtain⟨l1,l2,l3⟩:=hm.lt;obtain⟨T,hT⟩: ∃T,gX x.gens x.free m=T:=⟨_,rfl⟩;rw[hT];unfold gX at hT;obtain⟨RL,hRL⟩: ∃RL,fg x.gens x.free x.gens.length 0 [] m=RL:=⟨_,rfl⟩;rw[hRL]at hT;simp only at hT;have dS: ∀ {a b:St},Fx [i,ib] a b->Fx [i,ib,ia] a b:=fun k=>k.mono fun y hy=>by simp only[cd,j4,iB]at hy⊢;omega
 have ta: ∀ {a:Option (Nat×Nat)},(∀b∈aC a,st.length<=b)->∀b∈aC a,b∉[i,ib,ia]:=fun kU b hb lP=>by
  have:=kU b hb;simp only[cd,j4,iB]at lP;omega
 refine Ok.join fun aq uB=>?_
 refine Zl _ (fun q y t=>∃(c f zk:Nat) (a:Option (Nat×Nat)) (ls:List Int) (m':bd),y=[.slice zk a ls.length,.int .i64 (f:Int)]/\(zk=1\/a=none)/\f<=x.gens.length+7/\x.gens.length+7-f<=q/\fw t i ib ia m'/\Fx [i,ib,ia] st t/\bh [] t a (ints ls)/\(∀b∈aC a,st.length<=b)/\m'.B.length=m.B.length/\m'.At.length=m.At.length/\m'.next<=m.next+f/\ls.length<=f/\x.gens.length<=c+f/\fg x.gens x.free c f ls m'=RL) ?_ (x.gens.length+7) (n+1) _ _ ⟨x.gens.length,0,0,none,[],m,rfl,.inr rfl,bH _,by omega,hm,.refl _ _,bh.nil ⟨st,rfl⟩,(fun _ h=>by cases h),rfl,rfl,by omega,bH _,by omega,hRL⟩ (by omega);rintro q _ t ⟨c,f,zk,a,ls,m',rfl,Rh,hf,hq,mu,bL,wB,kU,vV,uj,AX,il,hc,az⟩ rec aD;simp only[al,Zm 1 zk a _ Rh,ae];have nA:=hm.kp bL;have hgt:=hg.kp nA;have qz:=eK.kp nA;by_cases aj:f<x.gens.length
 ·obtain⟨c,rfl⟩: ∃c',c=c'+1:=⟨c-1,by omega⟩
  unfold fg at az;rw[ah aj,cond_true]at az;rw[ah (show(f:Int)<(x.gens.length:Int) by omega),cond_true];refine Ok.join fun iJ Qu=>?_
  refine Ok.join fun jm Qv=>?_
  refine ZyU (n+1) x.gens x.free p2 p3 f t mu hgt.1 qz.1 (by omega) (by omega) (by omega) (by omega) (by omega) (by omega) (Kn:=jm) ?_;rw[Qv];have dz:(bR (ja x.gens m'.At x.free f)).length=21:=by rw[ZP];show(kB _ _ _ _ _).length*3=_;rw[sB]
  show Ok _ (J.a [.agg (bR (ja x.gens m'.At x.free f))] _ t);rw[bU,bB dz];simp only[ae];refine Ok.call (ZsC h.q97 (n+1) (ja x.gens m'.At x.free f) (sB _ _ _ _ _) t (by omega)) ?_;rintro _ ⟨t1,rfl,aJ⟩;refine⟨_,t1,rfl,?_⟩;rw[NF];simp only[bV,ai,ae];refine Ok.call (xL h.tq n (iL (og (ja x.gens m'.At x.free f))) t1 (mu.pre aJ) (by omega) (by omega)) ?_;rintro _ ⟨t2,rfl,dH,eB⟩;refine⟨_,t2,rfl,?_⟩;simp only[al,ae];have ou:Fx [i,ib,ia] t t2:=(Fx.pre _ aJ).trans (dS eB);have ym:=wB.fx ou (ta kU);obtain⟨b,t4,r1,r2,r3,r4⟩:=tT (β:=List DV) (lim:=8796093022208) ym (sz:=1) (n:=ls.length) [.int .i64 (m'.next:Int)] (by omega) (by simp[ints]) rfl (by omega);refine Eq.mpr (congrArg (Ok _) (r4 _)) ?_;rw[Qu];simp only[br,ae];have hw:af ((f:Int)+7)=((f+7:Nat):Int):=Zd (by omega) (by omega);rw[hw];have JB:=dH.fx r3 fun y hy=>by
   have:=kU y hy;omega
  refine aD (x.gens.length+7-(f+7)) _ _ (by omega) ⟨c,f+7,1,some (b,0),ls++[(m'.next:Int)],_,?_,.inl rfl,by omega,aA _,JB,(bL.trans ou).step r3 fun y hy=> .inr (kU y hy),?_,fun y hy=>?_,(oT _ _).trans vV,uj,?_,?_,by omega,az⟩
  ·rw[aZ];rfl
  ·unfold ints
   rw[dD];exact r2
  ·rw[bP.1 hy]
   have:=(bL.trans ou).1;omega
  ·show m'.next+1<=_
   omega
  ·rw[aZ];show _+1<=_;omega
 ·rw[ao (show ¬(f:Int)<(x.gens.length:Int) by omega),cond_false,uB]
  have hRe:RL=(ls,m'):=by
   rw[<-az];cases c with
   |zero=>rfl
   |succ c=>unfold fg;rw[ao aj];rfl
  rw[hRe]at hT;simp only at hT;simp only[br,ae];by_cases h0:ls.length=0
  ·rw[h0]at hT⊢
   have hT2:(0,m')=T:=hT;rw[show(((0:Nat):Int)==0)=true from rfl,cond_true,Zc,<-hT2];exact .mk ⟨t,rfl,mu,bL⟩
  ·have um:Nat.beq ls.length 0=false:=by
    cases hb:Nat.beq ls.length 0 with
    |false=>rfl
    |true=>exact absurd (bY hb) h0
   rw[um,cond_false]at hT;rw[show(((ls.length:Nat):Int)==0)=false from cg.2 (by omega),cond_false];obtain⟨RF,hRF⟩: ∃RF,fW ls 16 0 (List.replicate 16 0) m'=RF:=⟨_,rfl⟩;rw[hRF]at hT;refine Ok.join fun aB AS=>?_
   refine Zl _ (fun q y u=>∃(k:Nat) (top:List Int) (m2:bd),y=[.agg (ints top),.int .i64 (k:Int)]/\k<=16/\16-k<=q/\fw u i ib ia m2/\Fx [i,ib,ia] t u/\top.length=16/\m2.B.length=m.B.length/\m2.next<=m'.next+k/\fW ls (16-k) k top m2=RF) ?_ 16 (n+1) _ _ ⟨0,List.replicate 16 0,m',rfl,bH _,by omega,mu,.refl _ _,oO,vV,by omega,hRF⟩ (by omega);rintro q2 _ u ⟨k,top,m2,rfl,hk,uH,hmu,eL,pG,PC,Yt,cC⟩ dW pE;have dz:(ints top).length=16:=by simp[ints,pG]
   rw[bU,bB dz];simp only[al,ae];have hw:af (16*(k:Int))=((16*k:Nat):Int):=by rw[Zd (by omega) (by omega)];omega
   have cc:af ((k:Int)+1)=((k+1:Nat):Int):=Zd (by omega) (by omega);simp only[hw,cc];have hou:=wB.fx eL (ta kU);refine Ok.join fun aV wm=>?_
   have iX:RF=(top,m2)->Ok (fun o=>∃eN,o=(.val [.int .i64 T.1],eN)/\fw eN i ib ia T.2/\Fx [i,ib,ia] st eN) (aV [.bool false] u):=fun e=>by
    rw[wm];simp only[ai,ae];rw[cond_false,AS];show Ok _ (J.a [.agg (ints top)] _ u);rw[bU,bB dz];simp only[ae];rw[e]at hT;simp only at hT;refine Ok.call (ZmJ h.UD (n+1) top pG u (by omega)) ?_;rintro _ ⟨u1,rfl,aJ⟩;refine⟨_,u1,rfl,?_⟩;rw[NF];simp only[bV,ai,ae];refine Ok.call (xL h.tq n (iL (kb top)) u1 (hmu.pre aJ) (by omega) (by omega)) ?_;rintro _ ⟨u2,rfl,wz,wg⟩;refine⟨_,u2,rfl,?_⟩;simp only[al,ae,Zc];rw[<-hT];exact .mk ⟨u2,rfl,wz,((bL.trans eL).trans (Fx.pre _ aJ)).trans (dS wg)⟩
   by_cases nk:k<16
   ·rw[ah (show(k:Int)<16 by omega),cond_true]
    have e16:16-k=(16-(k+1))+1:=by omega
    rw[e16]at cC;unfold fW at cC;by_cases iT:16*k<ls.length
    ·rw[ah iT,cond_true]at cC
     rw[ah (show((16*k:Nat):Int)<(ls.length:Int) by omega),wm];simp only[ai,ae];rw[cond_true];refine Ok.join fun bq Jt=>?_
     refine Ok.join fun ca Qt=>?_
     refine Zzy (n+1) ls a k u hou.sl (by omega) (by omega) (by omega) (Kn:=ca) ?_;rw[Qt];have qm:(ints (iD ls k)).length=16:=by simp only[ints,lV];exact xz _ _ _
     show Ok _ (J.a [.agg (ints (iD ls k))] _ u);rw[bU,bB qm];simp only[ae];refine Ok.call (ZmJ h.UD (n+1) (iD ls k) (xz _ _ _) u (by omega)) ?_;rintro _ ⟨u1,rfl,aJ⟩;refine⟨_,u1,rfl,?_⟩;rw[NF];simp only[bV,ai,ae];refine Ok.call (xL h.tq n (iL (kb (iD ls k))) u1 (hmu.pre aJ) (by omega) (by omega)) ?_;rintro _ ⟨u2,rfl,wz,wg⟩;refine⟨_,u2,rfl,?_⟩;simp only[al,ae];rw[Ze (show au ((k:Nat):Int) 16=true from Zk nk)];simp only[aY];rw[ZF (by omega)];have fY:bN (ints top) (k*1) [.int .i64 (m2.next:Int)]=ints (top.set k (m2.next:Int)):=by
      rw[dx,xC _ _ _ (by omega)];unfold ints;rw[zc]
     rw[fY,Jt];have C0:(ints (top.set k (m2.next:Int))).length=16:=by simp[ints,pG]
     show Ok _ (J.a [.agg (ints (top.set k (m2.next:Int)))] _ u2);rw[bU,bB C0];simp only[ae];exact pE (16-(k+1)) _ _ (by omega) ⟨k+1,_,_,rfl,by omega,aA _,wz,(eL.trans (Fx.pre _ aJ)).trans (dS wg),by rw[ju,pG],(oT _ _).trans PC,by show m2.next+1<=_;omega,cC⟩
    ·rw[ao iT,cond_false]at cC
     rw[ao (show ¬((16*k:Nat):Int)<(ls.length:Int) by omega)];exact iX cC.symm
   ·have:k=16:=by omega
    subst this;rw[ao (show ¬((16:Nat):Int)<16 by omega),cond_false];exact iX cC.symm
end Go.Gv.F
namespace Go.Gv.F
open Go.Gv
variable {β:Type}
def Kq (x:eX):List UInt8:=bS (bO x.seq) 8++bS (bO x.blocks) 4++bS (bO x.bX) 4++bS (bO x.g) 4++bS (bO x.used) 4++bS (bO x.free) 4++bS (bO x.cA) 2++bS (bO x.dir) 2++cU x.aG
def vF (x:eX):List UInt8:=fG 7 x.aG.length (Kq x)
theorem Ztu {Bd:Za} (h:Mu Bd) (n:Nat) (x:eX) (p:Option (Nat×Nat)) (st:St) (hs:Sl st p (ints x.aG)) (hl:x.aG.length<1000) (hn:2600<=n):
  Ok (fun o=>∃s',o=(.val [.str (vF x)],s')/\aw st s') (run Bd n 191 [.agg (dK x p)] st):=by
 obtain⟨n,rfl⟩: ∃k,n=k+2:=⟨n-2,by omega⟩;rw[Zf,h.eq];unfold G5 dK;rw[bU];simp only[al,br,ae,zK];have lay:=fun v k (hk:k<=20) s=>ZR h.kD (n+1) (bO v) k (od v) s (by omega) (by omega)
 refine Ok.ew (lay x.seq 8 (by omega) st) ?_;rintro _ ⟨s1,rfl,aJ⟩;refine⟨_,s1,rfl,aJ,?_⟩;simp only[bV,ae];refine Ok.ew (lay x.blocks 4 (by omega) s1) ?_;rintro _ ⟨s2,rfl,bj⟩;refine⟨_,s2,rfl,bj,?_⟩;simp only[bV,ae];rw[ZF (by simp only[Zq];omega)];refine Ok.ew (lay x.bX 4 (by omega) s2) ?_;rintro _ ⟨s3,rfl,cG⟩;refine⟨_,s3,rfl,cG,?_⟩;simp only[bV,ae];rw[ZF (by simp only[aZ,Zq];omega)];refine Ok.ew (lay x.g 4 (by omega) s3) ?_;rintro _ ⟨s4,rfl,gG⟩;refine⟨_,s4,rfl,gG,?_⟩;simp only[bV,ae];rw[ZF (by simp only[aZ,Zq];omega)];refine Ok.ew (lay x.used 4 (by omega) s4) ?_;rintro _ ⟨s5,rfl,jl⟩;refine⟨_,s5,rfl,jl,?_⟩;simp only[bV,ae];rw[ZF (by simp only[aZ,Zq];omega)];refine Ok.ig (lay x.free 4 (by omega) s5) ?_;rintro _ ⟨s6,rfl,hp6⟩;refine⟨_,s6,rfl,?_⟩;simp only[bV,ae];rw[ZF (by simp only[aZ,Zq];omega)];refine Ok.ew (lay x.cA 2 (by omega) s6) ?_;rintro _ ⟨s7,rfl,hp7⟩;refine⟨_,s7,rfl,hp7,?_⟩;simp only[bV,ae];rw[ZF (by simp only[aZ,Zq];omega)];refine Ok.ig (lay x.dir 2 (by omega) s7) ?_;rintro _ ⟨s8,rfl,hp8⟩;refine⟨_,s8,rfl,?_⟩;simp only[bV,ae];rw[ZF (by simp only[aZ,Zq];omega),Zb];have hP:=((((((aJ.trans bj).trans cG).trans gG).trans jl).trans hp6).trans hp7).trans hp8;unfold vF Kq;obtain⟨A,hA⟩: ∃A,bS (bO x.seq) 8++bS (bO x.blocks) 4++bS (bO x.bX) 4++bS (bO x.g) 4++bS (bO x.used) 4++bS (bO x.free) 4++bS (bO x.cA) 2++bS (bO x.dir) 2=A:=⟨_,rfl⟩;have fK:A.length=32:=by rw[<-hA];simp only[aZ,Zq]
 rw[hA];refine Zl _ (fun q y s=>∃i:Nat,y=[.str (A++cU (x.aG.take i)),.int .i64 (i:Int)]/\i<=x.aG.length/\x.aG.length-i<=q/\aw st s) ?_ x.aG.length (n+1) _ _ ⟨0,by rw[Bv];show _=[DV.str (A++[]),_];rw[dZ];rfl,bH _,by omega,hP⟩ (by omega);rintro q _ s ⟨i,rfl,hi,hq,fD⟩ rec aD;simp only[bV,al,ae];by_cases aj:i<x.aG.length
 ·have cL:=hs.mono fD
  obtain⟨i1,o1,rfl⟩:=cL.cm (by simp[ints];omega);rw[ah (show(i:Int)<(x.aG.length:Int) by omega),cond_true,aW,Ze (Zk aj),aY,cL.dj (Zw aj)];simp only[aS];refine Ok.call (lay x.aG[i] 2 (by omega) s) ?_;rintro _ ⟨s5,rfl,jl⟩;refine⟨_,s5,rfl,?_⟩;simp only[bV,ae];rw[ZF (by rw[aZ,ZO,Zq,cn,fK];omega),Zd (by omega) (by omega)];exact aD (x.aG.length-(i+1)) _ _ (by omega) ⟨i+1,by rw[BZ _ aj,dB];rfl,by omega,aA _,fD.trans jl⟩
 ·rw[ao (show ¬(i:Int)<(x.aG.length:Int) by omega),cond_false]
  rw[cF (by omega)];refine Ok.call (xm h.pL (n+1) 7 x.aG.length (A++cU x.aG) (by rw[aZ,ZO];omega) s (by rw[aZ,ZO];omega)) ?_;rintro _ ⟨s5,rfl,jl⟩;refine⟨_,s5,rfl,?_⟩;simp only[bV,ae,Zc];exact .mk ⟨s5,rfl,fD.trans jl⟩
end Go.Gv.F
namespace Go.Gv.F
open Go.Gv
variable {β:Type}
def Zs (a n:Nat):List Int:=(List.range n).map fun i=>((a+i:Nat):Int)
theorem ZU (a n:Nat):(Zs a n).length=n:=by unfold Zs;simp
theorem Znc (a n:Nat):Zs a (n+1)=Zs a n++[((a+n:Nat):Int)]:=by unfold Zs;rw[tF,dD];rfl
theorem Zwv {a n:Nat} {x:Int} (h:x∈Zs a n):(a:Int)<=x/\x<((a+n:Nat):Int):=by
 unfold Zs at h;obtain⟨i,hi,rfl⟩:=dE.1 h;have:=jd.1 hi;omega
def jf (used:List Int):Nat->Nat->bd->bd
 |0,_,m=>m
 |c+1,i,m=>jf used c (i+1) (eD m (su (gf i used)))
theorem Zmc (used:List Int): ∀(c i:Nat) (m:bd),(jf used c i m).B.length=m.B.length/\(jf used c i m).next=m.next+c
 |0,i,m=>⟨rfl,rfl⟩
 |c+1,i,m=>by
  obtain⟨a,b⟩:=Zmc used c (i+1) (eD m (su (gf i used)));unfold jf;refine⟨a.trans (oT _ _),?_⟩;rw[b];show m.next+1+c=_;omega
def fP (x:cK):bd:=⟨ZZ (64*x.blocks.toNat),2,List.replicate x.gens.length 0⟩
def jb (x:cK):Nat:=(x.blocks.toNat+383)/384
def rj (l:List Int):Int:=match l with
 |[]=>0
 |k::_=>af (k+1)
def iw (x:cK):Nat×bd:=ml x.av (fP x)
def cV (x:cK):Nat×bd:=gX x.gens x.free (iw x).2
def cZ (x:cK) (bG:Int):eX:=⟨bG,x.blocks,x.bX,x.g,(cV x).1,x.gens.length,rj x.free,(iw x).1,Zs (cV x).2.next (jb x)⟩
def jJ (x:cK):List Int:=Zs 0 ((cV x).2.next+jb x)
def sG (x:cK) (bG place:Int):Option (List UInt8×eX):=
 bif decide (((jJ x).length:Int)>x.blocks)|| !jz (cZ x bG)then none else
  some (mH (jf (jJ x) (jb x) 0 (cV x).2).B (64*(place%2).toNat) (vF (cZ x bG)),cZ x bG)
theorem Zyj (n:Nat):fj n [.int .i64 0]=ints (List.replicate n 0):=by
 unfold fj ints;rw[List.map_replicate];induction n with
 |zero=>rfl
 |succ n ih=>rw[sb,mQ,ih,sb];rfl
def Zv8:List DV:=[.slice 0 none 0,.agg [.int .i64 0,.int .i64 0,.int .i64 0,.int .i64 0,.int .i64 0,.int .i64 0,.int .i64 0,.int .i64 0,.slice 0 none 0],.bool false]
structure UU (st eN:St) (B:List UInt8) (s:eX) (ib:Nat) (q:Option (Nat×Nat)):Prop where
 new:st.length<=ib
 cO:eN[ib]? =some (some ⟨false,bQ B⟩)
 own:bh [] eN q (ints s.aG)
 q: ∀b∈aC q,st.length<=b/\b≠ib
def OV (st:St) (x:cK) (bG place:Int) (o:Out (List DV)×St):Prop:=∃eN,aw st eN/\
 ((∃B s ib q,jx x/\sG x bG place=some (B,s)/\o=(.val [.slice 1 (some (ib,0)) B.length,.agg (dK s q),.bool true],eN)/\UU st eN B s ib q)\/
  ((jx x->sG x bG place=none)/\o=(.val Zv8,eN)))
theorem ZrO (l:List cJ):iC l=((l.map (·.aK)).flatten).length:=by
 unfold iC;induction l with
 |nil=>rfl
 |cons x l ih=>rw[gK,List.sum_cons,ih,gK,mQ,aZ]
theorem Zj0 {Bd:Za} (h:Ge Bd) (n:Nat) (x:cK) (z1 z2 z3:Nat) (p1 p2 p3:Option (Nat×Nat)) (bG place:Int) (st:St) (iu:z1=2\/p1=none) (gv:z2=1\/p2=none) (iZ:z3=1\/p3=none) (hx:vp st x p1 p2 p3) (sz:zn x) (jX: -9223372036854775808<=place/\place<=9223372036854775807) (hn:60000<=n):
  Ok (OV st x bG place) (run Bd n 170 [.agg (cP x z1 p1 z2 p2 z3 p3),.int .i64 bG,.int .i64 place] st):=by
 obtain⟨n,rfl⟩: ∃k,n=k+3:=⟨n-3,by omega⟩;rw[Zf,h.eq];unfold FW;have ag: ∀(l:List DV) (K:List DV->List DV->M (List DV)),J.a (.agg (cP x z1 p1 z2 p2 z3 p3)::l) K=K (cP x z1 p1 z2 p2 z3 p3) l:=fun _ _=>rfl
 rw[ag];unfold cP;simp only[al,Zm 2 z1 p1 _ iu,Zm 1 z2 p2 _ gv,Zm 1 z3 p3 _ iZ,ae];refine Ok.call (Zt2 h.Xz (n+2) x 2 1 1 p1 p2 p3 st (.inl rfl) (.inl rfl) (.inl rfl) hx.str sz (by omega)) ?_;rintro _ ⟨b,s1,rfl,aJ,hb⟩;refine⟨_,s1,rfl,?_⟩;simp only[ai,ae];cases b with
 |false=>
  rw[bu,cond_true,Zc];exact .mk ⟨s1,aJ,.inr ⟨fun hm=>(by cases hb.2 hm),rfl⟩⟩
 |true=>
 have hm:=hb.1 rfl;rw[bg,cond_false];obtain⟨g1,g2,g3,g4,g5,g6⟩:=sr hm.xS;obtain⟨bl,jU⟩: ∃bl:Nat,x.blocks=bl:=⟨x.blocks.toNat,by omega⟩;have ux:x.gens.length<=1792:=by have:=hm.bX;omega
 have mn:x.blocks.toNat=bl:=by omega
 have hw:af (64*x.blocks)=((64*bl:Nat):Int):=by rw[jU,Zd (by omega) (by omega)];omega
 simp only[hw,aY];rw[Ze (by rw[aH,aH,bx,bx,bx];omega),Zy];rw[Ze (by rw[aH,aH,bx,bx,bx];omega),Zy,Zy,Zrf,Zyj];have l1: ∀c,(s1++[some (c:bn)]).length=s1.length+1:=fun c=>by simp
 have l2: ∀c d,((s1++[some (c:bn)])++[some (d:bn)]).length=s1.length+2:=fun c d=>by simp
 simp only[l1,l2];obtain⟨S0,xW⟩: ∃S0,((s1++[some (⟨false,bQ (ZZ (64*bl))⟩:bn)])++[some (⟨false,ints (List.replicate x.gens.length 0)⟩:bn)])++[some (⟨false,[.slice 1 (some (s1.length,0)) (64*bl),.int .i64 2,.slice 1 (some (s1.length+1,0)) x.gens.length]⟩:bn)]=S0:=⟨_,rfl⟩;rw[xW];have hpS:aw s1 S0:=by rw[<-xW];exact(((aw.new _ _).trans (aw.new _ _)).trans (aw.new _ _))
 have hlS:S0.length=s1.length+3:=by rw[<-xW];simp
 have qH:(ZZ (64*bl)).length=64*bl:=by unfold ZZ;simp
 have PK:fw S0 (s1.length+2) s1.length (s1.length+1) (fP x):=by
  unfold fP;rw[mn];refine⟨?_,?_,?_,by omega,by omega,by omega⟩
  ·rw[<-xW,qH,oO];simp
  ·rw[<-xW];simp
  ·rw[<-xW];simp
 clear xW;have JI:=aJ.trans hpS;have Rc:=hx.kp JI.kp;obtain⟨ds,sT,ji⟩:=Rc.hp;have fN: ∀g∈x.av,∀e∈g.aK,e∈Zo x:=fun g hg e he=>List.mem_flatten.2 ⟨g.aK,dE.2 ⟨g,hg,rfl⟩,he⟩
 have fK:(fP x).At.length=x.gens.length:=oO;have hBl:(fP x).B.length=64*bl:=by show(ZZ _).length=_;rw[mn,qH]
 have C5:=ZrO x.av;have Yj:iC x.av<=50000:=by rw[C5];exact sz.e
 have C9:=hm.CK;have yh:(fP x).next=2:=rfl;refine Ok.call (Ztp h.q26 (n+2) x.av p1 2 ds S0 (.inl rfl) PK sT ji (fun g hg e he=>by
  have:=hm.range e.slot (de.2 (.inl (dE.2 ⟨e,fN g hg e he,rfl⟩)));rw[fK];exact this) (fun g hg=>⟨by have:=sz.h.name g hg;omega,by have:=sz.h.name g hg;omega,by have:=sz.h.aK g hg;omega⟩) (by omega) (by omega) (by omega) (by omega) (by omega)) ?_
 rintro _ ⟨S1,rfl,hM1,AN⟩;refine⟨_,S1,rfl,?_⟩;simp only[al,ae];obtain⟨k1,k2,k3,k4⟩:=Zyg x.av (fP x);have V7:ml x.av (fP x)=iw x:=rfl;rw[V7]at hM1 k1 k2 k3 k4⊢;have mD:=Rc.kp (PK.kp AN);refine Ok.call (ZqB h.q15 (n+2) x 2 1 1 p1 p2 p3 S1 (.inl rfl) (.inl rfl) (.inl rfl) hM1 mD.gn mD.fr (by omega) (by have:=sz.f;omega) (by omega) (by omega) (by omega) (by have:=sz.f;omega)) ?_;rintro _ ⟨S2,rfl,hM2,ya⟩;refine⟨_,S2,rfl,?_⟩;simp only[al,ae];obtain⟨q1,q2,q3,q4⟩:=ZuR x.gens x.free (iw x).2;have V8:gX x.gens x.free (iw x).2=cV x:=rfl;rw[V8]at hM2 q1 q2 q3 q4⊢;have hfA:Fx [s1.length+2,s1.length,s1.length+1] S0 S2:=AN.trans ya;have nF:=Rc.kp (PK.kp hfA);have hNl:(cV x).2.next<=52000:=by omega
 have PC:(cV x).2.B.length=64*bl:=by omega
 have tf: ∀t,Fx [s1.length+2,s1.length,s1.length+1] S0 t->aw st t:=fun t k=>by
  refine Fx.UK ((Fx.pre [] JI).step k fun y hy=> .inr ?_);have:=aJ.len;simp only[cd,j4,iB]at hy;omega
 have ta: ∀ {a:Option (Nat×Nat)},(∀b∈aC a,S0.length<=b)->∀b∈aC a,b∉[s1.length+2,s1.length,s1.length+1]:=fun kU b hb lP=>by
  have:=kU b hb;simp only[cd,j4,iB]at lP;omega
 refine Ok.join fun aq uB=>?_
 have A1:Ok (OV st x bG place) (aq [.agg [.int .i64 bG,.int .i64 x.blocks,.int .i64 x.bX,.int .i64 x.g,.int .i64 (cV x).1,.int .i64 (x.gens.length:Int),.int .i64 (rj x.free),.int .i64 (iw x).1,.slice 0 none 0]] S2):=by
  rw[uB];show Ok _ (J.a [.agg [.int .i64 bG,.int .i64 x.blocks,.int .i64 x.bX,.int .i64 x.g,.int .i64 (cV x).1,.int .i64 (x.gens.length:Int),.int .i64 (rj x.free),.int .i64 (iw x).1,.slice 0 none 0]] _ S2);rw[lZ [.int .i64 bG,.int .i64 x.blocks,.int .i64 x.bX,.int .i64 x.g,.int .i64 (cV x).1,.int .i64 (x.gens.length:Int),.int .i64 (rj x.free),.int .i64 (iw x).1,.slice 0 none 0] []];simp only[al,Zm 1 0 none _ (.inr rfl),ae];refine Ok.join fun aB AS=>?_
  obtain⟨N,hN⟩: ∃N,(cV x).2.next=N:=⟨_,rfl⟩;obtain⟨C,hC⟩: ∃C,jb x=C:=⟨_,rfl⟩;have hCe:(bl+383)/384=C:=by rw[<-hC];unfold jb;rw[mn]
  have hC9:C<=9:=by omega
  refine Zl _ (fun q y t=>∃(k z:Nat) (a:Option (Nat×Nat)),y=[.agg [.int .i64 bG,.int .i64 x.blocks,.int .i64 x.bX,.int .i64 x.g,.int .i64 (cV x).1,.int .i64 (x.gens.length:Int),.int .i64 (rj x.free),.int .i64 (iw x).1,.slice z a (Zs N k).length],.int .i64 (k:Int)]/\(z=1\/a=none)/\k<=C/\C-k<=q/\fw t (s1.length+2) s1.length (s1.length+1) (cV x).2/\Fx [s1.length+2,s1.length,s1.length+1] S0 t/\bh [] t a (ints (Zs N k))/\∀b∈aC a,S0.length<=b) ?_ C (n+2) _ _ ⟨0,1,none,rfl,.inr rfl,bH _,by omega,hM2,hfA,bh.nil ⟨S2,rfl⟩,fun _ h=>by cases h⟩ (by omega);rintro q _ t ⟨k,z,a,rfl,hz,hk,hq,PL,qz,wB,kU⟩ rec aD;rw[bU];simp only[al,Zm 1 z a _ hz,ae];rw[jU];refine Ok.call (Zjd h.RR (n+2) bl x.bX x.g (by omega) t (by omega)) ?_;rintro _ rfl;refine⟨_,t,rfl,?_⟩;simp only[al,ae];rw[hCe,<-jU];by_cases aj:k<C
  ·rw[ah (show(k:Int)<(C:Int) by omega),cond_true,Zn PL.cell (d:= .int .i64 (cV x).2.next) rfl]
   simp only[aS];have Ra:af (((cV x).2.next:Int)+(k:Int))=((N+k:Nat):Int):=by rw[hN,Zd (by omega) (by omega)];omega
   have cc:af ((k:Int)+1)=((k+1:Nat):Int):=Zd (by omega) (by omega);rw[Ra,cc];obtain⟨b,t2,r1,r2,r3,r4⟩:=tT (β:=List DV) (lim:=8796093022208) wB (sz:=1) (n:=(Zs N k).length) [.int .i64 ((N+k:Nat):Int)] (by omega) (by simp[ints]) rfl (by rw[ZU];omega);refine Eq.mpr (congrArg (Ok _) (r4 _)) ?_;have hM3:=PL.fx r3 fun y hy=>by
    have:=kU y hy;omega
   refine aD (C-(k+1)) _ _ (by omega) ⟨k+1,1,some (b,0),?_,.inl rfl,by omega,aA _,hM3,qz.step r3 fun y hy=> .inr (kU y hy),?_,fun y hy=>?_⟩
   ·rw[ZU,ZU]
   ·rw[Znc]
    unfold ints;rw[dD];exact r2
   ·rw[bP.1 hy]
    have:=qz.1;omega
  have hkC:k=C:=by omega
  subst hkC;rw[ao (show ¬(k:Int)<(k:Int) by omega),cond_false,AS];have wG:([.int .i64 bG,.int .i64 x.blocks,.int .i64 x.bX,.int .i64 x.g,.int .i64 (cV x).1,.int .i64 (x.gens.length:Int),.int .i64 (rj x.free),.int .i64 (iw x).1,.slice 1 a (Zs N k).length]:List DV)=dK (cZ x bG) a:=by
   unfold dK cZ;rw[hN,hC]
  have nv:(cZ x bG).aG=Zs N k:=by unfold cZ;rw[hN,hC]
  rw[wG];show Ok _ (J.a [.agg (dK (cZ x bG) a)] _ t);rw[lZ (dK (cZ x bG) a) []];unfold dK;simp only[al,br,ae];have WM:([.int .i64 (cZ x bG).seq,.int .i64 (cZ x bG).blocks,.int .i64 (cZ x bG).bX,.int .i64 (cZ x bG).g,.int .i64 (cZ x bG).cA,.int .i64 (cZ x bG).used,.int .i64 (cZ x bG).free,.int .i64 (cZ x bG).dir,.slice 1 a (cZ x bG).aG.length]:List DV)=dK (cZ x bG) a:=rfl;simp only[WM];have dz:(cZ x bG).aG.length=k:=by rw[nv,ZU]
  have im:jJ x=Zs 0 (N+k):=by unfold jJ;rw[hN,hC]
  rw[dz];refine Ok.join fun aV wm=>?_
  refine Zl _ (fun q y u=>∃(i z:Nat) (c:Option (Nat×Nat)),y=[.slice z c (Zs 0 i).length,.int .i64 (i:Int)]/\(z=1\/c=none)/\i<=N+k/\N+k-i<=q/\fw u (s1.length+2) s1.length (s1.length+1) (cV x).2/\Fx [s1.length+2,s1.length,s1.length+1] S0 u/\bh [] u c (ints (Zs 0 i))/\(∀b∈aC c,S0.length<=b)/\bh [] u a (ints (Zs N k))/\∀b∈aC a,b∉aC c) ?_ (N+k) (n+2) _ _ ⟨0,0,none,rfl,.inr rfl,bH _,by omega,PL,qz,bh.nil ⟨t,rfl⟩,(fun _ h=>by cases h),wB,fun _ _ h=>by cases h⟩ (by omega);rintro q2 _ u ⟨i,z,c,rfl,hz,hi,uH,PM,eL,hoc,PZ,JD,hac⟩ dW pE;simp only[al,Zm 1 z c _ hz,ae];rw[Zn PM.cell (d:= .int .i64 (cV x).2.next) rfl];simp only[aS];have hwN:af (((cV x).2.next:Int)+(k:Int))=((N+k:Nat):Int):=by rw[hN,Zd (by omega) (by omega)];omega
  rw[hwN];by_cases aj:i<N+k
  ·rw[ah (show(i:Int)<((N+k:Nat):Int) by omega),cond_true]
   have cc:af ((i:Int)+1)=((i+1:Nat):Int):=Zd (by omega) (by omega);rw[cc];obtain⟨b,t2,r1,r2,r3,r4⟩:=tT (β:=List DV) (lim:=8796093022208) hoc (sz:=1) (n:=(Zs 0 i).length) [.int .i64 (i:Int)] (by omega) (by simp[ints]) rfl (by rw[ZU];omega);refine Eq.mpr (congrArg (Ok _) (r4 _)) ?_;refine pE (N+k-(i+1)) _ _ (by omega) ⟨i+1,1,some (b,0),?_,.inl rfl,by omega,aA _,PM.fx r3 fun y hy=>?_,eL.step r3 fun y hy=> .inr (PZ y hy),?_,fun y hy=>?_,JD.fx r3 hac,fun y hy dH=>?_⟩
   ·rw[ZU,ZU]
   ·have:=PZ y hy
    omega
   ·rw[Znc,dy]
    unfold ints;rw[dD];exact r2
   ·rw[bP.1 hy]
    have:=eL.1;omega
   ·rw[bP.1 dH]at hy
    have:=bh.Am JD b hy;omega
  have hiN:i=N+k:=by omega
  subst hiN;rw[ao (show ¬((N+k:Nat):Int)<((N+k:Nat):Int) by omega),cond_false,wm];simp only[br,ae];refine Ok.join fun bq Jt=>?_
  have AK:sG x bG place=bif decide (((jJ x).length:Int)>x.blocks)|| !jz (cZ x bG)then none else some (mH (jf (jJ x) k 0 (cV x).2).B (64*(place%2).toNat) (vF (cZ x bG)),cZ x bG):=by
   unfold sG;rw[hC]
  have A4: ∀(v:St) (bb:Bool),(decide (((jJ x).length:Int)>x.blocks)|| !jz (cZ x bG))=bb->aw u v->Ok (OV st x bG place) (bq [.bool bb] v):=by
   intro v bb ry yp;rw[ry]at AK;rw[Jt];simp only[ai,ae];cases bb with
   |true=>
    rw[cond_true,Zc];exact .mk ⟨v,tf v (eL.trans (Fx.pre _ yp)),.inr ⟨fun _=>AK,rfl⟩⟩
   |false=>
   rw[cond_false];rw[cond_false]at AK;refine Ok.join fun ca Qt=>?_
   obtain⟨G,hG⟩: ∃G,jf (jJ x) k 0 (cV x).2=G:=⟨_,rfl⟩;rw[hG]at AK;refine Zl _ (fun q y w=>∃(i:Nat) (m':bd),y=[.int .i64 (i:Int)]/\i<=k/\k-i<=q/\fw w (s1.length+2) s1.length (s1.length+1) m'/\Fx [s1.length+2,s1.length,s1.length+1] S0 w/\bh [] w c (ints (Zs 0 (N+k)))/\bh [] w a (ints (Zs N k))/\m'.B.length=64*bl/\m'.next=N+i/\jf (jJ x) (k-i) i m'=G) ?_ k (n+2) _ _ ⟨0,(cV x).2,rfl,bH _,by omega,PM.pre yp,eL.trans (Fx.pre _ yp),hoc.fx (Fx.pre [] yp) (fun _ _ h=>by cases h),JD.fx (Fx.pre [] yp) (fun _ _ h=>by cases h),PC,hN,hG⟩ (by omega);rintro q3 _ w ⟨i,m',rfl,hi,hq3,PN,Jr,TQ,ym,hB3,hN3,az⟩ wU Wy;simp only[al,ae];by_cases aj:i<k
   ·rw[ah (show(i:Int)<(k:Int) by omega),cond_true]
    refine Ok.call (Zse h.q99 (n+2) i (Zs 0 (N+k)) c 1 w (.inl rfl) TQ.sl (by omega) (by rw[ZU];omega) (fun y hy=>by have:=Zwv hy;omega) (by rw[ZU];omega)) ?_;rintro _ rfl;refine⟨_,w,rfl,?_⟩;have QE:(gf i (Zs 0 (N+k))).cO.length=48:=by unfold gf;rw[HJ];exact oO
    have gR:(bQ (gf i (Zs 0 (N+k))).cO).length=48:=by rw[Zt,QE]
    show Ok _ (J.a [.agg (.int .i64 (gf i (Zs 0 (N+k))).no::bQ (gf i (Zs 0 (N+k))).cO)] _ w);rw[bU];simp only[al];rw[bB gR];simp only[ae];refine Ok.call (Zte h.Xv (n+2) (gf i (Zs 0 (N+k))) QE w (by omega)) ?_;rintro _ ⟨w1,rfl,A9⟩;refine⟨_,w1,rfl,?_⟩;simp only[bV,ae];refine Ok.call (xL h.tq (n+1) (su (gf i (Zs 0 (N+k)))) w1 (PN.pre A9) (by omega) (by omega)) ?_;rintro _ ⟨w2,rfl,Vo,VP⟩;refine⟨_,w2,rfl,?_⟩;simp only[al,ae];rw[Zd (by omega) (by omega)];have Qa:Fx [s1.length+2,s1.length] w w2:=(Fx.pre _ A9).trans VP;have C6:Fx [s1.length+2,s1.length,s1.length+1] w w2:=Qa.mono fun y hy=>by simp only[cd,j4,iB]at hy⊢;omega
    have eki:k-i=(k-(i+1))+1:=by omega
    rw[eki]at az;unfold jf at az;rw[im]at az;rw[<-im]at az;exact Wy (k-(i+1)) _ _ (by omega) ⟨i+1,_,rfl,by omega,aA _,Vo,Jr.trans C6,TQ.fx C6 (ta PZ),ym.fx C6 (ta kU),(oT _ _).trans hB3,by show m'.next+1=_;omega,by rw[<-im];exact az⟩
   have ye:i=k:=by omega
   subst ye;rw[pV]at az;have hmG:m'=G:=az;subst hmG;rw[ao (show ¬(i:Int)<(i:Int) by omega),cond_false,Qt];simp only[ae];rw[Zn PN.cell rfl];simp only[jw];have Dy:run Bd (n+2) 179 [.int .i64 place,.int .i64 2] w=some (.val [.int .i64 (place%2)],w):=ZrJ h.q93 (n+1) place 2 (by decide) (by decide) jX w;rw[tQ Dy (.refl w)];simp only[al,ae];obtain⟨pl,TV⟩: ∃pl:Nat,place%2=(pl:Int):=⟨(place%2).toNat,by omega⟩;have Yv:pl<2:=by omega
   rw[TV,aY]at AK;rw[TV];have hwp:af (64*(pl:Int))=((64*pl:Nat):Int):=by rw[Zd (by omega) (by omega)];omega
   simp only[hwp,aY,dx];rw[Ze (by rw[aH,bx,bx];omega)];refine Ok.ew (Ztu h.Xy (n+2) (cZ x bG) a w (by rw[nv];exact ym.sl) (by omega) (by omega)) ?_;rintro _ ⟨w1,rfl,A9⟩;refine⟨_,w1,rfl,A9,?_⟩;simp only[bV,ae];have PO:=PN.pre A9;obtain⟨e1,e2,e3⟩:=PO.lt;show Ok _ (M.store s1.length (64*pl+0) _ _ w1);rw[dC,vC,Ir PO.bb (by rw[Zt,Zt,cn];omega),ZvW _ (by omega)];have hlB:=OC (B:=m'.B) (k:=64*pl) (vF (cZ x bG)) (by omega);rw[Zn (i:=s1.length+2) (f:=false) (by rw[ec (by omega)];exact PO.cell) rfl];simp only[jw,Zc];have we:Fx [s1.length+2,s1.length,s1.length+1] w (w1.set s1.length (some ⟨false,bQ (mH m'.B (64*pl) (vF (cZ x bG)))⟩)):=(Fx.pre _ A9).trans ((Fx.set w1 s1.length _).mono fun y hy=>by rw[bP.1 hy];simp);have ow:=aJ.len;refine .mk ⟨_,tf _ (Jr.trans we),.inl ⟨_,_,s1.length,a,hm,AK,by rw[hlB],ow,fV (by omega),?_,fun y hy=>?_⟩⟩
   ·rw[nv]
    exact ym.fx we (ta kU)
   ·have:=kU y hy
    omega
  rw[ZU];have wI:((jJ x).length:Int)=((N+k:Nat):Int):=by rw[im,ZU]
  by_cases rF:((N+k:Nat):Int)>x.blocks
  ·rw[ah rF,cond_true]
   refine A4 u true ?_ (.refl u);rw[wI,ah rF,tC]
  ·rw[ao rF,cond_false]
   refine Ok.call (Zp9 h.q77 (n+2) (cZ x bG) a u (by rw[nv];exact JD.sl) (by omega) (by omega)) ?_;rintro _ ⟨v,rfl,yp⟩;refine⟨_,v,rfl,?_⟩;simp only[ai,ae];refine A4 v _ ?_ yp;rw[wI,ao rF,pQ]
 by_cases uu:0<x.free.length
 ·obtain⟨k0,kr,yf⟩: ∃k0 kr,x.free=k0::kr:=by
   cases qy:x.free with
   |nil=>rw[qy]at uu;cases uu
   |cons a b=>exact⟨a,b,rfl⟩
  have Qk:(ints x.free)[0]? =some (.int .i64 k0):=by rw[yf];rfl
  obtain⟨bi,bo,e⟩:=nF.fr.1.cm (by simp[ints];omega);have yr:=nF.fr.1;rw[e]at yr⊢;rw[ah (show((x.free.length:Nat):Int)>0 by omega),cond_true,aW,Ze (show au 0 x.free.length=true from Zk (i:=0) uu),yr.get Qk];simp only[aS];rw[yf]at A1;exact A1
 ·have qy:x.free=[]:=r8.1 (by omega)
  rw[ao (show ¬((x.free.length:Nat):Int)>0 by omega),cond_false];rw[qy]at A1;exact A1
end Go.Gv.F
namespace Go.Gv.F
open Go.Gv
variable {β:Type}
theorem ZqK {Bd:Za} (h:KS Bd) (n:Nat) (W:List Nat) (j:Nat) (f:Bool) (st:St) (hw:st[j]? =some (some ⟨f,ZD W⟩)) (h0:0<W.length) (hl:W.length<100000):
  Ok (fun o=>∃j' s',o=(.val [.slice 1 (some (j',0)) W.length],s')/\aw st s'/\st.length<=j'/\s'[j']? =some (some ⟨false,ZD W⟩)) (run Bd (n+1) 263 [.slice 1 (some (j,0)) W.length] st):=by
 rw[Zf,h.eq];unfold Z7;simp only[br,ae];rw[show(some (j,0):Option (Nat×Nat)).isNone=false from rfl,cond_false,Zy];have cc:(st++[some (⟨false,[]⟩:bn)])[j]? =some (some ⟨f,ZD W⟩):=(aw.new _ _).get hw;have cL:Sl (st++[some (⟨false,[]⟩:bn)]) (some (j,0)) (ZD W):=⟨f,ZD W,cc,by omega,by rw[dw,oQ]⟩;have kZ:=Bj (β:=List DV) cL;rw[M4]at kZ;rw[dx,kZ];have JH:bh st (st++[some (⟨false,[]⟩:bn)]) (some (st.length,0)) []:=⟨aw.new _ _,.inr ⟨st.length,rfl,aA _,by simp⟩⟩;obtain⟨p,s',ho,he⟩:=JH.app (β:=List DV) (sz:=1) (n:=0) (m:=W.length) (lim:=8796093022208) (ds:=ZD W) (by omega) rfl h0 (by omega);rw[he,Zc,dy];rw[fu]at ho;rcases ho.2 with⟨_,e⟩|⟨i,rfl,h1,h2⟩
 ·have:=congrArg List.length e
  rw[M4]at this;simp only[xa]at this;omega
 ·exact .mk ⟨i,s',rfl,ho.1,h1,h2⟩
theorem ZrY {Bd:Za} (h:K8 Bd) (n:Nat) {f:Bool} {i j m:Nat} {W:List Nat} (st:St) (hs:eU st f i j m W) (hm:0<m):
  Ok (fun o=>∃i' j' s',o=(.val [.ptr (some (i',0))],s')/\aw st s'/\st.length<=i'/\st.length<=j'/\i'≠j'/\eU s' false i' j' m W) (run Bd (n+2) 241 [.ptr (some (i,0))] st):=by
 rw[Zf,h.eq];unfold FK;simp only[fa,ae,aW];have hlen:=hs.len;have hle:=hs.le;rw[Zn hs.hd rfl];simp only[aS];rw[Zn hs.hd rfl];simp only[jw];refine Ok.ew (ZqK h.q4 n W j f st hs.wd (by omega) (by omega)) ?_;rintro _ ⟨j',s1,rfl,aJ,hj,hw⟩;refine⟨_,s1,rfl,aJ,?_⟩;simp only[br,ae];rw[Zy,Zc];have uC:=(cw.1 hw).1;exact .mk ⟨s1.length,j',_,rfl,aJ.trans (aw.new _ _),aJ.len,hj,by omega,⟨by simp,(aw.new _ _).get hw,hs.len,hs.lt,hs.le⟩⟩
theorem Zs0 {Bd:Za} (h:Lg Bd) (hz:KN Bd) (n:Nat) {f g:Bool} {i j m i2 j2 m2:Nat} {W V:List Nat} (st:St) (ht:tK st) (hs:eU st f i j m W) (jG:eU st g i2 j2 m2 V) (hm:0<m) (hn:4000<=n):
  Ok (fun o=>∃i' j' s',o=(.val [.ptr (some (i',0))],s')/\aw st s'/\eU s' false i' j' m ((lh V).foldl (c9 m) W)) (run Bd n 201 [.ptr (some (i,0)),.ptr (some (i2,0))] st):=by
 obtain⟨n,rfl⟩: ∃k,n=k+3:=⟨n-3,by omega⟩;rw[Zf,h.eq];unfold Fy;simp only[fa,ae];refine Ok.call (ZrY h.q29 n st hs hm) ?_;rintro _ ⟨i',j',s1,rfl,aJ,wi,qD,pC,JP⟩;refine⟨_,s1,rfl,?_⟩;simp only[fa,ae];refine Ok.call (Zma h.D4 hz (n+2) s1 (ht.mono aJ) (jG.pre aJ) (by omega)) ?_;rintro _ ⟨p,s2,rfl,bj,cL,jU⟩;refine⟨_,s2,rfl,?_⟩;simp only[br,ae];have tg:=JP.pre bj;have uC:j'<s1.length:=(cw.1 JP.wd).1;have il:=LK V V.length;rw[oQ]at il;have hV:=jG.len;have hV2:=jG.le;rw[Zj (Hn h.yK (n+2) (lh V) p s2 tg pC cL (jN.aC fun b hb lP=>by
  have:=jU b hb;rw[bP.1 lP]at this;omega) (by omega) (by omega))]
 simp only[ae,Zc];exact .mk ⟨i',j',_,rfl,xE (aJ.trans bj) qD _,tg.add pC _ (by rw[(sq m _ _).1]) ((sq m _ _).2 tg.lt)⟩
end Go.Gv.F
namespace Go.Gv.F
open Go.Gv
variable {β:Type}
def vT (img:List UInt8) (m:Nat) (W:List Nat):List Int->Option (List ZJ)
 |[]=>some []
 |k::r=>match zS (mc img k.toNat)with
  |none=>none
  |some c=>bif gV m k&&dI W k.toNat then none else(vT img m W r).map (c:: ·)
def zU (img:List UInt8) (x:eX) (W:List Nat):Bool:=match vT img x.blocks.toNat W x.aG with
 |none=>false
 |some cs=>match Az x.blocks.toNat cs with
  |none=>false
  |some F=>decide (F=(lh (oJ x.blocks.toNat x.aG)).foldl (c9 x.blocks.toNat) W)
def xy (img:List UInt8) (x:eX) (rm:Option (Nat×List Nat)):Bool:=match lz (oM img x)with
 |some (some v)=>(match rm with
  |none=>false
  |some (m,R)=>(decide (x.blocks.toNat=m)&&decide (v.W=R))&&zU img x v.W)
 |_=>false
def ZvP (s:St) (rm:Option (Nat×List Nat)) (p:Option (Nat×Nat)):Prop:=match rm with
 |none=>p=none
 |some (m,R)=>∃f i j,p=some (i,0)/\eU s f i j m R
theorem ZyX {img:List UInt8} {x:eX} {v:aU} (h:lz (oM img x)=some (some v)):jz x=true/\x.blocks<=((img.length/64:Nat):Int):=by
 unfold lz at h;cases h1:jz x with
 |false=>
  have:(oM img x).sup=x:=rfl;rw[this,h1]at h;cases h
 |true=>
  refine⟨rfl,?_⟩;cases h2:decide (x.blocks<=((img.length/64:Nat):Int))with
  |true=>exact mU h2
  |false=>
   have e1:(oM img x).sup=x:=rfl;have e2:(oM img x).img=img:=rfl;rw[e1,e2,h1,h2]at h;cases h
theorem Zjw {Bd:Za} (h:Gr Bd) (n:Nat) (a:Option (Nat×Nat)) (img:List UInt8) (x:eX) (pc:Option (Nat×Nat)) (rm:Option (Nat×List Nat)) (pr:Option (Nat×Nat)) (s:St) (ht:tK s) (ha:dF s a img) (hc:Sl s pc (ints x.aG)) (hr:ZvP s rm pr) (hl:img.length<1000000) (dz:x.aG.length<1000) (hn:6000<=n):
  Ok (fun o=>∃s',o=(.val [.bool (xy img x rm)],s')/\aw s s') (run Bd n 173 [.slice 1 a img.length,.agg (dK x pc),.ptr pr] s):=by
 obtain⟨n,rfl⟩: ∃k,n=k+3:=⟨n-3,by omega⟩;obtain⟨R,hR⟩: ∃R,xy img x rm=R:=⟨_,rfl⟩;rw[hR];unfold xy at hR;rw[Zf,h.eq];unfold Gm;simp only[br];rw[lZ (dK x pc) [.ptr pr]];unfold dK;simp only[al,br,fa,ae];have wG:([.int .i64 x.seq,.int .i64 x.blocks,.int .i64 x.bX,.int .i64 x.g,.int .i64 x.cA,.int .i64 x.used,.int .i64 x.free,.int .i64 x.dir,.slice 1 pc x.aG.length]:List DV)=dK x pc:=rfl;rw[wG];have iX: ∀t,aw s t->R=false->Ok (fun o=>∃s',o=(.val [.bool R],s')/\aw s s') ((M.ret [.bool false]:M (List DV)) t):=fun t k e=>by
  rw[e,Zc];exact .mk ⟨t,rfl,k⟩
 refine Ok.call (LO h.D3 (n+2) a img x pc s ha hc hl dz (by omega)) ?_;intro o ho;cases hw:lz (oM img x)with
 |none=>
  rw[hw]at ho hR;obtain⟨s1,rfl,aJ⟩:=ho;refine⟨_,s1,rfl,?_⟩;rw[lZ];unfold cP;simp only[al,Zm 2 0 none _ (.inr rfl),Zm 1 0 none _ (.inr rfl),fa,ae];rw[Zb,show(!((2:Int)==0))=true from rfl,cond_true];simp only[ai,ae];rw[Zb,cond_true];simp only[ai,ae];rw[cond_true];exact iX s1 aJ hR.symm
 |some q=>
 cases q with
 |none=>
  rw[hw]at ho hR;obtain⟨s1,rfl,aJ⟩:=ho;refine⟨_,s1,rfl,?_⟩;rw[lZ];unfold cP;simp only[al,Zm 2 0 none _ (.inr rfl),Zm 1 0 none _ (.inr rfl),fa,ae];rw[Zb,show(!((31:Int)==0))=true from rfl,cond_true];simp only[ai,ae];rw[Zb,cond_true];simp only[ai,ae];rw[cond_true];exact iX s1 aJ hR.symm
 |some v=>
 rw[hw]at ho hR;obtain⟨s1,z2,q2,z3,q3,z4,q4,i,j,rfl,aJ,gv,iZ,DK,_,cu,_,_⟩:=ho;refine⟨_,s1,rfl,?_⟩;simp only at hR;obtain⟨yv,Vx⟩:=ZyX hw;obtain⟨qC,_⟩:=ZlC yv;obtain⟨g1,g2,_⟩:=sr qC;have WJ:=(BU x).1 yv;obtain⟨m,hm⟩: ∃m:Nat,x.blocks=m:=⟨x.blocks.toNat,by omega⟩;have hmn:x.blocks.toNat=m:=by omega
 rw[hmn]at cu hR;rw[lZ];unfold cP;simp only[al,Zm 2 z2 q2 _ gv,Zm 1 z3 q3 _ iZ,Zm 1 z4 q4 _ DK,fa,ae];rw[Zb,show(!((0:Int)==0))=false from rfl,cond_false];simp only[ai,ae];rw[Zb];cases rm with
 |none=>
  have hpr:pr=none:=hr;subst hpr;rw[show(none:Option (Nat×Nat)).isNone=true from rfl,cond_true];simp only[ai,ae];rw[cond_true];exact iX s1 aJ hR.symm
 |some mr=>
 obtain⟨mr,Rr⟩:=mr;obtain⟨fr,ir,jr,rfl,hsr⟩:=hr;rw[show(some (ir,0):Option (Nat×Nat)).isNone=false from rfl,cond_false];refine Ok.call (ZlA h.q35 (n+2) s1 cu (hsr.pre aJ) (by omega)) ?_;rintro _ rfl;refine⟨_,s1,rfl,?_⟩;simp only[ai,ae];simp only at hR;cases T0:(decide (m=mr)&&decide (v.W=Rr))with
 |false=>
  rw[T0,eE]at hR;rw[bu,cond_true];exact iX s1 aJ hR.symm
 |true=>
 rw[T0,cI]at hR;rw[bg,cond_false];unfold zU at hR;rw[hmn]at hR;refine Ok.join fun aV wm=>?_
 obtain⟨G,hG⟩: ∃G,vT img m v.W x.aG=G:=⟨_,rfl⟩;rw[hG]at hR;refine Zl _ (fun q y t=>∃(k z:Nat) (c:Option (Nat×Nat)) (acc:List ZJ),y=[.slice z c acc.length,.int .i64 (k:Int)]/\(z=49\/c=none)/\k<=x.aG.length/\x.aG.length-k<=q/\bh s1 t c (oe acc)/\acc.length=k/\(∀y∈acc,y.cO.length=48/\y.no<8)/\(vT img m v.W (x.aG.drop k)).map (acc++ ·)=G) ?_ x.aG.length (n+2) _ _ ⟨0,0,none,[],rfl,.inr rfl,bH _,by omega,bh.nil (.refl _),rfl,(fun _ h=>by cases h),by rw[dw,hG];cases G<;>rfl⟩ (by omega);rintro q _ t ⟨k,z,c,acc,rfl,hz,hk,hq,ho,xX,PW,az⟩ rec aD;have QS:=ho.1;have bE:=aJ.trans QS;simp only[al,Zm 49 z c _ hz,ae];have hct:=hc.mono bE;have Jl:=ha.mono bE;by_cases aj:k<x.aG.length
 ·obtain⟨bi,bo,rfl⟩:=hc.cm (by simp[ints];omega)
  have dM:(ints x.aG)[k]? =some (.int .i64 x.aG[k]):=Zw aj;have jj:x.aG.drop k=x.aG[k]::x.aG.drop (k+1):=hJ aj;have rz:=(WJ.ch k aj).1;rw[bM,ba aj,ZtY,hm]at rz;have Vz:2<=x.aG[k]/\x.aG[k]<(m:Int):=rz;rw[jj]at az;rw[ah (show(k:Int)<(x.aG.length:Int) by omega),cond_true,aW,Ze (Zk aj)];simp only[aY];rw[hct.dj dM];simp only[aS];generalize x.aG[k]=y at Vz az;obtain⟨yn,hyn⟩: ∃yn:Nat,y=yn:=⟨y.toNat,by omega⟩;subst hyn;unfold vT at az;rw[aY]at az;rw[Zj (ZlB h.RI (n+1) a img.length yn t hl (by omega))];simp only[br,ae];have Dj:(mc img yn).length=64:=by unfold mc;rw[cn,ej];omega
  have hlb:dF t (cY true a (yn*64)) (mc img yn):=(Jl.cY (k:=yn*64) (by omega)).lx 64;have hcg:=ZtA h.Xn (n+2) (cY true a (yn*64)) (mc img yn) t hlb (by omega) (by omega);rw[Dj]at hcg;refine Ok.call hcg ?_;rintro _ ⟨t1,bj,dq⟩;have cc:af ((k:Int)+1)=((k+1:Nat):Int):=Zd (by omega) (by omega);cases hgc:zS (mc img yn)with
  |none=>
   rw[hgc]at dq az;simp only at dq az;subst dq;refine⟨_,t1,rfl,?_⟩;have Wm:(bQ Ae.cO).length=48:=rfl;rw[lZ (Zz Ae) _];unfold Zz;simp only[al];rw[bB Wm];simp only[ai,ae];rw[bB (n:=49) rfl,Zb,bu,cond_true];simp only[ai,ae];rw[cond_true];have PF:G=none:=az.symm;rw[PF]at hR;exact iX t1 (bE.trans bj) hR.symm
  |some cv=>
   rw[hgc]at dq az;simp only at dq az;obtain⟨rfl,xU,h8⟩:=dq;refine⟨_,t1,rfl,?_⟩;have gR:(bQ cv.cO).length=48:=by rw[Zt,xU]
   rw[lZ (Zz cv) _];have P3:Zz cv= .int .i64 cv.no::bQ cv.cO:=rfl;rw[P3];simp only[al];rw[bB gR];simp only[ai,ae];rw[bB (n:=49) (by simp[gR]),Zb,bg,cond_false];rw[Zj (Znq h.RO n ((yn:Nat):Int) t1 (cu.pre (QS.trans bj)))];simp only[ai,ae];rw[aY];cases fM:(gV m ((yn:Nat):Int)&&dI v.W yn)with
   |true=>
    rw[fM,cond_true]at az;rw[cond_true];have PF:G=none:=az.symm;rw[PF]at hR;exact iX t1 (bE.trans bj) hR.symm
   |false=>
    rw[fM,cond_false]at az;rw[cond_false,bB (n:=49) (by simp[gR]),<-P3,cc];obtain⟨p3,t3,AZ,nA,he⟩:=(ho.mono bj).wT (β:=List DV) (sz:=49) (n:=acc.length) (lim:=1256584717458) (Zz cv) (by omega) (MN fun y hy=>(PW y hy).1) (HC xU) (by omega);refine Eq.mpr (congrArg (Ok _) (he _)) ?_;refine aD (x.aG.length-(k+1)) _ _ (by omega) ⟨k+1,49,p3,acc++[cv],?_,.inl rfl,by omega,aA _,?_,?_,fun y hy=>?_,?_⟩
    ·rw[aZ];rfl
    ·rw[ZuP]
     have:oe [cv]=Zz cv:=by unfold oe;simp
     rw[this];exact AZ
    ·rw[aZ,xX];rfl
    ·rcases de.1 hy with hy|hy
     ·exact PW y hy
     ·rw[bP.1 hy];exact⟨xU,h8⟩
    ·rw[<-az,Option.map_map]
     congr 1;funext l;simp
 ·rw[ao (show ¬(k:Int)<(x.aG.length:Int) by omega),cond_false,wm]
  rw[mO (by omega)]at az;have hGs:G=some acc:=by rw[<-az];simp[vT]
  rw[hGs]at hR;simp only at hR;simp only[br,ae];rw[hm];refine Ok.call (ZuA h.Xm (n+2) m acc c 49 t (by omega) (.inl rfl) ho.sl PW (by omega) (by omega)) ?_;rintro _ ⟨t1,bj,dq⟩;cases eK:Az m acc with
  |none=>
   rw[eK]at dq hR;simp only at dq hR;subst dq;refine⟨_,t1,rfl,?_⟩;simp only[fa,ai,ae];rw[Zb,cond_false];simp only[ai,ae,Zc];exact .mk ⟨t1,by rw[hR],bE.trans bj⟩
  |some F=>
   rw[eK]at dq hR;simp only at dq hR;obtain⟨iF,jF,rfl,hsF⟩:=dq;refine⟨_,t1,rfl,?_⟩;simp only[fa,ai,ae];rw[Zb,cond_true];obtain⟨t2,e2,cG,wv,yr⟩:=Nt h.Bh (n+2) m x.aG pc t1 (by omega) (hct.mono bj) (by omega) (by omega);rw[Zj e2];simp only[fa,ae];have tg:=cu.pre ((QS.trans bj).trans cG);refine Ok.call (Zs0 h.q36 (UL h.q36.D4.q9) (n+2) t2 (ht.mono ((bE.trans bj).trans cG)) tg yr (by omega) (by omega)) ?_;rintro _ ⟨iW,jW,t3,rfl,gG,hsW⟩;refine⟨_,t3,rfl,?_⟩;simp only[fa,ae];refine Ok.call (ZlA h.q35 (n+2) t3 (hsF.pre (cG.trans gG)) hsW (by omega)) ?_;rintro _ rfl;refine⟨_,t3,rfl,?_⟩;simp only[ai,ae,Zc];refine .mk ⟨t3,?_,((bE.trans bj).trans cG).trans gG⟩;simp only[decide_true,cI];rw[hR]
end Go.Gv.F
namespace Go.Gv.F
open Go.Gv
def nj:cK:=⟨16,2,3,[⟨[97],[⟨0,2,5,6⟩]⟩],[2],[]⟩
def Rn (x:cK):Bool:=match x with
 |⟨b,s,g,[⟨nm,[⟨a1,a2,a3,a4⟩]⟩],gs,fr⟩=>decide (b=16)&&(decide (s=2)&&(decide (g=3)&&(decide (nm=[97])&&(decide (a1=0)&&(decide (a2=2)&&(decide (a3=5)&&(decide (a4=6)&&(decide (gs=[2])&&decide (fr=[])))))))))
 |_=>false
theorem ZAp {x:cK} (h:Rn x=true):x=nj:=by
 unfold Rn at h;split at h
 ·simp only[aH,bx]at h
  obtain⟨h1,h2,h3,h4,h5,h6,h7,h8,h9,AA⟩:=h;subst h1 h2 h3 h4 h5 h6 h7 h8 h9 AA;rfl
 ·cases h
theorem ZzJ:jx nj where
 xS:=by decide
 bX:=by decide
 CK:=by decide
 right:=fun h hh=>by
  rw[bP.1 hh];refine⟨by decide+kernel,fun i a b h1 h2=>?_⟩;cases i with
  |zero=>cases h2
  |succ i=>simp at h1
 order:=fun i a b h1 h2=>by
  cases i with
  |zero=>cases h2
  |succ i=>simp[nj]at h1
 nodup:=by decide
 range:=by decide
 gen:=fun e he=>by
  have:e=⟨0,2,5,6⟩:=by simpa [Zo,nj]using he
  subst this;decide
 low:=fun k hk=>nomatch hk
 gens:=by decide
 rest:=fun i hi hn=>by
  have:i=0:=by
   have:nj.gens.length=1:=rfl;omega
  subst this;exact absurd (by decide) hn
def Zyh:Bool:=match sG nj 1 0 with
 |none=>false
 |some (B,s)=>match lz (oM B s)with
  |some (some v)=>Rn (uZ s v)&&(IJ v.W==8&&(zU B s v.W&&(decide (B.length=1024)&&decide (s.aG.length=1))))
  |_=>false
theorem Zvr:Zyh=true:=by decide+kernel
end Go.Gv.F
namespace Go.Gv.F
open Go.Gv
theorem Zkh {Bd:Za} (h:Lz Bd) (n:Nat) (st:St):
  Ok (fun o=>∃p1 p2 s',o=(.val [.agg (cP nj 2 p1 1 p2 0 none)],s')/\aw st s'/\vp s' nj p1 p2 none) (run Bd (n+1) 188 [] st):=by
 rw[Zf,h.eq];unfold Gf;simp only[ae];rw[sD,Zy,Zy,Zy,ZY];have l1: ∀c,(st++[some (c:bn)]).length=st.length+1:=fun c=>by simp
 have l2: ∀c d,((st++[some (c:bn)])++[some (d:bn)]).length=st.length+2:=fun c d=>by simp
 simp only[l1,l2];obtain⟨S,hS⟩: ∃S,((st++[some (⟨false,[.int .i64 0,.int .i64 2,.int .i64 5,.int .i64 6]⟩:bn)])++[some (⟨false,[.str (bs [97]),.slice 4 (some (st.length,0)) 1]⟩:bn)])++[some (⟨false,[.int .i64 2]⟩:bn)]=S:=⟨_,rfl⟩;have hp:aw st S:=by rw[<-hS];exact((aw.new _ _).trans (aw.new _ _)).trans (aw.new _ _)
 have h0:bh st S (some (st.length,0)) [.int .i64 0,.int .i64 2,.int .i64 5,.int .i64 6]:=⟨hp,.inr ⟨_,rfl,aA _,by rw[<-hS];simp⟩⟩;have h1:bh st S (some (st.length+1,0)) [.str (bs [97]),.slice 4 (some (st.length,0)) 1]:=⟨hp,.inr ⟨_,rfl,by omega,by rw[<-hS];simp⟩⟩;have h2:bh st S (some (st.length+2,0)) [.int .i64 2]:=⟨hp,.inr ⟨_,rfl,by omega,by rw[<-hS];simp⟩⟩;rw[hS];refine .mk ⟨some (st.length+1,0),some (st.length+2,0),_,rfl,Z1 hp,⟨⟨_,h1.fz,4,some (st.length,0),[],.inl rfl,rfl,h0.fz,rfl⟩,h2.fz,?_⟩⟩;exact Fz.nil _
theorem Zxw:zn nj:=⟨⟨by decide,by decide,by decide⟩,by decide,by decide,by decide⟩
theorem ZvB: ∃B s v,sG nj 1 0=some (B,s)/\lz (oM B s)=some (some v)/\uZ s v=nj/\IJ v.W=8/\zU B s v.W=true/\B.length=1024/\s.aG.length=1:=by
 have h:=Zvr;unfold Zyh at h;cases hb:sG nj 1 0 with
 |none=>rw[hb]at h;cases h
 |some q=>
  obtain⟨B,s⟩:=q;rw[hb]at h;simp only at h;cases hw:lz (oM B s)with
  |none=>rw[hw]at h;cases h
  |some w=>
   rw[hw]at h;cases w with
   |none=>cases h
   |some v=>
    simp only[aH,lW,bx]at h;exact⟨B,s,v,rfl,hw,ZAp h.1,h.2.1,h.2.2.1,h.2.2.2.1,h.2.2.2.2⟩
theorem Zkt {Bd:Za} (h:LG Bd) (n:Nat) (hn:70000<=n) (st:St) (ht:tK st):Ok (fun o=>∃s',o=(.val [.bool true],s')/\aw st s') (run Bd n 169 [] st):=by
 obtain⟨n,rfl⟩: ∃m,n=m+2:=⟨n-2,by omega⟩;obtain⟨B,s,v,hB,hW,bE,C1,nv,hBl,cL⟩:=ZvB;rw[Zf,h.eq];unfold F6;simp only[ae];refine Ok.call (Zkh h.q64 n st) ?_;rintro _ ⟨p1,p2,s1,rfl,aJ,hF⟩;refine⟨_,s1,rfl,?_⟩;rw[lZ];unfold cP;simp only[al,br,Zm 1 0 none _ (.inr rfl),ae];refine Ok.call (Zj0 h.RU (n+1) nj 2 1 1 p1 p2 none 1 0 s1 (.inl rfl) (.inl rfl) (.inl rfl) hF Zxw (by omega) (by omega)) ?_;rintro _ ⟨s2,bj,hq⟩;rcases hq with⟨B',s',ib,q,_,hb,rfl,mn⟩|⟨bA,_⟩
 rotate_left
 ·rw[bA ZzJ]at hB;cases hB
 rw[hB]at hb;cases hb;refine⟨_,s2,rfl,?_⟩;simp only[br];rw[lZ (dK s q) _];unfold dK;simp only[al,br,ai,ae];have wG:([.int .i64 s.seq,.int .i64 s.blocks,.int .i64 s.bX,.int .i64 s.g,.int .i64 s.cA,.int .i64 s.used,.int .i64 s.free,.int .i64 s.dir,.slice 1 q s.aG.length]:List DV)=dK s q:=rfl;simp only[wG];have CZ:dF s2 (some (ib,0)) B:=⟨false,bQ B,mn.cO,by omega,by rw[dw,oQ]⟩;have hqs:=mn.own.sl;refine Ok.call (LO h.D3 (n+1) (some (ib,0)) B s q s2 CZ hqs (by omega) (by omega) (by omega)) ?_;intro o ho;rw[hW]at ho;obtain⟨s3,z2,q2,z3,q3,z4,q4,i,j,rfl,cG,gv,iZ,DK,hR,cu,_,_⟩:=ho;refine⟨_,s3,rfl,?_⟩;rw[bE]at hR⊢;rw[lZ];unfold cP;simp only[al,Zm 2 z2 q2 _ gv,Zm 1 z3 q3 _ iZ,Zm 1 z4 q4 _ DK,fa,ae];rw[Zb,cond_true,show((0:Int)==0)=true from rfl];simp only[ai,ae];rw[Zb,cond_true,show(!(some (i,0):Option (Nat×Nat)).isNone)=true from rfl];simp only[ai,ae];rw[Zb,cond_true];refine Ok.call (Zsh h.q28 (n+1) s3 cu (by omega)) ?_;rintro _ rfl;refine⟨_,s3,rfl,?_⟩;simp only[al,ai,ae];rw[C1,show((8:Int)==8)=true from rfl,Zb,cond_true];refine Ok.ig (Zkh h.q64 n s3) ?_;rintro _ ⟨p1',p2',s4,rfl,gG,hF'⟩;refine⟨_,s4,rfl,?_⟩;rw[lZ];unfold cP;simp only[al,br,Zm 1 0 none _ (.inr rfl),ae];refine Ok.call (ZlO h.RH (n+1) nj nj 2 1 1 q2 q3 q4 2 1 1 p1' p2' none s4 (.inl rfl) (.inl rfl) (.inl rfl) (.inl rfl) (.inl rfl) (.inl rfl) (hR.pre gG) hF'.str Zxw (by omega)) ?_;rintro _ ⟨b,rfl,hb⟩;refine⟨_,s4,rfl,?_⟩;have:b=true:=hb.2 rfl;subst this;simp only[ai,ae];rw[Zb,cond_true];have hpp:=((aJ.trans bj).trans cG).trans gG;refine Ok.call (Zjw h.RQ (n+1) (some (ib,0)) B s q (some (s.blocks.toNat,v.W)) (some (i,0)) s4 (ht.mono hpp) (CZ.mono (cG.trans gG)) (hqs.mono (cG.trans gG)) ⟨false,i,j,rfl,cu.pre gG⟩ (by omega) (by omega) (by omega)) ?_;rintro _ ⟨s5,rfl,jl⟩;refine⟨_,s5,rfl,?_⟩;have qm:xy B s (some (s.blocks.toNat,v.W))=true:=by
  unfold xy;rw[hW];simp only[decide_true,cI];exact nv
 rw[qm];simp only[ai,ae,Zc];exact .mk ⟨s5,rfl,hpp.trans jl⟩
end Go.Gv.F
