/- The document's maker of images: its blocks, one behind the other. -/
import Derived.Test.YtegglibipjjblaaGreatDoorGvZMd
namespace Go.Gv.F
open Go.Gv
variable {β:Type}
structure bp where
 B:List UInt8
 next:Nat
 At:List Int
structure fL (s:St) (i ib ia:Nat) (m:bp):Prop where
 cell:s[i]? =some (some ⟨false,[.slice 1 (some (ib,0)) m.B.length,.int .i64 m.next,.slice 1 (some (ia,0)) m.At.length]⟩)
 bb:s[ib]? =some (some ⟨false,bj m.B⟩)
 aa:s[ia]? =some (some ⟨false,ints m.At⟩)
 d1:i≠ib
 d2:i≠ia
 d3:ib≠ia
theorem fL.fx {s s':St} {i ib ia:Nat} {m:bp} {T:List Nat} (h:fL s i ib ia m) (k:Fx T s s') (hT: ∀x∈T,x≠i/\x≠ib/\x≠ia):fL s' i ib ia m:=
 ⟨k.2 _ _ (fun e=>(hT _ e).1 rfl) h.cell,k.2 _ _ (fun e=>(hT _ e).2.1 rfl) h.bb,k.2 _ _ (fun e=>(hT _ e).2.2 rfl) h.aa,h.d1,h.d2,h.d3⟩
theorem fL.pre {s s':St} {i ib ia:Nat} {m:bp} (h:fL s i ib ia m) (k:ar s s'):fL s' i ib ia m:=h.fx (Fx.pre [] k) fun _ h=>by cases h
theorem fL.lt {s:St} {i ib ia:Nat} {m:bp} (h:fL s i ib ia m):i<s.length/\ib<s.length/\ia<s.length:=
 ⟨(cd.1 h.cell).1,(cd.1 h.bb).1,(cd.1 h.aa).1⟩
theorem fL.kp {s s':St} {i ib ia:Nat} {m:bp} (h:fL s i ib ia m) (k:Fx [i,ib,ia] s s'):Kp s s':=by
 intro j all e;refine k.2 j _ (fun hm=>?_) e;simp only[bX,kA,iN]at hm;rcases hm with rfl|rfl|rfl
 ·rw[h.cell]at e;cases e
 ·rw[h.bb]at e;cases e
 ·rw[h.aa]at e;cases e
def jA (B:List UInt8) (k:Nat) (s:List UInt8):List UInt8:=B.take k++(s.take (B.length-k)++B.drop (k+s.length))
theorem JF {B:List UInt8} {k:Nat} (s:List UInt8) (h:k<=B.length):(jA B k s).length=B.length:=by
 unfold jA;rw[bg,bg,bW,bW,dt];omega
theorem P7 {B:List UInt8} {k:Nat} (s:List UInt8) (h:k<=B.length):bC (bj B) k (bj (s.take (B.length-k)))=bj (jA B k s):=by
 have e:bj B=bj (B.take k)++(bj ((B.drop k).take s.length)++bj (B.drop (k+s.length))):=by
  rw[<-yi,<-yi,<-iK,lj,lj]
 have hl:(bj (B.take k)).length=k:=by rw[Zr,bW];omega
 have:=qF (bj (B.take k)) (bj ((B.drop k).take s.length)) (bj (B.drop (k+s.length))) (bj (s.take (B.length-k))) (by
  rw[Zr,Zr,bW,bW,dt,Nat.min_comm])
 rw[hl,<-e]at this;rw[this];unfold jA;rw[yi,yi]
def eJ (m:bp) (s:List UInt8):bp:=⟨bif decide (64*m.next+64<=m.B.length)then jA m.B (64*m.next) s else m.B,m.next+1,m.At⟩
theorem pB (m:bp) (s:List UInt8):(eJ m s).B.length=m.B.length:=by
 unfold eJ;by_cases h:64*m.next+64<=m.B.length
 ·simp only[ah h,cond_true];exact JF s (by omega)
 ·simp only[ao h,cond_false]
theorem yw {Bd:Za} (h:Ae Bd) (n:Nat) {i ib ia:Nat} {m:bp} (s:List UInt8) (st:St) (hm:fL st i ib ia m) (hn:m.next<1000000) (_hB:m.B.length<1000000):
  Ok (fun o=>∃eW,o=(.val [.int .i64 m.next],eW)/\fL eW i ib ia (eJ m s)/\Fx [i,ib] st eW) (run Bd (n+1) 194 [.ptr (some (i,0)),.str s] st):=by
 rw[Zf,h.eq];unfold FW;simp only[fm,bU,ae,aV];rw[Zn hm.cell rfl];simp only[aM];rw[Zn hm.cell rfl];simp only[aM];rw[dj,rK hm.cell (by show 1<3;omega)];have hw:af ((m.next:Int)+1)=((m.next+1:Nat):Int):=Zb (by omega) (by omega);have cj:af (64*(m.next:Int))=((64*m.next:Nat):Int):=by rw[Zb (by omega) (by omega)];omega
 have fU:af (((64*m.next:Nat):Int)+64)=((64*m.next+64:Nat):Int):=Zb (by omega) (by omega);simp only[hw,cj,fU];obtain⟨h1,h2,h3⟩:=hm.lt;have cg:([.slice 1 (some (ib,0)) m.B.length,.int .i64 m.next,.slice 1 (some (ia,0)) m.At.length]:List DV).set 1 (.int .i64 ((m.next+1:Nat):Int))=[.slice 1 (some (ib,0)) m.B.length,.int .i64 ((m.next+1:Nat):Int),.slice 1 (some (ia,0)) m.At.length]:=rfl;rw[cg];obtain⟨s1,ga⟩: ∃s1,st.set i (some (⟨false,[.slice 1 (some (ib,0)) m.B.length,.int .i64 ((m.next+1:Nat):Int),.slice 1 (some (ia,0)) m.At.length]⟩:bq))=s1:=⟨_,rfl⟩;have eH:fL s1 i ib ia ⟨m.B,m.next+1,m.At⟩:=by
  rw[<-ga];have d1:=hm.d1;have d2:=hm.d2;exact⟨fJ h1,by rw[eu d1];exact hm.bb,by rw[eu d2];exact hm.aa,d1,d2,hm.d3⟩
 have Bw:Fx [i,ib] st s1:=by rw[<-ga];exact(Fx.set st i _).mono fun y hy=>by rw[bK.1 hy];simp
 rw[ga,Zn eH.cell rfl];simp only[jJ];rw[Zc];by_cases hb:64*m.next+64<=m.B.length
 ·rw[ah (show((m.B.length:Nat):Int)>=((64*m.next+64:Nat):Int) by omega),cond_true,Zn eH.cell rfl]
  simp only[jJ];rw[Zd (by rw[aH,bc,bc];omega)];simp only[aX,di];show Ok _ (M.store ib (64*m.next+0) _ _ s1);rw[dG,rX,Js eH.bb (by rw[Zr,Zr,bW];show _<=m.B.length;omega)];have eR:=P7 (B:=m.B) (k:=64*m.next) s (by omega);show Ok _ ((D.nil [] (M.ret [DV.int .i64 m.next])) (s1.set ib (some ⟨false,bC (bj m.B) (64*m.next) (bj (s.take (m.B.length-64*m.next)))⟩)));rw[eR];simp only[ae,Ze];have hl:=JF (B:=m.B) (k:=64*m.next) s (by omega);refine .mk ⟨_,rfl,?_,Bw.trans ((Fx.set s1 ib _).mono fun y hy=>by rw[bK.1 hy];simp)⟩;unfold eJ;rw[ah hb,cond_true];have d1:=hm.d1;have d3:=hm.d3;refine⟨?_,?_,?_,d1,hm.d2,d3⟩
  ·rw[eu (Ne.symm d1),hl];exact eH.cell
  ·exact fJ (by rw[<-ga,hU];exact h2)
  ·rw[eu d3];exact eH.aa
 ·rw[ao (show ¬((m.B.length:Nat):Int)>=((64*m.next+64:Nat):Int) by omega),cond_false]
  simp only[ae,Ze];refine .mk ⟨s1,rfl,?_,Bw⟩;unfold eJ;rw[ao hb,cond_false];exact eH
def ke (es:List bm) (r:List Int×bp):Nat×bp:=match es with
 |[]=>(0,r.2)
 |e::_=>(r.2.next, { eJ r.2 (nV ⟨e,r.1⟩)with At:=r.2.At.set e.slot.toNat (r.2.next:Int) })
def bN:Nat->List bm->bp->List Int×bp
 |0,_,m=>([],m)
 |j+1,es,m=>(fun r:List Int×bp=>(fun f:Nat×bp=>(r.1++[(f.1:Int)],f.2)) (ke ((es.drop (2^j)).take (2^j)) (bN j ((es.drop (2^j)).take (2^j)) r.2))) (bN j es m)
def eX (j:Nat) (es:List bm) (m:bp):Nat×bp:=ke es (bN j es m)
theorem ZrY (es:List bm) (r:List Int×bp):(ke es r).2.B.length=r.2.B.length/\(ke es r).2.At.length=r.2.At.length/\(ke es r).2.next<=r.2.next+1/\r.2.next<=(ke es r).2.next:=by
 unfold ke;cases es with
 |nil=>exact⟨rfl,rfl,Nat.le_succ _,ay _⟩
 |cons e r'=>exact⟨pB _ _,by simp,ay _,Nat.le_succ _⟩
theorem rN: ∀(j:Nat) (es:List bm) (m:bp),(bN j es m).2.B.length=m.B.length/\(bN j es m).2.At.length=m.At.length/\(bN j es m).2.next+1<=m.next+2^j/\m.next<=(bN j es m).2.next/\(bN j es m).1.length=j
 |0,_,m=>⟨rfl,rfl,by simp[bN],ay _,rfl⟩
 |j+1,es,m=>by
  obtain⟨a1,a2,a3,a4,a5⟩:=rN j es m;obtain⟨b1,b2,b3,b4,_⟩:=rN j ((es.drop (2^j)).take (2^j)) (bN j es m).2;obtain⟨c1,c2,c3,c4⟩:=ZrY ((es.drop (2^j)).take (2^j)) (bN j ((es.drop (2^j)).take (2^j)) (bN j es m).2);have e:2^(j+1)=2*2^j:=by rw[nb];omega
  refine⟨c1.trans (b1.trans a1),c2.trans (b2.trans a2),?_,?_,?_⟩
  ·show(ke _ _).2.next+1<=_
   omega
  ·show m.next<=(ke _ _).2.next
   omega
  ·show((bN j es m).1++[_]).length=j+1
   rw[bg,a5];rfl
theorem IA (j:Nat) (es:List bm) (m:bp):(eX j es m).2.B.length=m.B.length/\(eX j es m).2.At.length=m.At.length/\(eX j es m).2.next<=m.next+2^j/\m.next<=(eX j es m).2.next:=by
 obtain⟨a1,a2,a3,a4,_⟩:=rN j es m;obtain⟨c1,c2,c3,c4⟩:=ZrY es (bN j es m);unfold eX;exact⟨c1.trans a1,c2.trans a2,by omega,by omega⟩
end Go.Gv.F
namespace Go.Gv.F
open Go.Gv
variable {β:Type}
theorem Zob (l:List bm): ∀(k:Nat),(bP l).drop (k*4)=bP (l.drop k):=by
 induction l with
 |nil=>intro k;simp[bP]
 |cons e l ih=>
  intro k;cases k with
  |zero=>rfl
  |succ k=>
   have e2:bP (e::l)=fN e++bP l:=rfl;rw[e2,show(k+1)*4=(fN e).length+k*4 by show _=4+_;omega,<-iK,qm,ih k];rfl
theorem ZnP (l:List bm) (k:Nat):(bP l).take (k*4)=bP (l.take k):=by
 induction l generalizing k with
 |nil=>simp[bP]
 |cons e l ih=>
  cases k with
  |zero=>rfl
  |succ k=>
   have e2:bP (e::l)=fN e++bP l:=rfl;rw[e2,show(k+1)*4=(fN e).length+k*4 by show _=4+_;omega,List.take_length_add_append,ih k];rfl
theorem Fz.WO {s:St} {p:Option (Nat×Nat)} {es:List bm} (h:Fz s p (bP es)) (k n:Nat) (hk:k+n<=es.length) (hn:0<n):Fz s (cy true p (k*4)) (bP ((es.drop k).take n)):=by
 obtain⟨i,o,rfl⟩:=h.1.ck (by rw[ZB];omega);refine⟨?_,fun b o' e=>?_⟩
 ·have h1:=h.1.cy (k:=k*4) (by rw[ZB];omega)
  rw[Zob]at h1;have h2:=h1.kt (n*4);rw[ZnP]at h2;exact h2
 ·have e':some (i,k*4+o)=some (b,o'):=e
  cases e';exact h.2 i o rfl
theorem Ztq {Bd:Za} (h:F6 Bd): ∀(j n:Nat) {i ib ia:Nat} {m:bp} (es:List bm) (p:Option (Nat×Nat)) (st:St),fL st i ib ia m->Fz st p (bP es)->es.length=2^j->(∀e∈es,0<=e.slot/\e.slot<(m.At.length:Int))->j<20->m.next+2^j<=900000->m.B.length<1000000->m.At.length<100000->3000+j<=n->
  Ok (fun o=>∃eW,o=(.val [.int .i64 (eX j es m).1],eW)/\fL eW i ib ia (eX j es m).2/\Fx [i,ib,ia] st eW) (run Bd n 217 [.ptr (some (i,0)),.slice 4 p es.length] st):=by
 intro j;induction j using Nat.strongRecOn with
 |_ j ih=>
 intro n i ib ia m es p st hm hs hl df hj BG hB Bn hn;obtain⟨n,rfl⟩: ∃k,n=k+1:=⟨n-1,by omega⟩;rw[Zf,h.eq];unfold F4;have tN:0<es.length:=by rw[hl];exact nc j
 obtain⟨bi,bo,rfl⟩:=hs.1.ck (by rw[ZB];omega);obtain⟨e0,er,KJ⟩: ∃e0 er,es=e0::er:=by
  cases es with
  |nil=>cases tN
  |cons a b=>exact⟨a,b,rfl⟩
 have he0:es[0]? =some e0:=by rw[KJ];rfl
 simp only[fm,bh,ae];rw[aV,Zd (show av 0 es.length=true from Zk (i:=0) tN)];have pV: ∀(s:St),Fz s (some (bi,bo)) (bP es)->∀K:List DV->M (List DV),M.load bi (0+bo) 4 K s=K (fN e0) s:=fun s hs K=>by
  have:=CV hs.1 he0 K
  rwa [nf]at this
 rw[pV st hs];unfold fN;simp only[al,ae];refine Ok.join fun aq si=>?_
 obtain⟨T,hT⟩: ∃T,eX j es m=T:=⟨_,rfl⟩;rw[hT];have RY:2^j<=2^19:=oh (by decide) (by omega);have h19:2^19=524288:=by decide
 obtain⟨l1,l2,l3⟩:=hm.lt;refine Zl _ (fun q y t=>∃(a z:Nat) (k:Option (Nat×Nat)),y=[.agg [.int .i64 e0.slot,.int .i64 e0.gen,.int .i64 e0.key,.int .i64 e0.value,.slice z k (bN a es m).1.length],.int .i64 ((2^a:Nat):Int)]/\(z=1\/k=none)/\a<=j/\j-a<=q/\fL t i ib ia (bN a es m).2/\Fx [i,ib,ia] st t/\aY [] t k (ints (bN a es m).1)/\∀b∈aF k,st.length<=b) ?_ j n _ _ ⟨0,0,none,rfl,.inr rfl,bH _,by omega,hm,.refl _ _,aY.nil ⟨st,rfl⟩,fun _ h=>by cases h⟩ (by omega);rintro q _ t ⟨a,z,k,rfl,hz,ha,hq,ij,bQ,dQ,tz⟩ rec aD;rw[bZ];simp only[al,Zm 1 z k _ hz,ae];have bB:=hs.kp (hm.kp bQ);obtain⟨g1,g2,g3,g4,g5⟩:=rN a es m;have h2a:2^a<=2^j:=oh (by decide) ha;by_cases aj:a<j
 ·have h2b:2^(a+1)<=2^j:=oh (by decide) aj
  have e2:2^(a+1)=2*2^a:=by rw[nb];omega
  have bd:0<2^a:=nc a;have hw:af (2*((2^a:Nat):Int))=((2^(a+1):Nat):Int):=by rw[Zb (by omega) (by omega)];omega
  rw[ah (show((2^a:Nat):Int)<(es.length:Int) by omega),cond_true];simp only[hw,aX];rw[Zd (by rw[aH,bc,bc];omega),Zd (by rw[aH,bc,bc];omega)];have sq:=bB.WO (2^a) (2^a) (by omega) bd;have Vw:((es.drop (2^a)).take (2^a)).length=2^a:=by rw[bW,dt];omega
  have yR:2^(a+1)-2^a=((es.drop (2^a)).take (2^a)).length:=by rw[Vw];omega
  rw[yR];refine Ok.fW (ih a aj n ((es.drop (2^a)).take (2^a)) _ t ij sq Vw (fun e he=>by rw[g2];exact df e (sK (sL he))) (by omega) (by omega) (by rw[g1];exact hB) (by rw[g2];exact Bn) (by omega)) ?_;rintro _ ⟨t1,rfl,eH,jO⟩;refine⟨_,t1,rfl,?_⟩;simp only[al,ae];have tK: ∀b∈aF k,b∉[i,ib,ia]:=fun b hb ji=>by
   have:=tz b hb;simp only[bX,kA,iN]at ji;omega
  have K3:=dQ.fx jO tK;obtain⟨b,t2,r1,r2,r3,r4⟩:=uH (β:=List DV) (lim:=8796093022208) K3 (sz:=1) (n:=(bN a es m).1.length) [.int .i64 ((eX a ((es.drop (2^a)).take (2^a)) (bN a es m).2).1:Int)] (by omega) (by simp[ints]) rfl (by omega);refine Eq.mpr (congrArg (Ok _) (r4 _)) ?_;have dr:=eH.fx r3 fun y hy=>by
   have:=tz y hy;omega
  have eG:Fx [i,ib,ia] st t2:=(bQ.trans jO).step r3 fun y hy=> .inr (tz y hy)
  refine aD (j-(a+1)) _ _ (by omega) ⟨a+1,1,some (b,0),?_,.inl rfl,by omega,ay _,dr,eG,?_,fun y hy=>?_⟩
  ·obtain⟨_,_,_,_,g6⟩:=rN (a+1) es m
   rw[g5,g6]
  ·show aY [] t2 (some (b,0)) (ints ((bN a es m).1++[_]))
   unfold ints;rw[dL];exact r2
  ·rw[bK.1 hy]
   have:=(bQ.trans jO).1;omega
 ·have haj:a=j:=by omega
  subst haj;rw[ao (show ¬((2^a:Nat):Int)<(es.length:Int) by omega),cond_false,si];show Ok _ (J.a [.agg [.int .i64 e0.slot,.int .i64 e0.gen,.int .i64 e0.key,.int .i64 e0.value,.slice 1 k (bN a es m).1.length]] _ t);rw[bZ];simp only[al,bh,ae];refine Ok.call (Zun h.aae n ⟨e0,(bN a es m).1⟩ 1 k t (.inl rfl) dQ.sl (by show(bN a es m).1.length<_;rw[g5];omega) (by omega)) ?_;rintro _ ⟨t1,rfl,aI⟩;refine⟨_,t1,rfl,?_⟩;simp only[bU,ae];obtain⟨n,rfl⟩: ∃k,n=k+1:=⟨n-1,by omega⟩;refine Ok.call (yw h.tZ n (nV ⟨e0,(bN a es m).1⟩) t1 (ij.pre aI) (by omega) (by rw[g1];exact hB)) ?_;rintro _ ⟨t2,rfl,dr,eG⟩;refine⟨_,t2,rfl,?_⟩;simp only[al,ae,aV];have ee:Fx [i,ib,ia] st t2:=(bQ.trans (Fx.pre _ aI)).trans (eG.mono fun y hy=>by simp only[bX,kA,iN]at hy⊢;omega);have y9:=hs.kp (hm.kp ee);rw[Zn dr.cell rfl];simp only[jJ];rw[Zd (show av 0 es.length=true from Zk (i:=0) tN)];have RN:(bP es)[0]? =some (.int .i64 e0.slot):=by rw[KJ];rfl
  rw[y9.1.get RN];simp only[aM];have SC:=df e0 (by rw[KJ];simp);obtain⟨ks,DY⟩: ∃ks:Nat,e0.slot=ks:=⟨e0.slot.toNat,by omega⟩;have fY:(eJ (bN a es m).2 (nV ⟨e0,(bN a es m).1⟩)).At=(bN a es m).2.At:=rfl;rw[aV,DY,Zd (show av ((ks:Nat):Int) _=true from Zk (by rw[fY,g2];omega)),aX,di,dG,rK dr.aa (by simp only[ints,lS];rw[fY,g2];omega),Ze];have hTe:T=(((bN a es m).2.next, { eJ (bN a es m).2 (nV ⟨e0,(bN a es m).1⟩)with At:=(bN a es m).2.At.set ks ((bN a es m).2.next:Int) }):Nat×bp):=by
   rw[<-hT];unfold eX ke;rw[KJ];simp only;rw[DY,aX]
  rw[hTe];have cg:(ints (eJ (bN a es m).2 (nV ⟨e0,(bN a es m).1⟩)).At).set ks (.int .i64 ((bN a es m).2.next:Int))=ints ((bN a es m).2.At.set ks ((bN a es m).2.next:Int)):=by
   rw[fY];unfold ints;rw[zT]
  rw[cg];obtain⟨m1,m2,m3⟩:=dr.lt;have d2:=dr.d2;have d3:=dr.d3;refine .mk ⟨_,rfl,⟨?_,?_,?_,dr.d1,d2,d3⟩,ee.trans ((Fx.set t2 ia _).mono fun y hy=>by rw[bK.1 hy];simp)⟩
  ·rw[eu (Ne.symm d2),hU]
   exact dr.cell
  ·rw[eu (Ne.symm d3)]
   exact dr.bb
  ·exact fJ m3
end Go.Gv.F
namespace Go.Gv.F
open Go.Gv
variable {β:Type}
def rI (s:St):List DV->List cN->Prop
 |ds,[]=>ds=[]
 |ds,x::r=>∃z p t,(z=4\/p=none)/\ds=lG x z p++t/\Fz s p (bP x.aN)/\rI s t r
theorem rI.kp {s s':St} (k:Kp s s'): ∀ {ds:List DV} {xs:List cN},rI s ds xs->rI s' ds xs
 |_,[],h=>h
 |_,_::_,⟨z,p,t,hz,h1,h2,h3⟩=>⟨z,p,t,hz,h1,h2.kp k,h3.kp k⟩
theorem rI.aB {s:St} : ∀ {ds:List DV} {xs:List cN},rI s ds xs->iz s ds xs
 |_,[],h=>h
 |_,_::_,⟨z,p,t,hz,h1,h2,h3⟩=>⟨z,p,t,hz,h1,h2.1,h3.aB⟩
theorem rI.get {s:St} : ∀ {ds:List DV} {xs:List cN},rI s ds xs->∀ {j:Nat} {x:cN},xs[j]? =some x->∃z p,(z=4\/p=none)/\ds[j*2]? =some (.str x.name)/\ds[j*2+1]? =some (.slice z p x.aN.length)/\Fz s p (bP x.aN)
 |_,[],_,j,x,e=>by simp at e
 |ds,y::r,⟨zq,q,t,Ez,h1,h2,h3⟩,0,x,e=>by
  simp only[gV,cX]at e;subst e;subst h1;exact⟨zq,q,Ez,rfl,rfl,h2⟩
 |ds,y::r,⟨zq,q,t,Ez,h1,h2,h3⟩,j+1,x,e=>by
  obtain⟨z,p,hz,g2,g3,g4⟩:=h3.get (j:=j) (x:=x) (by simpa using e);refine⟨z,p,hz,?_,?_,g4⟩
  ·rw[h1,gU (by rw[sY];omega),sY,show(j+1)*2-2=j*2 by omega]
   exact g2
  ·rw[h1,gU (by rw[sY];omega),sY,show(j+1)*2+1-2=j*2+1 by omega]
   exact g3
structure v8 (s:St) (x:cT) (p1 p2 p3:Option (Nat×Nat)):Prop where
 hp: ∃ds,Fz s p1 ds/\rI s ds x.aB
 gn:Fz s p2 (ints x.gens)
 fr:Fz s p3 (ints x.free)
theorem v8.kp {s s':St} {x:cT} {p1 p2 p3:Option (Nat×Nat)} (h:v8 s x p1 p2 p3) (k:Kp s s'):v8 s' x p1 p2 p3:=
 let ⟨ds,h1,h2⟩:=h.hp
 ⟨⟨ds,h1.kp k,h2.kp k⟩,h.gn.kp k,h.fr.kp k⟩
theorem v8.str {s:St} {x:cT} {p1 p2 p3:Option (Nat×Nat)} (h:v8 s x p1 p2 p3):oq s x p1 p2 p3:=
 let ⟨ds,h1,h2⟩:=h.hp
 ⟨⟨ds,h1.1,h2.aB⟩,h.gn.1,h.fr.1⟩
def dw (cnt:Nat):Nat->Nat->List Int->List bm->bp->List Int×bp
 |0,_,hs,_,m=>(hs,m)
 |c+1,k,hs,rest,m=>bif dM cnt k then(fun t:Nat×bp=>dw cnt c (k+1) (hs.set k (t.1:Int)) (rest.drop (2^k)) t.2) (eX k (rest.take (2^k)) m)else dw cnt c (k+1) hs rest m
def roots (es:List bm) (m:bp):List Int×bp:=dw es.length 12 0 (List.replicate 12 0) es m
def eO:List cN->List Int->bp->List Int×bp
 |[],db,m=>(db,m)
 |x::r,db,m=>(fun t:List Int×bp=>eO r (db++[(t.2.next:Int)]) (eJ t.2 (oQ ⟨x.name,x.aN.length,t.1⟩))) (roots x.aN m)
def mI (l:List cN) (m:bp):Nat×bp:=(fun t:List Int×bp=>match qG t.1 with
 |none=>(0,t.2)
 |some s=>(t.2.next,eJ t.2 s)) (eO l [] m)
theorem NP (a k:Nat):a%2^(k+1)=a%2^k+(if a/2^k%2=1 then 2^k else 0):=by
 rw[nb,Nat.mod_mul];rcases zX (a/2^k)with h|h
 ·rw[h,ax (by omega)];rfl
 ·rw[h,aG rfl,di]
theorem ZAj {a k:Nat} (h:dM a k=true):a%2^k+2^k<=a:=by
 have h1:a/2^k%2=1:=lY h;have h2:a%2^(k+1)<=a:=Nat.mod_le _ _;rw[NP,aG h1]at h2;exact h2
theorem HL (cnt:Nat): ∀(c k:Nat) (hs:List Int) (rest:List bm) (m:bp),(dw cnt c k hs rest m).2.B.length=m.B.length/\(dw cnt c k hs rest m).2.At.length=m.At.length/\(dw cnt c k hs rest m).2.next+cnt%2^k<=m.next+cnt%2^(k+c)/\m.next<=(dw cnt c k hs rest m).2.next/\(dw cnt c k hs rest m).1.length=hs.length
 |0,k,hs,rest,m=>⟨rfl,rfl,ay _,ay _,rfl⟩
 |c+1,k,hs,rest,m=>by
  unfold dw;have e:=NP cnt k;have e2:k+(c+1)=k+1+c:=by omega
  rw[e2];cases hb:dM cnt k with
  |true=>
   rw[cond_true];obtain⟨a1,a2,a3,a4⟩:=IA k (rest.take (2^k)) m;obtain⟨b1,b2,b3,b4,b5⟩:=HL cnt c (k+1) (hs.set k ((eX k (rest.take (2^k)) m).1:Int)) (rest.drop (2^k)) (eX k (rest.take (2^k)) m).2;rw[aG (lY hb)]at e;simp only;exact⟨b1.trans a1,b2.trans a2,by omega,by omega,by rw[b5,hU]⟩
  |false=>
   rw[cond_false];obtain⟨b1,b2,b3,b4,b5⟩:=HL cnt c (k+1) hs rest m;rw[ax (uv hb)]at e;exact⟨b1,b2,by omega,b4,b5⟩
theorem CA (es:List bm) (m:bp):(roots es m).2.B.length=m.B.length/\(roots es m).2.At.length=m.At.length/\(roots es m).2.next<=m.next+es.length/\m.next<=(roots es m).2.next/\(roots es m).1.length=12:=by
 obtain⟨b1,b2,b3,b4,b5⟩:=HL es.length 12 0 (List.replicate 12 0) es m;have:=Nat.mod_le es.length (2^(0+12));rw[ph]at b5;unfold roots;exact⟨b1,b2,by omega,b4,b5⟩
def iO (l:List cN):Nat:=(l.map fun x=>x.aN.length).sum
theorem An: ∀(l:List cN) (db:List Int) (m:bp),(eO l db m).2.B.length=m.B.length/\(eO l db m).2.At.length=m.At.length/\(eO l db m).2.next<=m.next+iO l+l.length/\m.next<=(eO l db m).2.next/\(eO l db m).1.length=db.length+l.length
 |[],db,m=>⟨rfl,rfl,ay _,ay _,rfl⟩
 |x::r,db,m=>by
  obtain⟨a1,a2,a3,a4,a5⟩:=CA x.aN m;obtain⟨b1,b2,b3,b4,b5⟩:=An r (db++[((roots x.aN m).2.next:Int)]) (eJ (roots x.aN m).2 (oQ ⟨x.name,x.aN.length,(roots x.aN m).1⟩));have hn:(eJ (roots x.aN m).2 (oQ ⟨x.name,x.aN.length,(roots x.aN m).1⟩)).next=(roots x.aN m).2.next+1:=rfl;rw[hn]at b3 b4;have e:iO (x::r)=x.aN.length+iO r:=by unfold iO;rw[gM,List.sum_cons]
  unfold eO;refine⟨b1.trans ((pB _ _).trans a1),b2.trans a2,?_,?_,?_⟩
  ·rw[e,dF];simp only;omega
  ·simp only;omega
  ·simp only[b5,bg,dF,uk];omega
theorem Zyb (l:List cN) (m:bp):(mI l m).2.B.length=m.B.length/\(mI l m).2.At.length=m.At.length/\(mI l m).2.next<=m.next+iO l+l.length+1/\m.next<=(mI l m).2.next:=by
 obtain⟨a1,a2,a3,a4,a5⟩:=An l [] m;unfold mI;simp only;cases qG (eO l [] m).1 with
 |none=>exact⟨a1,a2,by simp only;omega,a4⟩
 |some s=>exact⟨(pB _ _).trans a1,a2,by show _+1<=_;omega,by show _<=_+1;omega⟩
theorem Zzz (a k:Nat) (hk:k<64):((((a:Nat):Int).fdiv (2^(min k 64))).tmod 2==1)=dM a k:=by
 rw[j1 (by omega),show((2:Int)^k)=((2^k:Nat):Int) by push_cast;rfl,AJ];have e:((a/2^k:Nat):Int).tmod 2=((a/2^k%2:Nat):Int):=rfl;rw[e];unfold dM;by_cases h:a/2^k%2=1
 ·rw[h,ah rfl];rfl
 ·rw[ao h];exact cx.2 (by omega)
theorem ZAg {Bd:Za} (hT:F6 Bd) {Q:Out (List DV)×St->Prop} {Kn:List DV->M (List DV)} (n:Nat) {i ib ia:Nat} {m:bp} (nm:List UInt8) (es:List bm) (p:Option (Nat×Nat)) (z0:Nat) (tT:z0=4\/p=none) (st:St) (hm:fL st i ib ia m) (hs:Fz st p (bP es)) (df: ∀e∈es,0<=e.slot/\e.slot<(m.At.length:Int)) (BG:m.next+es.length<=800000) (hB:m.B.length<1000000) (Bn:m.At.length<100000) (hle:es.length<100000) (hn:3020<=n)
  (aA: ∀t,fL t i ib ia (roots es m).2->Fx [i,ib,ia] st t->Ok Q (Kn [.agg (.str nm:: .int .i64 (es.length:Int)::ints (roots es m).1)] t)):
  Ok Q (M.loop (fun dO st=>
    J.a st fun cU st=>
    J.s cU fun q2 r3=>
    J.i .i64 r3 fun q3 r4=>
    D.len r4 12<|
    J.l 4 st fun rest vM st=>
    J.i .i64 st fun k st=>
    D.nil st<|
    bif decide (k<12)then
     M.ak (decide (0<=k))<|
     M.join (fun st=>
      J.a st fun fG st=>
      J.s fG fun q4 r5=>
      J.i .i64 r5 fun q5 r6=>
      D.len r6 12<|
      J.l 4 st fun TI TJ st=>
      D.nil st<|
      dO [.agg ((.str q4)::(.int .i64 q5)::r6),.slice 4 TI TJ,.int .i64 (af (k+1))]) fun bu=>
     bif ((q3.fdiv (2^(min k.toNat 64))).tmod 2)==1 then
      M.ak (decide (0<=k))<|
      M.ak (decide (0<=af (1*2^(min k.toNat 64)))&&decide (af (1*2^(min k.toNat 64))<=(vM:Int)))<|
      M.call (run Bd n 217 [.ptr (some (i,0)),.slice 4 rest ((af (1*2^(min k.toNat 64))).toNat)]) fun ds=>
      J.i .i64 ds fun x8 ds=>
      D.nil ds<|
      M.ak (av k 12)<|
      M.ak (Nat.ble (k.toNat*1+2+1) 14)<|
      M.ak (decide (0<=k))<|
      M.ak (decide (0<=af (1*2^(min k.toNat 64)))&&decide (af (1*2^(min k.toNat 64))<=(vM:Int)))<|
      bu [.agg ((.str q2)::(.int .i64 q3)::(bC r4 (k.toNat*1) [.int .i64 x8])),.slice 4 (cy true rest (((af (1*2^(min k.toNat 64))).toNat)*4)) (vM-((af (1*2^(min k.toNat 64))).toNat))]
     else
      bu [.agg ((.str q2)::(.int .i64 q3)::r4),.slice 4 rest vM]
    else
     Kn [.agg ((.str q2)::(.int .i64 q3)::r4)]) n [.agg (.str nm:: .int .i64 (es.length:Int)::ints (List.replicate 12 0)),.slice z0 p es.length,.int .i64 0] st):=by
 obtain⟨G,hG⟩: ∃G,roots es m=G:=⟨_,rfl⟩;rw[hG]at aA;unfold roots at hG;refine Zl _ (fun q y t=>∃(k z:Nat) (p':Option (Nat×Nat)) (gY:List Int) (m':bp),y=[.agg (.str nm:: .int .i64 (es.length:Int)::ints gY),.slice z p' (es.length-es.length%2^k),.int .i64 (k:Int)]/\(z=4\/p'=none)/\k<=12/\12-k<=q/\gY.length=12/\fL t i ib ia m'/\Fx [i,ib,ia] st t/\Fz t p' (bP (es.drop (es.length%2^k)))/\m'.next<=m.next+es.length%2^k/\m'.B.length=m.B.length/\m'.At.length=m.At.length/\dw es.length (12-k) k gY (es.drop (es.length%2^k)) m'=G) ?_ 12 n _ _ ⟨0,z0,p,List.replicate 12 0,m,by rw[zZ,Nat.mod_one,qy];rfl,tT,bH _,by omega,ph,hm,.refl _ _,by rw[zZ,Nat.mod_one,dE];exact hs,by omega,rfl,rfl,by rw[zZ,Nat.mod_one,dE];exact hG⟩ (by omega);rintro q _ t ⟨k,z,p',gY,m',rfl,SS,hk,hq,yQ,ij,bQ,bG,BH,wM,uY,cG⟩ rec aD;have gQ:(ints gY).length=12:=by simp[ints,yQ]
 rw[bZ];simp only[bU,al];rw[bF gQ];simp only[Zm 4 z p' _ SS,al,ae];by_cases aj:k<12
 ·have hw:af ((k:Int)+1)=((k+1:Nat):Int):=Zb (by omega) (by omega)
  have h2k:2^k<=2^11:=oh (by decide) (by omega);have h11:2^11=2048:=by decide
  have El:af (1*2^(min k 64))=((2^k:Nat):Int):=by
   rw[j1 (by omega),Int.one_mul,show((2:Int)^k)=((2^k:Nat):Int) by push_cast;rfl];exact Zb (by omega) (by omega)
  rw[ah (show(k:Int)<12 by omega),cond_true,Zd (ah (by omega))];simp only[aX,El,hw];rw[Zc,Zzz _ _ (by omega)];have e12:12-k=(12-(k+1))+1:=by omega
  rw[e12]at cG;unfold dw at cG;have emod:=NP es.length k;cases hb:dM es.length k with
  |true=>
   rw[hb,cond_true]at cG;have ve:=ZAj hb;rw[aG (lY hb)]at emod;have bd:0<2^k:=nc k;rw[cond_true,Zd (ah (by omega)),Zd (by rw[aH,bc,bc];omega)];obtain⟨A,hA⟩: ∃A,es.drop (es.length%2^k)=A:=⟨_,rfl⟩;have fY:A.length=es.length-es.length%2^k:=by rw[<-hA,dt]
   have hAm: ∀e∈A,e∈es:=fun e he=>sK (by rw[hA];exact he)
   rw[hA]at bG cG;have hAk:(A.take (2^k)).length=2^k:=by rw[bW];omega
   have sq:Fz t p' (bP (A.take (2^k))):=⟨by
    have:=bG.1.kt (2^k*4)
    rwa [ZnP]at this,bG.2⟩
   have pO:(DV.slice 4 p' (2^k))= .slice 4 p' (A.take (2^k)).length:=by rw[hAk]
   rw[pO];refine Ok.call (Ztq hT k n (A.take (2^k)) p' t ij sq hAk (fun e he=>by rw[uY];exact df e (hAm e (sL he))) (by omega) (by omega) (by rw[wM];exact hB) (by rw[uY];exact Bn) (by omega)) ?_;rintro _ ⟨t1,rfl,eH,jO⟩;refine⟨_,t1,rfl,?_⟩;simp only[al,ae];rw[Zd (show av (k:Int) 12=true from Zk aj),ZJ (by omega),Zd (ah (by omega)),Zd (by rw[aH,bc,bc];omega)];obtain⟨k1,k2,k3,k4⟩:=IA k (A.take (2^k)) m';have cg:bC (ints gY) (k*1) [.int .i64 ((eX k (A.take (2^k)) m').1:Int)]=ints (gY.set k ((eX k (A.take (2^k)) m').1:Int)):=by
    rw[di,yl _ _ _ (by omega)];unfold ints;rw[zT]
   rw[cg];have Sn:(ints (gY.set k ((eX k (A.take (2^k)) m').1:Int))).length=12:=by simp[ints,yQ]
   show Ok _ (J.a [.agg (.str nm:: .int .i64 (es.length:Int)::ints (gY.set k ((eX k (A.take (2^k)) m').1:Int))),.slice 4 (cy true p' (2^k*4)) (es.length-es.length%2^k-2^k)] _ t1);rw[bZ];simp only[bU,al];rw[bF Sn];simp only[bh,ae];have BK:=bG.kp (ij.kp jO);have jy:es.drop (es.length%2^(k+1))=A.drop (2^k):=by rw[<-hA,iK,emod]
   have hlen:es.length-es.length%2^(k+1)=es.length-es.length%2^k-2^k:=by omega
   refine aD (12-(k+1)) _ _ (by omega) ⟨k+1,4,cy true p' (2^k*4),_,_,by rw[hlen],.inl rfl,by omega,ay _,by rw[hU,yQ],eH,bQ.trans jO,?_,by omega,k1.trans wM,k2.trans uY,by rw[jy];exact cG⟩;rw[jy];refine⟨?_,?_⟩
   ·have:=BK.1.cy (k:=2^k*4) (by rw[ZB];omega)
    rwa [Zob]at this
   ·obtain⟨bi,bo,rfl⟩:=BK.1.ck (by rw[ZB];omega)
    intro b o' e;have e':some (bi,2^k*4+bo)=some (b,o'):=e;cases e';exact BK.2 bi bo rfl
  |false=>
   rw[hb,cond_false]at cG;rw[ax (uv hb),dG]at emod;rw[cond_false];show Ok _ (J.a [.agg (.str nm:: .int .i64 (es.length:Int)::ints gY),.slice 4 p' (es.length-es.length%2^k)] _ t);rw[bZ];simp only[bU,al];rw[bF gQ];simp only[bh,ae];exact aD (12-(k+1)) _ _ (by omega) ⟨k+1,4,p',gY,m',by rw[emod];rfl,.inl rfl,by omega,ay _,yQ,ij,bQ,by rw[emod];exact bG,by rw[emod];exact BH,wM,uY,by rw[emod];exact cG⟩
 ·have:k=12:=by omega
  subst this;rw[ao (show ¬((12:Nat):Int)<12 by omega),cond_false];have hG2:(gY,m')=G:=cG;rw[<-hG2]at aA;exact aA t ij bQ
end Go.Gv.F
namespace Go.Gv.F
open Go.Gv
variable {β:Type}
theorem ll (cs r:List DV) (K:List DV->List DV->M β):J.a (.agg cs::r) K=K cs r:=rfl
theorem Zvd {Bd:Za} (h:Mt Bd) (n:Nat) {i ib ia:Nat} {m:bp} (l:List cN) (p:Option (Nat×Nat)) (z:Nat) (ds:List DV) (st:St) (hz:z=2\/p=none) (hm:fL st i ib ia m) (hs:Fz st p ds) (hh:rI st ds l) (df: ∀x∈l,∀e∈x.aN,0<=e.slot/\e.slot<(m.At.length:Int)) (vq: ∀x∈l,x.name.length+600<=n/\x.name.length<60000/\x.aN.length<100000) (BG:m.next+iO l+l.length<=700000) (hl:l.length<1000) (hB:m.B.length<1000000) (Bn:m.At.length<100000) (hn:4000<=n):
  Ok (fun o=>∃eW,o=(.val [.int .i64 (mI l m).1],eW)/\fL eW i ib ia (mI l m).2/\Fx [i,ib,ia] st eW) (run Bd n 189 [.ptr (some (i,0)),.slice z p l.length] st):=by
 obtain⟨n,rfl⟩: ∃k,n=k+2:=⟨n-2,by omega⟩;rw[Zf,h.eq];unfold FV;simp only[fm,Zm 2 z p _ hz,ae];obtain⟨T,hT⟩: ∃T,mI l m=T:=⟨_,rfl⟩;rw[hT];unfold mI at hT;obtain⟨l1,l2,l3⟩:=hm.lt;refine Ok.join fun aq si=>?_
 refine Zl _ (fun q y t=>∃(k zk:Nat) (a:Option (Nat×Nat)) (db:List Int) (m':bp),y=[.slice zk a db.length,.int .i64 (k:Int)]/\(zk=1\/a=none)/\k<=l.length/\l.length-k<=q/\fL t i ib ia m'/\Fx [i,ib,ia] st t/\aY [] t a (ints db)/\(∀b∈aF a,st.length<=b)/\db.length=k/\m'.B.length=m.B.length/\m'.At.length=m.At.length/\m'.next+iO (l.drop k)+(l.length-k)<=m.next+iO l+l.length/\eO (l.drop k) db m'=eO l [] m) ?_ l.length (n+1) _ _ ⟨0,0,none,[],m,rfl,.inr rfl,bH _,by omega,hm,.refl _ _,aY.nil ⟨st,rfl⟩,(fun _ h=>by cases h),rfl,rfl,rfl,ay _,rfl⟩ (by omega);rintro q _ t ⟨k,zk,a,db,m',rfl,SQ,hk,hq,ij,bQ,xg,lD,u5,wM,uY,BH,aA⟩ rec aD;simp only[al,Zm 1 zk a _ SQ,ae];have nL:=hm.kp bQ;have bB:=hs.kp nL;have hht:=hh.kp nL;by_cases aj:k<l.length
 ·have lF:=hht.aB.len
  obtain⟨bi,bo,rfl⟩:=bB.1.ck (by rw[lF];omega);have jm:l[k]? =some l[k]:=ba aj;have jy:l.drop k=l[k]::l.drop (k+1):=gT aj;have dy:l[k]∈l:=fK aj;rw[jy]at aA BH;generalize l[k]=x at jm aA BH dy;obtain⟨zx,px,hzx,pS,sf,jO⟩:=hht.get jm;have DO:iO (x::l.drop (k+1))=x.aN.length+iO (l.drop (k+1)):=by unfold iO;rw[gM,List.sum_cons]
  rw[DO]at BH;have pV: ∀K:DV->M (List DV),M.au bi (k*2+bo+1) K t=K (.slice zx px x.aN.length) t:=fun K=>by
   have:=bB.1.get sf K;rw[<-this];congr 1;omega
  rw[ah (show(k:Int)<(l.length:Int) by omega),cond_true,Zc,aV,Zd (Zk aj)];simp only[aX];rw[bB.1.get pS];simp only[z8];rw[aV,Zd (Zk aj),pV];rw[Z5 4 zx px _ hzx,aV,Zd (Zk aj),pV,Z5 4 zx px _ hzx];refine Ok.join fun aU w8=>?_
  obtain⟨n1,n2,n3⟩:=vq x dy;refine ZAg h.q24 (n+1) x.name x.aN px 4 (.inl rfl) t ij jO (fun e he=>by rw[uY];exact df x dy e he) (by omega) (by omega) (by omega) n3 (by omega) (Kn:=aU) ?_;intro t1 eH eG;rw[w8];obtain⟨k1,k2,k3,k4,k5⟩:=CA x.aN m';have gQ:(ints (roots x.aN m').1).length=12:=by simp[ints,k5]
  show Ok _ (J.a [.agg (.str x.name:: .int .i64 (x.aN.length:Int)::ints (roots x.aN m').1)] _ t1);rw[bZ];simp only[bU,al];rw[bF gQ];simp only[ae];refine Ok.call (ZuZ h.aag (n+1) ⟨x.name,x.aN.length,(roots x.aN m').1⟩ k5 n2 t1 (by show x.name.length+500<=_;omega)) ?_;rintro _ ⟨t2,rfl,bd⟩;refine⟨_,t2,rfl,?_⟩;simp only[bU,ae];refine Ok.call (yw h.tZ n (oQ ⟨x.name,x.aN.length,(roots x.aN m').1⟩) t2 (eH.pre bd) (by omega) (by omega)) ?_;rintro _ ⟨t3,rfl,xe,ee⟩;refine⟨_,t3,rfl,?_⟩;simp only[al,ae];have hw:af ((k:Int)+1)=((k+1:Nat):Int):=Zb (by omega) (by omega);simp only[hw];have oG:Fx [i,ib,ia] t t3:=(eG.trans (Fx.pre _ bd)).trans (ee.mono fun y hy=>by simp only[bX,kA,iN]at hy⊢;omega);have tK: ∀b∈aF a,b∉[i,ib,ia]:=fun b hb ji=>by
   have:=lD b hb;simp only[bX,kA,iN]at ji;omega
  have yW:=xg.fx oG tK;obtain⟨b,t4,r1,r2,r3,r4⟩:=uH (β:=List DV) (lim:=8796093022208) yW (sz:=1) (n:=db.length) [.int .i64 ((roots x.aN m').2.next:Int)] (by omega) (by simp[ints]) rfl (by omega);refine Eq.mpr (congrArg (Ok _) (r4 _)) ?_;simp only[bh,ae];have K0:=xe.fx r3 fun y hy=>by
   have:=lD y hy;omega
  refine aD (l.length-(k+1)) _ _ (by omega) ⟨k+1,1,some (b,0),db++[((roots x.aN m').2.next:Int)],_,?_,.inl rfl,by omega,ay _,K0,(bQ.trans oG).step r3 fun y hy=> .inr (lD y hy),?_,fun y hy=>?_,?_,(pB _ _).trans (k1.trans wM),k2.trans uY,?_,aA⟩
  ·rw[bg];rfl
  ·unfold ints
   rw[dL];exact r2
  ·rw[bK.1 hy]
   have:=(bQ.trans oG).1;omega
  ·rw[bg,u5];rfl
  ·show(roots x.aN m').2.next+1+_+_<=_
   omega
 ·have jg:k=l.length:=by omega
  rw[ao (show ¬(k:Int)<(l.length:Int) by omega),cond_false,si];rw[mZ (by omega)]at aA;have cG:eO l [] m=(db,m'):=aA.symm;rw[cG]at hT;simp only at hT;obtain⟨d1,d2,d3,d4,d5⟩:=An l [] m;rw[cG]at d3;simp only at d3;simp only[bh,ae];refine Ok.call (Zu4 h.aaf (n+1) db 1 a t (.inl rfl) xg.sl (by omega) (by omega)) ?_;rintro _ ⟨t1,rfl,aI⟩;refine⟨_,t1,rfl,?_⟩;cases xi:qG db with
  |none=>
   rw[xi]at hT;unfold ub;simp only[bU,ai,ae];rw[bD,cond_true,Ze,<-hT];exact .mk ⟨t1,rfl,ij.pre aI,bQ.trans (Fx.pre _ aI)⟩
  |some s=>
   rw[xi]at hT;unfold ub;simp only[bU,ai,ae];rw[bx,cond_false];refine Ok.call (yw h.tZ n s t1 (ij.pre aI) (by omega) (by omega)) ?_;rintro _ ⟨t2,rfl,dr,eG⟩;refine⟨_,t2,rfl,?_⟩;simp only[al,ae,Ze];rw[<-hT];exact .mk ⟨t2,rfl,dr,(bQ.trans (Fx.pre _ aI)).trans (eG.mono fun y hy=>by simp only[bX,kA,iN]at hy⊢;omega)⟩
end Go.Gv.F
namespace Go.Gv.F
open Go.Gv
variable {β:Type}
theorem Zsc: ∀(l:List bL) (i:Nat) (x:bL),i<l.length->bC (bV l) (i*3) (gk x)=bV (l.set i x)
 |[],i,x,h=>by cases h
 |y::l,0,x,h=>by
  rw[nf];exact qF [] (gk y) (bV l) (gk x) rfl
 |y::l,i+1,x,h=>by
  have e:=Zsc l i x (by simpa using h);rw[qu];show(.bool y.live:: .int .i64 y.gen:: .int .i64 y.block::bC (bV l) (i*3) (gk x):List DV)=_;rw[e];rfl
theorem Zp8: ∀(l:List bL) (i:Nat) (x:bL) (b:Bool),l[i]? =some x->bC (bV l) (i*3) [.bool b]=bV (l.set i { x with live:=b })
 |[],i,x,b,h=>by simp at h
 |y::l,0,x,b,h=>by
  simp only[gV,cX]at h;subst h;rw[nf];exact qF [] [.bool y.live] (.int .i64 y.gen:: .int .i64 y.block::bV l) [.bool b] rfl
 |y::l,i+1,x,b,h=>by
  have e:=Zp8 l i x b (by simpa using h);rw[qu];show(.bool y.live:: .int .i64 y.gen:: .int .i64 y.block::bC (bV l) (i*3) [.bool b]:List DV)=_;rw[e];rfl
theorem N3: ∀(l:List bL) (i:Nat) (x:bL) (b:Int),l[i]? =some x->bC (bV l) (i*3+2) [.int .i64 b]=bV (l.set i { x with block:=b })
 |[],i,x,b,h=>by simp at h
 |y::l,0,x,b,h=>by
  simp only[gV,cX]at h;subst h;rw[nf];exact qF [.bool y.live,.int .i64 y.gen] [.int .i64 y.block] (bV l) [.int .i64 b] rfl
 |y::l,i+1,x,b,h=>by
  have e:=N3 l i x b (by simpa using h);rw[qu,Nat.add_right_comm];show(.bool y.live:: .int .i64 y.gen:: .int .i64 y.block::bC (bV l) (i*3+2) [.int .i64 b]:List DV)=_;rw[e];rfl
def j9 (k:Int):List Int->Int->Int
 |a::b::r,c=>j9 k (b::r) (bif a==k then af (b+1)else c)
 |_,c=>c
def ew (gens At free:List Int) (k:Nat):bL:=⟨!(At.getD k 0==0),gens.getD k 0,j9 (k:Int) free (At.getD k 0)⟩
theorem ZAt {Q:Out (List DV)×St->Prop} {Kn:List DV->M (List DV)} (n:Nat) (free:List Int) (pf:Option (Nat×Nat)) (K i:Nat) (l:List bL) (x:bL) (s:St) (hf:Sl s pf (ints free)) (hl:l.length=7) (hi:i<7) (hx:l[i]? =some x) (eC:free.length<100000) (hn:free.length+1<n)
  (aA:Ok Q (Kn [.agg (bV (l.set i { x with block:=j9 (K:Int) free x.block }))] s)):
  Ok Q (M.loop (fun EV st=>
       J.a st fun oB st=>
      D.len oB 21<|
      J.i .i64 st fun k1 st=>
      D.nil st<|
      bif decide (af (k1+1)<(free.length:Int))then
       M.nn pf fun i7 o4=>
      M.ak (av k1 free.length)<|
      M.au i7 (k1.toNat*1+o4) fun d4=>
      D.int .i64 d4 fun ku=>
      M.join (fun st=>
       J.a st fun wH st=>
      D.len wH 21<|
      D.nil st<|
      EV [.agg wH,.int .i64 (af (k1+1))]) fun kP=>
      bif ku==((K:Nat):Int)then
       M.nn pf fun i8 o5=>
      M.ak (av (af (k1+1)) free.length)<|
      M.au i8 (((af (k1+1)).toNat)*1+o5) fun d5=>
      D.int .i64 d5 fun lQ=>
      M.ak (av ((i:Nat):Int) 7)<|
      M.ak (Nat.ble (i*3+2+1) 21)<|
      kP [.agg (bC oB (i*3+2) [.int .i64 (af (lQ+1))])]
      else
       kP [.agg oB]
      else
       Kn [.agg oB]) n [.agg (bV l),.int .i64 0] s):=by
 have Yj:l.set i { x with block:=x.block } =l:=by
  have wY:i<l.length:=by omega
  rw[ba wY]at hx;cases hx;exact List.set_getElem_self wY
 obtain⟨G,hG⟩: ∃G,j9 (K:Int) free x.block=G:=⟨_,rfl⟩;rw[hG]at aA;refine Zl _ (fun q y t=>∃(k:Nat) (c:Int),y=[.agg (bV (l.set i { x with block:=c })),.int .i64 (k:Int)]/\k<=free.length/\free.length-k<=q/\t=s/\j9 (K:Int) (free.drop k) c=G) ?_ free.length n _ _ ⟨0,x.block,by rw[Yj];rfl,bH _,by omega,rfl,hG⟩ (by omega);rintro q _ t ⟨k,c,rfl,hk,hq,rfl,cG⟩ rec aD;have dq:(bV (l.set i { x with block:=c })).length=21:=by rw[ZT,hU,hl]
 have hw:af ((k:Int)+1)=((k+1:Nat):Int):=Zb (by omega) (by omega);rw[bZ,bF dq];simp only[al,ae,hw];by_cases aj:k+1<free.length
 ·have jP:k<free.length:=by omega
  have tB:free.drop k=free[k]::free.drop (k+1):=gT jP;have jx:free.drop (k+1)=free[k+1]::free.drop (k+2):=gT aj;rw[tB,jx]at cG;unfold j9 at cG;rw[<-jx]at cG;obtain⟨bi,bo,rfl⟩:=hf.ck (by simp[ints];omega);have pS:(ints free)[k]? =some (.int .i64 free[k]):=Zu jP;have sf:(ints free)[k+1]? =some (.int .i64 free[k+1]):=Zu aj;rw[ah (show((k+1:Nat):Int)<(free.length:Int) by omega),cond_true,aV,Zd (Zk jP)];simp only[aX];rw[hf.cP pS];simp only[aM];rw[Zc];cases he:(free[k]==((K:Nat):Int))with
  |false=>
   rw[he,cond_false]at cG;rw[cond_false];show Ok _ (J.a [.agg (bV (l.set i { x with block:=c }))] _ t);rw[bZ,bF dq];simp only[ae];exact aD (free.length-(k+1)) _ _ (by omega) ⟨k+1,c,rfl,by omega,ay _,rfl,cG⟩
  |true=>
   rw[he,cond_true]at cG;rw[cond_true,aV,Zd (Zk aj),hf.cP sf];simp only[aM];rw[Zd (show av ((i:Nat):Int) 7=true from Zk hi),ZJ (by omega)];have eR:bC (bV (l.set i { x with block:=c })) (i*3+2) [.int .i64 (af (free[k+1]+1))]=bV (l.set i { x with block:=af (free[k+1]+1) }):=by
    rw[N3 _ i { x with block:=c } _ (by rw[fJ (by omega)]),List.set_set]
   rw[eR];have DJ:(bV (l.set i { x with block:=af (free[k+1]+1) })).length=21:=by rw[ZT,hU,hl]
   show Ok _ (J.a [.agg (bV (l.set i { x with block:=af (free[k+1]+1) }))] _ t);rw[bZ,bF DJ];simp only[ae];exact aD (free.length-(k+1)) _ _ (by omega) ⟨k+1,_,rfl,by omega,ay _,rfl,cG⟩
 ·rw[ao (show ¬((k+1:Nat):Int)<(free.length:Int) by omega),cond_false]
  have:j9 (K:Int) (free.drop k) c=c:=by
   have kf:(free.drop k).length<=1:=by rw[dt];omega
   cases hdk:free.drop k with
   |nil=>unfold j9;rfl
   |cons a r=>
    rw[hdk]at kf;have:r=[]:=pd.1 (by rw[dF]at kf;omega);subst this;unfold j9;rfl
  rw[this]at cG;rw[cG];exact aA
def kR (gens At free:List Int) (f i:Nat):List bL:=(List.range 7).map fun t=>bif decide (t<i)&&decide (f+t<gens.length)then ew gens At free (f+t)else lL
def jo (gens At free:List Int) (f:Nat):List bL:=kR gens At free f 7
theorem sX (gens At free:List Int) (f i:Nat):(kR gens At free f i).length=7:=by unfold kR;simp
theorem OZ (gens At free:List Int) (f i t:Nat) (h:t<7):(kR gens At free f i)[t]? =some (bif decide (t<i)&&decide (f+t<gens.length)then ew gens At free (f+t)else lL):=by
 unfold kR;rw[gL,og h];rfl
theorem Zxt (gens At free:List Int) (f i:Nat) (hi:i<7) (hf:f+i<gens.length):kR gens At free f (i+1)=(kR gens At free f i).set i (ew gens At free (f+i)):=by
 refine na fun t=>?_
 by_cases ht:t<7
 ·rw[OZ _ _ _ _ _ _ ht]
  by_cases h:t=i
  ·subst h
   rw[fJ (by rw[sX];exact ht),ah (show t<t+1 by omega),ah hf];rfl
  ·rw[eu (by omega),OZ _ _ _ _ _ _ ht]
   have:decide (t<i+1)=decide (t<i):=by
    by_cases h2:t<i
    ·rw[ah h2,ah (show t<i+1 by omega)]
    ·rw[ao h2,ao (show ¬t<i+1 by omega)]
   rw[this]
 ·rw[dT (by rw[sX];omega),dT (by rw[hU,sX];omega)]
theorem Zxn (gens At free:List Int) (f i:Nat) (h:gens.length<=f+i):kR gens At free f i=jo gens At free f:=by
 unfold jo kR;refine xS fun t ht=>?_
 by_cases h2:f+t<gens.length
 ·rw[ah (show t<i by omega),ah (jE.1 ht)]
 ·rw[ao h2,rE,rE]
theorem ZxV (gens At free:List Int) (f:Nat):kR gens At free f 0=vF:=by
 unfold kR vF;rw[xS (g:=fun _=>lL) fun t _=>by rw[ao (show ¬t<0 by omega)];rfl];rfl
theorem ZAa {Q:Out (List DV)×St->Prop} {Kn:List DV->M (List DV)} (n:Nat) {i ib ia:Nat} {m:bp} (gens free:List Int) (pg pf:Option (Nat×Nat)) (f:Nat) (s:St) (hm:fL s i ib ia m) (hg:Sl s pg (ints gens)) (fR:Sl s pf (ints free)) (vi:gens.length<100000) (eC:free.length<100000) (Bn:m.At.length=gens.length) (hf:f<100000) (hn:free.length+10<n) (mN:10<n)
  (aA:Ok Q (Kn [.agg (bV (jo gens m.At free f))] s)):
  Ok Q (M.loop (fun TH st=>
    J.a st fun uS st=>
    D.len uS 21<|
    J.i .i64 st fun i3 st=>
    D.nil st<|
    M.join (fun st=>J.b st fun b3 st=>D.nil st<|
     bif b3 then
      M.join (fun st=>
       J.a st fun Dm st=>
      D.len Dm 21<|
      D.nil st<|
      TH [.agg Dm,.int .i64 (af (i3+1))]) fun kO=>
      M.nn pg fun i4 o1=>
      M.ak (av (af (((f:Nat):Int)+i3)) gens.length)<|
      M.au i4 (((af (((f:Nat):Int)+i3)).toNat)*1+o1) fun d1=>
      D.int .i64 d1 fun fI=>
      M.ak (av i3 7)<|
      M.ak (Nat.ble (i3.toNat*3+3) 21)<|
      M.nn (some (i,0)) fun i5 o2=>
      M.au i5 (o2+2) fun d2=>
      D.slice 1 d2 fun gp qk=>
      M.nn gp fun i6 o3=>
      M.ak (av (af (((f:Nat):Int)+i3)) qk)<|
      M.au i6 (((af (((f:Nat):Int)+i3)).toNat)*1+o3) fun d3=>
      D.int .i64 d3 fun kX=>
      M.join (fun st=>
       J.a st fun Dk st=>
      D.len Dk 21<|
      D.nil st<|
      M.join (fun st=>
       J.a st fun Dl st=>
      D.len Dl 21<|
      D.nil st<|
      kO [.agg Dl]) fun mT=>
      M.loop (fun EV st=>
       J.a st fun oB st=>
      D.len oB 21<|
      J.i .i64 st fun k1 st=>
      D.nil st<|
      bif decide (af (k1+1)<(free.length:Int))then
       M.nn pf fun i7 o4=>
      M.ak (av k1 free.length)<|
      M.au i7 (k1.toNat*1+o4) fun d4=>
      D.int .i64 d4 fun ku=>
      M.join (fun st=>
       J.a st fun wH st=>
      D.len wH 21<|
      D.nil st<|
      EV [.agg wH,.int .i64 (af (k1+1))]) fun kP=>
      bif ku==(af (((f:Nat):Int)+i3))then
       M.nn pf fun i8 o5=>
      M.ak (av (af (k1+1)) free.length)<|
      M.au i8 (((af (k1+1)).toNat)*1+o5) fun d5=>
      D.int .i64 d5 fun lQ=>
      M.ak (av i3 7)<|
      M.ak (Nat.ble (i3.toNat*3+2+1) 21)<|
      kP [.agg (bC oB (i3.toNat*3+2) [.int .i64 (af (lQ+1))])]
      else
       kP [.agg oB]
      else
       mT [.agg oB]) n [.agg Dk,.int .i64 0]) fun jS=>
      bif !(kX==0)then
       M.ak (av i3 7)<|
      M.ak (Nat.ble (i3.toNat*3+1) 21)<|
      M.nn (some (i,0)) fun i9 o6=>
      M.au i9 (o6+2) fun d6=>
      D.slice 1 d6 fun oY Ff=>
      M.nn oY fun i10 o7=>
      M.ak (av (af (((f:Nat):Int)+i3)) Ff)<|
      M.au i10 (((af (((f:Nat):Int)+i3)).toNat)*1+o7) fun d7=>
      D.int .i64 d7 fun uh=>
      M.ak (av i3 7)<|
      M.ak (Nat.ble (i3.toNat*3+2+1) 21)<|
      jS [.agg (bC (bC (bC uS (i3.toNat*3) [.bool false,.int .i64 fI,.int .i64 0]) (i3.toNat*3) [.bool true]) (i3.toNat*3+2) [.int .i64 uh])]
      else
       jS [.agg (bC uS (i3.toNat*3) [.bool false,.int .i64 fI,.int .i64 0])]
     else
      Kn [.agg uS]) fun iV=>
    bif decide (i3<7)then
     iV [.bool (decide (af (((f:Nat):Int)+i3)<(gens.length:Int)))]
    else
     iV [.bool false]) n [.agg (bV vF),.int .i64 0] s):=by
 refine Zl _ (fun q y t=>∃(a:Nat),y=[.agg (bV (kR gens m.At free f a)),.int .i64 (a:Int)]/\a<=7/\7-a<=q/\t=s) ?_ 7 n _ _ ⟨0,by rw[ZxV];rfl,bH _,by omega,rfl⟩ (by omega);rintro q _ t ⟨a,rfl,ha,hq,rfl⟩ rec aD;have dq:(bV (kR gens m.At free f a)).length=21:=by rw[ZT,sX]
 rw[bZ,bF dq];simp only[al,ae];have hw:af (((f:Nat):Int)+(a:Int))=((f+a:Nat):Int):=Zb (by omega) (by omega);have cj:af ((a:Int)+1)=((a+1:Nat):Int):=Zb (by omega) (by omega);simp only[hw,cj,aX];refine Ok.join fun iV KQ=>?_
 have jl:kR gens m.At free f a=jo gens m.At free f->Ok Q (iV [.bool false] t):=fun e=>by
  rw[KQ];simp only[ai,ae];rw[cond_false,e];exact aA
 by_cases h7:a<7
 ·rw[ah (show(a:Int)<7 by omega),cond_true]
  by_cases aj:f+a<gens.length
  ·rw[ah (show((f+a:Nat):Int)<(gens.length:Int) by omega),KQ]
   simp only[ai,ae];rw[cond_true];refine Ok.join fun kO RT=>?_
   obtain⟨bi,bo,rfl⟩:=hg.ck (by simp[ints];omega);have vh:(ints gens)[f+a]? =some (.int .i64 gens[f+a]):=Zu aj;rw[aV,Zd (Zk aj),hg.cP vh];simp only[aM];rw[Zd (show av ((a:Nat):Int) 7=true from Zk h7),ZJ (by omega),aV,Zn hm.cell rfl];simp only[jJ];have KU:f+a<m.At.length:=by omega
   have Sa: ∀K:DV->M (List DV),M.au ia ((f+a)*1+0) K t=K (.int .i64 m.At[f+a]) t:=fun K=>Zn hm.aa (by rw[di,dG];exact Zu KU) K
   rw[aV,Zd (Zk KU),Sa];simp only[aM];obtain⟨L,hL⟩: ∃L,kR gens m.At free f a=L:=⟨_,rfl⟩;have hLl:L.length=7:=by rw[<-hL];exact sX _ _ _ _ _
   have hsB:ew gens m.At free (f+a)=⟨!(m.At[f+a]==0),gens[f+a],j9 ((f+a:Nat):Int) free m.At[f+a]⟩:=by
    unfold ew;rw[bJ,ba KU,bJ,ba aj];rfl
   have Lg:=Zxt gens m.At free f a h7 aj;rw[hL,hsB]at Lg;rw[hL]at dq⊢;generalize m.At[f+a]=at' at Sa Lg;generalize gens[f+a]=g at vh Lg;refine Ok.join fun jS XG=>?_
   have hA:Ok Q (jS [.agg (bV (L.set a ⟨!(at'==0),g,at'⟩))] t):=by
    rw[XG];have DJ:(bV (L.set a ⟨!(at'==0),g,at'⟩)).length=21:=by rw[ZT,hU,hLl]
    show Ok _ (J.a [.agg (bV (L.set a ⟨!(at'==0),g,at'⟩))] _ t);rw[bZ,bF DJ];simp only[ae];refine Ok.join fun mT XH=>?_
    refine ZAt n free pf (f+a) a (L.set a ⟨!(at'==0),g,at'⟩) ⟨!(at'==0),g,at'⟩ t fR (by rw[hU,hLl]) h7 (by rw[fJ (by omega)]) eC (by omega) (Kn:=mT) ?_;rw[List.set_set,<-Lg,XH];have UJ:(bV (kR gens m.At free f (a+1))).length=21:=by rw[ZT,sX]
    show Ok _ (J.a [.agg (bV (kR gens m.At free f (a+1)))] _ t);rw[bZ,bF UJ];simp only[ae];rw[RT];show Ok _ (J.a [.agg (bV (kR gens m.At free f (a+1)))] _ t);rw[bZ,bF UJ];simp only[ae];exact aD (7-(a+1)) _ _ (by omega) ⟨a+1,rfl,by omega,ay _,rfl⟩
   have ga:bC (bV L) (a*3) [.bool false,.int .i64 g,.int .i64 0]=bV (L.set a ⟨false,g,0⟩):=Zsc L a ⟨false,g,0⟩ (by omega);cases h0:(at'==0)with
   |true=>
    have:at'=0:=mu.1 h0;subst this;rw[bx,cond_false,ga];exact hA
   |false=>
    rw[h0]at hA;rw[bD,cond_true,Zd (show av ((a:Nat):Int) 7=true from Zk h7),ZJ (by omega),aV,Zn hm.cell rfl];simp only[jJ];rw[aV,Zd (Zk KU),Sa];simp only[aM];rw[Zd (show av ((a:Nat):Int) 7=true from Zk h7),ZJ (by omega),ga];rw[Zp8 _ a ⟨false,g,0⟩ true (by rw[fJ (by omega)]),List.set_set];rw[N3 _ a ⟨true,g,0⟩ at' (by rw[fJ (by omega)]),List.set_set];exact hA
  ·rw[ao (show ¬((f+a:Nat):Int)<(gens.length:Int) by omega)]
   exact jl (Zxn _ _ _ _ _ (by omega))
 ·rw[ao (show ¬(a:Int)<7 by omega),cond_false]
  have:a=7:=by omega
  subst this;exact jl rfl
end Go.Gv.F
namespace Go.Gv.F
open Go.Gv
variable {β:Type}
def iX (o:Option (List UInt8)):List UInt8:=o.getD []
theorem Pa (o:Option (List UInt8)):ub o=[.str (iX o),.bool o.isSome]:=by cases o<;>rfl
def mJ (leaves:List Int) (i k:Nat):List Int:=(List.range 16).map fun t=>bif decide (t<k)&&decide (16*i+t<leaves.length)then leaves.getD (16*i+t) 0 else 0
def iP (leaves:List Int) (i:Nat):List Int:=mJ leaves i 16
theorem yj (leaves:List Int) (i k:Nat):(mJ leaves i k).length=16:=by unfold mJ;simp
theorem PD (leaves:List Int) (i k t:Nat) (h:t<16):(mJ leaves i k)[t]? =some (bif decide (t<k)&&decide (16*i+t<leaves.length)then leaves.getD (16*i+t) 0 else 0):=by
 unfold mJ;rw[gL,og h];rfl
theorem Zx8 (leaves:List Int) (i k:Nat) (hk:k<16) (hf:16*i+k<leaves.length):mJ leaves i (k+1)=(mJ leaves i k).set k (leaves.getD (16*i+k) 0):=by
 refine na fun t=>?_
 by_cases ht:t<16
 ·rw[PD _ _ _ _ ht]
  by_cases h:t=k
  ·subst h
   rw[fJ (by rw[yj];exact ht),ah (show t<t+1 by omega),ah hf];rfl
  ·rw[eu (by omega),PD _ _ _ _ ht]
   have:decide (t<k+1)=decide (t<k):=by
    by_cases h2:t<k
    ·rw[ah h2,ah (show t<k+1 by omega)]
    ·rw[ao h2,ao (show ¬t<k+1 by omega)]
   rw[this]
 ·rw[dT (by rw[yj];omega),dT (by rw[hU,yj];omega)]
theorem Zyt (leaves:List Int) (i k:Nat) (h:leaves.length<=16*i+k):mJ leaves i k=iP leaves i:=by
 unfold iP mJ;refine xS fun t ht=>?_
 by_cases h2:16*i+t<leaves.length
 ·rw[ah (show t<k by omega),ah (jE.1 ht)]
 ·rw[ao h2,rE,rE]
theorem Zx7 (leaves:List Int) (i:Nat):mJ leaves i 0=List.replicate 16 0:=by
 unfold mJ;rw[xS (g:=fun _=>(0:Int)) fun t _=>by rw[ao (show ¬t<0 by omega)];rfl];rfl
theorem ZA1 {Q:Out (List DV)×St->Prop} {Kn:List DV->M (List DV)} (n:Nat) (leaves:List Int) (pl:Option (Nat×Nat)) (i:Nat) (s:St) (hl:Sl s pl (ints leaves)) (iD:leaves.length<100000) (hi:i<1000) (hn:20<n)
  (aA:Ok Q (Kn [.agg (ints (iP leaves i))] s)):
  Ok Q (M.loop (fun dO st=>
       J.a st fun nz st=>
      D.len nz 16<|
      J.i .i64 st fun k st=>
      D.nil st<|
      M.join (fun st=>J.b st fun b2 st=>D.nil st<|
       bif b2 then
       M.nn pl fun i1 o=>
      M.ak (av (af (((16*i:Nat):Int)+k)) leaves.length)<|
      M.au i1 (((af (((16*i:Nat):Int)+k)).toNat)*1+o) fun d=>
      D.int .i64 d fun fk=>
      M.ak (av k 16)<|
      M.ak (Nat.ble (k.toNat*1+1) 16)<|
      dO [.agg (bC nz (k.toNat*1) [.int .i64 fk]),.int .i64 (af (k+1))]
      else
       Kn [.agg nz]) fun eS=>
      bif decide (k<16)then
       eS [.bool (decide (af (((16*i:Nat):Int)+k)<(leaves.length:Int)))]
      else
       eS [.bool false]) n [.agg (ints (List.replicate 16 0)),.int .i64 0] s):=by
 refine Zl _ (fun q y t=>∃(k:Nat),y=[.agg (ints (mJ leaves i k)),.int .i64 (k:Int)]/\k<=16/\16-k<=q/\t=s) ?_ 16 n _ _ ⟨0,by rw[Zx7];rfl,bH _,by omega,rfl⟩ (by omega);rintro q _ t ⟨k,rfl,hk,hq,rfl⟩ rec aD;have dq: ∀k,(ints (mJ leaves i k)).length=16:=fun k=>by simp[ints,yj]
 rw[bZ,bF (dq k)];simp only[al,ae];have hw:af (((16*i:Nat):Int)+(k:Int))=((16*i+k:Nat):Int):=Zb (by omega) (by omega);have cj:af ((k:Int)+1)=((k+1:Nat):Int):=Zb (by omega) (by omega);simp only[hw,cj,aX];refine Ok.join fun eS hj6=>?_
 have jl:mJ leaves i k=iP leaves i->Ok Q (eS [.bool false] t):=fun e=>by
  rw[hj6];simp only[ai,ae];rw[cond_false,e];exact aA
 by_cases nE:k<16
 ·rw[ah (show(k:Int)<16 by omega),cond_true]
  by_cases aj:16*i+k<leaves.length
  ·rw[ah (show((16*i+k:Nat):Int)<(leaves.length:Int) by omega),hj6]
   simp only[ai,ae];obtain⟨bi,bo,rfl⟩:=hl.ck (by simp[ints];omega);have hg:(ints leaves)[16*i+k]? =some (.int .i64 leaves[16*i+k]):=Zu aj;rw[cond_true,aV,Zd (Zk aj),hl.cP hg];simp only[aM];rw[Zd (show av ((k:Nat):Int) 16=true from Zk nE),ZJ (by omega)];have eR:bC (ints (mJ leaves i k)) (k*1) [.int .i64 leaves[16*i+k]]=ints (mJ leaves i (k+1)):=by
    rw[di,yl _ _ _ (by rw[dq];exact nE),Zx8 _ _ _ nE aj,bJ,ba aj];unfold ints;rw[zT];rfl
   rw[eR];exact aD (16-(k+1)) _ _ (by omega) ⟨k+1,rfl,by omega,ay _,rfl⟩
  ·rw[ao (show ¬((16*i+k:Nat):Int)<(leaves.length:Int) by omega)]
   exact jl (Zyt _ _ _ (by omega))
 ·rw[ao (show ¬(k:Int)<16 by omega),cond_false]
  have:k=16:=by omega
  subst this;exact jl rfl
def fB (gens free:List Int):Nat->Nat->List Int->bp->List Int×bp
 |0,_,ls,m=>(ls,m)
 |c+1,f,ls,m=>bif decide (f<gens.length)then fB gens free c (f+7) (ls++[(m.next:Int)]) (eJ m (iX (ot (jo gens m.At free f))))else(ls,m)
def gy (leaves:List Int):Nat->Nat->List Int->bp->List Int×bp
 |0,_,top,m=>(top,m)
 |c+1,i,top,m=>bif decide (16*i<leaves.length)then gy leaves c (i+1) (top.set i (m.next:Int)) (eJ m (iX (kH (iP leaves i))))else(top,m)
def ix (gens free:List Int) (m:bp):Nat×bp:=(fun r:List Int×bp=>bif Nat.beq r.1.length 0 then(0,r.2)else
 (fun t:List Int×bp=>(t.2.next,eJ t.2 (iX (kH t.1)))) (gy r.1 16 0 (List.replicate 16 0) r.2)) (fB gens free gens.length 0 [] m)
theorem Zl5 (gens free:List Int): ∀(c f:Nat) (ls:List Int) (m:bp),(fB gens free c f ls m).2.B.length=m.B.length/\(fB gens free c f ls m).2.At=m.At/\(fB gens free c f ls m).2.next<=m.next+c/\m.next<=(fB gens free c f ls m).2.next
 |0,f,ls,m=>⟨rfl,rfl,ay _,ay _⟩
 |c+1,f,ls,m=>by
  unfold fB;cases decide (f<gens.length)with
  |true=>
   rw[cond_true];obtain⟨b1,b2,b3,b4⟩:=Zl5 gens free c (f+7) (ls++[(m.next:Int)]) (eJ m (iX (ot (jo gens m.At free f))));have hn:(eJ m (iX (ot (jo gens m.At free f)))).next=m.next+1:=rfl;exact⟨b1.trans (pB _ _),b2,by omega,by omega⟩
  |false=>exact⟨rfl,rfl,by simp only[cond_false];omega,ay _⟩
theorem Zpb (leaves:List Int): ∀(c i:Nat) (top:List Int) (m:bp),(gy leaves c i top m).2.B.length=m.B.length/\(gy leaves c i top m).2.At=m.At/\(gy leaves c i top m).2.next<=m.next+c/\m.next<=(gy leaves c i top m).2.next/\(gy leaves c i top m).1.length=top.length
 |0,i,top,m=>⟨rfl,rfl,ay _,ay _,rfl⟩
 |c+1,i,top,m=>by
  unfold gy;cases decide (16*i<leaves.length)with
  |true=>
   rw[cond_true];obtain⟨b1,b2,b3,b4,b5⟩:=Zpb leaves c (i+1) (top.set i (m.next:Int)) (eJ m (iX (kH (iP leaves i))));have hn:(eJ m (iX (kH (iP leaves i)))).next=m.next+1:=rfl;exact⟨b1.trans (pB _ _),b2,by omega,by omega,by rw[b5,hU]⟩
  |false=>exact⟨rfl,rfl,by simp only[cond_false];omega,ay _,rfl⟩
theorem ZvV (gens free:List Int) (m:bp):(ix gens free m).2.B.length=m.B.length/\(ix gens free m).2.At=m.At/\(ix gens free m).2.next<=m.next+gens.length+17/\m.next<=(ix gens free m).2.next:=by
 obtain⟨b1,b2,b3,b4⟩:=Zl5 gens free gens.length 0 [] m;unfold ix;simp only;cases Nat.beq (fB gens free gens.length 0 [] m).1.length 0 with
 |true=>exact⟨b1,b2,by simp only[cond_true];omega,b4⟩
 |false=>
  obtain⟨c1,c2,c3,c4,_⟩:=Zpb (fB gens free gens.length 0 [] m).1 16 0 (List.replicate 16 0) (fB gens free gens.length 0 [] m).2;rw[cond_false];exact⟨(pB _ _).trans (c1.trans b1),c2.trans b2,by show _+1<=_;omega,by show _<=_+1;omega⟩
theorem ZqY {Bd:Za} (h:Mp Bd) (n:Nat) {i ib ia:Nat} {m:bp} (x:cT) (z1 z2 z3:Nat) (p1 p2 p3:Option (Nat×Nat)) (st:St) (jn:z1=2\/p1=none) (gZ:z2=1\/p2=none) (jR:z3=1\/p3=none) (hm:fL st i ib ia m) (hg:Fz st p2 (ints x.gens)) (fR:Fz st p3 (ints x.free)) (vi:x.gens.length<90000) (eC:x.free.length<90000) (Bn:m.At.length=x.gens.length) (BG:m.next+x.gens.length<=700000) (hB:m.B.length<1000000) (hn:x.gens.length+x.free.length+1000<=n):
  Ok (fun o=>∃eW,o=(.val [.int .i64 (ix x.gens x.free m).1],eW)/\fL eW i ib ia (ix x.gens x.free m).2/\Fx [i,ib,ia] st eW) (run Bd n 190 [.ptr (some (i,0)),.agg (dA x z1 p1 z2 p2 z3 p3)] st):=by
 obtain⟨n,rfl⟩: ∃k,n=k+2:=⟨n-2,by omega⟩;rw[Zf,h.eq];unfold Gh;simp only[fm];rw[bZ];unfold dA;simp only[al,Zm 2 z1 p1 _ jn,Zm 1 z2 p2 _ gZ,Zm 1 z3 p3 _ jR,ae];obtain⟨l1,l2,l3⟩:=hm.lt;obtain⟨T,hT⟩: ∃T,ix x.gens x.free m=T:=⟨_,rfl⟩;rw[hT];unfold ix at hT;obtain⟨RL,hRL⟩: ∃RL,fB x.gens x.free x.gens.length 0 [] m=RL:=⟨_,rfl⟩;rw[hRL]at hT;simp only at hT;have ee: ∀ {a b:St},Fx [i,ib] a b->Fx [i,ib,ia] a b:=fun k=>k.mono fun y hy=>by simp only[bX,kA,iN]at hy⊢;omega
 have tK: ∀ {a:Option (Nat×Nat)},(∀b∈aF a,st.length<=b)->∀b∈aF a,b∉[i,ib,ia]:=fun lD b hb ji=>by
  have:=lD b hb;simp only[bX,kA,iN]at ji;omega
 refine Ok.join fun aq si=>?_
 refine Zl _ (fun q y t=>∃(c f zk:Nat) (a:Option (Nat×Nat)) (ls:List Int) (m':bp),y=[.slice zk a ls.length,.int .i64 (f:Int)]/\(zk=1\/a=none)/\f<=x.gens.length+7/\x.gens.length+7-f<=q/\fL t i ib ia m'/\Fx [i,ib,ia] st t/\aY [] t a (ints ls)/\(∀b∈aF a,st.length<=b)/\m'.B.length=m.B.length/\m'.At.length=m.At.length/\m'.next<=m.next+f/\ls.length<=f/\x.gens.length<=c+f/\fB x.gens x.free c f ls m'=RL) ?_ (x.gens.length+7) (n+1) _ _ ⟨x.gens.length,0,0,none,[],m,rfl,.inr rfl,bH _,by omega,hm,.refl _ _,aY.nil ⟨st,rfl⟩,(fun _ h=>by cases h),rfl,rfl,by omega,bH _,by omega,hRL⟩ (by omega);rintro q _ t ⟨c,f,zk,a,ls,m',rfl,SQ,hf,hq,ij,bQ,xg,lD,wM,uY,BH,iD,hc,aA⟩ rec aD;simp only[al,Zm 1 zk a _ SQ,ae];have nL:=hm.kp bQ;have hgt:=hg.kp nL;have rb:=fR.kp nL;by_cases aj:f<x.gens.length
 ·obtain⟨c,rfl⟩: ∃c',c=c'+1:=⟨c-1,by omega⟩
  unfold fB at aA;rw[ah aj,cond_true]at aA;rw[ah (show(f:Int)<(x.gens.length:Int) by omega),cond_true];refine Ok.join fun iU RV=>?_
  refine Ok.join fun iG RW=>?_
  refine ZAa (n+1) x.gens x.free p2 p3 f t ij hgt.1 rb.1 (by omega) (by omega) (by omega) (by omega) (by omega) (by omega) (Kn:=iG) ?_;rw[RW];have dq:(bV (jo x.gens m'.At x.free f)).length=21:=by rw[ZT];show(kR _ _ _ _ _).length*3=_;rw[sX]
  show Ok _ (J.a [.agg (bV (jo x.gens m'.At x.free f))] _ t);rw[bZ,bF dq];simp only[ae];refine Ok.call (ZsS h.q99 (n+1) (jo x.gens m'.At x.free f) (sX _ _ _ _ _) t (by omega)) ?_;rintro _ ⟨t1,rfl,aI⟩;refine⟨_,t1,rfl,?_⟩;rw[Pa];simp only[bU,ai,ae];refine Ok.call (yw h.tZ n (iX (ot (jo x.gens m'.At x.free f))) t1 (ij.pre aI) (by omega) (by omega)) ?_;rintro _ ⟨t2,rfl,dr,eG⟩;refine⟨_,t2,rfl,?_⟩;simp only[al,ae];have oG:Fx [i,ib,ia] t t2:=(Fx.pre _ aI).trans (ee eG);have yW:=xg.fx oG (tK lD);obtain⟨b,t4,r1,r2,r3,r4⟩:=uH (β:=List DV) (lim:=8796093022208) yW (sz:=1) (n:=ls.length) [.int .i64 (m'.next:Int)] (by omega) (by simp[ints]) rfl (by omega);refine Eq.mpr (congrArg (Ok _) (r4 _)) ?_;rw[RV];simp only[bh,ae];have hw:af ((f:Int)+7)=((f+7:Nat):Int):=Zb (by omega) (by omega);rw[hw];have K0:=dr.fx r3 fun y hy=>by
   have:=lD y hy;omega
  refine aD (x.gens.length+7-(f+7)) _ _ (by omega) ⟨c,f+7,1,some (b,0),ls++[(m'.next:Int)],_,?_,.inl rfl,by omega,ay _,K0,(bQ.trans oG).step r3 fun y hy=> .inr (lD y hy),?_,fun y hy=>?_,(pB _ _).trans wM,uY,?_,?_,by omega,aA⟩
  ·rw[bg];rfl
  ·unfold ints
   rw[dL];exact r2
  ·rw[bK.1 hy]
   have:=(bQ.trans oG).1;omega
  ·show m'.next+1<=_
   omega
  ·rw[bg];show _+1<=_;omega
 ·rw[ao (show ¬(f:Int)<(x.gens.length:Int) by omega),cond_false,si]
  have hRe:RL=(ls,m'):=by
   rw[<-aA];cases c with
   |zero=>rfl
   |succ c=>unfold fB;rw[ao aj];rfl
  rw[hRe]at hT;simp only at hT;simp only[bh,ae];by_cases h0:ls.length=0
  ·rw[h0]at hT⊢
   have hT2:(0,m')=T:=hT;rw[show(((0:Nat):Int)==0)=true from rfl,cond_true,Ze,<-hT2];exact .mk ⟨t,rfl,ij,bQ⟩
  ·have u6:Nat.beq ls.length 0=false:=by
    cases hb:Nat.beq ls.length 0 with
    |false=>rfl
    |true=>exact absurd (cc hb) h0
   rw[u6,cond_false]at hT;rw[show(((ls.length:Nat):Int)==0)=false from cx.2 (by omega),cond_false];obtain⟨RF,hRF⟩: ∃RF,gy ls 16 0 (List.replicate 16 0) m'=RF:=⟨_,rfl⟩;rw[hRF]at hT;refine Ok.join fun aC w4=>?_
   refine Zl _ (fun q y u=>∃(k:Nat) (top:List Int) (m2:bp),y=[.agg (ints top),.int .i64 (k:Int)]/\k<=16/\16-k<=q/\fL u i ib ia m2/\Fx [i,ib,ia] t u/\top.length=16/\m2.B.length=m.B.length/\m2.next<=m'.next+k/\gy ls (16-k) k top m2=RF) ?_ 16 (n+1) _ _ ⟨0,List.replicate 16 0,m',rfl,bH _,by omega,ij,.refl _ _,ph,wM,by omega,hRF⟩ (by omega);rintro q2 _ u ⟨k,top,m2,rfl,hk,tQ,hmu,eD,p8,Ko,abn,cG⟩ dO nO;have dq:(ints top).length=16:=by simp[ints,p8]
   rw[bZ,bF dq];simp only[al,ae];have hw:af (16*(k:Int))=((16*k:Nat):Int):=by rw[Zb (by omega) (by omega)];omega
   have cj:af ((k:Int)+1)=((k+1:Nat):Int):=Zb (by omega) (by omega);simp only[hw,cj];have hou:=xg.fx eD (tK lD);refine Ok.join fun aU w8=>?_
   have jl:RF=(top,m2)->Ok (fun o=>∃eW,o=(.val [.int .i64 T.1],eW)/\fL eW i ib ia T.2/\Fx [i,ib,ia] st eW) (aU [.bool false] u):=fun e=>by
    rw[w8];simp only[ai,ae];rw[cond_false,w4];show Ok _ (J.a [.agg (ints top)] _ u);rw[bZ,bF dq];simp only[ae];rw[e]at hT;simp only at hT;refine Ok.call (ZmD h.V9 (n+1) top p8 u (by omega)) ?_;rintro _ ⟨u1,rfl,aI⟩;refine⟨_,u1,rfl,?_⟩;rw[Pa];simp only[bU,ai,ae];refine Ok.call (yw h.tZ n (iX (kH top)) u1 (hmu.pre aI) (by omega) (by omega)) ?_;rintro _ ⟨u2,rfl,xe,wW⟩;refine⟨_,u2,rfl,?_⟩;simp only[al,ae,Ze];rw[<-hT];exact .mk ⟨u2,rfl,xe,((bQ.trans eD).trans (Fx.pre _ aI)).trans (ee wW)⟩
   by_cases nE:k<16
   ·rw[ah (show(k:Int)<16 by omega),cond_true]
    have e16:16-k=(16-(k+1))+1:=by omega
    rw[e16]at cG;unfold gy at cG;by_cases jg:16*k<ls.length
    ·rw[ah jg,cond_true]at cG
     rw[ah (show((16*k:Nat):Int)<(ls.length:Int) by omega),w8];simp only[ai,ae];rw[cond_true];refine Ok.join fun bu KP=>?_
     refine Ok.join fun cm RU=>?_
     refine ZA1 (n+1) ls a k u hou.sl (by omega) (by omega) (by omega) (Kn:=cm) ?_;rw[RU];have qV:(ints (iP ls k)).length=16:=by simp only[ints,lS];exact yj _ _ _
     show Ok _ (J.a [.agg (ints (iP ls k))] _ u);rw[bZ,bF qV];simp only[ae];refine Ok.call (ZmD h.V9 (n+1) (iP ls k) (yj _ _ _) u (by omega)) ?_;rintro _ ⟨u1,rfl,aI⟩;refine⟨_,u1,rfl,?_⟩;rw[Pa];simp only[bU,ai,ae];refine Ok.call (yw h.tZ n (iX (kH (iP ls k))) u1 (hmu.pre aI) (by omega) (by omega)) ?_;rintro _ ⟨u2,rfl,xe,wW⟩;refine⟨_,u2,rfl,?_⟩;simp only[al,ae];rw[Zd (show av ((k:Nat):Int) 16=true from Zk nE)];simp only[aX];rw[ZJ (by omega)];have eR:bC (ints top) (k*1) [.int .i64 (m2.next:Int)]=ints (top.set k (m2.next:Int)):=by
      rw[di,yl _ _ _ (by omega)];unfold ints;rw[zT]
     rw[eR,KP];have DJ:(ints (top.set k (m2.next:Int))).length=16:=by simp[ints,p8]
     show Ok _ (J.a [.agg (ints (top.set k (m2.next:Int)))] _ u2);rw[bZ,bF DJ];simp only[ae];exact nO (16-(k+1)) _ _ (by omega) ⟨k+1,_,_,rfl,by omega,ay _,xe,(eD.trans (Fx.pre _ aI)).trans (ee wW),by rw[hU,p8],(pB _ _).trans Ko,by show m2.next+1<=_;omega,cG⟩
    ·rw[ao jg,cond_false]at cG
     rw[ao (show ¬((16*k:Nat):Int)<(ls.length:Int) by omega)];exact jl cG.symm
   ·have:k=16:=by omega
    subst this;rw[ao (show ¬((16:Nat):Int)<16 by omega),cond_false];exact jl cG.symm
end Go.Gv.F
namespace Go.Gv.F
open Go.Gv
variable {β:Type}
def LM (x:eU):List UInt8:=bR (bS x.seq) 8++bR (bS x.blocks) 4++bR (bS x.cu) 4++bR (bS x.g) 4++bR (bS x.used) 4++bR (bS x.free) 4++bR (bS x.cE) 2++bR (bS x.dir) 2++c8 x.az
def wE (x:eU):List UInt8:=fu 7 x.az.length (LM x)
theorem Zu0 {Bd:Za} (h:N6 Bd) (n:Nat) (x:eU) (p:Option (Nat×Nat)) (st:St) (hs:Sl st p (ints x.az)) (hl:x.az.length<1000) (hn:2600<=n):
  Ok (fun o=>∃s',o=(.val [.str (wE x)],s')/\ar st s') (run Bd n 191 [.agg (dI x p)] st):=by
 obtain⟨n,rfl⟩: ∃k,n=k+2:=⟨n-2,by omega⟩;rw[Zf,h.eq];unfold HN dI;rw[bZ];simp only[al,bh,ae,Ax];have lay:=fun v k (hk:k<=20) s=>ZO h.jV (n+1) (bS v) k (ow v) s (by omega) (by omega)
 refine Ok.dW (lay x.seq 8 (by omega) st) ?_;rintro _ ⟨s1,rfl,aI⟩;refine⟨_,s1,rfl,aI,?_⟩;simp only[bU,ae];refine Ok.dW (lay x.blocks 4 (by omega) s1) ?_;rintro _ ⟨s2,rfl,bd⟩;refine⟨_,s2,rfl,bd,?_⟩;simp only[bU,ae];rw[ZJ (by simp only[Zq];omega)];refine Ok.dW (lay x.cu 4 (by omega) s2) ?_;rintro _ ⟨s3,rfl,cn⟩;refine⟨_,s3,rfl,cn,?_⟩;simp only[bU,ae];rw[ZJ (by simp only[bg,Zq];omega)];refine Ok.dW (lay x.g 4 (by omega) s3) ?_;rintro _ ⟨s4,rfl,gA⟩;refine⟨_,s4,rfl,gA,?_⟩;simp only[bU,ae];rw[ZJ (by simp only[bg,Zq];omega)];refine Ok.dW (lay x.used 4 (by omega) s4) ?_;rintro _ ⟨s5,rfl,ik⟩;refine⟨_,s5,rfl,ik,?_⟩;simp only[bU,ae];rw[ZJ (by simp only[bg,Zq];omega)];refine Ok.fW (lay x.free 4 (by omega) s5) ?_;rintro _ ⟨s6,rfl,yY⟩;refine⟨_,s6,rfl,?_⟩;simp only[bU,ae];rw[ZJ (by simp only[bg,Zq];omega)];refine Ok.dW (lay x.cE 2 (by omega) s6) ?_;rintro _ ⟨s7,rfl,xh⟩;refine⟨_,s7,rfl,xh,?_⟩;simp only[bU,ae];rw[ZJ (by simp only[bg,Zq];omega)];refine Ok.fW (lay x.dir 2 (by omega) s7) ?_;rintro _ ⟨s8,rfl,Eb⟩;refine⟨_,s8,rfl,?_⟩;simp only[bU,ae];rw[ZJ (by simp only[bg,Zq];omega),Zc];have hP:=((((((aI.trans bd).trans cn).trans gA).trans ik).trans yY).trans xh).trans Eb;unfold wE LM;obtain⟨A,hA⟩: ∃A,bR (bS x.seq) 8++bR (bS x.blocks) 4++bR (bS x.cu) 4++bR (bS x.g) 4++bR (bS x.used) 4++bR (bS x.free) 4++bR (bS x.cE) 2++bR (bS x.dir) 2=A:=⟨_,rfl⟩;have fY:A.length=32:=by rw[<-hA];simp only[bg,Zq]
 rw[hA];refine Zl _ (fun q y s=>∃i:Nat,y=[.str (A++c8 (x.az.take i)),.int .i64 (i:Int)]/\i<=x.az.length/\x.az.length-i<=q/\ar st s) ?_ x.az.length (n+1) _ _ ⟨0,by rw[xV];show _=[DV.str (A++[]),_];rw[ez];rfl,bH _,by omega,hP⟩ (by omega);rintro q _ s ⟨i,rfl,hi,hq,fT⟩ rec aD;simp only[bU,al,ae];by_cases aj:i<x.az.length
 ·have df:=hs.mono fT
  obtain⟨i1,o1,rfl⟩:=df.ck (by simp[ints];omega);rw[ah (show(i:Int)<(x.az.length:Int) by omega),cond_true,aV,Zd (Zk aj),aX,df.cP (Zu aj)];simp only[aM];refine Ok.call (lay x.az[i] 2 (by omega) s) ?_;rintro _ ⟨s5,rfl,ik⟩;refine⟨_,s5,rfl,?_⟩;simp only[bU,ae];rw[ZJ (by rw[bg,ZS,Zq,bW,fY];omega),Zb (by omega) (by omega)];exact aD (x.az.length-(i+1)) _ _ (by omega) ⟨i+1,by rw[CJ _ aj,dD];rfl,by omega,ay _,fT.trans ik⟩
 ·rw[ao (show ¬(i:Int)<(x.az.length:Int) by omega),cond_false]
  rw[cA (by omega)];refine Ok.call (yf h.qf (n+1) 7 x.az.length (A++c8 x.az) (by rw[bg,ZS];omega) s (by rw[bg,ZS];omega)) ?_;rintro _ ⟨s5,rfl,ik⟩;refine⟨_,s5,rfl,?_⟩;simp only[bU,ae,Ze];exact .mk ⟨s5,rfl,fT.trans ik⟩
end Go.Gv.F
namespace Go.Gv.F
open Go.Gv
variable {β:Type}
def Zt (a n:Nat):List Int:=(List.range n).map fun i=>((a+i:Nat):Int)
theorem Z0 (a n:Nat):(Zt a n).length=n:=by unfold Zt;simp
theorem ZnT (a n:Nat):Zt a (n+1)=Zt a n++[((a+n:Nat):Int)]:=by unfold Zt;rw[um,dL];rfl
theorem Zw8 {a n:Nat} {x:Int} (h:x∈Zt a n):(a:Int)<=x/\x<((a+n:Nat):Int):=by
 unfold Zt at h;obtain⟨i,hi,rfl⟩:=dP.1 h;have:=jE.1 hi;omega
def iZ (used:List Int):Nat->Nat->bp->bp
 |0,_,m=>m
 |c+1,i,m=>iZ used c (i+1) (eJ m (mD (dX i used)))
theorem Znf (used:List Int): ∀(c i:Nat) (m:bp),(iZ used c i m).B.length=m.B.length/\(iZ used c i m).next=m.next+c
 |0,i,m=>⟨rfl,rfl⟩
 |c+1,i,m=>by
  obtain⟨a,b⟩:=Znf used c (i+1) (eJ m (mD (dX i used)));unfold iZ;refine⟨a.trans (pB _ _),?_⟩;rw[b];show m.next+1+c=_;omega
def gf (x:cT):bp:=⟨ZR (64*x.blocks.toNat),2,List.replicate x.gens.length 0⟩
def gH (x:cT):Nat:=(x.blocks.toNat+383)/384
def rZ (l:List Int):Int:=match l with
 |[]=>0
 |k::_=>af (k+1)
def iH (x:cT):Nat×bp:=mI x.aB (gf x)
def dY (x:cT):Nat×bp:=ix x.gens x.free (iH x).2
def cM (x:cT) (epoch:Int):eU:=⟨epoch,x.blocks,x.cu,x.g,(dY x).1,x.gens.length,rZ x.free,(iH x).1,Zt (dY x).2.next (gH x)⟩
def jX (x:cT):List Int:=Zt 0 ((dY x).2.next+gH x)
def tc (x:cT) (epoch place:Int):Option (List UInt8×eU):=
 bif decide (((jX x).length:Int)>x.blocks)|| !jM (cM x epoch)then none else
  some (jA (iZ (jX x) (gH x) 0 (dY x).2).B (64*(place%2).toNat) (wE (cM x epoch)),cM x epoch)
theorem Zyq (n:Nat):fD n [.int .i64 0]=ints (List.replicate n 0):=by
 unfold fD ints;rw[List.map_replicate];induction n with
 |zero=>rfl
 |succ n ih=>rw[sM,mo,ih,sM];rfl
def Zw4:List DV:=[.slice 0 none 0,.agg [.int .i64 0,.int .i64 0,.int .i64 0,.int .i64 0,.int .i64 0,.int .i64 0,.int .i64 0,.int .i64 0,.slice 0 none 0],.bool false]
structure Wv (st eW:St) (B:List UInt8) (s:eU) (ib:Nat) (q:Option (Nat×Nat)):Prop where
 new:st.length<=ib
 bT:eW[ib]? =some (some ⟨false,bj B⟩)
 own:aY [] eW q (ints s.az)
 q: ∀b∈aF q,st.length<=b/\b≠ib
def Qs (st:St) (x:cT) (epoch place:Int) (o:Out (List DV)×St):Prop:=∃eW,ar st eW/\
 ((∃B s ib q,jK x/\tc x epoch place=some (B,s)/\o=(.val [.slice 1 (some (ib,0)) B.length,.agg (dI s q),.bool true],eW)/\Wv st eW B s ib q)\/
  ((jK x->tc x epoch place=none)/\o=(.val Zw4,eW)))
theorem Zs6 (l:List cN):iO l=((l.map (·.aN)).flatten).length:=by
 unfold iO;induction l with
 |nil=>rfl
 |cons x l ih=>rw[gM,List.sum_cons,ih,gM,mo,bg]
theorem Zkz {Bd:Za} (h:HG Bd) (n:Nat) (x:cT) (z1 z2 z3:Nat) (p1 p2 p3:Option (Nat×Nat)) (epoch place:Int) (st:St) (jn:z1=2\/p1=none) (gZ:z2=1\/p2=none) (jR:z3=1\/p3=none) (hx:v8 st x p1 p2 p3) (sz:Cg x) (kl: -9223372036854775808<=place/\place<=9223372036854775807) (hn:60000<=n):
  Ok (Qs st x epoch place) (run Bd n 170 [.agg (dA x z1 p1 z2 p2 z3 p3),.int .i64 epoch,.int .i64 place] st):=by
 obtain⟨n,rfl⟩: ∃k,n=k+3:=⟨n-3,by omega⟩;rw[Zf,h.eq];unfold GH;have ag: ∀(l:List DV) (K:List DV->List DV->M (List DV)),J.a (.agg (dA x z1 p1 z2 p2 z3 p3)::l) K=K (dA x z1 p1 z2 p2 z3 p3) l:=fun _ _=>rfl
 rw[ag];unfold dA;simp only[al,Zm 2 z1 p1 _ jn,Zm 1 z2 p2 _ gZ,Zm 1 z3 p3 _ jR,ae];refine Ok.call (Zu9 h.aai (n+2) x 2 1 1 p1 p2 p3 st (.inl rfl) (.inl rfl) (.inl rfl) hx.str sz (by omega)) ?_;rintro _ ⟨b,s1,rfl,aI,hb⟩;refine⟨_,s1,rfl,?_⟩;simp only[ai,ae];cases b with
 |false=>
  rw[bD,cond_true,Ze];exact .mk ⟨s1,aI,.inr ⟨fun hm=>(by cases hb.2 hm),rfl⟩⟩
 |true=>
 have hm:=hb.1 rfl;rw[bx,cond_false];obtain⟨g1,g2,g3,g4,g5,g6⟩:=rM hm.yD;obtain⟨bl,iC⟩: ∃bl:Nat,x.blocks=bl:=⟨x.blocks.toNat,by omega⟩;have vi:x.gens.length<=1792:=by have:=hm.cu;omega
 have kK:x.blocks.toNat=bl:=by omega
 have hw:af (64*x.blocks)=((64*bl:Nat):Int):=by rw[iC,Zb (by omega) (by omega)];omega
 simp only[hw,aX];rw[Zd (by rw[aH,aH,bc,bc,bc];omega),Zw];rw[Zd (by rw[aH,aH,bc,bc,bc];omega),Zw,Zw,Zso,Zyq];have l1: ∀c,(s1++[some (c:bq)]).length=s1.length+1:=fun c=>by simp
 have l2: ∀c d,((s1++[some (c:bq)])++[some (d:bq)]).length=s1.length+2:=fun c d=>by simp
 simp only[l1,l2];obtain⟨S0,yG⟩: ∃S0,((s1++[some (⟨false,bj (ZR (64*bl))⟩:bq)])++[some (⟨false,ints (List.replicate x.gens.length 0)⟩:bq)])++[some (⟨false,[.slice 1 (some (s1.length,0)) (64*bl),.int .i64 2,.slice 1 (some (s1.length+1,0)) x.gens.length]⟩:bq)]=S0:=⟨_,rfl⟩;rw[yG];have hpS:ar s1 S0:=by rw[<-yG];exact(((ar.new _ _).trans (ar.new _ _)).trans (ar.new _ _))
 have hlS:S0.length=s1.length+3:=by rw[<-yG];simp
 have mS:(ZR (64*bl)).length=64*bl:=by unfold ZR;simp
 have Q9:fL S0 (s1.length+2) s1.length (s1.length+1) (gf x):=by
  unfold gf;rw[kK];refine⟨?_,?_,?_,by omega,by omega,by omega⟩
  ·rw[<-yG,mS,ph];simp
  ·rw[<-yG];simp
  ·rw[<-yG];simp
 clear yG;have K7:=aI.trans hpS;have SP:=hx.kp K7.kp;obtain⟨ds,tB,jx⟩:=SP.hp;have dy: ∀g∈x.aB,∀e∈g.aN,e∈Zo x:=fun g hg e he=>List.mem_flatten.2 ⟨g.aN,dP.2 ⟨g,hg,rfl⟩,he⟩
 have fY:(gf x).At.length=x.gens.length:=ph;have Dw:(gf x).B.length=64*bl:=by show(ZR _).length=_;rw[kK,mS]
 have DO:=Zs6 x.aB;have abc:iO x.aB<=50000:=by rw[DO];exact sz.e
 have DR:=hm.Dt;have yS:(gf x).next=2:=rfl;refine Ok.call (Zvd h.q26 (n+2) x.aB p1 2 ds S0 (.inl rfl) Q9 tB jx (fun g hg e he=>by
  have:=hm.range e.slot (cW.2 (.inl (dP.2 ⟨e,dy g hg e he,rfl⟩)));rw[fY];exact this) (fun g hg=>⟨by have:=sz.h.name g hg;omega,by have:=sz.h.name g hg;omega,by have:=sz.h.aN g hg;omega⟩) (by omega) (by omega) (by omega) (by omega) (by omega)) ?_
 rintro _ ⟨S1,rfl,hM1,Bw⟩;refine⟨_,S1,rfl,?_⟩;simp only[al,ae];obtain⟨k1,k2,k3,k4⟩:=Zyb x.aB (gf x);have XN:mI x.aB (gf x)=iH x:=rfl;rw[XN]at hM1 k1 k2 k3 k4⊢;have mQ:=SP.kp (Q9.kp Bw);refine Ok.call (ZqY h.q15 (n+2) x 2 1 1 p1 p2 p3 S1 (.inl rfl) (.inl rfl) (.inl rfl) hM1 mQ.gn mQ.fr (by omega) (by have:=sz.f;omega) (by omega) (by omega) (by omega) (by have:=sz.f;omega)) ?_;rintro _ ⟨S2,rfl,hM2,se⟩;refine⟨_,S2,rfl,?_⟩;simp only[al,ae];obtain⟨q1,q2,q3,q4⟩:=ZvV x.gens x.free (iH x).2;have XO:ix x.gens x.free (iH x).2=dY x:=rfl;rw[XO]at hM2 q1 q2 q3 q4⊢;have hfA:Fx [s1.length+2,s1.length,s1.length+1] S0 S2:=Bw.trans se;have nS:=SP.kp (Q9.kp hfA);have hNl:(dY x).2.next<=52000:=by omega
 have Ko:(dY x).2.B.length=64*bl:=by omega
 have tO: ∀t,Fx [s1.length+2,s1.length,s1.length+1] S0 t->ar st t:=fun t k=>by
  refine Fx.Wg ((Fx.pre [] K7).step k fun y hy=> .inr ?_);have:=aI.len;simp only[bX,kA,iN]at hy;omega
 have tK: ∀ {a:Option (Nat×Nat)},(∀b∈aF a,S0.length<=b)->∀b∈aF a,b∉[s1.length+2,s1.length,s1.length+1]:=fun lD b hb ji=>by
  have:=lD b hb;simp only[bX,kA,iN]at ji;omega
 refine Ok.join fun aq si=>?_
 have A1:Ok (Qs st x epoch place) (aq [.agg [.int .i64 epoch,.int .i64 x.blocks,.int .i64 x.cu,.int .i64 x.g,.int .i64 (dY x).1,.int .i64 (x.gens.length:Int),.int .i64 (rZ x.free),.int .i64 (iH x).1,.slice 0 none 0]] S2):=by
  rw[si];show Ok _ (J.a [.agg [.int .i64 epoch,.int .i64 x.blocks,.int .i64 x.cu,.int .i64 x.g,.int .i64 (dY x).1,.int .i64 (x.gens.length:Int),.int .i64 (rZ x.free),.int .i64 (iH x).1,.slice 0 none 0]] _ S2);rw[ll [.int .i64 epoch,.int .i64 x.blocks,.int .i64 x.cu,.int .i64 x.g,.int .i64 (dY x).1,.int .i64 (x.gens.length:Int),.int .i64 (rZ x.free),.int .i64 (iH x).1,.slice 0 none 0] []];simp only[al,Zm 1 0 none _ (.inr rfl),ae];refine Ok.join fun aC w4=>?_
  obtain⟨N,hN⟩: ∃N,(dY x).2.next=N:=⟨_,rfl⟩;obtain⟨C,hC⟩: ∃C,gH x=C:=⟨_,rfl⟩;have hCe:(bl+383)/384=C:=by rw[<-hC];unfold gH;rw[kK]
  have hC9:C<=9:=by omega
  refine Zl _ (fun q y t=>∃(k z:Nat) (a:Option (Nat×Nat)),y=[.agg [.int .i64 epoch,.int .i64 x.blocks,.int .i64 x.cu,.int .i64 x.g,.int .i64 (dY x).1,.int .i64 (x.gens.length:Int),.int .i64 (rZ x.free),.int .i64 (iH x).1,.slice z a (Zt N k).length],.int .i64 (k:Int)]/\(z=1\/a=none)/\k<=C/\C-k<=q/\fL t (s1.length+2) s1.length (s1.length+1) (dY x).2/\Fx [s1.length+2,s1.length,s1.length+1] S0 t/\aY [] t a (ints (Zt N k))/\∀b∈aF a,S0.length<=b) ?_ C (n+2) _ _ ⟨0,1,none,rfl,.inr rfl,bH _,by omega,hM2,hfA,aY.nil ⟨S2,rfl⟩,fun _ h=>by cases h⟩ (by omega);rintro q _ t ⟨k,z,a,rfl,hz,hk,hq,Ra,rb,xg,lD⟩ rec aD;rw[bZ];simp only[al,Zm 1 z a _ hz,ae];rw[iC];refine Ok.call (ZjJ h.TB (n+2) bl x.cu x.g (by omega) t (by omega)) ?_;rintro _ rfl;refine⟨_,t,rfl,?_⟩;simp only[al,ae];rw[hCe,<-iC];by_cases aj:k<C
  ·rw[ah (show(k:Int)<(C:Int) by omega),cond_true,Zn Ra.cell (d:= .int .i64 (dY x).2.next) rfl]
   simp only[aM];have SN:af (((dY x).2.next:Int)+(k:Int))=((N+k:Nat):Int):=by rw[hN,Zb (by omega) (by omega)];omega
   have cj:af ((k:Int)+1)=((k+1:Nat):Int):=Zb (by omega) (by omega);rw[SN,cj];obtain⟨b,t2,r1,r2,r3,r4⟩:=uH (β:=List DV) (lim:=8796093022208) xg (sz:=1) (n:=(Zt N k).length) [.int .i64 ((N+k:Nat):Int)] (by omega) (by simp[ints]) rfl (by rw[Z0];omega);refine Eq.mpr (congrArg (Ok _) (r4 _)) ?_;have hM3:=Ra.fx r3 fun y hy=>by
    have:=lD y hy;omega
   refine aD (C-(k+1)) _ _ (by omega) ⟨k+1,1,some (b,0),?_,.inl rfl,by omega,ay _,hM3,rb.step r3 fun y hy=> .inr (lD y hy),?_,fun y hy=>?_⟩
   ·rw[Z0,Z0]
   ·rw[ZnT]
    unfold ints;rw[dL];exact r2
   ·rw[bK.1 hy]
    have:=rb.1;omega
  have hkC:k=C:=by omega
  subst hkC;rw[ao (show ¬(k:Int)<(k:Int) by omega),cond_false,w4];have xq:([.int .i64 epoch,.int .i64 x.blocks,.int .i64 x.cu,.int .i64 x.g,.int .i64 (dY x).1,.int .i64 (x.gens.length:Int),.int .i64 (rZ x.free),.int .i64 (iH x).1,.slice 1 a (Zt N k).length]:List DV)=dI (cM x epoch) a:=by
   unfold dI cM;rw[hN,hC]
  have pP:(cM x epoch).az=Zt N k:=by unfold cM;rw[hN,hC]
  rw[xq];show Ok _ (J.a [.agg (dI (cM x epoch) a)] _ t);rw[ll (dI (cM x epoch) a) []];unfold dI;simp only[al,bh,ae];have Yt:([.int .i64 (cM x epoch).seq,.int .i64 (cM x epoch).blocks,.int .i64 (cM x epoch).cu,.int .i64 (cM x epoch).g,.int .i64 (cM x epoch).cE,.int .i64 (cM x epoch).used,.int .i64 (cM x epoch).free,.int .i64 (cM x epoch).dir,.slice 1 a (cM x epoch).az.length]:List DV)=dI (cM x epoch) a:=rfl;simp only[Yt];have dq:(cM x epoch).az.length=k:=by rw[pP,Z0]
  have iE:jX x=Zt 0 (N+k):=by unfold jX;rw[hN,hC]
  rw[dq];refine Ok.join fun aU w8=>?_
  refine Zl _ (fun q y u=>∃(i z:Nat) (c:Option (Nat×Nat)),y=[.slice z c (Zt 0 i).length,.int .i64 (i:Int)]/\(z=1\/c=none)/\i<=N+k/\N+k-i<=q/\fL u (s1.length+2) s1.length (s1.length+1) (dY x).2/\Fx [s1.length+2,s1.length,s1.length+1] S0 u/\aY [] u c (ints (Zt 0 i))/\(∀b∈aF c,S0.length<=b)/\aY [] u a (ints (Zt N k))/\∀b∈aF a,b∉aF c) ?_ (N+k) (n+2) _ _ ⟨0,0,none,rfl,.inr rfl,bH _,by omega,Ra,rb,aY.nil ⟨t,rfl⟩,(fun _ h=>by cases h),xg,fun _ _ h=>by cases h⟩ (by omega);rintro q2 _ u ⟨i,z,c,rfl,hz,hi,tQ,Rb,eD,K2,Rn,K1,hac⟩ dO nO;simp only[al,Zm 1 z c _ hz,ae];rw[Zn Rb.cell (d:= .int .i64 (dY x).2.next) rfl];simp only[aM];have hwN:af (((dY x).2.next:Int)+(k:Int))=((N+k:Nat):Int):=by rw[hN,Zb (by omega) (by omega)];omega
  rw[hwN];by_cases aj:i<N+k
  ·rw[ah (show(i:Int)<((N+k:Nat):Int) by omega),cond_true]
   have cj:af ((i:Int)+1)=((i+1:Nat):Int):=Zb (by omega) (by omega);rw[cj];obtain⟨b,t2,r1,r2,r3,r4⟩:=uH (β:=List DV) (lim:=8796093022208) K2 (sz:=1) (n:=(Zt 0 i).length) [.int .i64 (i:Int)] (by omega) (by simp[ints]) rfl (by rw[Z0];omega);refine Eq.mpr (congrArg (Ok _) (r4 _)) ?_;refine nO (N+k-(i+1)) _ _ (by omega) ⟨i+1,1,some (b,0),?_,.inl rfl,by omega,ay _,Rb.fx r3 fun y hy=>?_,eD.step r3 fun y hy=> .inr (Rn y hy),?_,fun y hy=>?_,K1.fx r3 hac,fun y hy dr=>?_⟩
   ·rw[Z0,Z0]
   ·have:=Rn y hy
    omega
   ·rw[ZnT,dj]
    unfold ints;rw[dL];exact r2
   ·rw[bK.1 hy]
    have:=eD.1;omega
   ·rw[bK.1 dr]at hy
    have:=aY.Ba K1 b hy;omega
  have hiN:i=N+k:=by omega
  subst hiN;rw[ao (show ¬((N+k:Nat):Int)<((N+k:Nat):Int) by omega),cond_false,w8];simp only[bh,ae];refine Ok.join fun bu KP=>?_
  have Bt:tc x epoch place=bif decide (((jX x).length:Int)>x.blocks)|| !jM (cM x epoch)then none else some (jA (iZ (jX x) k 0 (dY x).2).B (64*(place%2).toNat) (wE (cM x epoch)),cM x epoch):=by
   unfold tc;rw[hC]
  have A4: ∀(v:St) (bb:Bool),(decide (((jX x).length:Int)>x.blocks)|| !jM (cM x epoch))=bb->ar u v->Ok (Qs st x epoch place) (bu [.bool bb] v):=by
   intro v bb pN yZ;rw[pN]at Bt;rw[KP];simp only[ai,ae];cases bb with
   |true=>
    rw[cond_true,Ze];exact .mk ⟨v,tO v (eD.trans (Fx.pre _ yZ)),.inr ⟨fun _=>Bt,rfl⟩⟩
   |false=>
   rw[cond_false];rw[cond_false]at Bt;refine Ok.join fun cm RU=>?_
   obtain⟨G,hG⟩: ∃G,iZ (jX x) k 0 (dY x).2=G:=⟨_,rfl⟩;rw[hG]at Bt;refine Zl _ (fun q y w=>∃(i:Nat) (m':bp),y=[.int .i64 (i:Int)]/\i<=k/\k-i<=q/\fL w (s1.length+2) s1.length (s1.length+1) m'/\Fx [s1.length+2,s1.length,s1.length+1] S0 w/\aY [] w c (ints (Zt 0 (N+k)))/\aY [] w a (ints (Zt N k))/\m'.B.length=64*bl/\m'.next=N+i/\iZ (jX x) (k-i) i m'=G) ?_ k (n+2) _ _ ⟨0,(dY x).2,rfl,bH _,by omega,Rb.pre yZ,eD.trans (Fx.pre _ yZ),K2.fx (Fx.pre [] yZ) (fun _ _ h=>by cases h),K1.fx (Fx.pre [] yZ) (fun _ _ h=>by cases h),Ko,hN,hG⟩ (by omega);rintro q3 _ w ⟨i,m',rfl,hi,hq3,Rc,KM,Sm,yW,hB3,hN3,aA⟩ xL Yb;simp only[al,ae];by_cases aj:i<k
   ·rw[ah (show(i:Int)<(k:Int) by omega),cond_true]
    refine Ok.call (ZlF h.Tn (n+2) i (Zt 0 (N+k)) c 1 w (.inl rfl) Sm.sl (by omega) (by rw[Z0];omega) (fun y hy=>by have:=Zw8 hy;omega) (by rw[Z0];omega)) ?_;rintro _ rfl;refine⟨_,w,rfl,?_⟩;have Se:(dX i (Zt 0 (N+k))).bT.length=48:=by unfold dX;rw[yh];exact ph
    have gQ:(bj (dX i (Zt 0 (N+k))).bT).length=48:=by rw[Zr,Se]
    show Ok _ (J.a [.agg (.int .i64 (dX i (Zt 0 (N+k))).no::bj (dX i (Zt 0 (N+k))).bT)] _ w);rw[bZ];simp only[al];rw[bF gQ];simp only[ae];refine Ok.call (ZmJ h.Tq (n+2) (dX i (Zt 0 (N+k))) Se w (by omega)) ?_;rintro _ ⟨w1,rfl,BJ⟩;refine⟨_,w1,rfl,?_⟩;simp only[bU,ae];refine Ok.call (yw h.tZ (n+1) (mD (dX i (Zt 0 (N+k)))) w1 (Rc.pre BJ) (by omega) (by omega)) ?_;rintro _ ⟨w2,rfl,W3,Xx⟩;refine⟨_,w2,rfl,?_⟩;simp only[al,ae];rw[Zb (by omega) (by omega)];have RB:Fx [s1.length+2,s1.length] w w2:=(Fx.pre _ BJ).trans Xx;have yK:Fx [s1.length+2,s1.length,s1.length+1] w w2:=RB.mono fun y hy=>by simp only[bX,kA,iN]at hy⊢;omega
    have eki:k-i=(k-(i+1))+1:=by omega
    rw[eki]at aA;unfold iZ at aA;rw[iE]at aA;rw[<-iE]at aA;exact Yb (k-(i+1)) _ _ (by omega) ⟨i+1,_,rfl,by omega,ay _,W3,KM.trans yK,Sm.fx yK (tK Rn),yW.fx yK (tK lD),(pB _ _).trans hB3,by show m'.next+1=_;omega,by rw[<-iE];exact aA⟩
   have yO:i=k:=by omega
   subst yO;rw[qw]at aA;have hmG:m'=G:=aA;subst hmG;rw[ao (show ¬(i:Int)<(i:Int) by omega),cond_false,RU];simp only[ae];rw[Zn Rc.cell rfl];simp only[jJ];have Ej:run Bd (n+2) 179 [.int .i64 place,.int .i64 2] w=some (.val [.int .i64 (place%2)],w):=Cs h.zz (n+1) place 2 (by decide) (by decide) kl w;rw[uB Ej (.refl w)];simp only[al,ae];obtain⟨pl,Vo⟩: ∃pl:Nat,place%2=(pl:Int):=⟨(place%2).toNat,by omega⟩;have abr:pl<2:=by omega
   rw[Vo,aX]at Bt;rw[Vo];have hwp:af (64*(pl:Int))=((64*pl:Nat):Int):=by rw[Zb (by omega) (by omega)];omega
   simp only[hwp,aX,di];rw[Zd (by rw[aH,bc,bc];omega)];refine Ok.dW (Zu0 h.aah (n+2) (cM x epoch) a w (by rw[pP];exact yW.sl) (by omega) (by omega)) ?_;rintro _ ⟨w1,rfl,BJ⟩;refine⟨_,w1,rfl,BJ,?_⟩;simp only[bU,ae];have Re:=Rc.pre BJ;obtain⟨e1,e2,e3⟩:=Re.lt;show Ok _ (M.store s1.length (64*pl+0) _ _ w1);rw[dG,rX,Js Re.bb (by rw[Zr,Zr,bW];omega),P7 _ (by omega)];have hlB:=JF (B:=m'.B) (k:=64*pl) (wE (cM x epoch)) (by omega);rw[Zn (i:=s1.length+2) (f:=false) (by rw[eu (by omega)];exact Re.cell) rfl];simp only[jJ,Ze];have wV:Fx [s1.length+2,s1.length,s1.length+1] w (w1.set s1.length (some ⟨false,bj (jA m'.B (64*pl) (wE (cM x epoch)))⟩)):=(Fx.pre _ BJ).trans ((Fx.set w1 s1.length _).mono fun y hy=>by rw[bK.1 hy];simp);have oI:=aI.len;refine .mk ⟨_,tO _ (KM.trans wV),.inl ⟨_,_,s1.length,a,hm,Bt,by rw[hlB],oI,fJ (by omega),?_,fun y hy=>?_⟩⟩
   ·rw[pP]
    exact yW.fx wV (tK lD)
   ·have:=lD y hy
    omega
  rw[Z0];have xu:((jX x).length:Int)=((N+k:Nat):Int):=by rw[iE,Z0]
  by_cases pX:((N+k:Nat):Int)>x.blocks
  ·rw[ah pX,cond_true]
   refine A4 u true ?_ (.refl u);rw[xu,ah pX,ui]
  ·rw[ao pX,cond_false]
   refine Ok.call (ZqD h.q79 (n+2) (cM x epoch) a u (by rw[pP];exact K1.sl) (by omega) (by omega)) ?_;rintro _ ⟨v,rfl,yZ⟩;refine⟨_,v,rfl,?_⟩;simp only[ai,ae];refine A4 v _ ?_ yZ;rw[xu,ao pX,ql]
 by_cases vd:0<x.free.length
 ·obtain⟨k0,kr,yP⟩: ∃k0 kr,x.free=k0::kr:=by
   cases qZ:x.free with
   |nil=>rw[qZ]at vd;cases vd
   |cons a b=>exact⟨a,b,rfl⟩
  have RN:(ints x.free)[0]? =some (.int .i64 k0):=by rw[yP];rfl
  obtain⟨bi,bo,e⟩:=nS.fr.1.ck (by simp[ints];omega);have y7:=nS.fr.1;rw[e]at y7⊢;rw[ah (show((x.free.length:Nat):Int)>0 by omega),cond_true,aV,Zd (show av 0 x.free.length=true from Zk (i:=0) vd),y7.get RN];simp only[aM];rw[yP]at A1;exact A1
 ·have qZ:x.free=[]:=pd.1 (by omega)
  rw[ao (show ¬((x.free.length:Nat):Int)>0 by omega),cond_false];rw[qZ]at A1;exact A1
end Go.Gv.F
namespace Go.Gv.F
open Go.Gv
variable {β:Type}
theorem Zq2 {Bd:Za} (h:Me Bd) (n:Nat) (W:List Nat) (j:Nat) (f:Bool) (st:St) (hw:st[j]? =some (some ⟨f,ZG W⟩)) (h0:0<W.length) (hl:W.length<100000):
  Ok (fun o=>∃j' s',o=(.val [.slice 1 (some (j',0)) W.length],s')/\ar st s'/\st.length<=j'/\s'[j']? =some (some ⟨false,ZG W⟩)) (run Bd (n+1) 263 [.slice 1 (some (j,0)) W.length] st):=by
 rw[Zf,h.eq];unfold Z9;simp only[bh,ae];rw[show(some (j,0):Option (Nat×Nat)).isNone=false from rfl,cond_false,Zw];have cj:(st++[some (⟨false,[]⟩:bq)])[j]? =some (some ⟨f,ZG W⟩):=(ar.new _ _).get hw;have df:Sl (st++[some (⟨false,[]⟩:bq)]) (some (j,0)) (ZG W):=⟨f,ZG W,cj,by omega,by rw[dE,pj]⟩;have lI:=qg (β:=List DV) df;rw[N0]at lI;rw[di,lI];have Ea:aY st (st++[some (⟨false,[]⟩:bq)]) (some (st.length,0)) []:=⟨ar.new _ _,.inr ⟨st.length,rfl,ay _,by simp⟩⟩;obtain⟨p,s',ho,he⟩:=Ea.app (β:=List DV) (sz:=1) (n:=0) (m:=W.length) (lim:=8796093022208) (ds:=ZG W) (by omega) rfl h0 (by omega);rw[he,Ze,dj];rw[fe]at ho;rcases ho.2 with⟨_,e⟩|⟨i,rfl,h1,h2⟩
 ·have:=congrArg List.length e
  rw[N0]at this;simp only[uk]at this;omega
 ·exact .mk ⟨i,s',rfl,ho.1,h1,h2⟩
theorem ZsB {Bd:Za} (h:MB Bd) (n:Nat) {f:Bool} {i j m:Nat} {W:List Nat} (st:St) (hs:eY st f i j m W) (hm:0<m):
  Ok (fun o=>∃i' j' s',o=(.val [.ptr (some (i',0))],s')/\ar st s'/\st.length<=i'/\st.length<=j'/\i'≠j'/\eY s' false i' j' m W) (run Bd (n+2) 241 [.ptr (some (i,0))] st):=by
 rw[Zf,h.eq];unfold GC;simp only[fm,ae,aV];have hlen:=hs.len;have hle:=hs.le;rw[Zn hs.hd rfl];simp only[aM];rw[Zn hs.hd rfl];simp only[jJ];refine Ok.dW (Zq2 h.q4 n W j f st hs.wd (by omega) (by omega)) ?_;rintro _ ⟨j',s1,rfl,aI,hj,hw⟩;refine⟨_,s1,rfl,aI,?_⟩;simp only[bh,ae];rw[Zw,Ze];have vn:=(cd.1 hw).1;exact .mk ⟨s1.length,j',_,rfl,aI.trans (ar.new _ _),aI.len,hj,by omega,⟨by simp,(ar.new _ _).get hw,hs.len,hs.lt,hs.le⟩⟩
theorem ZuV {Bd:Za} (h:Mv Bd) (hz:Ma Bd) (n:Nat) {f g:Bool} {i j m i2 j2 m2:Nat} {W V:List Nat} (st:St) (ht:ux st) (hs:eY st f i j m W) (jQ:eY st g i2 j2 m2 V) (hm:0<m) (hn:4000<=n):
  Ok (fun o=>∃i' j' s',o=(.val [.ptr (some (i',0))],s')/\ar st s'/\eY s' false i' j' m ((eI V).foldl (da m) W)) (run Bd n 201 [.ptr (some (i,0)),.ptr (some (i2,0))] st):=by
 obtain⟨n,rfl⟩: ∃k,n=k+3:=⟨n-3,by omega⟩;rw[Zf,h.eq];unfold Gr;simp only[fm,ae];refine Ok.call (ZsB h.q29 n st hs hm) ?_;rintro _ ⟨i',j',s1,rfl,aI,wY,oH,nK,Le⟩;refine⟨_,s1,rfl,?_⟩;simp only[fm,ae];refine Ok.call (Zm3 h.ES hz (n+2) s1 (ht.mono aI) (jQ.pre aI) (by omega)) ?_;rintro _ ⟨p,s2,rfl,bd,df,iC⟩;refine⟨_,s2,rfl,?_⟩;simp only[bh,ae];have tR:=Le.pre bd;have vn:j'<s1.length:=(cd.1 Le.wd).1;have iD:=Nx V V.length;rw[pj]at iD;have hV:=jQ.len;have hV2:=jQ.le;rw[Zi (Ij h.zy (n+2) (eI V) p s2 tR nK df (j6.aF fun b hb ji=>by
  have:=iC b hb;rw[bK.1 ji]at this;omega) (by omega) (by omega))]
 simp only[ae,Ze];exact .mk ⟨i',j',_,rfl,uF (aI.trans bd) oH _,tR.add nK _ (by rw[(Z8 m _ _).1]) ((Z8 m _ _).2 tR.lt)⟩
end Go.Gv.F
namespace Go.Gv.F
open Go.Gv
variable {β:Type}
def pL (img:List UInt8) (m:Nat) (W:List Nat):List Int->Option (List ZA)
 |[]=>some []
 |k::r=>match sU (Z7 img k.toNat)with
  |none=>none
  |some c=>bif gG m k&&cR W k.toNat then none else(pL img m W r).map (c:: ·)
def rY (img:List UInt8) (x:eU) (W:List Nat):Bool:=match pL img x.blocks.toNat W x.az with
 |none=>false
 |some cs=>match uV x.blocks.toNat cs with
  |none=>false
  |some F=>decide (F=(eI (gm x.blocks.toNat x.az)).foldl (da x.blocks.toNat) W)
def rR (img:List UInt8) (x:eU) (rm:Option (Nat×List Nat)):Bool:=match lP (oW img x)with
 |some (some v)=>(match rm with
  |none=>false
  |some (m,R)=>(decide (x.blocks.toNat=m)&&decide (v.W=R))&&rY img x v.W)
 |_=>false
def Zw6 (s:St) (rm:Option (Nat×List Nat)) (p:Option (Nat×Nat)):Prop:=match rm with
 |none=>p=none
 |some (m,R)=>∃f i j,p=some (i,0)/\eY s f i j m R
theorem ZAk {img:List UInt8} {x:eU} {v:aW} (h:lP (oW img x)=some (some v)):jM x=true/\x.blocks<=((img.length/64:Nat):Int):=by
 unfold lP at h;cases h1:jM x with
 |false=>
  have:(oW img x).sup=x:=rfl;rw[this,h1]at h;cases h
 |true=>
  refine⟨rfl,?_⟩;cases h2:decide (x.blocks<=((img.length/64:Nat):Int))with
  |true=>exact lY h2
  |false=>
   have e1:(oW img x).sup=x:=rfl;have e2:(oW img x).img=img:=rfl;rw[e1,e2,h1,h2]at h;cases h
theorem ZjU {Bd:Za} (h:Hm Bd) (n:Nat) (a:Option (Nat×Nat)) (img:List UInt8) (x:eU) (pc:Option (Nat×Nat)) (rm:Option (Nat×List Nat)) (pr:Option (Nat×Nat)) (s:St) (ht:ux s) (ha:dp s a img) (hc:Sl s pc (ints x.az)) (hr:Zw6 s rm pr) (hl:img.length<1000000) (dq:x.az.length<1000) (hn:6000<=n):
  Ok (fun o=>∃s',o=(.val [.bool (rR img x rm)],s')/\ar s s') (run Bd n 173 [.slice 1 a img.length,.agg (dI x pc),.ptr pr] s):=by
 obtain⟨n,rfl⟩: ∃k,n=k+3:=⟨n-3,by omega⟩;obtain⟨R,hR⟩: ∃R,rR img x rm=R:=⟨_,rfl⟩;rw[hR];unfold rR at hR;rw[Zf,h.eq];unfold Hc;simp only[bh];rw[ll (dI x pc) [.ptr pr]];unfold dI;simp only[al,bh,fm,ae];have xq:([.int .i64 x.seq,.int .i64 x.blocks,.int .i64 x.cu,.int .i64 x.g,.int .i64 x.cE,.int .i64 x.used,.int .i64 x.free,.int .i64 x.dir,.slice 1 pc x.az.length]:List DV)=dI x pc:=rfl;rw[xq];have jl: ∀t,ar s t->R=false->Ok (fun o=>∃s',o=(.val [.bool R],s')/\ar s s') ((M.ret [.bool false]:M (List DV)) t):=fun t k e=>by
  rw[e,Ze];exact .mk ⟨t,rfl,k⟩
 refine Ok.call (Ng h.ER (n+2) a img x pc s ha hc hl dq (by omega)) ?_;intro o ho;cases hw:lP (oW img x)with
 |none=>
  rw[hw]at ho hR;obtain⟨s1,rfl,aI⟩:=ho;refine⟨_,s1,rfl,?_⟩;rw[ll];unfold dA;simp only[al,Zm 2 0 none _ (.inr rfl),Zm 1 0 none _ (.inr rfl),fm,ae];rw[Zc,show(!((2:Int)==0))=true from rfl,cond_true];simp only[ai,ae];rw[Zc,cond_true];simp only[ai,ae];rw[cond_true];exact jl s1 aI hR.symm
 |some q=>
 cases q with
 |none=>
  rw[hw]at ho hR;obtain⟨s1,rfl,aI⟩:=ho;refine⟨_,s1,rfl,?_⟩;rw[ll];unfold dA;simp only[al,Zm 2 0 none _ (.inr rfl),Zm 1 0 none _ (.inr rfl),fm,ae];rw[Zc,show(!((31:Int)==0))=true from rfl,cond_true];simp only[ai,ae];rw[Zc,cond_true];simp only[ai,ae];rw[cond_true];exact jl s1 aI hR.symm
 |some v=>
 rw[hw]at ho hR;obtain⟨s1,z2,q2,z3,q3,z4,q4,i,j,rfl,aI,gZ,jR,Ey,_,cg,_,_⟩:=ho;refine⟨_,s1,rfl,?_⟩;simp only at hR;obtain⟨y8,Xc⟩:=ZAk hw;obtain⟨vg,_⟩:=ZmU y8;obtain⟨g1,g2,_⟩:=rM vg;have Yo:=(Cy x).1 y8;obtain⟨m,hm⟩: ∃m:Nat,x.blocks=m:=⟨x.blocks.toNat,by omega⟩;have hmn:x.blocks.toNat=m:=by omega
 rw[hmn]at cg hR;rw[ll];unfold dA;simp only[al,Zm 2 z2 q2 _ gZ,Zm 1 z3 q3 _ jR,Zm 1 z4 q4 _ Ey,fm,ae];rw[Zc,show(!((0:Int)==0))=false from rfl,cond_false];simp only[ai,ae];rw[Zc];cases rm with
 |none=>
  have hpr:pr=none:=hr;subst hpr;rw[show(none:Option (Nat×Nat)).isNone=true from rfl,cond_true];simp only[ai,ae];rw[cond_true];exact jl s1 aI hR.symm
 |some mr=>
 obtain⟨mr,Rr⟩:=mr;obtain⟨fr,ir,jr,rfl,SG⟩:=hr;rw[show(some (ir,0):Option (Nat×Nat)).isNone=false from rfl,cond_false];refine Ok.call (Znc h.q35 (n+2) s1 cg (SG.pre aI) (by omega)) ?_;rintro _ rfl;refine⟨_,s1,rfl,?_⟩;simp only[ai,ae];simp only at hR;cases Vu:(decide (m=mr)&&decide (v.W=Rr))with
 |false=>
  rw[Vu,eL]at hR;rw[bD,cond_true];exact jl s1 aI hR.symm
 |true=>
 rw[Vu,cI]at hR;rw[bx,cond_false];unfold rY at hR;rw[hmn]at hR;refine Ok.join fun aU w8=>?_
 obtain⟨G,hG⟩: ∃G,pL img m v.W x.az=G:=⟨_,rfl⟩;rw[hG]at hR;refine Zl _ (fun q y t=>∃(k z:Nat) (c:Option (Nat×Nat)) (acc:List ZA),y=[.slice z c acc.length,.int .i64 (k:Int)]/\(z=49\/c=none)/\k<=x.az.length/\x.az.length-k<=q/\aY s1 t c (ou acc)/\acc.length=k/\(∀y∈acc,y.bT.length=48/\y.no<8)/\(pL img m v.W (x.az.drop k)).map (acc++ ·)=G) ?_ x.az.length (n+2) _ _ ⟨0,0,none,[],rfl,.inr rfl,bH _,by omega,aY.nil (.refl _),rfl,(fun _ h=>by cases h),by rw[dE,hG];cases G<;>rfl⟩ (by omega);rintro q _ t ⟨k,z,c,acc,rfl,hz,hk,hq,ho,u5,Rl,aA⟩ rec aD;have tP:=ho.1;have bB:=aI.trans tP;simp only[al,Zm 49 z c _ hz,ae];have hct:=hc.mono bB;have KB:=ha.mono bB;by_cases aj:k<x.az.length
 ·obtain⟨bi,bo,rfl⟩:=hc.ck (by simp[ints];omega)
  have cJ:(ints x.az)[k]? =some (.int .i64 x.az[k]):=Zu aj;have jy:x.az.drop k=x.az[k]::x.az.drop (k+1):=gT aj;have nH:=(Yo.ch k aj).1;rw[bJ,ba aj,Pp,hm]at nH;have Xi:2<=x.az[k]/\x.az[k]<(m:Int):=nH;rw[jy]at aA;rw[ah (show(k:Int)<(x.az.length:Int) by omega),cond_true,aV,Zd (Zk aj)];simp only[aX];rw[hct.cP cJ];simp only[aM];generalize x.az[k]=y at Xi aA;obtain⟨yn,hyn⟩: ∃yn:Nat,y=yn:=⟨y.toNat,by omega⟩;subst hyn;unfold pL at aA;rw[aX]at aA;rw[Zi (Zmh h.To (n+1) a img.length yn t hl (by omega))];simp only[bh,ae];have yR:(Z7 img yn).length=64:=by unfold Z7;rw[bW,dt];omega
  have Sc:dp t (cy true a (yn*64)) (Z7 img yn):=(KB.cy (k:=yn*64) (by omega)).kt 64;have hcg:=Zt5 h.Y7 (n+2) (cy true a (yn*64)) (Z7 img yn) t Sc (by omega) (by omega);rw[yR]at hcg;refine Ok.call hcg ?_;rintro _ ⟨t1,bd,cK⟩;have cj:af ((k:Int)+1)=((k+1:Nat):Int):=Zb (by omega) (by omega);cases hgc:sU (Z7 img yn)with
  |none=>
   rw[hgc]at cK aA;simp only at cK aA;subst cK;refine⟨_,t1,rfl,?_⟩;have XZ:(bj AU.bT).length=48:=rfl;rw[ll (Zz AU) _];unfold Zz;simp only[al];rw[bF XZ];simp only[ai,ae];rw[bF (n:=49) rfl,Zc,bD,cond_true];simp only[ai,ae];rw[cond_true];have Q5:G=none:=aA.symm;rw[Q5]at hR;exact jl t1 (bB.trans bd) hR.symm
  |some cv=>
   rw[hgc]at cK aA;simp only at cK aA;obtain⟨rfl,qT,h8⟩:=cK;refine⟨_,t1,rfl,?_⟩;have gQ:(bj cv.bT).length=48:=by rw[Zr,qT]
   rw[ll (Zz cv) _];have Rt:Zz cv= .int .i64 cv.no::bj cv.bT:=rfl;rw[Rt];simp only[al];rw[bF gQ];simp only[ai,ae];rw[bF (n:=49) (by simp[gQ]),Zc,bx,cond_false];rw[Zi (ZnM h.Tx n ((yn:Nat):Int) t1 (cg.pre (tP.trans bd)))];simp only[ai,ae];rw[aX];cases fq:(gG m ((yn:Nat):Int)&&cR v.W yn)with
   |true=>
    rw[fq,cond_true]at aA;rw[cond_true];have Q5:G=none:=aA.symm;rw[Q5]at hR;exact jl t1 (bB.trans bd) hR.symm
   |false=>
    rw[fq,cond_false]at aA;rw[cond_false,bF (n:=49) (by simp[gQ]),<-Rt,cj];obtain⟨p3,t3,nN,nL,he⟩:=(ho.mono bd).xJ (β:=List DV) (sz:=49) (n:=acc.length) (lim:=1256584717458) (Zz cv) (by omega) (N4 fun y hy=>(Rl y hy).1) (II qT) (by omega);refine Eq.mpr (congrArg (Ok _) (he _)) ?_;refine aD (x.az.length-(k+1)) _ _ (by omega) ⟨k+1,49,p3,acc++[cv],?_,.inl rfl,by omega,ay _,?_,?_,fun y hy=>?_,?_⟩
    ·rw[bg];rfl
    ·rw[ZwA]
     have:ou [cv]=Zz cv:=by unfold ou;simp
     rw[this];exact nN
    ·rw[bg,u5];rfl
    ·rcases cW.1 hy with hy|hy
     ·exact Rl y hy
     ·rw[bK.1 hy];exact⟨qT,h8⟩
    ·rw[<-aA,Option.map_map]
     congr 1;funext l;simp
 ·rw[ao (show ¬(k:Int)<(x.az.length:Int) by omega),cond_false,w8]
  rw[mZ (by omega)]at aA;have hGs:G=some acc:=by rw[<-aA];simp[pL]
  rw[hGs]at hR;simp only at hR;simp only[bh,ae];rw[hm];refine Ok.call (Zvf h.Y6 (n+2) m acc c 49 t (by omega) (.inl rfl) ho.sl Rl (by omega) (by omega)) ?_;rintro _ ⟨t1,bd,cK⟩;cases fR:uV m acc with
  |none=>
   rw[fR]at cK hR;simp only at cK hR;subst cK;refine⟨_,t1,rfl,?_⟩;simp only[fm,ai,ae];rw[Zc,cond_false];simp only[ai,ae,Ze];exact .mk ⟨t1,by rw[hR],bB.trans bd⟩
  |some F=>
   rw[fR]at cK hR;simp only at cK hR;obtain⟨iF,jF,rfl,hsF⟩:=cK;refine⟨_,t1,rfl,?_⟩;simp only[fm,ai,ae];rw[Zc,cond_true];obtain⟨t2,e2,cn,xa,y7⟩:=Iz h.xK (n+2) m x.az pc t1 (by omega) (hct.mono bd) (by omega) (by omega);rw[Zi e2];simp only[fm,ae];have tR:=cg.pre ((tP.trans bd).trans cn);refine Ok.call (ZuV h.q36 (Wh h.q36.ES.q9) (n+2) t2 (ht.mono ((bB.trans bd).trans cn)) tR y7 (by omega) (by omega)) ?_;rintro _ ⟨iW,jW,t3,rfl,gA,hsW⟩;refine⟨_,t3,rfl,?_⟩;simp only[fm,ae];refine Ok.call (Znc h.q35 (n+2) t3 (hsF.pre (cn.trans gA)) hsW (by omega)) ?_;rintro _ rfl;refine⟨_,t3,rfl,?_⟩;simp only[ai,ae,Ze];refine .mk ⟨t3,?_,((bB.trans bd).trans cn).trans gA⟩;simp only[decide_true,cI];rw[hR]
end Go.Gv.F
namespace Go.Gv.F
open Go.Gv
def nD:cT:=⟨16,2,3,[⟨[97],[⟨0,2,5,6⟩]⟩],[2],[]⟩
def SY (x:cT):Bool:=match x with
 |⟨b,s,g,[⟨nm,[⟨a1,a2,a3,a4⟩]⟩],gs,fr⟩=>decide (b=16)&&(decide (s=2)&&(decide (g=3)&&(decide (nm=[97])&&(decide (a1=0)&&(decide (a2=2)&&(decide (a3=5)&&(decide (a4=6)&&(decide (gs=[2])&&decide (fr=[])))))))))
 |_=>false
theorem ZBu {x:cT} (h:SY x=true):x=nD:=by
 unfold SY at h;split at h
 ·simp only[aH,bc]at h
  obtain⟨h1,h2,h3,h4,h5,h6,h7,h8,h9,Bm⟩:=h;subst h1 h2 h3 h4 h5 h6 h7 h8 h9 Bm;rfl
 ·cases h
theorem ZAV:jK nD where
 yD:=by decide
 cu:=by decide
 Dt:=by decide
 right:=fun h hh=>by
  rw[bK.1 hh];refine⟨by decide+kernel,fun i a b h1 h2=>?_⟩;cases i with
  |zero=>cases h2
  |succ i=>simp at h1
 order:=fun i a b h1 h2=>by
  cases i with
  |zero=>cases h2
  |succ i=>simp[nD]at h1
 nodup:=by decide
 range:=by decide
 gen:=fun e he=>by
  have:e=⟨0,2,5,6⟩:=by simpa [Zo,nD]using he
  subst this;decide
 low:=fun k hk=>nomatch hk
 gens:=by decide
 rest:=fun i hi hn=>by
  have:i=0:=by
   have:nD.gens.length=1:=rfl;omega
  subst this;exact absurd (by decide) hn
def Zya:Bool:=match tc nD 1 0 with
 |none=>false
 |some (B,s)=>match lP (oW B s)with
  |some (some v)=>SY (vN s v)&&(JO v.W==8&&(rY B s v.W&&(decide (B.length=1024)&&decide (s.az.length=1))))
  |_=>false
theorem Zwe:Zya=true:=by decide+kernel
end Go.Gv.F
namespace Go.Gv.F
open Go.Gv
theorem ZkD {Bd:Za} (h:Ny Bd) (n:Nat) (st:St):
  Ok (fun o=>∃p1 p2 s',o=(.val [.agg (dA nD 2 p1 1 p2 0 none)],s')/\ar st s'/\v8 s' nD p1 p2 none) (run Bd (n+1) 188 [] st):=by
 rw[Zf,h.eq];unfold G5;simp only[ae];rw[ni,Zw,Zw,Zw,ZE];have l1: ∀c,(st++[some (c:bq)]).length=st.length+1:=fun c=>by simp
 have l2: ∀c d,((st++[some (c:bq)])++[some (d:bq)]).length=st.length+2:=fun c d=>by simp
 simp only[l1,l2];obtain⟨S,hS⟩: ∃S,((st++[some (⟨false,[.int .i64 0,.int .i64 2,.int .i64 5,.int .i64 6]⟩:bq)])++[some (⟨false,[.str (bs [97]),.slice 4 (some (st.length,0)) 1]⟩:bq)])++[some (⟨false,[.int .i64 2]⟩:bq)]=S:=⟨_,rfl⟩;have hp:ar st S:=by rw[<-hS];exact((ar.new _ _).trans (ar.new _ _)).trans (ar.new _ _)
 have h0:aY st S (some (st.length,0)) [.int .i64 0,.int .i64 2,.int .i64 5,.int .i64 6]:=⟨hp,.inr ⟨_,rfl,ay _,by rw[<-hS];simp⟩⟩;have h1:aY st S (some (st.length+1,0)) [.str (bs [97]),.slice 4 (some (st.length,0)) 1]:=⟨hp,.inr ⟨_,rfl,by omega,by rw[<-hS];simp⟩⟩;have h2:aY st S (some (st.length+2,0)) [.int .i64 2]:=⟨hp,.inr ⟨_,rfl,by omega,by rw[<-hS];simp⟩⟩;rw[hS];refine .mk ⟨some (st.length+1,0),some (st.length+2,0),_,rfl,ZH hp,⟨⟨_,h1.fz,4,some (st.length,0),[],.inl rfl,rfl,h0.fz,rfl⟩,h2.fz,?_⟩⟩;exact Fz.nil _
theorem Zx3:Cg nD:=⟨⟨by decide,by decide,by decide⟩,by decide,by decide,by decide⟩
theorem Zv5: ∃B s v,tc nD 1 0=some (B,s)/\lP (oW B s)=some (some v)/\vN s v=nD/\JO v.W=8/\rY B s v.W=true/\B.length=1024/\s.az.length=1:=by
 have h:=Zwe;unfold Zya at h;cases hb:tc nD 1 0 with
 |none=>rw[hb]at h;cases h
 |some q=>
  obtain⟨B,s⟩:=q;rw[hb]at h;simp only at h;cases hw:lP (oW B s)with
  |none=>rw[hw]at h;cases h
  |some w=>
   rw[hw]at h;cases w with
   |none=>cases h
   |some v=>
    simp only[aH,mu,bc]at h;exact⟨B,s,v,rfl,hw,ZBu h.1,h.2.1,h.2.2.1,h.2.2.2.1,h.2.2.2.2⟩
theorem Zkx {Bd:Za} (h:Nc Bd) (n:Nat) (hn:70000<=n) (st:St) (ht:ux st):Ok (fun o=>∃s',o=(.val [.bool true],s')/\ar st s') (run Bd n 169 [] st):=by
 obtain⟨n,rfl⟩: ∃m,n=m+2:=⟨n-2,by omega⟩;obtain⟨B,s,v,hB,hW,bB,DK,pP,Dw,df⟩:=Zv5;rw[Zf,h.eq];unfold GN;simp only[ae];refine Ok.call (ZkD h.q65 n st) ?_;rintro _ ⟨p1,p2,s1,rfl,aI,hF⟩;refine⟨_,s1,rfl,?_⟩;rw[ll];unfold dA;simp only[al,bh,Zm 1 0 none _ (.inr rfl),ae];refine Ok.call (Zkz h.TE (n+1) nD 2 1 1 p1 p2 none 1 0 s1 (.inl rfl) (.inl rfl) (.inl rfl) hF Zx3 (by omega) (by omega)) ?_;rintro _ ⟨s2,bd,hq⟩;rcases hq with⟨B',s',ib,q,_,hb,rfl,kK⟩|⟨bz,_⟩
 rotate_left
 ·rw[bz ZAV]at hB;cases hB
 rw[hB]at hb;cases hb;refine⟨_,s2,rfl,?_⟩;simp only[bh];rw[ll (dI s q) _];unfold dI;simp only[al,bh,ai,ae];have xq:([.int .i64 s.seq,.int .i64 s.blocks,.int .i64 s.cu,.int .i64 s.g,.int .i64 s.cE,.int .i64 s.used,.int .i64 s.free,.int .i64 s.dir,.slice 1 q s.az.length]:List DV)=dI s q:=rfl;simp only[xq];have yI:dp s2 (some (ib,0)) B:=⟨false,bj B,kK.bT,by omega,by rw[dE,pj]⟩;have La:=kK.own.sl;refine Ok.call (Ng h.ER (n+1) (some (ib,0)) B s q s2 yI La (by omega) (by omega) (by omega)) ?_;intro o ho;rw[hW]at ho;obtain⟨s3,z2,q2,z3,q3,z4,q4,i,j,rfl,cn,gZ,jR,Ey,hR,cg,_,_⟩:=ho;refine⟨_,s3,rfl,?_⟩;rw[bB]at hR⊢;rw[ll];unfold dA;simp only[al,Zm 2 z2 q2 _ gZ,Zm 1 z3 q3 _ jR,Zm 1 z4 q4 _ Ey,fm,ae];rw[Zc,cond_true,show((0:Int)==0)=true from rfl];simp only[ai,ae];rw[Zc,cond_true,show(!(some (i,0):Option (Nat×Nat)).isNone)=true from rfl];simp only[ai,ae];rw[Zc,cond_true];refine Ok.call (Zs7 h.q28 (n+1) s3 cg (by omega)) ?_;rintro _ rfl;refine⟨_,s3,rfl,?_⟩;simp only[al,ai,ae];rw[DK,show((8:Int)==8)=true from rfl,Zc,cond_true];refine Ok.fW (ZkD h.q65 n s3) ?_;rintro _ ⟨p1',p2',s4,rfl,gA,hF'⟩;refine⟨_,s4,rfl,?_⟩;rw[ll];unfold dA;simp only[al,bh,Zm 1 0 none _ (.inr rfl),ae];refine Ok.call (Zup h.aab (n+1) nD nD 2 1 1 q2 q3 q4 2 1 1 p1' p2' none s4 (.inl rfl) (.inl rfl) (.inl rfl) (.inl rfl) (.inl rfl) (.inl rfl) (hR.pre gA) hF'.str Zx3 (by omega)) ?_;rintro _ ⟨b,rfl,hb⟩;refine⟨_,s4,rfl,?_⟩;have:b=true:=hb.2 rfl;subst this;simp only[ai,ae];rw[Zc,cond_true];have hpp:=((aI.trans bd).trans cn).trans gA;refine Ok.call (ZjU h.TA (n+1) (some (ib,0)) B s q (some (s.blocks.toNat,v.W)) (some (i,0)) s4 (ht.mono hpp) (yI.mono (cn.trans gA)) (La.mono (cn.trans gA)) ⟨false,i,j,rfl,cg.pre gA⟩ (by omega) (by omega) (by omega)) ?_;rintro _ ⟨s5,rfl,ik⟩;refine⟨_,s5,rfl,?_⟩;have qV:rR B s (some (s.blocks.toNat,v.W))=true:=by
  unfold rR;rw[hW];simp only[decide_true,cI];exact pP
 rw[qV];simp only[ai,ae,Ze];exact .mk ⟨s5,rfl,hpp.trans ik⟩
end Go.Gv.F
